/- Lemmas 10. -/
import Derived.Test.YteaiieomnhbmgaaGreatDoorFA09
import Derived.Maps.RangeRun
namespace Go.Eng
variable {ρ:Operand->Value}{es:List (List AV)}{hi:Option Operand}{vx:Value}{K:HK}{a:Option Addr}{cx:Cx}{x:AV}{T:Ha}
section
variable {P:Program}{w0:World}{g0:Gh}{h0 h:Nat->HO}{g:Gh}{w:World}(hI:D3 w0 g0 h0 h g w)
include hI
theorem Pq{d sz n:Nat}(hd:h d=.free)(hl:∀c∈es,c.length=sz)(hn:es.length=n)(hr:BU g w FB (.slice .none es) (.slice a n n)) :
  ∃g',D3 w0 g0 h0 (A3 h d (.tok sz n)) g' w/\Le h g w (A3 h d (.tok sz n)) g' w/\BU g' w (AR (A3 h d (.tok sz n))) (.slice (.id d sz) es) (.slice a n n):=by
 obtain⟨k1,k2⟩:=hI.upd d (.tok sz n) (.slice a n n) n true none g.S w none ⟨rfl,rfl,rfl,Am _⟩ (fun _ _ _=>rfl) (fun b e=>by cases e) (fun _ _ h=>h) (fun _ _ h=>.inl h) (fun b o e=>by cases e) (fun b _ e=>by cases e) B0
  (fun hu=>absurd hd hu) (fun _ _=>by
   obtain⟨u1,u2,u3,u4⟩:=BK g d (.slice a n n) n true none g.S;exact⟨u3,u2,a,n,u1,.inl ⟨rfl,u4⟩⟩)
 exact⟨_,k1,k2,.tok _ d sz es _ (((hr.up (AR h)).le k2)) hl (by unfold AR;rw[Bi];simp) (by simp[Gh.upd]) (by simp[Gh.upd,hn]) (fun _=>by simp[Gh.upd])⟩
theorem du{d:Option Nat}(hx:BU g w (AR h) x vx)(hk:PT cx d h x K):∃g' av h',K av h'/\D3 w0 g0 h0 h' g' w/\Le h g w h' g' w/\BU g' w (AR h') av vx:=by
 have plain:K x h->∃g' av h',K av h'/\D3 w0 g0 h0 h' g' w/\Le h g w h' g' w/\BU g' w (AR h') av vx:=fun hk=>⟨g,x,h,hk,hI,.refl _ _ _,hx⟩;unfold PT at hk;split at hk
 .exact plain hk
 .rename_i d;split at hk
  .rename_i sz _;split at hk
   .refine⟨g,unT x,h,hk,hI,.refl _ _ _,?_⟩;cases x with
    |slice tk es=>exact(BU.slice_none hx).up _
    |_=>exact hx
   .split at hk
    .split at hk
     .rename_i hd;obtain rfl:=hx.v_eq;obtain⟨g',k1,k2,k3⟩:=Pq hI (sz:=sz) (es:=[]) (a:=none) hd B0 rfl (.snil _ _ _);exact⟨g',_,_,hk,k1,k2,k3⟩
     .exact hk.elim
    .exact plain hk
  .split at hk
   .rename_i sz _;split at hk
    .split at hk
     .rename_i hd;obtain rfl:=hx.v_eq
      obtain⟨k1,k2⟩:=hI.upd d (.arr sz []) (.slice none 0 0) 0 true none g.S w none ⟨rfl,rfl,rfl,Am _⟩ (fun _ _ _=>rfl) (fun b e=>by cases e) (fun _ _ h=>h) (fun _ _ h=>.inl h) (fun b o e=>by cases e) (fun b _ e=>by cases e) B0
       (fun hu=>absurd hd hu) (fun _ _=>by
        obtain⟨u1,u2,u3,u4⟩:=BK g d (.slice none 0 0) 0 true none g.S;exact⟨u3,u2,by simp,.inl ⟨rfl,u1,u4⟩⟩)
      exact⟨_,_,_,hk,k1,k2,.msl _ d 0 none 0 (by unfold AR;rw[Bi];simp) (by simp[Gh.upd]) (AB _) (.inl rfl) (fun _=>by simp[Gh.upd])⟩
     .exact hk.elim
    .exact plain hk
   .exact plain hk
theorem bL{mku:List Nat}{d:Option Nat}{ty:Nat}(hk:LZ T mku d h ty K):OT P w0 g0 h0 h g w (Instr.makeMap ty none) K:=by
 unfold LZ at hk;split at hk
 .exact hk.elim
 .rename_i d;split at hk
  .rename_i hd;split at hk
   .split at hk
    .rename_i sh _;split at hk
     .obtain⟨k1,k2⟩:=hI.newOwn hd (.mapU sh []) (.map #[] 0) (.map (some w.heap.size)) 0 false w ⟨rfl,rfl,rfl,rfl⟩ B0 (fun hg IY=>by
       obtain⟨u1,u2,u3,u4⟩:=BK g d (.map (some w.heap.size)) 0 false (some w.heap.size) g.S;exact⟨u3,w.heap.size,#[],0,u4,u1,G0 w _ rfl,⟨rfl,by simp,by simp,by simp,by simp,by simp⟩,by simp,fun o ho=>by have:=hI.slt _ _ ho;omega⟩)
      refine⟨_,_,_,_,_,?_,hk,k1,k2,.mref _ d w.heap.size (by unfold AR;rw[Bi];simp) ?_ ?_⟩
      .simp[Instr.makeMap]
      .simp[Gh.upd]
      .simp[Gh.upd]
     .obtain⟨k1,k2⟩:=hI.newOwn hd (.map sh []) (.map #[] 0) (.map (some w.heap.size)) 0 false w ⟨rfl,rfl,rfl,rfl⟩ B0 (fun hg IY=>by
       obtain⟨u1,u2,u3,u4⟩:=BK g d (.map (some w.heap.size)) 0 false (some w.heap.size) g.S;exact⟨u3,w.heap.size,#[],0,u4,u1,G0 w _ rfl,⟨rfl,by simp,by simp,by simp,by simp,by simp⟩,by simp,fun o ho=>by have:=hI.slt _ _ ho;omega⟩)
      refine⟨_,_,_,_,_,?_,hk,k1,k2,.mref _ d w.heap.size (by unfold AR;rw[Bi];simp) ?_ ?_⟩
      .simp[Instr.makeMap]
      .simp[Gh.upd]
      .simp[Gh.upd]
    .exact hk.elim
   .exact hk.elim
  .exact hk.elim
omit hI in
theorem BU.sub{sz l m:Nat}{x:Value}{n cap:Nat}(hr:BU g w FB (.slice .none es) x)(hx:x=.slice a n cap)(hl:∀c∈es,c.length=sz)(h1:l<=m)(h2:m<=es.length)(c' : Nat)(hc:m-l<=c')(a' : Option Addr)(ha:a'=a.map (·.add (l*sz))\/(m=l/\a'=a)):BU g w FB (.slice .none ((es.take m).drop l)) (.slice a' (m-l) c'):=by
 subst hx;have CH:((es.take m).drop l).length=m-l:=by rw[Di,Ax];omega
 by_cases h0:m-l=0
 .have:(es.take m).drop l=[]:=AQ ch
  rw[this,h0];exact .snil _ _ _
 .cases hr with
  |snil=>simp at h2;omega
  |slice _ _ b off Hb cap val u5 RJ DV EA=>
   have hz:Hb=sz:=by
    have:(0:Nat)<es.length:=by omega
    have h3:=RJ 0 es[0] (AD this);rw[<-h3];exact hl _ (Ao this)
   subst hz;have ha' : a'=some ⟨b,off+l*Hb,none⟩:=by
    rcases ha with h|⟨h,_⟩
    .rw[h];simp[Addr.add_lit]
    .omega
   subst ha';rw[<-CH];have FI:∀(i:Nat) (cs:List AV),((es.take m).drop l)[i]?=some cs->es[l+i]?=some cs:=fun i cs h=>by
    rw[DX]at h
    by_cases hi:l+i<m
    .rwa [BZ hi]at h
    .rw[A8 (by rw[Ax];omega)]at h;cases h
   refine .slice _ _ b (off+l*Hb) Hb c' (fun i j=>val (l+i) j) (by rw[CH];exact hc) (fun i cs h=>RJ _ _ (FI i cs h)) (fun i cs j av h1 h2=>?_) (fun i cs j av h1 h2=>EA _ _ _ _ (FI i cs h1) h2)
   have:=DV _ _ _ _ (FI i cs h1) h2
   rwa [show off+(l+i)*Hb+j=off+l*Hb+i*Hb+j by rw[Fl];omega]at this
omit hI in
theorem L5{t:Nat->AV}(ht:∀x:Operand,BU g w (AR h) (ev t x) (ρ x)){o:Option Operand}{i:Option Int}(hk:Cs t o=some i):o.map ρ=i.map fun n=>.int .i64 n:=by
 cases o with
 |none=>cases hk;rfl
 |some x=>
  unfold Cs at hk;dsimp only at hk;split at hk
  .rename_i n e;cases hk
   have:=ht x
   rw[e]at this;simp[this.v_eq]
  .cases hk
omit hI in
theorem VU(b:Bool)(len cap:Nat)(lo hi mx:Option Int)(na:mx=none\/hi≠none)(h0:0<=lo.getD 0)(h1:lo.getD 0<=hi.getD len)(h2:hi.getD len<=mx.getD cap)(h3:mx.getD cap<=cap) :
  (Instr.sliceBounds b len cap (lo.map fun n=>.int .i64 n) (hi.map fun n=>.int .i64 n) (mx.map fun n=>.int .i64 n)).run P w=.ok ((lo.getD 0).toNat,(hi.getD len).toNat,(mx.getD cap).toNat) w:=by
 have e1:∀n:Int,0<=n->(n.toNat:Int)=n:=fun n hn=>Int.toNat_of_nonneg hn;cases mx with
 |none=>
  cases hi with
  |none=>
   cases lo with
   |none=>simp[Instr.sliceBounds]
   |some l=>
    simp only[CO,Em]at h0 h1 h2;simp[Instr.sliceBounds,run_sliceBound,h0,h1]
  |some hh=>
   simp only[CO,Em]at h1 h2;have zd:0<=hh:=by omega
   cases lo with
   |none=>simp[Instr.sliceBounds,run_sliceBound,zd,h2]
   |some l=>
    simp only[CO]at h0 h1;simp[Instr.sliceBounds,run_sliceBound,h0,h1,h2,zd,e1]
 |some m=>
  cases hi with
  |none=>simp at na
  |some hh=>
   simp only[CO]at h1 h2 h3;have zd:0<=hh:=by omega
   have hm0:0<=m:=by omega
   cases lo with
   |none=>simp[Instr.sliceBounds,run_sliceBound,h2,h3,zd,hm0,e1]
   |some l=>
    simp only[CO]at h0 h1;simp[Instr.sliceBounds,run_sliceBound,h0,h1,h2,h3,zd,hm0,e1]
omit hI in
theorem Fg(hT:CM P T){ty e k:Nat}(ht:(T ty).d=.slice e)(hk:(T e).size=k+1)(a:Option Addr)(len cap:Nat)(lo hi mx:Option Int)(na:mx=none\/hi≠none)(h0:0<=lo.getD 0)(h1:lo.getD 0<=hi.getD len)(h2:hi.getD len<=mx.getD cap)(h3:mx.getD cap<=cap) :
  (Instr.sliceAt ty (.slice a len cap) (lo.map fun n=>.int .i64 n) (hi.map fun n=>.int .i64 n) (mx.map fun n=>.int .i64 n)).run P w =
   .ok (.slice (if(mx.getD cap).toNat=(lo.getD 0).toNat then a else a.map (·.add ((lo.getD 0).toNat*(T e).size))) ((hi.getD len).toNat-(lo.getD 0).toNat) ((mx.getD cap).toNat-(lo.getD 0).toNat)) w:=by
 have hu:=hT.slice ht;have hb:=VU (P:=P) (w:=w) true len cap lo hi mx na h0 h1 h2 h3;simp only[Instr.sliceAt,Sem.run_bind,run_underlying hu,Result.andThen_ok,Instr.slice,hb,hT.size1 w hk,Sem.run_pure];rw[hk]
theorem D3.moveO(r r2:Nat)(DJ:r2≠r)(hf:h r2=.free)(hl:(h r).live){ob:Option Nat}(ho:∀c,ob=some c->g.own r=some c)(o' : HO)(x:Value)(n:Nat)(t:Bool)(hn:o'≠.free)
  (KD:EO g w (g.upd r2 x n t ob g.S) w->Ez (g.upd r2 x n t ob g.S) w (AR (A3 (A3 h r .dead) r2 o')) r2 o') :
  D3 w0 g0 h0 (A3 (A3 h r .dead) r2 o') (g.upd r2 x n t ob g.S) w/\Le h g w (A3 (A3 h r .dead) r2 o') (g.upd r2 x n t ob g.S) w:=by
 have lm:Lp g (g.upd r2 x n t ob g.S) (AR h):=by
  intro i hi;have e:i≠r2:=fun e=>hi (by rw[e];exact hf);refine⟨by simp[Gh.upd,e],by simp[Gh.upd,e],fun _=>by simp[Gh.upd,e],fun _=>by simp[Gh.upd,e]⟩
 have hK:EO g w (g.upd r2 x n t ob g.S) w:=fun b o hb=>⟨hb,rfl,fun _ _ h=>h⟩;have LF:∀i,AR h i->AR (A3 (A3 h r .dead) r2 o') i:=fun i hi=>Ea hn i (Ea B0 i hi);have key:∀i,i≠r2->(A3 (A3 h r .dead) r2 o' i).live->i≠r/\(h i).live:=fun i h2 hl=>by
  rw[Cg _ _ _ _ h2]at hl
  by_cases e:i=r
  .subst e;rw[Bi]at hl;exact hl.elim
  .rw[Cg _ _ _ _ e]at hl;exact⟨e,hl⟩
 have own:∀i,i≠r2->(g.upd r2 x n t ob g.S).own i=g.own i:=fun i e=>by simp[Gh.upd,e]
 have VI:(g.upd r2 x n t ob g.S).own r2=ob:=by simp[Gh.upd]
 refine⟨⟨hI.os,hI.tape,hI.output,hI.size,hI.frame,hI.slt,fun i=>?_,fun i j c hi hj ei ej=>?_,fun i c hi ei=>?_,hI.sg,hI.glob.keep hK⟩,lm,LF,hK⟩
 .by_cases e:i=r2
  .subst e;rw[Bi];exact KD hK
  .rw[Cg _ _ _ _ e]
   by_cases e1:i=r
   .subst e1;rw[Bi];trivial
   .rw[Cg _ _ _ _ e1];exact(hI.objs i).same hK LF lm (by simp[Gh.upd,e]) (by simp[Gh.upd,e]) (by simp[Gh.upd,e]) (by simp[Gh.upd,e]) (fun b hl hb=>⟨rfl,fun k hk=>hk⟩)
 .by_cases e1:i=r2<;>by_cases e2:j=r2
  .exact e1.trans e2.symm
  .subst e1;rw[VI]at ei;rw[own j e2]at ej;obtain⟨a1,a2⟩:=key j e2 hj;exact absurd (hI.inj j r _ a2 hl ej (ho _ ei)) a1
  .subst e2;rw[VI]at ej;rw[own i e1]at ei;obtain⟨a1,a2⟩:=key i e1 hi;exact absurd (hI.inj i r _ a2 hl ei (ho _ ej)) a1
  .rw[own i e1]at ei;rw[own j e2]at ej;exact hI.inj i j c (key i e1 hi).2 (key j e2 hj).2 ei ej
 .by_cases e1:i=r2
  .subst e1;rw[VI]at ei;exact hI.loc r _ hl (ho _ ei)
  .rw[own i e1]at ei;exact hI.loc i c (key i e1 hi).2 ei
theorem cB(hT:CM P cx.T){d:Option Nat}{ty:Nat}{t:Nat->AV}(ht:∀x:Operand,BU g w (AR h) (ev t x) (ρ x)){lo mx:Option Operand}(hx:BU g w (AR h) x vx)(hk:VQ cx d h ty x (Cs t lo) hi mx K):OT P w0 g0 h0 h g w (Instr.sliceAt ty vx (lo.map ρ) (hi.map ρ) (mx.map ρ)) K:=by
 unfold VQ at hk;split at hk
 .rename_i d IJ e1;rw[L5 ht e1];split at hk
  .rename_i e hs;split at hk
   .exact hk.elim
   .rename_i k ES;split at hk
    .rename_i r sz es;split at hk
     .rename_i Hb n e0;split at hk
      .rename_i hd;split at hk
       .rename_i q1 q2;obtain rfl:=AL q1;have q2:=AL q2;obtain⟨⟨rfl,h1,h2⟩,hk⟩:=hk;have hl:(h r).live:=by rw[e0];trivial
        have DJ:KZ cx d≠r:=fun e=>by rw[e,e0]at hd;cases hd
        have ho:=hI.objs r;rw[e0]at ho;obtain⟨t1,l1,a,cap,a1,a3⟩:=ho;have hr:=hx.slice_none;cases hx with
        |tok _ _ _ _ _ xI ZT hu ht' hn M6=>
         have hv:=M6 l1.symm;rw[a1]at hv;subst hv;have gA:es.length<=cap:=by rcases a3 with ⟨e1,_⟩|⟨e1,_⟩<;>omega
         have CZ:=Fg (P:=P) (w:=w) hT hs ES a es.length cap (some IJ) none none (.inl rfl) h1 h2 (by simp only[Em];omega) B0;simp only[CO,Em,Cb]at CZ;have CH:(es.drop IJ.toNat).length=es.length-IJ.toNat:=Di;have nq:=BU.sub (c':=cap-IJ.toNat) hr rfl ZT (l:=IJ.toNat) (m:=es.length) ch (Am _) ch (if cap=IJ.toNat then a else a.map (·.add (IJ.toNat*(cx.T e).size))) (by
          split
          .exact .inr ⟨by omega,rfl⟩
          .rw[q2];exact .inl rfl)
         rw[Ce]at nq
         have fin:∀ob:Option Nat,(∀c,ob=some c->g.own r=some c)->(es.length-IJ.toNat=cap-IJ.toNat/\ob=none\/es.length-IJ.toNat<=cap-IJ.toNat/\∃b E vs off,(if cap=IJ.toNat then a else a.map (·.add (IJ.toNat*(cx.T e).size)))=some ⟨b,off,none⟩/\ob=some b/\SB w b vs E/\vs.size=off+(cap-IJ.toNat)*Hb/\∀o,g.S b o->o<off+(es.length-IJ.toNat)*Hb) ->
           OT P w0 g0 h0 h g w (Instr.sliceAt ty (.slice a es.length cap) ((some IJ).map fun n=>.int .i64 n) ((none:Option Operand).map ρ) ((none:Option Operand).map ρ)) K:=fun ob ho zr=>by
          obtain⟨k1,k2⟩:=hI.moveO r (KZ cx d) DJ hd hl ho (.tok Hb (es.drop IJ.toNat).length) (.slice (if cap=IJ.toNat then a else a.map (·.add (IJ.toNat*(cx.T e).size))) (es.length-IJ.toNat) (cap-IJ.toNat)) (es.length-IJ.toNat) true B0 (fun IY=>by
           obtain⟨u1,u2,u3,u4⟩:=BK g (KZ cx d) (.slice (if cap=IJ.toNat then a else a.map (·.add (IJ.toNat*(cx.T e).size))) (es.length-IJ.toNat) (cap-IJ.toNat)) (es.length-IJ.toNat) true ob g.S;refine⟨u3,u2.trans CH.symm,_,_,by rw[CH];exact u1,?_⟩;rw[CH,u4];exact zr)
          exact⟨_,w,_,_,_,CZ,hk,k1,k2,.tok _ _ _ _ _ (((nq.mono k2.keeps (fun _ h=>h) (fun _ h=>h.elim))).up _) (fun c hc=>ZT c (Jo hc)) (by unfold AR;rw[Bi];simp) (by simp[Gh.upd]) (by simp[Gh.upd]) (fun _=>by simp[Gh.upd])⟩
         rcases a3 with ⟨e1,e2⟩|⟨e1,b,E,vs,off,rfl,e3,e4,e5,e6⟩
         .exact fin none (fun c h=>by cases h) (.inl ⟨by omega,rfl⟩)
         .by_cases hc:cap=IJ.toNat
          .exact fin none (fun c h=>by cases h) (.inl ⟨by omega,rfl⟩)
          .refine fin (some b) (fun c h=>by cases h;exact e3) (.inr ⟨by omega,b,E,vs,off+IJ.toNat*Hb,?_,rfl,e4,?_,fun o ho=>?_⟩)
           .rw[Aj hc];simp[Addr.add_lit,q2]
           .rw[e5,Nat.sub_mul]
            have:=Bf Hb (show IJ.toNat<=cap by omega)
            omega
           .have:=e6 o ho
            rw[Nat.sub_mul]
            have:=Bf Hb (show IJ.toNat<=es.length by omega)
            omega
       .exact hk.elim
      .exact hk.elim
     .exact hk.elim
    .exact hk.elim
  .exact hk.elim
 .exact hk.elim
omit hI in
theorem Pd{sz:Nat}:∀{es:List (List AV)},(∀cs∈es,cs.length=sz)->∀k,(es.take k).flatten=es.flatten.take (k*sz)
 | [],_,k=>by simp
 |c::es,hl,0=>by simp
 |c::es,hl,k+1=>by
  have h1:=hl c (Ab ..);have h2:c.length<=k*sz+sz:=by omega
  rw[J5,BE,BE,Pd (fun x hx=>hl x (Ah _ hx)) k,List.take_append,h1,Ec,
   Av h2,show k*sz+sz-sz=k*sz by omega]
omit hI in
theorem CW.takeE{U:Nat->Prop}{sz k:Nat}{vs:List Value}(hl:∀cs∈es,cs.length=sz)(hk:k<=es.length)(h:CW g w U es.flatten (vs.take (es.length*sz))):CW g w U (es.take k).flatten (vs.take (k*sz)):=by
 have e:vs.take (k*sz)=(vs.take (es.length*sz)).take (k*sz):=by
  rw[PM,Xb (Bf _ hk)]
 rw[Pd hl,e];refine⟨by rw[Ax (l:=vs.take (es.length*sz)),h.1,Ax],fun x hx=>h.2.1 x (Df hx),fun i av x q1 q2=>?_⟩;have hi:i<k*sz:=by
  rcases CR i (k*sz)with q|q
  .exact q
  .rw[KV,Aj ch]at q1;cases q1
 rw[KV,Ap hi]at q1 q2;exact h.2.2 i av x q1 q2
theorem ib(hT:CM P cx.T){d:Option Nat}{ty:Nat}{t:Nat->AV}(ht:∀x:Operand,BU g w (AR h) (ev t x) (ρ x))(hx:BU g w (AR h) x vx)(hk:oJ cx d h ty x (Cs t hi) K):OT P w0 g0 h0 h g w (Instr.sliceAt ty vx none (hi.map ρ) none) K:=by
 unfold oJ at hk;split at hk
 .rename_i d Nb e1;rw[L5 ht e1];split at hk
  .rename_i e hs;split at hk
   .exact hk.elim
   .rename_i k ES;split at hk
    .rename_i r n;split at hk
     .rename_i sz es e0;split at hk
      .rename_i hd;split at hk
       .rename_i q1 q3;have q1:=AL q1;obtain⟨⟨rfl,h1,h2⟩,hk⟩:=hk;have hl:(h r).live:=by rw[e0];trivial
        have DJ:KZ cx d≠r:=fun e=>by rw[e,e0]at hd;cases hd
        have ho:=hI.objs r;rw[e0]at ho;obtain⟨t1,l1,al,a2⟩:=ho;have CH:(es.take Nb.toNat).length=Nb.toNat:=by rw[Ax];omega
        cases hx with
        |msl _ _ _ a cap hu ht' bw ha M6=>
         have hv:=M6 l1.symm;have Mx:es.length<=cap:=by
          rcases a2 with ⟨b1,_,_⟩|⟨b,Ml,E,vs,b1,_,b3,_⟩
          .subst b1;exact AB _
          .rw[b1]at hv;cases hv;exact b3
         have CZ:=Fg (P:=P) (w:=w) hT hs ES a es.length cap none (some Nb) none (.inl rfl) B0 (by simp only[Em,CO];exact h1) (by simp only[CO,Em];omega) B0;have MY:(if cap-(0:Nat)=0 then a else a.map (·.add (0*(cx.T e).size)))=a:=by
          rw[JL];split
          .rfl
          .rcases ha with e3|⟨b,rfl⟩
           .cases a with
            |none=>rfl
            |some a=>simp[Addr.add]
           .rfl
         simp only[CO,Em,Cb,Int.toNat_zero,Nat.sub_zero]at CZ MY;have key:∃a',(Instr.sliceAt ty (.slice a es.length cap) ((none:Option Int).map fun n=>.int .i64 n) ((some Nb).map fun n=>.int .i64 n) ((none:Option Int).map fun n=>.int .i64 n)).run P w=.ok (.slice a' Nb.toNat cap) w/\(a'=a):=⟨_,CZ,by first|exact MY|(split<;>first|rfl|exact MY|(simp_all))⟩
         obtain⟨a',CZ,rfl⟩:=key;have hval:BU (g.upd (KZ cx d) (.slice a' Nb.toNat cap) Nb.toNat true (g.own r) g.S) w (AR (A3 (A3 h r .dead) (KZ cx d) (.arr sz (es.take Nb.toNat)))) (.msl (KZ cx d) Nb.toNat) (.slice a' Nb.toNat cap):=
          .msl _ _ _ _ _ (by unfold AR;rw[Bi];simp) (by simp[Gh.upd]) (by simp[Gh.upd]) (ha.elim (fun e=>.inl ch) .inr) (fun _=>by simp[Gh.upd])
         obtain⟨k1,k2⟩:=hI.moveO r (KZ cx d) DJ hd hl (ob:=g.own r) (fun c h=>h) (.arr sz (es.take Nb.toNat)) (.slice a' Nb.toNat cap) Nb.toNat true B0 (fun IY=>by
          obtain⟨u1,u2,u3,u4⟩:=BK g (KZ cx d) (.slice a' Nb.toNat cap) Nb.toNat true (g.own r) g.S;refine⟨u3,u2.trans CH.symm,fun c hc=>al c (Df hc),?_⟩;rcases a2 with ⟨b1,b2,b3⟩|⟨b,Ml,E,vs,b1,b2,b3,b4,b5,b6,b7⟩
          .subst b1;rw[b2]at hv;cases hv;have h0:Nb.toNat=0:=by simp only[Au]at h2;omega
           exact .inl ⟨List.take_nil,by rw[u1,h0],u4.trans b3⟩
          .rw[b1]at hv;cases hv;refine .inr ⟨b,cap,E,vs,by rw[CH];exact u1,u4.trans b2,by rw[CH];omega,b4,b5,?_,b7⟩;rw[CH];exact(CW.takeE al ch b6).mono IY (fun _ h=>h) (fun _ h=>h.elim))
         exact⟨_,w,_,_,_,CZ,hk,k1,k2,hval⟩
       .exact hk.elim
      .exact hk.elim
     .exact hk.elim
    .exact hk.elim
  .exact hk.elim
 .exact hk.elim
theorem Ye(hT:CM P cx.T){d:Option Nat}{ty:Nat}{t:Nat->AV}(ht:∀x:Operand,BU g w (AR h) (ev t x) (ρ x)){lo mx:Option Operand}(hx:BU g w (AR h) x vx)(hk:G8 cx d h ty x (Cs t lo) (Cs t hi) (Cs t mx) K):OT P w0 g0 h0 h g w (Instr.sliceAt ty vx (lo.map ρ) (hi.map ρ) (mx.map ρ)) K:=by
 unfold G8 at hk;split at hk
 .rename_i IJ Nb tC e1 e2 e3;rw[L5 ht e1,L5 ht e2,L5 ht e3];split at hk
  .rename_i hs;split at hk
   .rename_i s;obtain⟨⟨h1,h2,h3⟩,hk⟩:=hk;obtain rfl:=hx.v_eq;have hb:=VU (P:=P) (w:=w) false s.size s.size IJ Nb none (.inl rfl) h1 h2 (by simpa using h3) B0;refine(BW.val (x:=.string (s.extract (IJ.getD 0).toNat (Nb.getD s.size).toNat)) ?_ hk).does hI;simp only[Instr.sliceAt,Sem.run_bind,run_underlying (hT.string hs),Result.andThen_ok,Instr.slice];simp only[Option.map_none,PN,Dr,Gz]at hb⊢;simp only[Sem.run_bind,hb,Result.andThen_ok,Sem.run_pure]
   .exact hk.elim
  .rename_i e hs;split at hk
   .exact hk.elim
   .rename_i k ES;split at hk
    .rename_i tk es;have hr:=hx.slice_none;obtain⟨a,cap,hv,Mx⟩:∃a cap,vx=.slice a es.length cap/\es.length<=cap:=by
      cases hr with
      |snil _ a cap=>exact⟨a,cap,rfl,AB _⟩
      |slice _ _ b off sz cap val hc=>exact⟨_,cap,rfl,hc⟩
     subst hv;split at hk
     .obtain⟨⟨h1,h2,h3⟩,hl,hk⟩:=hk;have CZ:=Fg (P:=P) (w:=w) hT hs ES a es.length cap IJ Nb none (.inl rfl) h1 h2 (by simp only[Em];omega) B0;refine BW.does hI ⟨_,_,CZ,hk,(BU.sub (c':=cap-(IJ.getD 0).toNat) hr rfl hl (l:=(IJ.getD 0).toNat) (m:=(Nb.getD es.length).toNat) ch ch (by simp;omega) _ ?_).up _⟩;split
      .rename_i e;simp only[Em,Cb]at e;exact .inr ⟨by omega,rfl⟩
      .exact .inl rfl
     .rename_i m;split at hk
      .rename_i d hh;split at hk
       .obtain⟨⟨h1,h2,rfl,h3⟩,hl,hk⟩:=hk;have CZ:=Fg (P:=P) (w:=w) hT hs ES a es.length cap IJ (some m) (some m) (.inr B0) h1 h2 B0 (by simp only[CO];omega);simp only[CO]at CZ;have CH:((es.take m.toNat).drop (IJ.getD 0).toNat).length=m.toNat-(IJ.getD 0).toNat:=by rw[Di,Ax];omega
        refine BW.does hI ⟨_,_,CZ,hk,.full _ _ _ _ ((BU.sub (c':=m.toNat-(IJ.getD 0).toNat) hr rfl hl (l:=(IJ.getD 0).toNat) (m:=m.toNat) ch ch ch _ ?_).up _) (fun c hc=>hl c (Df (Jo hc))) ⟨_,by rw[CH]⟩⟩;split
        .rename_i e;exact .inr ⟨e,rfl⟩
        .exact .inl rfl
       split at hk
       .rename_i hd;obtain⟨⟨h1,h2,rfl,h3⟩,hl,hk⟩:=hk;have CZ:=Fg (P:=P) (w:=w) hT hs ES a es.length cap IJ (some m) (some m) (.inr B0) h1 h2 B0 (by simp only[CO];omega);simp only[CO]at CZ
        obtain⟨g',k1,k2,k3⟩:=Pq hI (sz:=(cx.T e).size) (n:=m.toNat-(IJ.getD 0).toNat) hd (es:=(es.take m.toNat).drop (IJ.getD 0).toNat) (fun c hc=>hl c (Df (Jo hc))) (by rw[Di,Ax];omega)
         (BU.sub (c':=m.toNat-(IJ.getD 0).toNat) hr rfl hl (l:=(IJ.getD 0).toNat) (m:=m.toNat) ch ch ch (if m.toNat=(IJ.getD 0).toNat then a else a.map (·.add ((IJ.getD 0).toNat*(cx.T e).size))) (by
          split
          .rename_i e;exact .inr ⟨e,rfl⟩
          .exact .inl rfl))
        exact⟨_,w,g',_,_,CZ,hk,k1,k2,k3⟩
       .exact hk.elim
      .exact hk.elim
    .obtain⟨⟨h1,h2,h3⟩,h4,hk⟩:=hk;obtain rfl:=hx.v_eq;have CZ:=Fg (P:=P) (w:=w) hT hs ES none 0 0 IJ Nb tC h4 ch (by simp only[JI]at *;omega) (by simp only[JI]at *;omega) (by simp only[JI]at *;omega);refine BW.does hI (BW.val (x:=.slice none 0 0) ?_ hk);rw[CZ];simp only[h1,JI,h2,h3];simp
    .rename_i r n;split at hk
     .rename_i sz es e0;split at hk
      .rename_i SQ;obtain rfl:=AL SQ;obtain⟨⟨h1,h2,h3,h4,h5⟩,hk⟩:=hk;have ho:=hI.objs r;rw[e0]at ho;obtain⟨t1,l1,al,a3⟩:=ho;have hl:(h r).live:=by rw[e0];trivial
       have zp:tC=none\/Nb≠none:=h5.imp id (fun q=>q.2);cases hx with
       |msl _ _ _ a cap hu ht' hn ha M6=>
        have hv:=M6 (h1.trans l1.symm);subst h1;have na:∀c:Nat,es.length<=c->Nb.getD es.length<=tC.getD c/\tC.getD c<=c:=fun c hc=>by
         rcases h5 with h5|⟨h5,DJ⟩
         .rw[h5];simp only[Em];omega
         .obtain⟨m,hm⟩:=Option.ne_none_iff_exists'.1 DJ;rw[h5,hm];rw[hm]at h3 h4;simp only[CO]at h3 h4⊢;omega
        rcases a3 with ⟨rfl,q2,q3⟩|⟨b,Ml,E,vs,q1,q2,q3,q4,q5,q6,q7⟩
        .rw[q2]at hv;cases hv;have CZ:=Fg (P:=P) (w:=w) hT hs ES none 0 0 IJ Nb tC zp h2 h3 (na 0 B0).1 (na 0 B0).2
         obtain⟨k1,k2⟩:=hI.upd r .dead (g.ρ r) (g.ln r) (g.tk r) (g.own r) g.S w none ⟨rfl,rfl,rfl,Am _⟩ (fun _ _ _=>rfl) (fun b e=>by cases e) (fun _ _ h=>h) (fun _ _ h=>.inl h) (fun b o e=>by cases e) (fun b hh _=>by cases hh) B0
          (fun _=>⟨rfl,Am _,fun _=>rfl,fun _=>rfl⟩) (fun _ _=>trivial)
         refine⟨_,w,_,_,_,CZ,hk,k1,k2,?_⟩;have z1:((IJ.getD 0).toNat)=0:=by simp only[Au,JI]at h3 h4;omega
         have z2:((Nb.getD (([]:List (List AV)).length:Int)).toNat)=0:=by simp only[Au,JI]at h3 h4⊢;omega
         simp only[List.take_nil,List.drop_nil];have z3:((Nb.getD ((0:Nat):Int)).toNat)=0:=z2;rw[z1,z3];exact .snil _ _ _
        .rw[q1]at hv;cases hv;have CZ:=Fg (P:=P) (w:=w) hT hs ES (some ⟨b,0,none⟩) es.length cap IJ Nb tC zp h2 h3 (na _ q3).1 (na _ q3).2;have jD:=(hI.loc r b hl q2).1
         obtain⟨k1,k2⟩:=hI.upd r .dead (g.ρ r) (g.ln r) (g.tk r) (g.own r) (g.more b (es.length*(cx.T e).size)) w none ⟨rfl,rfl,rfl,Am _⟩ (fun _ _ _=>rfl) (fun b e=>by cases e) (fun _ _ h=>.inl h)
          (fun b' o hs=>hs.elim .inl (fun hs=>.inr ⟨by rw[hs.1];exact jD,.inr ⟨hl,by rw[hs.1];exact q2⟩⟩)) (fun b o e=>by cases e) (fun b hh _=>by cases hh) B0
          (fun _=>⟨rfl,Am _,fun _=>rfl,fun _=>rfl⟩) (fun _ _=>trivial)
         have EA:=BU.slice_row (g:=g.upd r (g.ρ r) (g.ln r) (g.tk r) (g.own r) (g.more b (es.length*(cx.T e).size))) (U:=FB) q4 al q3 (q6.mono k2.keeps (fun _ h=>h) (fun _ h=>h.elim)) (fun o ho=>.inr ⟨rfl,ho⟩);have AhX:=na _ q3;refine⟨_,w,_,_,_,CZ,hk,k1,k2,(BU.sub (c':=(tC.getD cap).toNat-(IJ.getD 0).toNat) EA rfl al (l:=(IJ.getD 0).toNat) (m:=(Nb.getD es.length).toNat) ch ch ch _ ?_).up _⟩;split
         .rename_i e;exact .inr ⟨by omega,rfl⟩
         .exact .inl rfl
      .exact hk.elim
     .exact hk.elim
    .exact hk.elim
  .exact hk.elim
 .exact hk.elim
theorem WS(hT:CM P cx.T){d:Option Nat}{ty:Nat}{n c:AV}{vn vc:Value}(hn:BU g w (AR h) n vn)(hc:BU g w (AR h) c vc)(hk:KH cx d h ty n c K) :
  OT P w0 g0 h0 h g w (Instr.makeSlice ty vn vc) K:=by
 unfold KH at hk;split at hk
 .rename_i e n c hs;obtain rfl:=hn.v_eq;obtain rfl:=hc.v_eq;split at hk
  .rename_i QD;split at hk
   .rename_i Ol;have Ol:=AL Ol;split at hk
    .exact hk.elim
    .rename_i k ES;obtain⟨⟨h1,h2,h3,h4⟩,hk⟩:=hk;obtain⟨i,z,i1,i2,i3,i4,i5⟩:=IA hT ES;have vK:(cx.T e).zc≠[]:=fun e0=>by rw[e0]at Ol;rw[ES]at Ol;cases Ol
     have wn:IntKind.i64.wrap n=n:=Oh ⟨by omega,by omega⟩;have wc:IntKind.i64.wrap c=c:=Oh ⟨by omega,by omega⟩;have GJ:∀l:List AV,(∀a∈l,one a=true)->Hq l=true:=by
      intro l
      induction l with
      |nil=>intro _;rfl
      |cons a l ih=>intro h;simp[Hq,h a (List.mem_cons_self ..),ih (fun b hb=>h b (List.mem_cons_of_mem _ hb))]
     have vB:((Array.range (c.toNat*(cx.T e).size)).map fun k=>z.cells[k % z.cells.size]!).toList=(List.replicate c.toNat (cx.T e).zc).flatten:=by
      rw[IR c.toNat _ vK,Ol,i5];have e6:z.cells.size=(cx.T e).size:=by rw[<-Ol,i5];simp
      simp[e6,Array.getElem!_eq_getD]
     have hzs:(cx.T e).zc.length=(cx.T e).size:=Ol;have hlr:∀c'∈List.replicate c.toNat (cx.T e).zc,c'.length=(cx.T e).size:=fun c' hc=>by rw[Cy hc];exact Ol
     have Adw : ∀c'∈List.replicate n.toNat ((cx.T e).zc.map AV.v),c'.length=(cx.T e).size:=fun c' hc=>by rw[Cy hc,A7];exact Ol
     have Adx:∀c'∈List.replicate n.toNat (cx.T e).zc,c'.length=(cx.T e).size:=fun c' hc=>by rw[Cy hc];exact Ol
     obtain⟨g',av,h',q1,q2,q3,q4⟩:=Li hI hk (vs:=(Array.range (c.toNat*(cx.T e).size)).map fun k=>z.cells[k % z.cells.size]!) (cap:=c.toNat) e Adw (by rw[B3];omega) B0 (by
      rw[vB,B3];have e1:(List.replicate n.toNat ((cx.T e).zc.map AV.v)).flatten=(List.replicate n.toNat (cx.T e).zc).flatten.map AV.v:=by
       rw[Uf,List.map_replicate]
      have e2:(List.replicate c.toNat (cx.T e).zc).flatten.take (n.toNat*(cx.T e).size)=(List.replicate n.toNat (cx.T e).zc).flatten:=by
       obtain⟨m,hm⟩:∃m,c.toNat=n.toNat+m:=⟨c.toNat-n.toNat,by omega⟩;rw[hm,<-List.replicate_append_replicate,Cm,FZ (by rw[DC Adx,B3])]
      rw[e1,e2];refine CW.vals (GJ _ (fun a ha=>?_));obtain⟨x,hx,rfl⟩:=Ai.1 ha;obtain⟨l,hl,hx⟩:=D4.1 hx;rw[Cy hl]at hx;exact NS QD _ (Ai.2 ⟨x,hx,rfl⟩)) w ⟨rfl,rfl,rfl,rfl⟩
     rw[B3]at q4;refine⟨_,_,g',av,h',?_,q1,q2,q3,q4⟩;have hb0:¬((cx.T e).bytes*c>2 ^ 48):=by rw[Int.mul_comm];omega
     have mZ:((decide (c<0)||decide (((cx.T e).bytes:Int)*c>2 ^ 48))||decide (n<0)||decide (n>c))=false:=by
      simp only[Bool.or_eq_false_iff,HI];exact⟨⟨⟨by omega,hb0⟩,by omega⟩,by omega⟩
     simp only[Instr.makeSlice,Sem.run_bind,run_underlying (hT.slice hs),Result.andThen_ok,asInt,asIntOf,Sem.run_pure,typeInfo,run_program,i1,i4,wn,wc,mZ,Dr,Gz,run_askRoom,hT.size1 w ES]
     by_cases hz:c.toNat*(k+1)=0
     .have u6:c.toNat=0:=by
       rcases Nat.mul_eq_zero.1 hz with h|h
       .exact h
       .cases h
      rw[u6];simp only[JL,SV];simp only[show Array.range 0=#[]from rfl,Array.map_empty];simp[newRow]
     .simp only[Aj hz,Sem.run_bind,zeroValue,typeInfo,run_program,i1,i2,Result.andThen_ok,Sem.run_pure];rw[ES];simp[newRow]
   .exact hk.elim
  .exact hk.elim
 .exact hk.elim
end
end Go.Eng
namespace Go.Eng
open Go.ChangeMaps (setBlock)
variable {Ch:List (Value×AV)}{es:Array MapEntry}{sh:E8}{vx:Value}{α β:Type}{f:α->β}{l:List α}{ck:Nat}{w:World}{k x y:Value}{a:AV}{K:HK}{r:Nat}{o':Obj}{j:Nat}{v:AV}{T:Ha}
theorem WT{o:Obj}(h:w.heap[r]?=some o):(setBlock w r o').heap[r]?=some o':=by
 have:=(Bv.1 h).1
 simp[setBlock,this]
theorem VW{k:Nat}(h:k≠r):(setBlock w r o').heap[k]?=w.heap[k]?:=by
 simp[setBlock,Ne.symm h]
theorem OQ(w:World)(r:Nat)(o' : Obj):(setBlock w r o').heap.size=w.heap.size:=by simp[setBlock]
theorem QP(h:(l.map f).Nodup):l.Nodup:=by
 induction l with
 |nil=>exact FF
 |cons c l ih=>
  rw[AJ,Dk]at h;exact Dk.2 ⟨fun hc=>h.1 (Ai.2 ⟨c,hc,rfl⟩),ih h.2⟩
theorem XY(h:(l.map f).Nodup){i:Nat}{a b:α}(ha:l[i]?=some a)(hb:l[j]?=some b)(he:f a=f b):i=j:=by
 induction l generalizing i j with
 |nil=>simp at ha
 |cons c l ih=>
  rw[AJ,Dk]at h;cases i with
  |zero=>
   cases j with
   |zero=>rfl
   |succ j=>
    simp only[Bd,BB,HC]at ha hb;exact absurd (Ai.2 ⟨b,Az hb,by rw[<-he,ha]⟩) h.1
  |succ i=>
   cases j with
   |zero=>
    simp only[Bd,BB,HC]at ha hb;exact absurd (Ai.2 ⟨a,Az ha,by rw[he,hb]⟩) h.1
   |succ j=>exact Aa (·+1) (ih h.2 ha hb)
open Classical in
theorem N7{b:AV}(h:(k,b)∈Ch):E2 Ch k a=Ch.map fun p=>if p.1=k then(k,a)else p:=Ap ⟨b,h⟩
open Classical in
theorem Jc(h:∀b,(k,b)∉Ch):E2 Ch k a=Ch++[(k,a)]:=Aj (fun⟨b,e⟩=>h b e)
theorem XU(f:AV->AV)(h:H8 sh es ck Ch):H8 sh es ck (Ch.map fun p=>(p.1,f p.2)):=by
 obtain⟨h1,h2,h3,h4,h5,h6⟩:=h;refine⟨by simp[h1],fun i kv e q1 q2=>?_,fun kv Rs=>?_,?_,h5,h6⟩
 .rw[AG]at q1;obtain⟨p,q3,rfl⟩:=AX.1 q1;exact h2 i p e q3 q2
 .obtain⟨p,hp,rfl⟩:=Ai.1 Rs;exact h3 p hp
 .rw[Bq];exact h4
theorem QI(h:H8 sh es ck Ch)(hj:Ch[j]?=some (x,a)) :
  H8 sh (es.modify j fun e=>{ e with key:=x,val:=y }) ck (E2 Ch x v) /\
   ∀(i:Nat) (kv:Value×AV) (e:MapEntry),(E2 Ch x v)[i]?=some kv->(es.modify j fun e=>{ e with key:=x,val:=y })[i]?=some e ->
    (kv.2=v/\e.val=y)\/(Ch[i]?=some kv/\es[i]?=some e):=by
 classical
 rw[N7 (Az hj)];obtain⟨h1,h2,h3,h4,h5,h6⟩:=h;have hm:∀i e,(es.modify j fun e=>{ e with key:=x,val:=y })[i]?=some e->∃e0,es[i]?=some e0/\e.born=e0.born/\(if i=j then e.key=x/\e.val=y else e=e0):=by
  intro i e he;rw[Array.getElem?_modify]at he;split at he
  .rename_i e1;subst e1;obtain⟨e0,q1,q2⟩:=AX.1 he;exact⟨e0,q1,by rw[<-q2],by rw[Ap rfl,<-q2];exact⟨rfl,rfl⟩⟩
  .rename_i e1;exact⟨e,he,rfl,by rw[Aj (fun q=>e1 q.symm)]⟩
 have hk:∀i kv,(Ch.map fun p=>if p.1=x then(x,v)else p)[i]?=some kv->∃p,Ch[i]?=some p/\kv.1=p.1/\(if i=j then kv.2=v else kv=p):=by
  intro i kv Rs;rw[AG]at Rs;obtain⟨p,q1,q2⟩:=AX.1 Rs;refine⟨p,q1,?_⟩
  by_cases e:p.1=x
  .rw[Ap e]at q2;subst q2
   have:=XY h4 q1 hj e
   exact⟨e.symm,by rw[Ap this]⟩
  .rw[Aj e]at q2;subst q2;refine⟨rfl,?_⟩;rw[Aj];intro e2;subst e2;rw[q1]at hj;cases hj;exact e rfl
 have zm:(Ch.map fun p=>if p.1=x then(x,v)else p).map (·.1)=Ch.map (·.1):=by
  rw[Bq];apply Bg;intro p _;simp only[Function.comp];split
  .rename_i e;exact e.symm
  .rfl
 refine⟨⟨by simp[h1],fun i kv e q1 q2=>?_,fun kv Rs=>?_,by rw[zm];exact h4,fun i e q=>?_,fun i i' e e' q q' hb=>?_⟩,fun i kv e q1 q2=>?_⟩
 .obtain⟨p,p1,p2,p3⟩:=hk i kv q1;obtain⟨e0,r1,r2,r3⟩:=hm i e q2
  have:=h2 i p e0 p1 r1
  split at r3
  .rename_i ij;subst ij;rw[hj]at p1;cases p1;rw[r3.1,p2]
  .rw[r3,p2];exact this
 .obtain⟨i,hi⟩:=Ct.1 Rs;obtain⟨p,p1,p2,p3⟩:=hk i kv hi;rw[p2];exact h3 p (Az p1)
 .obtain⟨e0,r1,r2,_⟩:=hm i e q;rw[r2];exact h5 i e0 r1
 .obtain⟨e0,r1,r2,_⟩:=hm i e q;obtain⟨e1,s1,s2,_⟩:=hm i' e' q';exact h6 i i' e0 e1 r1 s1 (by rw[<-r2,<-s2];exact hb)
 .obtain⟨p,p1,p2,p3⟩:=hk i kv q1;obtain⟨e0,r1,r2,r3⟩:=hm i e q2;split at r3
  .rename_i ij;rw[Ap ij]at p3;exact .inl ⟨p3,r3.2⟩
  .rename_i ij;rw[Aj ij]at p3;exact .inr ⟨by rw[p3];exact p1,by rw[r3];exact r1⟩
theorem Vt(h:H8 sh es ck Ch)(hx:X8 sh x=true)(hn:∀a,(x,a)∉Ch) :
  H8 sh (es.push { key:=x,val:=y,born:=ck }) (ck+1) (E2 Ch x v) /\
   ∀(i:Nat) (kv:Value×AV) (e:MapEntry),(E2 Ch x v)[i]?=some kv->(es.push { key:=x,val:=y,born:=ck })[i]?=some e ->
    (kv.2=v/\e.val=y)\/(Ch[i]?=some kv/\es[i]?=some e):=by
 rw[Jc hn];obtain⟨h1,h2,h3,h4,h5,h6⟩:=h;have hm:∀i e,(es.push { key:=x,val:=y,born:=ck })[i]?=some e->(es[i]?=some e/\i<es.size)\/(i=es.size/\e={ key:=x,val:=y,born:=ck }):=by
  intro i e he;rw[Array.getElem?_push]at he;split at he
  .rename_i q;cases he;exact .inr ⟨q,rfl⟩
  .exact .inl ⟨he,(Bv.1 he).1⟩
 have hk:∀i kv,(Ch++[(x,v)])[i]?=some kv->(Ch[i]?=some kv/\i<es.size)\/(i=es.size/\kv=(x,v)):=by
  intro i kv Rs;rw[Nc]at Rs;split at Rs
  .rename_i q;exact .inl ⟨Rs,by omega⟩
  .rename_i q
   have:i-Ch.length=0:=by
    have:=(Aw.1 Rs).1
    simp at this;omega
   rw[this]at Rs;simp at Rs;exact .inr ⟨by omega,Rs.symm⟩
 refine⟨⟨by simp[h1],fun i kv e q1 q2=>?_,fun kv Rs=>?_,?_,fun i e q=>?_,fun i i' e e' q q' hb=>?_⟩,fun i kv e q1 q2=>?_⟩
 .rcases hk i kv q1 with ⟨p1,p2⟩|⟨p1,p2⟩<;>rcases hm i e q2 with ⟨r1,r2⟩|⟨r1,r2⟩
  .exact h2 i kv e p1 r1
  .omega
  .omega
  .rw[p2,r2]
 .rcases AN.1 Rs with q|q
  .exact h3 kv q
  .rw[Ar.1 q];exact hx
 .rw[At,FQ];refine⟨h4,by simp,fun a ha b hb e=>?_⟩;simp only[AJ,E6,Ar]at hb;obtain⟨p,p1,p2⟩:=Ai.1 ha;refine hn p.2 ?_
  have:p=(x,p.2):=by rw[<-hb,<-e,<-p2]
  rw[<-this];exact p1
 .rcases hm i e q with ⟨r1,_⟩|⟨_,r2⟩
  .have:=h5 i e r1;omega
  .rw[r2];exact Gr _
 .rcases hm i e q with ⟨r1,_⟩|⟨r1,r2⟩<;>rcases hm i' e' q' with ⟨s1,_⟩|⟨s1,s2⟩
  .exact h6 i i' e e' r1 s1 hb
  .have:=h5 i e r1;rw[s2]at hb;dsimp only at hb;omega
  .have:=h5 i' e' s1;rw[r2]at hb;dsimp only at hb;omega
  .omega
 .rcases hk i kv q1 with ⟨p1,p2⟩|⟨p1,p2⟩<;>rcases hm i e q2 with ⟨r1,r2⟩|⟨r1,r2⟩
  .exact .inr ⟨p1,r1⟩
  .omega
  .omega
  .exact .inl ⟨by rw[p2],by rw[r2]⟩
section
variable {P:Program}{w0:World}{g0:Gh}{h0 h:Nat->HO}{g:Gh}{w:World}(hI:D3 w0 g0 h0 h g w)
include hI
theorem D3.swap{r b:Nat}(hl:(h r).live)(ho:g.own r=some b)(hn:∀o,¬g.S b o)(o' : HO){ob:Obj}(hb:w.heap[b]?=some ob)(gX:Obj)(w1:World)(Me:w1.heap=w.heap/\w1.os=w.os/\w1.tape=w.tape/\w1.output=w.output)(DJ:o'≠.free)
  (KD:Lp g (g.upd r (g.ρ r) (g.ln r) (g.tk r) (g.own r) g.S) (AR h)->EO g w (g.upd r (g.ρ r) (g.ln r) (g.tk r) (g.own r) g.S) (setBlock w1 b gX)->(setBlock w1 b gX).heap[b]?=some gX ->
   (∀k,k≠b->(setBlock w1 b gX).heap[k]?=w.heap[k]?) ->
   Ez (g.upd r (g.ρ r) (g.ln r) (g.tk r) (g.own r) g.S) (setBlock w1 b gX) (AR (A3 h r o')) r o') :
  D3 w0 g0 h0 (A3 h r o') (g.upd r (g.ρ r) (g.ln r) (g.tk r) (g.own r) g.S) (setBlock w1 b gX)/\Le h g w (A3 h r o') (g.upd r (g.ρ r) (g.ln r) (g.tk r) (g.own r) g.S) (setBlock w1 b gX):=by
 have DF:=(hI.loc r b hl ho).1;have ED:(setBlock w1 b gX).heap[b]?=some gX:=WT (by rw[Me.1];exact hb);have d7:∀k,k≠b->(setBlock w1 b gX).heap[k]?=w.heap[k]?:=fun k hk=>by rw[VW hk,Me.1]
 refine hI.upd r o' _ _ _ _ _ _ (some b) ⟨Me.2.1,Me.2.2.1,Me.2.2.2,by rw[OQ,Me.1];exact Am _⟩ (fun k _ DJ=>d7 k (fun e=>DJ (by rw[e]))) (fun b' e=>by cases e;exact⟨hl,ho⟩) (fun _ _ h=>h) (fun _ _ h=>.inl h)
  (fun b' o e hs=>by cases e;exact absurd hs (hn o)) (fun b' _ e=>?_) DJ (fun _=>⟨rfl,Am _,fun _=>rfl,fun _=>rfl⟩) (fun hg hk=>KD hg hk ED d7)
 rw[ho]at e;cases e;exact⟨by rw[OQ,Me.1];exact DF,.inl ⟨hl,ho⟩⟩
theorem OI(hT:CM P T){ty:Nat}{m k x:AV}{vm vk:Value}(hm:BU g w (AR h) m vm)(hk' : BU g w (AR h) k vk)(hx:BU g w (AR h) x vx)(hk:H3 T h ty m k x K) :
  ly P w0 g0 h0 h g w (Instr.mapUpdate ty vm vk vx) K:=by
 unfold H3 at hk;split at hk
 .rename_i r;split at hk
  .rename_i sh Ch e0;obtain⟨kt,e,k1,k2,k3,k4⟩:=N3 hk' hk;have ho:=hI.objs r;rw[e0]at ho;obtain⟨t1,b,es,ck,a1,a2,a3,a4,a5,a6⟩:=ho;have hl:(h r).live:=by rw[e0];trivial
   cases hm with
   |mref _ _ b' hu ht hp=>
    rw[a2]at hp;cases hp;have nu:=hT.map k1;have FI:=run_getObj_map (P:=P) w b es ck a3;have Ph:∀o',(setObj b o').run P w=.ok () (setBlock w b o'):=fun o'=>by simp[setObj,Sem.run,a3,setBlock]
    have Ws:=fun bb=>NN hT k2 w bb k3;obtain⟨res,r1,r2⟩:=Py hT k2 w k3 es.toList a4.shape;have qb:=BU.str hI.objs hx;rcases r2 with ⟨rfl,hn⟩|⟨j,en,rfl,hj,hkey⟩
    .obtain⟨m1,m2⟩:=Vt a4 (x:=vk) (v:=str h x) (y:=vx) k3 (fun a=>a4.none hn a);obtain⟨i1,i2⟩:=D3.swap hI hl a1 a6 (.map sh (E2 Ch vk (str h x))) a3 (.map (es.push { key:=vk,val:=vx,born:=ck }) (ck+1)) w ⟨rfl,rfl,rfl,rfl⟩ B0 (fun hg IY ED d7=>by
      obtain⟨u1,u2,u3,u4⟩:=BK g r (g.ρ r) (g.ln r) (g.tk r) (g.own r) g.S;refine⟨u3.trans t1,b,_,_,u4.trans a1,u1.trans a2,ED,m1,fun i kv e q1 q2=>?_,a6⟩;rcases m2 i kv e q1 q2 with ⟨p1,p2⟩|⟨p1,p2⟩
      .rw[p1,p2];exact qb.mono IY (fun _ h=>h) (fun _ h=>h.elim)
      .exact(a5 i kv e p1 p2).mono IY (fun _ h=>h) (fun _ h=>h.elim))
     refine⟨_,_,_,?_,k4,i1,i2⟩;simp[Instr.mapUpdate,run_underlying nu,FI,Ws,r1,Ph]
    .obtain⟨a,q1,q2⟩:=a4.some hj hkey;obtain⟨m1,m2⟩:=QI a4 (x:=vk) (v:=str h x) (y:=vx) q1;obtain⟨i1,i2⟩:=D3.swap hI hl a1 a6 (.map sh (E2 Ch vk (str h x))) a3 (.map (es.modify j fun e=>{ e with key:=vk,val:=vx }) ck) w ⟨rfl,rfl,rfl,rfl⟩ B0 (fun hg IY ED d7=>by
      obtain⟨u1,u2,u3,u4⟩:=BK g r (g.ρ r) (g.ln r) (g.tk r) (g.own r) g.S;refine⟨u3.trans t1,b,_,_,u4.trans a1,u1.trans a2,ED,m1,fun i kv e q1 q2=>?_,a6⟩;rcases m2 i kv e q1 q2 with ⟨p1,p2⟩|⟨p1,p2⟩
      .rw[p1,p2];exact qb.mono IY (fun _ h=>h) (fun _ h=>h.elim)
      .exact(a5 i kv e p1 p2).mono IY (fun _ h=>h) (fun _ h=>h.elim))
     refine⟨_,_,_,?_,k4,i1,i2⟩;have vl:es[j]?=some en:=by simpa using hj
     have K4:=To (P:=P) w k3;simp[Instr.mapUpdate,run_underlying nu,FI,Ws,r1,Ph,vl,hkey,K4]
  .rename_i sh Ch e0;obtain⟨kt,e,k1,k2,k3,k4⟩:=N3 hk' hk;have ho:=hI.objs r;rw[e0]at ho;obtain⟨t1,b,es,ck,a1,a2,a3,a4,a5,a6⟩:=ho;have hl:(h r).live:=by rw[e0];trivial
   cases hm with
   |mref _ _ b' hu ht hp=>
    rw[a2]at hp;cases hp;have nu:=hT.map k1;have FI:=run_getObj_map (P:=P) w b es ck a3;have Ph:∀o',(setObj b o').run P w=.ok () (setBlock w b o'):=fun o'=>by simp[setObj,Sem.run,a3,setBlock]
    have Ws:=fun bb=>NN hT k2 w bb k3;obtain⟨res,r1,r2⟩:=Py hT k2 w k3 es.toList a4.shape;rcases r2 with ⟨rfl,hn⟩|⟨j,en,rfl,hj,hkey⟩
    .obtain⟨m1,m2⟩:=Vt a4 (x:=vk) (v:=x) (y:=vx) k3 (fun a=>a4.none hn a);obtain⟨i1,i2⟩:=D3.swap hI hl a1 a6 (.mapU sh (E2 Ch vk (x))) a3 (.map (es.push { key:=vk,val:=vx,born:=ck }) (ck+1)) w ⟨rfl,rfl,rfl,rfl⟩ B0 (fun hg IY ED d7=>by
      obtain⟨u1,u2,u3,u4⟩:=BK g r (g.ρ r) (g.ln r) (g.tk r) (g.own r) g.S;have LF:∀i,AR h i->AR (A3 h r (.mapU sh (E2 Ch vk x))) i:=fun i hi=>Ea B0 i hi;refine⟨u3.trans t1,b,_,_,u4.trans a1,u1.trans a2,ED,m1,fun i kv e q1 q2=>?_,a6⟩;rcases m2 i kv e q1 q2 with ⟨p1,p2⟩|⟨p1,p2⟩
      .rw[p1,p2];exact hx.mono IY LF hg
      .exact(a5 i kv e p1 p2).mono IY LF hg)
     refine⟨_,_,_,?_,k4,i1,i2⟩;simp[Instr.mapUpdate,run_underlying nu,FI,Ws,r1,Ph]
    .obtain⟨a,q1,q2⟩:=a4.some hj hkey;obtain⟨m1,m2⟩:=QI a4 (x:=vk) (v:=x) (y:=vx) q1;obtain⟨i1,i2⟩:=D3.swap hI hl a1 a6 (.mapU sh (E2 Ch vk (x))) a3 (.map (es.modify j fun e=>{ e with key:=vk,val:=vx }) ck) w ⟨rfl,rfl,rfl,rfl⟩ B0 (fun hg IY ED d7=>by
      obtain⟨u1,u2,u3,u4⟩:=BK g r (g.ρ r) (g.ln r) (g.tk r) (g.own r) g.S;have LF:∀i,AR h i->AR (A3 h r (.mapU sh (E2 Ch vk x))) i:=fun i hi=>Ea B0 i hi;refine⟨u3.trans t1,b,_,_,u4.trans a1,u1.trans a2,ED,m1,fun i kv e q1 q2=>?_,a6⟩;rcases m2 i kv e q1 q2 with ⟨p1,p2⟩|⟨p1,p2⟩
      .rw[p1,p2];exact hx.mono IY LF hg
      .exact(a5 i kv e p1 p2).mono IY LF hg)
     refine⟨_,_,_,?_,k4,i1,i2⟩;have vl:es[j]?=some en:=by simpa using hj
     have K4:=To (P:=P) w k3;simp[Instr.mapUpdate,run_underlying nu,FI,Ws,r1,Ph,vl,hkey,K4]
  .exact hk.elim
 .exact hk.elim
theorem Pr{d b:Nat}{ck:Nat}(hd:h d=.free)(hS:g.S b 0)(hb:w.heap[b]?=some (.map es ck))(hm:H8 sh es ck Ch)(hv:∀(i:Nat) (kv:Value×AV) (e:MapEntry),Ch[i]?=some kv->es[i]?=some e->BU g w FB kv.2 e.val) :
  ∃g',D3 w0 g0 h0 (A3 h d (.iter Ch Ch none)) g' (w.alloc (.mapIter (some b) ck #[] ck))/\Le h g w (A3 h d (.iter Ch Ch none)) g' (w.alloc (.mapIter (some b) ck #[] ck)) /\
   BU g' (w.alloc (.mapIter (some b) ck #[] ck)) (AR (A3 h d (.iter Ch Ch none))) (.ref d 0) (.pointer (some ⟨w.heap.size,0,none⟩)):=by
 obtain⟨k1,k2⟩:=hI.newOwn hd (.iter Ch Ch none) (.mapIter (some b) ck #[] ck) (.pointer (some ⟨w.heap.size,0,none⟩)) 0 false w ⟨rfl,rfl,rfl,rfl⟩ B0 (fun hg hk=>by
  obtain⟨u1,u2,u3,u4⟩:=BK g d (.pointer (some ⟨w.heap.size,0,none⟩)) 0 false (some w.heap.size) g.S;obtain⟨c1,c2,c3⟩:=hk b 0 hS
  exact⟨u3,w.heap.size,b,ck,#[],ck,es,ck,u4,u1,G0 w _ rfl,c1,c3 es ck hb,⟨sh,hm⟩,rfl,rfl,fun i kv e q1 q2=>(hv i kv e q1 q2).mono hk (fun _ h=>h) (fun _ h=>h.elim),
   ⟨QP hm.2.2.2.1,fun _ h=>h⟩,fun i kv e q1 q2=>by simp[List.mem_of_getElem? q1],trivial,fun o ho=>by have:=hI.slt _ _ ho;omega⟩)
 refine⟨_,k1,k2,.ref _ d 0 w.heap.size (by unfold AR;rw[Bi];simp) ?_ ?_⟩<;>simp[Gh.upd]
theorem Ta{r b:Nat}{ck:Nat}(e0:h r=.map sh Ch)(a1:g.own r=some b)(a2:g.ρ r=.map (some b))(a3:w.heap[b]?=some (.map es ck))(a4:H8 sh es ck Ch)(a5:∀(i:Nat) (kv:Value×AV) (e:MapEntry),Ch[i]?=some kv->es[i]?=some e->BU g w FB kv.2 e.val)(t1:g.tk r=false) :
  ∃g',D3 w0 g0 h0 (A3 h r (.rom sh Ch)) g' w/\Le h g w (A3 h r (.rom sh Ch)) g' w/\g'.S b 0:=by
 have hl:(h r).live:=by rw[e0];trivial
 have DF:=(hI.loc r b hl a1).1
 obtain⟨k1,k2⟩:=hI.upd r (.rom sh Ch) (g.ρ r) (g.ln r) (g.tk r) none (g.more b 1) w none ⟨rfl,rfl,rfl,Am _⟩ (fun _ _ _=>rfl) (fun b e=>by cases e) (fun _ _ h=>.inl h)
  (fun b' o hs=>hs.elim .inl (fun hs=>.inr ⟨by rw[hs.1];exact DF,.inr ⟨hl,by rw[hs.1];exact a1⟩⟩)) (fun b o e=>by cases e) (fun b hh _=>by cases hh) B0
  (fun _=>⟨rfl,Am _,fun _=>rfl,fun _=>rfl⟩) (fun hg hk=>by
   obtain⟨u1,u2,u3,u4⟩:=BK g r (g.ρ r) (g.ln r) (g.tk r) none (g.more b 1);exact⟨u3.trans t1,b,u1.trans a2,.cmap _ sh Ch b es ck (.inr ⟨rfl,Xc⟩) a3 a4 (fun i kv e q1 q2=>(a5 i kv e q1 q2).mono hk (fun _ h=>h) (fun _ h=>h.elim))⟩)
 exact⟨_,k1,k2,.inr ⟨rfl,Xc⟩⟩
theorem Zp{r b:Nat}{ck:Nat}(e0:h r=.mapU sh Ch)(a1:g.own r=some b)(a2:g.ρ r=.map (some b))(a3:w.heap[b]?=some (.map es ck))(a4:H8 sh es ck Ch)(a5:∀(i:Nat) (kv:Value×AV) (e:MapEntry),Ch[i]?=some kv->es[i]?=some e->BU g w (AR h) kv.2 e.val)(t1:g.tk r=false) :
  ∃g',D3 w0 g0 h0 (A3 h r (.rom sh (TK h Ch))) g' w/\Le h g w (A3 h r (.rom sh (TK h Ch))) g' w/\g'.S b 0:=by
 have hl:(h r).live:=by rw[e0];trivial
 have DF:=(hI.loc r b hl a1).1
 obtain⟨k1,k2⟩:=hI.upd r (.rom sh (TK h Ch)) (g.ρ r) (g.ln r) (g.tk r) none (g.more b 1) w none ⟨rfl,rfl,rfl,Am _⟩ (fun _ _ _=>rfl) (fun b e=>by cases e) (fun _ _ h=>.inl h)
  (fun b' o hs=>hs.elim .inl (fun hs=>.inr ⟨by rw[hs.1];exact DF,.inr ⟨hl,by rw[hs.1];exact a1⟩⟩)) (fun b o e=>by cases e) (fun b hh _=>by cases hh) B0
  (fun _=>⟨rfl,Am _,fun _=>rfl,fun _=>rfl⟩) (fun hg hk=>by
   obtain⟨u1,u2,u3,u4⟩:=BK g r (g.ρ r) (g.ln r) (g.tk r) none (g.more b 1);refine⟨u3.trans t1,b,u1.trans a2,.cmap _ sh _ b es ck (.inr ⟨rfl,Xc⟩) a3 (XU _ a4) (fun i kv e q1 q2=>?_)⟩;unfold TK at q1;rw[AG]at q1;obtain⟨p,q3,rfl⟩:=AX.1 q1;exact((a5 i p e q3 q2).str hI.objs).mono hk (fun _ h=>h) (fun _ h=>h.elim))
 exact⟨_,k1,k2,.inr ⟨rfl,Xc⟩⟩
theorem kH(hT:CM P T){ty kt e:Nat}(ht:(T ty).d=.map kt e){d:Option Nat}{x:AV}(hx:BU g w (AR h) x vx)(hk:fp d h x K) :
  OT P w0 g0 h0 h g w (Instr.range ty vx) K:=by
 have hu:=hT.map ht;unfold fp at hk;split at hk
 .exact hk.elim
 .rename_i d;split at hk
  .rename_i hd;have CZ:∀b es ck,w.heap[b]?=some (.map es ck)->(Instr.range ty (.map (some b))).run P w=.ok (.pointer (some ⟨w.heap.size,0,none⟩)) (w.alloc (.mapIter (some b) ck #[] ck)):=fun b es ck hb=>by
    simp[Instr.range,run_underlying hu,run_getObj_map (P:=P) w b es ck hb]
   split at hk
   .cases hx with
    |cmap _ _ _ b es ck hS hb hm hv=>
     obtain⟨g',k1,k2,k3⟩:=Pr hI hd hS hb hm hv;exact⟨_,_,_,_,_,CZ _ _ _ hb,hk,k1,k2,k3⟩
   .rename_i r;have ho:=hI.objs r;cases hx with
    |mref _ _ b nu ht' hp=>
     split at hk
     .rename_i sh Ch e0;rw[e0]at ho;obtain⟨_,b',a1,a2⟩:=ho;rw[a1]at hp;cases hp;cases a2 with
      |cmap _ _ _ _ es ck hS hb hm hv=>
       obtain⟨g',k1,k2,k3⟩:=Pr hI hd hS hb hm hv;exact⟨_,_,_,_,_,CZ _ _ _ hb,hk,k1,k2,k3⟩
     .rename_i sh Ch e0;rw[e0]at ho;obtain⟨t1,b',es,ck,a1,a2,a3,a4,a5,a6⟩:=ho;rw[a2]at hp;cases hp;obtain⟨g1,i1,i2,i3⟩:=Ta hI e0 a1 a2 a3 a4 a5 t1;have DJ:d≠r:=fun e=>by rw[e,e0]at hd;cases hd
      obtain⟨g',k1,k2,k3⟩:=Pr i1 (by rw[Cg _ _ _ _ DJ];exact hd) i3 a3 a4 (fun i kv e q1 q2=>(a5 i kv e q1 q2).mono i2.keeps (fun _ h=>h) (fun _ h=>h.elim));exact⟨_,_,_,_,_,CZ _ _ _ a3,hk,k1,i2.trans k2,k3⟩
     .exact hk.elim
   .exact hk.elim
  .exact hk.elim
theorem nY{ty:TypeId}{x:AV}(hx:BU g w (AR h) x vx)(hk:nX h x K):OT P w0 g0 h0 h g w (Instr.next vx false ty) K:=by
 unfold nX at hk;split at hk
 .rename_i r;split at hk
  .rename_i all rem EJ e0;have ho:=hI.objs r;rw[e0]at ho;obtain⟨t1,b,mb,Ln,seen,st,es,ck,a1,a2,a3,a4,a5,⟨sh,a6⟩,a7,a8,a9,af,fP,a12,ud⟩:=ho;have hl:(h r).live:=by rw[e0];trivial
   cases hx with
   |ref _ _ _ b' hu ht hp=>
    rw[a2]at hp;cases hp;have DF:∀e∈es.toList,e.born<Ln:=fun e he=>by
     obtain⟨i,hi⟩:=Ct.1 he
     have:=a6.2.2.2.2.1 i e (by simpa using hi)
     omega
    rcases run_next_at (P:=P) w ty b mb Ln st seen es ck a3 a5 DF ch with ⟨q1,q2⟩|⟨e,q1,w1,q2,q3⟩
    .have AdN:rem=[]:=by
      apply M3.2;intro kv Rs;obtain⟨i,hi⟩:=Ct.1 (af.2 kv Rs);have hil:i<es.size:=by rw[a6.1];exact(Aw.1 hi).1
      have hb:=(fP i kv es[i] hi (by simp[hil])).1 Rs;have hm:es[i]∈leftOf es seen:=by simp[leftOf,hb]
      have:=Array.size_pos_of_mem hm
      omega
     exact⟨_,w,g,_,h,q2,hk.1 AdN,hI,.refl _ _ _,.tup _ _ _ rfl (fun i av x h1 h2=>by
      match i,h1,h2 with
      |0,h1,h2=>simp at h1 h2;subst h1;subst h2;exact .v _ _)⟩
    .have hq:e∈es/\e.born∉seen:=by simpa[leftOf]using q1
     obtain⟨i,hi⟩:=Array.mem_iff_getElem?.1 hq.1;have hil:i<all.length:=by rw[<-a6.1];exact(Bv.1 hi).1
     have xz:all[i]?=some all[i]:=AD hil;have lr:=(fP i _ e xz hi).2 hq.2;obtain⟨s1,s2,hs⟩:=List.append_of_mem lr;have JZ:rem.Perm (all[i]::(s1++s2)):=by rw[hs];exact List.perm_middle
     have TC:(all[i]::(s1++s2)).Nodup:=JZ.nodup_iff.1 af.1;have hr:=a9 i _ e xz hi;have hkey:=a6.2.1 i _ e xz hi;have Me:w1.heap=w.heap/\w1.os=w.os/\w1.tape=w.tape/\w1.output=w.output:=by rcases q2 with rfl|rfl<;>exact⟨rfl,rfl,rfl,rfl⟩
     obtain⟨k1,k2⟩:=D3.swap hI hl a1 ud (.iter all (s1++s2) (some all[i])) a3 (.mapIter (some mb) Ln (seen.push e.born) ck) w1 Me B0 (fun hg IY ED d7=>by
      obtain⟨u1,u2,u3,u4⟩:=BK g r (g.ρ r) (g.ln r) (g.tk r) (g.own r) g.S;obtain⟨c1,c2,c3⟩:=IY mb 0 a4
      refine⟨u3.trans t1,b,mb,Ln,_,ck,es,ck,u4.trans a1,u1.trans a2,ED,c1,c3 _ _ a5,⟨sh,a6⟩,a7,rfl,fun i kv e p q=>(a9 i kv e p q).mono IY (fun _ h=>h) (fun _ h=>h.elim),
       ⟨(Dk.1 TC).2,fun kv Rs=>af.2 kv (JZ.mem_iff.2 (Ah _ Rs))⟩,fun j kv e' p q=>?_,⟨i,e,xz,hi,by simp⟩,ud⟩
      rw[Array.mem_push];have h1:=fP j kv e' p q;rw[JZ.mem_iff,Ay]at h1;constructor
      .intro Rs hc;rcases hc with hc|hc
       .exact(h1.1 (.inr Rs)) hc
       .obtain rfl:=a6.2.2.2.2.2 j i e' e q hi hc;rw[xz]at p;cases p;exact(Dk.1 TC).1 Rs
      .intro hc;rcases h1.2 (fun hm=>hc (.inl hm))with e2|e2
       .have:j=i:=XY (f:=fun x=>x) (l:=all) (by simpa using QP a6.2.2.2.1) p xz e2
        subst this;rw[hi]at q;cases q;exact absurd (.inr rfl) hc
       .exact e2)
     refine⟨_,_,_,_,_,q3,hk.2 all[i] (s1++s2) JZ,k1,k2,.tup _ _ _ rfl (fun j av x h1 h2=>?_)⟩
     match j,h1,h2 with
     |0,h1,h2=>simp at h1 h2;subst h1;subst h2;exact .v _ _
     |1,h1,h2=>simp at h1 h2;subst h1;subst h2;rw[hkey];exact .v _ _
     |2,h1,h2=>simp at h1 h2;subst h1;subst h2;exact(hr.up _).le k2
  .exact hk.elim
 .exact hk.elim
end
end Go.Eng
