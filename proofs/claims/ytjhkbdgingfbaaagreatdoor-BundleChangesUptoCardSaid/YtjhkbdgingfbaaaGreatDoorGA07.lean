/- Lemmas 7. -/
import Derived.Test.YtjhkbdgingfbaaaGreatDoorGA06
import Derived.Maps.RangeRun
namespace Go.Eng
variable {ρ:Operand->Value}{es:List (List AV)}{hi:Option Operand}{vx:Value}{K:HK}{a:Option Addr}{cx:Cx}{x:AV}{T:EU}
section
variable {P:Program}{w0:World}{g0:Gh}{h0 h:Nat->HO}{g:Gh}{w:World}(hI:Do w0 g0 h0 h g w)
include hI
theorem Kt{d sz n:Nat}(hd:h d=.free)(hl:∀c∈es,c.length=sz)(hn:es.length=n)(hr:Bo g w D2 (.slice .none es) (.slice a n n)) :
  ∃g',Do w0 g0 h0 (AH h d (.tok sz n)) g' w/\Le h g w (AH h d (.tok sz n)) g' w/\Bo g' w (AD (AH h d (.tok sz n))) (.slice (.id d sz) es) (.slice a n n):=by
 obtain⟨k1,k2⟩:=hI.upd d (.tok sz n) (.slice a n n) n true none g.S w none ⟨rfl,rfl,rfl,Ad _⟩ (fun _ _ _=>rfl) (fun b e=>by cases e) (fun _ _ h=>h) (fun _ _ h=>.inl h) (fun b o e=>by cases e) (fun b _ e=>by cases e) sS
  (fun hu=>absurd hd hu) (fun _ _=>by
   obtain⟨u1,u2,u3,u4⟩:=Bi g d (.slice a n n) n true none g.S;exact⟨u3,u2,a,n,u1,.inl ⟨rfl,u4⟩⟩)
 exact⟨_,k1,k2,.tok _ d sz es _ (((hr.up (AD h)).le k2)) hl (by unfold AD;rw[AM];simp) (by simp[Gh.upd]) (by simp[Gh.upd,hn]) (fun _=>by simp[Gh.upd])⟩
theorem TY{d:Option Nat}(hx:Bo g w (AD h) x vx)(hk:KQ cx d h x K):∃g' av h',K av h'/\Do w0 g0 h0 h' g' w/\Le h g w h' g' w/\Bo g' w (AD h') av vx:=by
 have plain:K x h->∃g' av h',K av h'/\Do w0 g0 h0 h' g' w/\Le h g w h' g' w/\Bo g' w (AD h') av vx:=fun hk=>⟨g,x,h,hk,hI,.refl _ _ _,hx⟩;unfold KQ at hk;split at hk
 .exact plain hk
 .rename_i d;split at hk
  .rename_i sz _;split at hk
   .refine⟨g,qt x,h,hk,hI,.refl _ _ _,?_⟩;cases x with
    |slice tk es=>exact(Bo.slice_none hx).up _
    |_=>exact hx
   .split at hk
    .split at hk
     .rename_i hd;obtain rfl:=hx.v_eq;obtain⟨g',k1,k2,k3⟩:=Kt hI (sz:=sz) (es:=[]) (a:=none) hd sS rfl (.snil _ _ _);exact⟨g',_,_,hk,k1,k2,k3⟩
     .exact hk.elim
    .exact plain hk
  .split at hk
   .rename_i sz _;split at hk
    .split at hk
     .rename_i hd;obtain rfl:=hx.v_eq
      obtain⟨k1,k2⟩:=hI.upd d (.arr sz []) (.slice none 0 0) 0 true none g.S w none ⟨rfl,rfl,rfl,Ad _⟩ (fun _ _ _=>rfl) (fun b e=>by cases e) (fun _ _ h=>h) (fun _ _ h=>.inl h) (fun b o e=>by cases e) (fun b _ e=>by cases e) sS
       (fun hu=>absurd hd hu) (fun _ _=>by
        obtain⟨u1,u2,u3,u4⟩:=Bi g d (.slice none 0 0) 0 true none g.S;exact⟨u3,u2,by simp,.inl ⟨rfl,u1,u4⟩⟩)
      exact⟨_,_,_,hk,k1,k2,.msl _ d 0 none 0 (by unfold AD;rw[AM];simp) (by simp[Gh.upd]) (Ar _) (.inl rfl) (fun _=>by simp[Gh.upd])⟩
     .exact hk.elim
    .exact plain hk
   .exact plain hk
theorem S4{mku:List Nat}{d:Option Nat}{ty:Nat}(hk:HX T mku d h ty K):Kb P w0 g0 h0 h g w (Instr.makeMap ty none) K:=by
 unfold HX at hk;split at hk
 .exact hk.elim
 .rename_i d;split at hk
  .rename_i hd;split at hk
   .split at hk
    .rename_i sh _;split at hk
     .obtain⟨k1,k2⟩:=hI.newOwn hd (.mapU sh []) (.map #[] 0) (.map (some w.heap.size)) 0 false w ⟨rfl,rfl,rfl,rfl⟩ sS (fun hg FW=>by
       obtain⟨u1,u2,u3,u4⟩:=Bi g d (.map (some w.heap.size)) 0 false (some w.heap.size) g.S;exact⟨u3,w.heap.size,#[],0,u4,u1,E7 w _ rfl,⟨rfl,by simp,by simp,by simp,by simp,by simp⟩,by simp,fun o ho=>by have:=hI.slt _ _ ho;omega⟩)
      refine⟨_,_,_,_,_,?_,hk,k1,k2,.mref _ d w.heap.size (by unfold AD;rw[AM];simp) ?_ ?_⟩
      .simp[Instr.makeMap]
      .simp[Gh.upd]
      .simp[Gh.upd]
     .obtain⟨k1,k2⟩:=hI.newOwn hd (.map sh []) (.map #[] 0) (.map (some w.heap.size)) 0 false w ⟨rfl,rfl,rfl,rfl⟩ sS (fun hg FW=>by
       obtain⟨u1,u2,u3,u4⟩:=Bi g d (.map (some w.heap.size)) 0 false (some w.heap.size) g.S;exact⟨u3,w.heap.size,#[],0,u4,u1,E7 w _ rfl,⟨rfl,by simp,by simp,by simp,by simp,by simp⟩,by simp,fun o ho=>by have:=hI.slt _ _ ho;omega⟩)
      refine⟨_,_,_,_,_,?_,hk,k1,k2,.mref _ d w.heap.size (by unfold AD;rw[AM];simp) ?_ ?_⟩
      .simp[Instr.makeMap]
      .simp[Gh.upd]
      .simp[Gh.upd]
    .exact hk.elim
   .exact hk.elim
  .exact hk.elim
omit hI in
theorem Bo.sub{sz l m:Nat}{x:Value}{n cap:Nat}(hr:Bo g w D2 (.slice .none es) x)(hx:x=.slice a n cap)(hl:∀c∈es,c.length=sz)(h1:l<=m)(h2:m<=es.length)(c' : Nat)(hc:m-l<=c')(a' : Option Addr)(ha:a'=a.map (·.add (l*sz))\/(m=l/\a'=a)):Bo g w D2 (.slice .none ((es.take m).drop l)) (.slice a' (m-l) c'):=by
 subst hx;have BQ:((es.take m).drop l).length=m-l:=by rw[BX,Al];omega
 by_cases h0:m-l=0
 .have:(es.take m).drop l=[]:=AF sP
  rw[this,h0];exact .snil _ _ _
 .cases hr with
  |snil=>simp at h2;omega
  |slice _ _ b off ES cap val lZ NZ Cm Dd=>
   have hz:ES=sz:=by
    have:(0:Nat)<es.length:=by omega
    have h3:=NZ 0 es[0] (At this);rw[<-h3];exact hl _ (Af this)
   subst hz;have qX : a'=some ⟨b,off+l*ES,none⟩:=by
    rcases ha with h | ⟨h,_⟩
    .rw[h];simp[Addr.add_lit]
    .omega
   subst qX;rw[<-BQ];have Fg:∀(i:Nat) (cs:List AV),((es.take m).drop l)[i]?=some cs->es[l+i]?=some cs:=fun i cs h=>by
    rw[BW]at h
    by_cases hi:l+i<m
    .rwa [Bm hi]at h
    .rw[AN (by rw[Al];omega)]at h;cases h
   refine .slice _ _ b (off+l*ES) ES c' (fun i j=>val (l+i) j) (by rw[BQ];exact hc) (fun i cs h=>NZ _ _ (Fg i cs h)) (fun i cs j av h1 h2=>?_) (fun i cs j av h1 h2=>Dd _ _ _ _ (Fg i cs h1) h2)
   have:=Cm _ _ _ _ (Fg i cs h1) h2
   rwa [show off+(l+i)*ES+j=off+l*ES+i*ES+j by rw[D1];omega]at this
omit hI in
theorem H5{t:Nat->AV}(ht:∀x:Operand,Bo g w (AD h) (ev t x) (ρ x)){o:Option Operand}{i:Option Int}(hk:BJ t o=some i):o.map ρ=i.map fun n=>.int .i64 n:=by
 cases o with
 |none=>cases hk;rfl
 |some x=>
  unfold BJ at hk;dsimp only at hk;split at hk
  .rename_i n e;cases hk
   have:=ht x
   rw[e]at this;simp[this.v_eq]
  .cases hk
omit hI in
theorem OF(b:Bool)(len cap:Nat)(lo hi mx:Option Int)(cp:mx=none\/hi≠none)(h0:0<=lo.getD 0)(h1:lo.getD 0<=hi.getD len)(h2:hi.getD len<=mx.getD cap)(h3:mx.getD cap<=cap) :
  (Instr.sliceBounds b len cap (lo.map fun n=>.int .i64 n) (hi.map fun n=>.int .i64 n) (mx.map fun n=>.int .i64 n)).run P w=.ok ((lo.getD 0).toNat,(hi.getD len).toNat,(mx.getD cap).toNat) w:=by
 have e1:∀n:Int,0<=n->(n.toNat:Int)=n:=fun n hn=>JR hn;cases mx with
 |none=>
  cases hi with
  |none=>
   cases lo with
   |none=>simp[Instr.sliceBounds]
   |some l=>
    simp only[BY,Dh]at h0 h1 h2;simp[Instr.sliceBounds,run_sliceBound,h0,h1]
  |some hh=>
   simp only[BY,Dh]at h1 h2;have j9:0<=hh:=by omega
   cases lo with
   |none=>simp[Instr.sliceBounds,run_sliceBound,j9,h2]
   |some l=>
    simp only[BY]at h0 h1;simp[Instr.sliceBounds,run_sliceBound,h0,h1,h2,j9,e1]
 |some m=>
  cases hi with
  |none=>simp at cp
  |some hh=>
   simp only[BY]at h1 h2 h3;have j9:0<=hh:=by omega
   have oo:0<=m:=by omega
   cases lo with
   |none=>simp[Instr.sliceBounds,run_sliceBound,h2,h3,j9,oo,e1]
   |some l=>
    simp only[BY]at h0 h1;simp[Instr.sliceBounds,run_sliceBound,h0,h1,h2,h3,j9,oo,e1]
omit hI in
theorem DE(hT:B7 P T){ty e k:Nat}(ht:(T ty).d=.slice e)(hk:(T e).size=k+1)(a:Option Addr)(len cap:Nat)(lo hi mx:Option Int)(cp:mx=none\/hi≠none)(h0:0<=lo.getD 0)(h1:lo.getD 0<=hi.getD len)(h2:hi.getD len<=mx.getD cap)(h3:mx.getD cap<=cap) :
  (Instr.sliceAt ty (.slice a len cap) (lo.map fun n=>.int .i64 n) (hi.map fun n=>.int .i64 n) (mx.map fun n=>.int .i64 n)).run P w =
   .ok (.slice (if(mx.getD cap).toNat=(lo.getD 0).toNat then a else a.map (·.add ((lo.getD 0).toNat*(T e).size))) ((hi.getD len).toNat-(lo.getD 0).toNat) ((mx.getD cap).toNat-(lo.getD 0).toNat)) w:=by
 have hu:=hT.slice ht;have hb:=OF (P:=P) (w:=w) true len cap lo hi mx cp h0 h1 h2 h3;simp only[Instr.sliceAt,Sem.run_bind,run_underlying hu,Result.andThen_ok,Instr.slice,hb,hT.size1 w hk,Sem.run_pure];rw[hk]
theorem Do.moveO(r r2:Nat)(Dn:r2≠r)(hf:h r2=.free)(hl:(h r).live){ob:Option Nat}(ho:∀c,ob=some c->g.own r=some c)(o' : HO)(x:Value)(n:Nat)(t:Bool)(hn:o'≠.free)
  (G0:DO g w (g.upd r2 x n t ob g.S) w->C3 (g.upd r2 x n t ob g.S) w (AD (AH (AH h r .dead) r2 o')) r2 o') :
  Do w0 g0 h0 (AH (AH h r .dead) r2 o') (g.upd r2 x n t ob g.S) w/\Le h g w (AH (AH h r .dead) r2 o') (g.upd r2 x n t ob g.S) w:=by
 have XH:Ho g (g.upd r2 x n t ob g.S) (AD h):=by
  intro i hi;have e:i≠r2:=fun e=>hi (by rw[e];exact hf);refine⟨by simp[Gh.upd,e],by simp[Gh.upd,e],fun _=>by simp[Gh.upd,e],fun _=>by simp[Gh.upd,e]⟩
 have hK:DO g w (g.upd r2 x n t ob g.S) w:=fun b o hb=>⟨hb,rfl,fun _ _ h=>h⟩;have IP:∀i,AD h i->AD (AH (AH h r .dead) r2 o') i:=fun i hi=>CV hn i (CV sS i hi);have key:∀i,i≠r2->(AH (AH h r .dead) r2 o' i).live->i≠r/\(h i).live:=fun i h2 hl=>by
  rw[Bs _ _ _ _ h2]at hl
  by_cases e:i=r
  .subst e;rw[AM]at hl;exact hl.elim
  .rw[Bs _ _ _ _ e]at hl;exact⟨e,hl⟩
 have own:∀i,i≠r2->(g.upd r2 x n t ob g.S).own i=g.own i:=fun i e=>by simp[Gh.upd,e]
 have Oq:(g.upd r2 x n t ob g.S).own r2=ob:=by simp[Gh.upd]
 refine⟨⟨hI.os,hI.tape,hI.output,hI.size,hI.frame,hI.slt,fun i=>?_,fun i j c hi hj ei ej=>?_,fun i c hi ei=>?_,hI.sg,hI.glob.keep hK⟩,XH,IP,hK⟩
 .by_cases e:i=r2
  .subst e;rw[AM];exact G0 hK
  .rw[Bs _ _ _ _ e]
   by_cases e1:i=r
   .subst e1;rw[AM];trivial
   .rw[Bs _ _ _ _ e1];exact(hI.objs i).same hK IP XH (by simp[Gh.upd,e]) (by simp[Gh.upd,e]) (by simp[Gh.upd,e]) (by simp[Gh.upd,e]) (fun b hl hb=>⟨rfl,fun k hk=>hk⟩)
 .by_cases e1:i=r2<;>by_cases e2:j=r2
  .exact e1.trans e2.symm
  .subst e1;rw[Oq]at ei;rw[own j e2]at ej;obtain⟨a1,a2⟩:=key j e2 hj;exact absurd (hI.inj j r _ a2 hl ej (ho _ ei)) a1
  .subst e2;rw[Oq]at ej;rw[own i e1]at ei;obtain⟨a1,a2⟩:=key i e1 hi;exact absurd (hI.inj i r _ a2 hl ei (ho _ ej)) a1
  .rw[own i e1]at ei;rw[own j e2]at ej;exact hI.inj i j c (key i e1 hi).2 (key j e2 hj).2 ei ej
 .by_cases e1:i=r2
  .subst e1;rw[Oq]at ei;exact hI.loc r _ hl (ho _ ei)
  .rw[own i e1]at ei;exact hI.loc i c (key i e1 hi).2 ei
theorem TC(hT:B7 P cx.T){d:Option Nat}{ty:Nat}{t:Nat->AV}(ht:∀x:Operand,Bo g w (AD h) (ev t x) (ρ x)){lo mx:Option Operand}(hx:Bo g w (AD h) x vx)(hk:OB cx d h ty x (BJ t lo) hi mx K):Kb P w0 g0 h0 h g w (Instr.sliceAt ty vx (lo.map ρ) (hi.map ρ) (mx.map ρ)) K:=by
 unfold OB at hk;split at hk
 .rename_i d FM e1;rw[H5 ht e1];split at hk
  .rename_i e hs;split at hk
   .exact hk.elim
   .rename_i k Dm;split at hk
    .rename_i r sz es;split at hk
     .rename_i ES n e0;split at hk
      .rename_i hd;split at hk
       .rename_i q1 q2;obtain rfl:=AB q1;have q2:=AB q2;obtain⟨⟨rfl,h1,h2⟩,hk⟩:=hk;have hl:(h r).live:=by rw[e0];trivial
        have Dn:He cx d≠r:=fun e=>by rw[e,e0]at hd;cases hd
        have ho:=hI.objs r;rw[e0]at ho;obtain⟨t1,l1,a,cap,a1,a3⟩:=ho;have hr:=hx.slice_none;cases hx with
        |tok _ _ _ _ _ Pf RK hu ht' hn IL=>
         have hv:=IL l1.symm;rw[a1]at hv;subst hv;have Vc:es.length<=cap:=by rcases a3 with ⟨e1,_⟩ | ⟨e1,_⟩<;>omega
         have Ce:=DE (P:=P) (w:=w) hT hs Dm a es.length cap (some FM) none none (.inl rfl) h1 h2 (by simp only[Dh];omega) sS;simp only[BY,Dh,A1]at Ce;have BQ:(es.drop FM.toNat).length=es.length-FM.toNat:=BX;have kG:=Bo.sub (c':=cap-FM.toNat) hr rfl RK (l:=FM.toNat) (m:=es.length) sP (Ad _) sP (if cap=FM.toNat then a else a.map (·.add (FM.toNat*(cx.T e).size))) (by
          split
          .exact .inr ⟨by omega,rfl⟩
          .rw[q2];exact .inl rfl)
         rw[DS]at kG
         have fin:∀ob:Option Nat,(∀c,ob=some c->g.own r=some c)->(es.length-FM.toNat=cap-FM.toNat/\ob=none\/es.length-FM.toNat<=cap-FM.toNat/\∃b E vs off,(if cap=FM.toNat then a else a.map (·.add (FM.toNat*(cx.T e).size)))=some ⟨b,off,none⟩/\ob=some b/\Mk w b vs E/\vs.size=off+(cap-FM.toNat)*ES/\∀o,g.S b o->o<off+(es.length-FM.toNat)*ES) ->
           Kb P w0 g0 h0 h g w (Instr.sliceAt ty (.slice a es.length cap) ((some FM).map fun n=>.int .i64 n) ((none:Option Operand).map ρ) ((none:Option Operand).map ρ)) K:=fun ob ho SD=>by
          obtain⟨k1,k2⟩:=hI.moveO r (He cx d) Dn hd hl ho (.tok ES (es.drop FM.toNat).length) (.slice (if cap=FM.toNat then a else a.map (·.add (FM.toNat*(cx.T e).size))) (es.length-FM.toNat) (cap-FM.toNat)) (es.length-FM.toNat) true sS (fun FW=>by
           obtain⟨u1,u2,u3,u4⟩:=Bi g (He cx d) (.slice (if cap=FM.toNat then a else a.map (·.add (FM.toNat*(cx.T e).size))) (es.length-FM.toNat) (cap-FM.toNat)) (es.length-FM.toNat) true ob g.S;refine⟨u3,u2.trans BQ.symm,_,_,by rw[BQ];exact u1,?_⟩;rw[BQ,u4];exact SD)
          exact⟨_,w,_,_,_,Ce,hk,k1,k2,.tok _ _ _ _ _ (((kG.mono k2.keeps (fun _ h=>h) (fun _ h=>h.elim))).up _) (fun c hc=>RK c (Gb hc)) (by unfold AD;rw[AM];simp) (by simp[Gh.upd]) (by simp[Gh.upd]) (fun _=>by simp[Gh.upd])⟩
         rcases a3 with ⟨e1,e2⟩ | ⟨e1,b,E,vs,off,rfl,e3,e4,e5,e6⟩
         .exact fin none (fun c h=>by cases h) (.inl ⟨by omega,rfl⟩)
         .by_cases hc:cap=FM.toNat
          .exact fin none (fun c h=>by cases h) (.inl ⟨by omega,rfl⟩)
          .refine fin (some b) (fun c h=>by cases h;exact e3) (.inr ⟨by omega,b,E,vs,off+FM.toNat*ES,?_,rfl,e4,?_,fun o ho=>?_⟩)
           .rw[Aj hc];simp[Addr.add_lit,q2]
           .rw[e5,Nat.sub_mul]
            have:=A0 ES (show FM.toNat<=cap by omega)
            omega
           .have:=e6 o ho
            rw[Nat.sub_mul]
            have:=A0 ES (show FM.toNat<=es.length by omega)
            omega
       .exact hk.elim
      .exact hk.elim
     .exact hk.elim
    .exact hk.elim
  .exact hk.elim
 .exact hk.elim
omit hI in
theorem Kj{sz:Nat}:∀{es:List (List AV)},(∀cs∈es,cs.length=sz)->∀k,(es.take k).flatten=es.flatten.take (k*sz)
 | [],_,k=>by simp
 |c::es,hl,0=>by simp
 |c::es,hl,k+1=>by
  have h1:=hl c (Ab ..);have h2:c.length<=k*sz+sz:=by omega
  rw[JT,Co,Co,Kj (fun x hx=>hl x (Ai _ hx)) k,List.take_append,h1,Dg,
   As h2,show k*sz+sz-sz=k*sz by omega]
omit hI in
theorem B3.takeE{U:Nat->Prop}{sz k:Nat}{vs:List Value}(hl:∀cs∈es,cs.length=sz)(hk:k<=es.length)(h:B3 g w U es.flatten (vs.take (es.length*sz))):B3 g w U (es.take k).flatten (vs.take (k*sz)):=by
 have e:vs.take (k*sz)=(vs.take (es.length*sz)).take (k*sz):=by
  rw[HG,JJ (A0 _ hk)]
 rw[Kj hl,e];refine⟨by rw[Al (l:=vs.take (es.length*sz)),h.1,Al],fun x hx=>h.2.1 x (Cq hx),fun i av x q1 q2=>?_⟩;have hi:i<k*sz:=by
  rcases Be i (k*sz)with q | q
  .exact q
  .rw[Er,Aj sP]at q1;cases q1
 rw[Er,Av hi]at q1 q2;exact h.2.2 i av x q1 q2
theorem VA(hT:B7 P cx.T){d:Option Nat}{ty:Nat}{t:Nat->AV}(ht:∀x:Operand,Bo g w (AD h) (ev t x) (ρ x))(hx:Bo g w (AD h) x vx)(hk:af cx d h ty x (BJ t hi) K):Kb P w0 g0 h0 h g w (Instr.sliceAt ty vx none (hi.map ρ) none) K:=by
 unfold af at hk;split at hk
 .rename_i d IN e1;rw[H5 ht e1];split at hk
  .rename_i e hs;split at hk
   .exact hk.elim
   .rename_i k Dm;split at hk
    .rename_i r n;split at hk
     .rename_i sz es e0;split at hk
      .rename_i hd;split at hk
       .rename_i q1 q3;have q1:=AB q1;obtain⟨⟨rfl,h1,h2⟩,hk⟩:=hk;have hl:(h r).live:=by rw[e0];trivial
        have Dn:He cx d≠r:=fun e=>by rw[e,e0]at hd;cases hd
        have ho:=hI.objs r;rw[e0]at ho;obtain⟨t1,l1,al,a2⟩:=ho;have BQ:(es.take IN.toNat).length=IN.toNat:=by rw[Al];omega
        cases hx with
        |msl _ _ _ a cap hu ht' Za ha IL=>
         have hv:=IL l1.symm;have I4:es.length<=cap:=by
          rcases a2 with ⟨b1,_,_⟩ | ⟨b,HL,E,vs,b1,_,b3,_⟩
          .subst b1;exact Ar _
          .rw[b1]at hv;cases hv;exact b3
         have Ce:=DE (P:=P) (w:=w) hT hs Dm a es.length cap none (some IN) none (.inl rfl) sS (by simp only[Dh,BY];exact h1) (by simp only[BY,Dh];omega) sS;have N2:(if cap-(0:Nat)=0 then a else a.map (·.add (0*(cx.T e).size)))=a:=by
          rw[Gt];split
          .rfl
          .rcases ha with e3 | ⟨b,rfl⟩
           .cases a with
            |none=>rfl
            |some a=>simp[Addr.add]
           .rfl
         simp only[BY,Dh,A1,Int.toNat_zero,Nat.sub_zero]at Ce N2;have key:∃a',(Instr.sliceAt ty (.slice a es.length cap) ((none:Option Int).map fun n=>.int .i64 n) ((some IN).map fun n=>.int .i64 n) ((none:Option Int).map fun n=>.int .i64 n)).run P w=.ok (.slice a' IN.toNat cap) w/\(a'=a):=⟨_,Ce,by first | exact N2 | (split<;>first | rfl | exact N2 | (simp_all))⟩
         obtain⟨a',Ce,rfl⟩:=key;have DM:Bo (g.upd (He cx d) (.slice a' IN.toNat cap) IN.toNat true (g.own r) g.S) w (AD (AH (AH h r .dead) (He cx d) (.arr sz (es.take IN.toNat)))) (.msl (He cx d) IN.toNat) (.slice a' IN.toNat cap):=
          .msl _ _ _ _ _ (by unfold AD;rw[AM];simp) (by simp[Gh.upd]) (by simp[Gh.upd]) (ha.elim (fun e=>.inl sP) .inr) (fun _=>by simp[Gh.upd])
         obtain⟨k1,k2⟩:=hI.moveO r (He cx d) Dn hd hl (ob:=g.own r) (fun c h=>h) (.arr sz (es.take IN.toNat)) (.slice a' IN.toNat cap) IN.toNat true sS (fun FW=>by
          obtain⟨u1,u2,u3,u4⟩:=Bi g (He cx d) (.slice a' IN.toNat cap) IN.toNat true (g.own r) g.S;refine⟨u3,u2.trans BQ.symm,fun c hc=>al c (Cq hc),?_⟩;rcases a2 with ⟨b1,b2,b3⟩ | ⟨b,HL,E,vs,b1,b2,b3,b4,b5,b6,b7⟩
          .subst b1;rw[b2]at hv;cases hv;have h0:IN.toNat=0:=by simp only[Aw]at h2;omega
           exact .inl ⟨List.take_nil,by rw[u1,h0],u4.trans b3⟩
          .rw[b1]at hv;cases hv;refine .inr ⟨b,cap,E,vs,by rw[BQ];exact u1,u4.trans b2,by rw[BQ];omega,b4,b5,?_,b7⟩;rw[BQ];exact(B3.takeE al sP b6).mono FW (fun _ h=>h) (fun _ h=>h.elim))
         exact⟨_,w,_,_,_,Ce,hk,k1,k2,DM⟩
       .exact hk.elim
      .exact hk.elim
     .exact hk.elim
    .exact hk.elim
  .exact hk.elim
 .exact hk.elim
theorem Qs(hT:B7 P cx.T){d:Option Nat}{ty:Nat}{t:Nat->AV}(ht:∀x:Operand,Bo g w (AD h) (ev t x) (ρ x)){lo mx:Option Operand}(hx:Bo g w (AD h) x vx)(hk:ER cx d h ty x (BJ t lo) (BJ t hi) (BJ t mx) K):Kb P w0 g0 h0 h g w (Instr.sliceAt ty vx (lo.map ρ) (hi.map ρ) (mx.map ρ)) K:=by
 unfold ER at hk;split at hk
 .rename_i FM IN d7 e1 e2 e3;rw[H5 ht e1,H5 ht e2,H5 ht e3];split at hk
  .rename_i hs;split at hk
   .rename_i s;obtain⟨⟨h1,h2,h3⟩,hk⟩:=hk;obtain rfl:=hx.v_eq;have hb:=OF (P:=P) (w:=w) false s.size s.size FM IN none (.inl rfl) h1 h2 (by simpa using h3) sS;refine(Bk.val (x:=.string (s.extract (FM.getD 0).toNat (IN.getD s.size).toNat)) ?_ hk).does hI;simp only[Instr.sliceAt,Sem.run_bind,run_underlying (hT.string hs),Result.andThen_ok,Instr.slice];simp only[Option.map_none,KK,Cg,FK]at hb⊢;simp only[Sem.run_bind,hb,Result.andThen_ok,Sem.run_pure]
   .exact hk.elim
  .rename_i e hs;split at hk
   .exact hk.elim
   .rename_i k Dm;split at hk
    .rename_i tk es;have hr:=hx.slice_none;obtain⟨a,cap,hv,I4⟩:∃a cap,vx=.slice a es.length cap/\es.length<=cap:=by
      cases hr with
      |snil _ a cap=>exact⟨a,cap,rfl,Ar _⟩
      |slice _ _ b off sz cap val hc=>exact⟨_,cap,rfl,hc⟩
     subst hv;split at hk
     .obtain⟨⟨h1,h2,h3⟩,hl,hk⟩:=hk;have Ce:=DE (P:=P) (w:=w) hT hs Dm a es.length cap FM IN none (.inl rfl) h1 h2 (by simp only[Dh];omega) sS;refine Bk.does hI ⟨_,_,Ce,hk,(Bo.sub (c':=cap-(FM.getD 0).toNat) hr rfl hl (l:=(FM.getD 0).toNat) (m:=(IN.getD es.length).toNat) sP sP (by simp;omega) _ ?_).up _⟩;split
      .rename_i e;simp only[Dh,A1]at e;exact .inr ⟨by omega,rfl⟩
      .exact .inl rfl
     .rename_i m;split at hk
      .rename_i d hh;split at hk
       .obtain⟨⟨h1,h2,rfl,h3⟩,hl,hk⟩:=hk;have Ce:=DE (P:=P) (w:=w) hT hs Dm a es.length cap FM (some m) (some m) (.inr sS) h1 h2 sS (by simp only[BY];omega);simp only[BY]at Ce;have BQ:((es.take m.toNat).drop (FM.getD 0).toNat).length=m.toNat-(FM.getD 0).toNat:=by rw[BX,Al];omega
        refine Bk.does hI ⟨_,_,Ce,hk,.full _ _ _ _ ((Bo.sub (c':=m.toNat-(FM.getD 0).toNat) hr rfl hl (l:=(FM.getD 0).toNat) (m:=m.toNat) sP sP sP _ ?_).up _) (fun c hc=>hl c (Cq (Gb hc))) ⟨_,by rw[BQ]⟩⟩;split
        .rename_i e;exact .inr ⟨e,rfl⟩
        .exact .inl rfl
       split at hk
       .rename_i hd;obtain⟨⟨h1,h2,rfl,h3⟩,hl,hk⟩:=hk;have Ce:=DE (P:=P) (w:=w) hT hs Dm a es.length cap FM (some m) (some m) (.inr sS) h1 h2 sS (by simp only[BY];omega);simp only[BY]at Ce
        obtain⟨g',k1,k2,k3⟩:=Kt hI (sz:=(cx.T e).size) (n:=m.toNat-(FM.getD 0).toNat) hd (es:=(es.take m.toNat).drop (FM.getD 0).toNat) (fun c hc=>hl c (Cq (Gb hc))) (by rw[BX,Al];omega)
         (Bo.sub (c':=m.toNat-(FM.getD 0).toNat) hr rfl hl (l:=(FM.getD 0).toNat) (m:=m.toNat) sP sP sP (if m.toNat=(FM.getD 0).toNat then a else a.map (·.add ((FM.getD 0).toNat*(cx.T e).size))) (by
          split
          .rename_i e;exact .inr ⟨e,rfl⟩
          .exact .inl rfl))
        exact⟨_,w,g',_,_,Ce,hk,k1,k2,k3⟩
       .exact hk.elim
      .exact hk.elim
    .obtain⟨⟨h1,h2,h3⟩,h4,hk⟩:=hk;obtain rfl:=hx.v_eq;have Ce:=DE (P:=P) (w:=w) hT hs Dm none 0 0 FM IN d7 h4 sP (by simp only[Gq]at *;omega) (by simp only[Gq]at *;omega) (by simp only[Gq]at *;omega);refine Bk.does hI (Bk.val (x:=.slice none 0 0) ?_ hk);rw[Ce];simp only[h1,Gq,h2,h3];simp
    .rename_i r n;split at hk
     .rename_i sz es e0;split at hk
      .rename_i Mt;obtain rfl:=AB Mt;obtain⟨⟨h1,h2,h3,h4,h5⟩,hk⟩:=hk;have ho:=hI.objs r;rw[e0]at ho;obtain⟨t1,l1,al,a3⟩:=ho;have hl:(h r).live:=by rw[e0];trivial
       have ku:d7=none\/IN≠none:=h5.imp id (fun q=>q.2);cases hx with
       |msl _ _ _ a cap hu ht' hn ha IL=>
        have hv:=IL (h1.trans l1.symm);subst h1;have cp:∀c:Nat,es.length<=c->IN.getD es.length<=d7.getD c/\d7.getD c<=c:=fun c hc=>by
         rcases h5 with h5 | ⟨h5,Dn⟩
         .rw[h5];simp only[Dh];omega
         .obtain⟨m,hm⟩:=Option.ne_none_iff_exists'.1 Dn;rw[h5,hm];rw[hm]at h3 h4;simp only[BY]at h3 h4⊢;omega
        rcases a3 with ⟨rfl,q2,q3⟩ | ⟨b,HL,E,vs,q1,q2,q3,q4,q5,q6,q7⟩
        .rw[q2]at hv;cases hv;have Ce:=DE (P:=P) (w:=w) hT hs Dm none 0 0 FM IN d7 ku h2 h3 (cp 0 sS).1 (cp 0 sS).2
         obtain⟨k1,k2⟩:=hI.upd r .dead (g.ρ r) (g.ln r) (g.tk r) (g.own r) g.S w none ⟨rfl,rfl,rfl,Ad _⟩ (fun _ _ _=>rfl) (fun b e=>by cases e) (fun _ _ h=>h) (fun _ _ h=>.inl h) (fun b o e=>by cases e) (fun b hh _=>by cases hh) sS
          (fun _=>⟨rfl,Ad _,fun _=>rfl,fun _=>rfl⟩) (fun _ _=>trivial)
         refine⟨_,w,_,_,_,Ce,hk,k1,k2,?_⟩;have z1:((FM.getD 0).toNat)=0:=by simp only[Aw,Gq]at h3 h4;omega
         have z2:((IN.getD (([]:List (List AV)).length:Int)).toNat)=0:=by simp only[Aw,Gq]at h3 h4⊢;omega
         simp only[List.take_nil,List.drop_nil];have z3:((IN.getD ((0:Nat):Int)).toNat)=0:=z2;rw[z1,z3];exact .snil _ _ _
        .rw[q1]at hv;cases hv;have Ce:=DE (P:=P) (w:=w) hT hs Dm (some ⟨b,0,none⟩) es.length cap FM IN d7 ku h2 h3 (cp _ q3).1 (cp _ q3).2;have Wr:=(hI.loc r b hl q2).1
         obtain⟨k1,k2⟩:=hI.upd r .dead (g.ρ r) (g.ln r) (g.tk r) (g.own r) (g.more b (es.length*(cx.T e).size)) w none ⟨rfl,rfl,rfl,Ad _⟩ (fun _ _ _=>rfl) (fun b e=>by cases e) (fun _ _ h=>.inl h)
          (fun b' o hs=>hs.elim .inl (fun hs=>.inr ⟨by rw[hs.1];exact Wr,.inr ⟨hl,by rw[hs.1];exact q2⟩⟩)) (fun b o e=>by cases e) (fun b hh _=>by cases hh) sS
          (fun _=>⟨rfl,Ad _,fun _=>rfl,fun _=>rfl⟩) (fun _ _=>trivial)
         have Dd:=Bo.slice_row (g:=g.upd r (g.ρ r) (g.ln r) (g.tk r) (g.own r) (g.more b (es.length*(cx.T e).size))) (U:=D2) q4 al q3 (q6.mono k2.keeps (fun _ h=>h) (fun _ h=>h.elim)) (fun o ho=>.inr ⟨rfl,ho⟩);have rC:=cp _ q3;refine⟨_,w,_,_,_,Ce,hk,k1,k2,(Bo.sub (c':=(d7.getD cap).toNat-(FM.getD 0).toNat) Dd rfl al (l:=(FM.getD 0).toNat) (m:=(IN.getD es.length).toNat) sP sP sP _ ?_).up _⟩;split
         .rename_i e;exact .inr ⟨by omega,rfl⟩
         .exact .inl rfl
      .exact hk.elim
     .exact hk.elim
    .exact hk.elim
  .exact hk.elim
 .exact hk.elim
theorem Pm(hT:B7 P cx.T){d:Option Nat}{ty:Nat}{n c:AV}{vn vc:Value}(hn:Bo g w (AD h) n vn)(hc:Bo g w (AD h) c vc)(hk:G3 cx d h ty n c K) :
  Kb P w0 g0 h0 h g w (Instr.makeSlice ty vn vc) K:=by
 unfold G3 at hk;split at hk
 .rename_i e n c hs;obtain rfl:=hn.v_eq;obtain rfl:=hc.v_eq;split at hk
  .rename_i K7;split at hk
   .rename_i LQ;have LQ:=AB LQ;split at hk
    .exact hk.elim
    .rename_i k Dm;obtain⟨⟨h1,h2,h3,h4⟩,hk⟩:=hk;obtain⟨i,z,i1,i2,i3,i4,i5⟩:=FF hT Dm;have cy:(cx.T e).zc≠[]:=fun e0=>by rw[e0]at LQ;rw[Dm]at LQ;cases LQ
     have wn:IntKind.i64.wrap n=n:=JE ⟨by omega,by omega⟩;have wc:IntKind.i64.wrap c=c:=JE ⟨by omega,by omega⟩;have EM:∀l:List AV,(∀a∈l,one a=true)->EY l=true:=by
      intro l
      induction l with
      |nil=>intro _;rfl
      |cons a l ih=>intro h;simp[EY,h a (List.mem_cons_self ..),ih (fun b hb=>h b (List.mem_cons_of_mem _ hb))]
     have gq:((Array.range (c.toNat*(cx.T e).size)).map fun k=>z.cells[k % z.cells.size]!).toList=(List.replicate c.toNat (cx.T e).zc).flatten:=by
      rw[FP c.toNat _ cy,LQ,i5];have e6:z.cells.size=(cx.T e).size:=by rw[<-LQ,i5];simp
      simp[e6,Array.getElem!_eq_getD]
     have sM:(cx.T e).zc.length=(cx.T e).size:=LQ;have qc:∀c'∈List.replicate c.toNat (cx.T e).zc,c'.length=(cx.T e).size:=fun c' hc=>by rw[BM hc];exact LQ
     have ol : ∀c'∈List.replicate n.toNat ((cx.T e).zc.map AV.v),c'.length=(cx.T e).size:=fun c' hc=>by rw[BM hc,AO];exact LQ
     have om:∀c'∈List.replicate n.toNat (cx.T e).zc,c'.length=(cx.T e).size:=fun c' hc=>by rw[BM hc];exact LQ
     obtain⟨g',av,h',q1,q2,q3,q4⟩:=Hk hI hk (vs:=(Array.range (c.toNat*(cx.T e).size)).map fun k=>z.cells[k % z.cells.size]!) (cap:=c.toNat) e ol (by rw[A7];omega) sS (by
      rw[gq,A7];have e1:(List.replicate n.toNat ((cx.T e).zc.map AV.v)).flatten=(List.replicate n.toNat (cx.T e).zc).flatten.map AV.v:=by
       rw[List.map_flatten,List.map_replicate]
      have e2:(List.replicate c.toNat (cx.T e).zc).flatten.take (n.toNat*(cx.T e).size)=(List.replicate n.toNat (cx.T e).zc).flatten:=by
       obtain⟨m,hm⟩:∃m,c.toNat=n.toNat+m:=⟨c.toNat-n.toNat,by omega⟩;rw[hm,<-List.replicate_append_replicate,Ec,DF (by rw[Cr om,A7])]
      rw[e1,e2];refine B3.vals (EM _ (fun a ha=>?_));obtain⟨x,hx,rfl⟩:=AA.1 ha;obtain⟨l,hl,hx⟩:=Nj.1 hx;rw[BM hl]at hx;exact Jm K7 _ (AA.2 ⟨x,hx,rfl⟩)) w ⟨rfl,rfl,rfl,rfl⟩
     rw[A7]at q4;refine⟨_,_,g',av,h',?_,q1,q2,q3,q4⟩;have lX:¬((cx.T e).bytes*c>2 ^ 48):=by rw[Int.mul_comm];omega
     have I5:((decide (c<0)||decide (((cx.T e).bytes:Int)*c>2 ^ 48))||decide (n<0)||decide (n>c))=false:=by
      simp only[Bool.or_eq_false_iff,CB];exact⟨⟨⟨by omega,lX⟩,by omega⟩,by omega⟩
     simp only[Instr.makeSlice,Sem.run_bind,run_underlying (hT.slice hs),Result.andThen_ok,asInt,asIntOf,Sem.run_pure,typeInfo,run_program,i1,i4,wn,wc,I5,Cg,FK,run_askRoom,hT.size1 w Dm]
     by_cases hz:c.toNat*(k+1)=0
     .have KD:c.toNat=0:=by
       rcases Nat.mul_eq_zero.1 hz with h | h
       .exact h
       .cases h
      rw[KD];simp only[Gt,if_true];simp only[show Array.range 0=#[]from rfl,Array.map_empty];simp[newRow]
     .simp only[Aj hz,Sem.run_bind,zeroValue,typeInfo,run_program,i1,i2,Result.andThen_ok,Sem.run_pure];rw[Dm];simp[newRow]
   .exact hk.elim
  .exact hk.elim
 .exact hk.elim
end
end Go.Eng
namespace Go.Eng
open Go.ChangeMaps (setBlock)
variable {BK:List (Value×AV)}{es:Array MapEntry}{sh:DG}{vx:Value}{α β:Type}{f:α->β}{l:List α}{ck:Nat}{w:World}{k x y:Value}{a:AV}{K:HK}{r:Nat}{o':Obj}{j:Nat}{v:AV}{T:EU}
theorem Po{o:Obj}(h:w.heap[r]?=some o):(setBlock w r o').heap[r]?=some o':=by
 have:=(BN.1 h).1
 simp[setBlock,this]
theorem OH{k:Nat}(h:k≠r):(setBlock w r o').heap[k]?=w.heap[k]?:=by
 simp[setBlock,Ne.symm h]
theorem J9(w:World)(r:Nat)(o' : Obj):(setBlock w r o').heap.size=w.heap.size:=by simp[setBlock]
theorem Li(h:(l.map f).Nodup):l.Nodup:=by
 induction l with
 |nil=>exact List.nodup_nil
 |cons c l ih=>
  rw[Bq,JI]at h;exact JI.2 ⟨fun hc=>h.1 (AA.2 ⟨c,hc,rfl⟩),ih h.2⟩
theorem Qb(h:(l.map f).Nodup){i:Nat}{a b:α}(ha:l[i]?=some a)(hb:l[j]?=some b)(he:f a=f b):i=j:=by
 induction l generalizing i j with
 |nil=>simp at ha
 |cons c l ih=>
  rw[Bq,JI]at h;cases i with
  |zero=>
   cases j with
   |zero=>rfl
   |succ j=>
    simp only[AX,Ba,D8]at ha hb;exact absurd (AA.2 ⟨b,AW hb,by rw[<-he,ha]⟩) h.1
  |succ i=>
   cases j with
   |zero=>
    simp only[AX,Ba,D8]at ha hb;exact absurd (AA.2 ⟨a,AW ha,by rw[he,hb]⟩) h.1
   |succ j=>exact Aa (·+1) (ih h.2 ha hb)
open Classical in
theorem WP{b:AV}(h:(k,b)∈BK):FN BK k a=BK.map fun p=>if p.1=k then(k,a)else p:=Av ⟨b,h⟩
open Classical in
theorem P0(h:∀b,(k,b)∉BK):FN BK k a=BK++[(k,a)]:=Aj (fun⟨b,e⟩=>h b e)
theorem PZ(f:AV->AV)(h:Fk sh es ck BK):Fk sh es ck (BK.map fun p=>(p.1,f p.2)):=by
 obtain⟨h1,h2,h3,h4,h5,h6⟩:=h;refine⟨by simp[h1],fun i kv e q1 q2=>?_,fun kv Mr=>?_,?_,h5,h6⟩
 .rw[Ap]at q1;obtain⟨p,q3,rfl⟩:=Ay.1 q1;exact h2 i p e q3 q2
 .obtain⟨p,hp,rfl⟩:=AA.1 Mr;exact h3 p hp
 .rw[Cw];exact h4
theorem Lc(h:Fk sh es ck BK)(hj:BK[j]?=some (x,a)) :
  Fk sh (es.modify j fun e=>{ e with key:=x,val:=y }) ck (FN BK x v) /\
   ∀(i:Nat) (kv:Value×AV) (e:MapEntry),(FN BK x v)[i]?=some kv->(es.modify j fun e=>{ e with key:=x,val:=y })[i]?=some e ->
    (kv.2=v/\e.val=y)\/(BK[i]?=some kv/\es[i]?=some e):=by
 classical
 rw[WP (AW hj)];obtain⟨h1,h2,h3,h4,h5,h6⟩:=h;have hm:∀i e,(es.modify j fun e=>{ e with key:=x,val:=y })[i]?=some e->∃e0,es[i]?=some e0/\e.born=e0.born/\(if i=j then e.key=x/\e.val=y else e=e0):=by
  intro i e he;rw[Array.getElem?_modify]at he;split at he
  .rename_i e1;subst e1;obtain⟨e0,q1,q2⟩:=Ay.1 he;exact⟨e0,q1,by rw[<-q2],by rw[Av rfl,<-q2];exact⟨rfl,rfl⟩⟩
  .rename_i e1;exact⟨e,he,rfl,by rw[Aj (fun q=>e1 q.symm)]⟩
 have hk:∀i kv,(BK.map fun p=>if p.1=x then(x,v)else p)[i]?=some kv->∃p,BK[i]?=some p/\kv.1=p.1/\(if i=j then kv.2=v else kv=p):=by
  intro i kv Mr;rw[Ap]at Mr;obtain⟨p,q1,q2⟩:=Ay.1 Mr;refine⟨p,q1,?_⟩
  by_cases e:p.1=x
  .rw[Av e]at q2;subst q2
   have:=Qb h4 q1 hj e
   exact⟨e.symm,by rw[Av this]⟩
  .rw[Aj e]at q2;subst q2;refine⟨rfl,?_⟩;rw[Aj];intro e2;subst e2;rw[q1]at hj;cases hj;exact e rfl
 have kk:(BK.map fun p=>if p.1=x then(x,v)else p).map (·.1)=BK.map (·.1):=by
  rw[Cw];apply BH;intro p _;simp only[Function.comp];split
  .rename_i e;exact e.symm
  .rfl
 refine⟨⟨by simp[h1],fun i kv e q1 q2=>?_,fun kv Mr=>?_,by rw[kk];exact h4,fun i e q=>?_,fun i i' e e' q q' hb=>?_⟩,fun i kv e q1 q2=>?_⟩
 .obtain⟨p,p1,p2,p3⟩:=hk i kv q1;obtain⟨e0,r1,r2,r3⟩:=hm i e q2
  have:=h2 i p e0 p1 r1
  split at r3
  .rename_i ij;subst ij;rw[hj]at p1;cases p1;rw[r3.1,p2]
  .rw[r3,p2];exact this
 .obtain⟨i,hi⟩:=Cv.1 Mr;obtain⟨p,p1,p2,p3⟩:=hk i kv hi;rw[p2];exact h3 p (AW p1)
 .obtain⟨e0,r1,r2,_⟩:=hm i e q;rw[r2];exact h5 i e0 r1
 .obtain⟨e0,r1,r2,_⟩:=hm i e q;obtain⟨e1,s1,s2,_⟩:=hm i' e' q';exact h6 i i' e0 e1 r1 s1 (by rw[<-r2,<-s2];exact hb)
 .obtain⟨p,p1,p2,p3⟩:=hk i kv q1;obtain⟨e0,r1,r2,r3⟩:=hm i e q2;split at r3
  .rename_i ij;rw[Av ij]at p3;exact .inl ⟨p3,r3.2⟩
  .rename_i ij;rw[Aj ij]at p3;exact .inr ⟨by rw[p3];exact p1,by rw[r3];exact r1⟩
theorem Oi(h:Fk sh es ck BK)(hx:Qp sh x=true)(hn:∀a,(x,a)∉BK) :
  Fk sh (es.push { key:=x,val:=y,born:=ck }) (ck+1) (FN BK x v) /\
   ∀(i:Nat) (kv:Value×AV) (e:MapEntry),(FN BK x v)[i]?=some kv->(es.push { key:=x,val:=y,born:=ck })[i]?=some e ->
    (kv.2=v/\e.val=y)\/(BK[i]?=some kv/\es[i]?=some e):=by
 rw[P0 hn];obtain⟨h1,h2,h3,h4,h5,h6⟩:=h;have hm:∀i e,(es.push { key:=x,val:=y,born:=ck })[i]?=some e->(es[i]?=some e/\i<es.size)\/(i=es.size/\e={ key:=x,val:=y,born:=ck }):=by
  intro i e he;rw[Array.getElem?_push]at he;split at he
  .rename_i q;cases he;exact .inr ⟨q,rfl⟩
  .exact .inl ⟨he,(BN.1 he).1⟩
 have hk:∀i kv,(BK++[(x,v)])[i]?=some kv->(BK[i]?=some kv/\i<es.size)\/(i=es.size/\kv=(x,v)):=by
  intro i kv Mr;rw[IQ]at Mr;split at Mr
  .rename_i q;exact .inl ⟨Mr,by omega⟩
  .rename_i q
   have:i-BK.length=0:=by
    have:=(Au.1 Mr).1
    simp at this;omega
   rw[this]at Mr;simp at Mr;exact .inr ⟨by omega,Mr.symm⟩
 refine⟨⟨by simp[h1],fun i kv e q1 q2=>?_,fun kv Mr=>?_,?_,fun i e q=>?_,fun i i' e e' q q' hb=>?_⟩,fun i kv e q1 q2=>?_⟩
 .rcases hk i kv q1 with ⟨p1,p2⟩ | ⟨p1,p2⟩<;>rcases hm i e q2 with ⟨r1,r2⟩ | ⟨r1,r2⟩
  .exact h2 i kv e p1 r1
  .omega
  .omega
  .rw[p2,r2]
 .rcases By.1 Mr with q | q
  .exact h3 kv q
  .rw[Bh.1 q];exact hx
 .rw[AK,List.nodup_append];refine⟨h4,by simp,fun a ha b hb e=>?_⟩;simp only[Bq,EJ,Bh]at hb;obtain⟨p,p1,p2⟩:=AA.1 ha;refine hn p.2 ?_
  have:p=(x,p.2):=by rw[<-hb,<-e,<-p2]
  rw[<-this];exact p1
 .rcases hm i e q with ⟨r1,_⟩ | ⟨_,r2⟩
  .have:=h5 i e r1;omega
  .rw[r2];exact En _
 .rcases hm i e q with ⟨r1,_⟩ | ⟨r1,r2⟩<;>rcases hm i' e' q' with ⟨s1,_⟩ | ⟨s1,s2⟩
  .exact h6 i i' e e' r1 s1 hb
  .have:=h5 i e r1;rw[s2]at hb;dsimp only at hb;omega
  .have:=h5 i' e' s1;rw[r2]at hb;dsimp only at hb;omega
  .omega
 .rcases hk i kv q1 with ⟨p1,p2⟩ | ⟨p1,p2⟩<;>rcases hm i e q2 with ⟨r1,r2⟩ | ⟨r1,r2⟩
  .exact .inr ⟨p1,r1⟩
  .omega
  .omega
  .exact .inl ⟨by rw[p2],by rw[r2]⟩
section
variable {P:Program}{w0:World}{g0:Gh}{h0 h:Nat->HO}{g:Gh}{w:World}(hI:Do w0 g0 h0 h g w)
include hI
theorem Do.swap{r b:Nat}(hl:(h r).live)(ho:g.own r=some b)(hn:∀o,¬g.S b o)(o' : HO){ob:Obj}(hb:w.heap[b]?=some ob)(bm : Obj)(w1:World)(IK:w1.heap=w.heap/\w1.os=w.os/\w1.tape=w.tape/\w1.output=w.output)(Dn:o'≠.free)
  (G0:Ho g (g.upd r (g.ρ r) (g.ln r) (g.tk r) (g.own r) g.S) (AD h)->DO g w (g.upd r (g.ρ r) (g.ln r) (g.tk r) (g.own r) g.S) (setBlock w1 b bm)->(setBlock w1 b bm).heap[b]?=some bm ->
   (∀k,k≠b->(setBlock w1 b bm).heap[k]?=w.heap[k]?) ->
   C3 (g.upd r (g.ρ r) (g.ln r) (g.tk r) (g.own r) g.S) (setBlock w1 b bm) (AD (AH h r o')) r o') :
  Do w0 g0 h0 (AH h r o') (g.upd r (g.ρ r) (g.ln r) (g.tk r) (g.own r) g.S) (setBlock w1 b bm)/\Le h g w (AH h r o') (g.upd r (g.ρ r) (g.ln r) (g.tk r) (g.own r) g.S) (setBlock w1 b bm):=by
 have Dc:=(hI.loc r b hl ho).1;have Dz:(setBlock w1 b bm).heap[b]?=some bm:=Po (by rw[IK.1];exact hb);have Uo:∀k,k≠b->(setBlock w1 b bm).heap[k]?=w.heap[k]?:=fun k hk=>by rw[OH hk,IK.1]
 refine hI.upd r o' _ _ _ _ _ _ (some b) ⟨IK.2.1,IK.2.2.1,IK.2.2.2,by rw[J9,IK.1];exact Ad _⟩ (fun k _ Dn=>Uo k (fun e=>Dn (by rw[e]))) (fun b' e=>by cases e;exact⟨hl,ho⟩) (fun _ _ h=>h) (fun _ _ h=>.inl h)
  (fun b' o e hs=>by cases e;exact absurd hs (hn o)) (fun b' _ e=>?_) Dn (fun _=>⟨rfl,Ad _,fun _=>rfl,fun _=>rfl⟩) (fun hg hk=>G0 hg hk Dz Uo)
 rw[ho]at e;cases e;exact⟨by rw[J9,IK.1];exact Dc,.inl ⟨hl,ho⟩⟩
theorem J5(hT:B7 P T){ty:Nat}{m k x:AV}{vm vk:Value}(hm:Bo g w (AD h) m vm)(hk' : Bo g w (AD h) k vk)(hx:Bo g w (AD h) x vx)(hk:Fi T h ty m k x K) :
  XM P w0 g0 h0 h g w (Instr.mapUpdate ty vm vk vx) K:=by
 unfold Fi at hk;split at hk
 .rename_i r;split at hk
  .rename_i sh BK e0;obtain⟨kt,e,k1,k2,k3,k4⟩:=Jv hk' hk;have ho:=hI.objs r;rw[e0]at ho;obtain⟨t1,b,es,ck,a1,a2,a3,a4,a5,a6⟩:=ho;have hl:(h r).live:=by rw[e0];trivial
   cases hm with
   |mref _ _ b' hu ht hp=>
    rw[a2]at hp;cases hp;have Zh:=hT.map k1;have Fg:=run_getObj_map (P:=P) w b es ck a3;have Rd:∀o',(setObj b o').run P w=.ok () (setBlock w b o'):=fun o'=>by simp[setObj,Sem.run,a3,setBlock]
    have LO:=fun bb=>Ji hT k2 w bb k3;obtain⟨res,r1,r2⟩:=Kw hT k2 w k3 es.toList a4.shape;have bl:=Bo.str hI.objs hx;rcases r2 with ⟨rfl,hn⟩ | ⟨j,en,rfl,hj,NY⟩
    .obtain⟨m1,m2⟩:=Oi a4 (x:=vk) (v:=str h x) (y:=vx) k3 (fun a=>a4.none hn a);obtain⟨i1,i2⟩:=Do.swap hI hl a1 a6 (.map sh (FN BK vk (str h x))) a3 (.map (es.push { key:=vk,val:=vx,born:=ck }) (ck+1)) w ⟨rfl,rfl,rfl,rfl⟩ sS (fun hg FW Dz Uo=>by
      obtain⟨u1,u2,u3,u4⟩:=Bi g r (g.ρ r) (g.ln r) (g.tk r) (g.own r) g.S;refine⟨u3.trans t1,b,_,_,u4.trans a1,u1.trans a2,Dz,m1,fun i kv e q1 q2=>?_,a6⟩;rcases m2 i kv e q1 q2 with ⟨p1,p2⟩ | ⟨p1,p2⟩
      .rw[p1,p2];exact bl.mono FW (fun _ h=>h) (fun _ h=>h.elim)
      .exact(a5 i kv e p1 p2).mono FW (fun _ h=>h) (fun _ h=>h.elim))
     refine⟨_,_,_,?_,k4,i1,i2⟩;simp[Instr.mapUpdate,run_underlying Zh,Fg,LO,r1,Rd]
    .obtain⟨a,q1,q2⟩:=a4.some hj NY;obtain⟨m1,m2⟩:=Lc a4 (x:=vk) (v:=str h x) (y:=vx) q1;obtain⟨i1,i2⟩:=Do.swap hI hl a1 a6 (.map sh (FN BK vk (str h x))) a3 (.map (es.modify j fun e=>{ e with key:=vk,val:=vx }) ck) w ⟨rfl,rfl,rfl,rfl⟩ sS (fun hg FW Dz Uo=>by
      obtain⟨u1,u2,u3,u4⟩:=Bi g r (g.ρ r) (g.ln r) (g.tk r) (g.own r) g.S;refine⟨u3.trans t1,b,_,_,u4.trans a1,u1.trans a2,Dz,m1,fun i kv e q1 q2=>?_,a6⟩;rcases m2 i kv e q1 q2 with ⟨p1,p2⟩ | ⟨p1,p2⟩
      .rw[p1,p2];exact bl.mono FW (fun _ h=>h) (fun _ h=>h.elim)
      .exact(a5 i kv e p1 p2).mono FW (fun _ h=>h) (fun _ h=>h.elim))
     refine⟨_,_,_,?_,k4,i1,i2⟩;have fW : es[j]?=some en:=by simpa using hj
     have JM:=MD (P:=P) w k3;simp[Instr.mapUpdate,run_underlying Zh,Fg,LO,r1,Rd,fW,NY,JM]
  .rename_i sh BK e0;obtain⟨kt,e,k1,k2,k3,k4⟩:=Jv hk' hk;have ho:=hI.objs r;rw[e0]at ho;obtain⟨t1,b,es,ck,a1,a2,a3,a4,a5,a6⟩:=ho;have hl:(h r).live:=by rw[e0];trivial
   cases hm with
   |mref _ _ b' hu ht hp=>
    rw[a2]at hp;cases hp;have Zh:=hT.map k1;have Fg:=run_getObj_map (P:=P) w b es ck a3;have Rd:∀o',(setObj b o').run P w=.ok () (setBlock w b o'):=fun o'=>by simp[setObj,Sem.run,a3,setBlock]
    have LO:=fun bb=>Ji hT k2 w bb k3;obtain⟨res,r1,r2⟩:=Kw hT k2 w k3 es.toList a4.shape;rcases r2 with ⟨rfl,hn⟩ | ⟨j,en,rfl,hj,NY⟩
    .obtain⟨m1,m2⟩:=Oi a4 (x:=vk) (v:=x) (y:=vx) k3 (fun a=>a4.none hn a);obtain⟨i1,i2⟩:=Do.swap hI hl a1 a6 (.mapU sh (FN BK vk (x))) a3 (.map (es.push { key:=vk,val:=vx,born:=ck }) (ck+1)) w ⟨rfl,rfl,rfl,rfl⟩ sS (fun hg FW Dz Uo=>by
      obtain⟨u1,u2,u3,u4⟩:=Bi g r (g.ρ r) (g.ln r) (g.tk r) (g.own r) g.S;have IP:∀i,AD h i->AD (AH h r (.mapU sh (FN BK vk x))) i:=fun i hi=>CV sS i hi;refine⟨u3.trans t1,b,_,_,u4.trans a1,u1.trans a2,Dz,m1,fun i kv e q1 q2=>?_,a6⟩;rcases m2 i kv e q1 q2 with ⟨p1,p2⟩ | ⟨p1,p2⟩
      .rw[p1,p2];exact hx.mono FW IP hg
      .exact(a5 i kv e p1 p2).mono FW IP hg)
     refine⟨_,_,_,?_,k4,i1,i2⟩;simp[Instr.mapUpdate,run_underlying Zh,Fg,LO,r1,Rd]
    .obtain⟨a,q1,q2⟩:=a4.some hj NY;obtain⟨m1,m2⟩:=Lc a4 (x:=vk) (v:=x) (y:=vx) q1;obtain⟨i1,i2⟩:=Do.swap hI hl a1 a6 (.mapU sh (FN BK vk (x))) a3 (.map (es.modify j fun e=>{ e with key:=vk,val:=vx }) ck) w ⟨rfl,rfl,rfl,rfl⟩ sS (fun hg FW Dz Uo=>by
      obtain⟨u1,u2,u3,u4⟩:=Bi g r (g.ρ r) (g.ln r) (g.tk r) (g.own r) g.S;have IP:∀i,AD h i->AD (AH h r (.mapU sh (FN BK vk x))) i:=fun i hi=>CV sS i hi;refine⟨u3.trans t1,b,_,_,u4.trans a1,u1.trans a2,Dz,m1,fun i kv e q1 q2=>?_,a6⟩;rcases m2 i kv e q1 q2 with ⟨p1,p2⟩ | ⟨p1,p2⟩
      .rw[p1,p2];exact hx.mono FW IP hg
      .exact(a5 i kv e p1 p2).mono FW IP hg)
     refine⟨_,_,_,?_,k4,i1,i2⟩;have fW : es[j]?=some en:=by simpa using hj
     have JM:=MD (P:=P) w k3;simp[Instr.mapUpdate,run_underlying Zh,Fg,LO,r1,Rd,fW,NY,JM]
  .exact hk.elim
 .exact hk.elim
theorem Ku{d b:Nat}{ck:Nat}(hd:h d=.free)(hS:g.S b 0)(hb:w.heap[b]?=some (.map es ck))(hm:Fk sh es ck BK)(hv:∀(i:Nat) (kv:Value×AV) (e:MapEntry),BK[i]?=some kv->es[i]?=some e->Bo g w D2 kv.2 e.val) :
  ∃g',Do w0 g0 h0 (AH h d (.iter BK BK none)) g' (w.alloc (.mapIter (some b) ck #[] ck))/\Le h g w (AH h d (.iter BK BK none)) g' (w.alloc (.mapIter (some b) ck #[] ck)) /\
   Bo g' (w.alloc (.mapIter (some b) ck #[] ck)) (AD (AH h d (.iter BK BK none))) (.ref d 0) (.pointer (some ⟨w.heap.size,0,none⟩)):=by
 obtain⟨k1,k2⟩:=hI.newOwn hd (.iter BK BK none) (.mapIter (some b) ck #[] ck) (.pointer (some ⟨w.heap.size,0,none⟩)) 0 false w ⟨rfl,rfl,rfl,rfl⟩ sS (fun hg hk=>by
  obtain⟨u1,u2,u3,u4⟩:=Bi g d (.pointer (some ⟨w.heap.size,0,none⟩)) 0 false (some w.heap.size) g.S;obtain⟨c1,c2,c3⟩:=hk b 0 hS
  exact⟨u3,w.heap.size,b,ck,#[],ck,es,ck,u4,u1,E7 w _ rfl,c1,c3 es ck hb,⟨sh,hm⟩,rfl,rfl,fun i kv e q1 q2=>(hv i kv e q1 q2).mono hk (fun _ h=>h) (fun _ h=>h.elim),
   ⟨Li hm.2.2.2.1,fun _ h=>h⟩,fun i kv e q1 q2=>by simp[List.mem_of_getElem? q1],trivial,fun o ho=>by have:=hI.slt _ _ ho;omega⟩)
 refine⟨_,k1,k2,.ref _ d 0 w.heap.size (by unfold AD;rw[AM];simp) ?_ ?_⟩<;>simp[Gh.upd]
theorem Mx{r b:Nat}{ck:Nat}(e0:h r=.map sh BK)(a1:g.own r=some b)(a2:g.ρ r=.map (some b))(a3:w.heap[b]?=some (.map es ck))(a4:Fk sh es ck BK)(a5:∀(i:Nat) (kv:Value×AV) (e:MapEntry),BK[i]?=some kv->es[i]?=some e->Bo g w D2 kv.2 e.val)(t1:g.tk r=false) :
  ∃g',Do w0 g0 h0 (AH h r (.rom sh BK)) g' w/\Le h g w (AH h r (.rom sh BK)) g' w/\g'.S b 0:=by
 have hl:(h r).live:=by rw[e0];trivial
 have Dc:=(hI.loc r b hl a1).1
 obtain⟨k1,k2⟩:=hI.upd r (.rom sh BK) (g.ρ r) (g.ln r) (g.tk r) none (g.more b 1) w none ⟨rfl,rfl,rfl,Ad _⟩ (fun _ _ _=>rfl) (fun b e=>by cases e) (fun _ _ h=>.inl h)
  (fun b' o hs=>hs.elim .inl (fun hs=>.inr ⟨by rw[hs.1];exact Dc,.inr ⟨hl,by rw[hs.1];exact a1⟩⟩)) (fun b o e=>by cases e) (fun b hh _=>by cases hh) sS
  (fun _=>⟨rfl,Ad _,fun _=>rfl,fun _=>rfl⟩) (fun hg hk=>by
   obtain⟨u1,u2,u3,u4⟩:=Bi g r (g.ρ r) (g.ln r) (g.tk r) none (g.more b 1);exact⟨u3.trans t1,b,u1.trans a2,.cmap _ sh BK b es ck (.inr ⟨rfl,Pw⟩) a3 a4 (fun i kv e q1 q2=>(a5 i kv e q1 q2).mono hk (fun _ h=>h) (fun _ h=>h.elim))⟩)
 exact⟨_,k1,k2,.inr ⟨rfl,Pw⟩⟩
theorem Rk{r b:Nat}{ck:Nat}(e0:h r=.mapU sh BK)(a1:g.own r=some b)(a2:g.ρ r=.map (some b))(a3:w.heap[b]?=some (.map es ck))(a4:Fk sh es ck BK)(a5:∀(i:Nat) (kv:Value×AV) (e:MapEntry),BK[i]?=some kv->es[i]?=some e->Bo g w (AD h) kv.2 e.val)(t1:g.tk r=false) :
  ∃g',Do w0 g0 h0 (AH h r (.rom sh (TF h BK))) g' w/\Le h g w (AH h r (.rom sh (TF h BK))) g' w/\g'.S b 0:=by
 have hl:(h r).live:=by rw[e0];trivial
 have Dc:=(hI.loc r b hl a1).1
 obtain⟨k1,k2⟩:=hI.upd r (.rom sh (TF h BK)) (g.ρ r) (g.ln r) (g.tk r) none (g.more b 1) w none ⟨rfl,rfl,rfl,Ad _⟩ (fun _ _ _=>rfl) (fun b e=>by cases e) (fun _ _ h=>.inl h)
  (fun b' o hs=>hs.elim .inl (fun hs=>.inr ⟨by rw[hs.1];exact Dc,.inr ⟨hl,by rw[hs.1];exact a1⟩⟩)) (fun b o e=>by cases e) (fun b hh _=>by cases hh) sS
  (fun _=>⟨rfl,Ad _,fun _=>rfl,fun _=>rfl⟩) (fun hg hk=>by
   obtain⟨u1,u2,u3,u4⟩:=Bi g r (g.ρ r) (g.ln r) (g.tk r) none (g.more b 1);refine⟨u3.trans t1,b,u1.trans a2,.cmap _ sh _ b es ck (.inr ⟨rfl,Pw⟩) a3 (PZ _ a4) (fun i kv e q1 q2=>?_)⟩;unfold TF at q1;rw[Ap]at q1;obtain⟨p,q3,rfl⟩:=Ay.1 q1;exact((a5 i p e q3 q2).str hI.objs).mono hk (fun _ h=>h) (fun _ h=>h.elim))
 exact⟨_,k1,k2,.inr ⟨rfl,Pw⟩⟩
theorem Xk(hT:B7 P T){ty kt e:Nat}(ht:(T ty).d=.map kt e){d:Option Nat}{x:AV}(hx:Bo g w (AD h) x vx)(hk:UH d h x K) :
  Kb P w0 g0 h0 h g w (Instr.range ty vx) K:=by
 have hu:=hT.map ht;unfold UH at hk;split at hk
 .exact hk.elim
 .rename_i d;split at hk
  .rename_i hd;have Ce:∀b es ck,w.heap[b]?=some (.map es ck)->(Instr.range ty (.map (some b))).run P w=.ok (.pointer (some ⟨w.heap.size,0,none⟩)) (w.alloc (.mapIter (some b) ck #[] ck)):=fun b es ck hb=>by
    simp[Instr.range,run_underlying hu,run_getObj_map (P:=P) w b es ck hb]
   split at hk
   .cases hx with
    |cmap _ _ _ b es ck hS hb hm hv=>
     obtain⟨g',k1,k2,k3⟩:=Ku hI hd hS hb hm hv;exact⟨_,_,_,_,_,Ce _ _ _ hb,hk,k1,k2,k3⟩
   .rename_i r;have ho:=hI.objs r;cases hx with
    |mref _ _ b Zh ht' hp=>
     split at hk
     .rename_i sh BK e0;rw[e0]at ho;obtain⟨_,b',a1,a2⟩:=ho;rw[a1]at hp;cases hp;cases a2 with
      |cmap _ _ _ _ es ck hS hb hm hv=>
       obtain⟨g',k1,k2,k3⟩:=Ku hI hd hS hb hm hv;exact⟨_,_,_,_,_,Ce _ _ _ hb,hk,k1,k2,k3⟩
     .rename_i sh BK e0;rw[e0]at ho;obtain⟨t1,b',es,ck,a1,a2,a3,a4,a5,a6⟩:=ho;rw[a2]at hp;cases hp;obtain⟨g1,i1,i2,i3⟩:=Mx hI e0 a1 a2 a3 a4 a5 t1;have Dn:d≠r:=fun e=>by rw[e,e0]at hd;cases hd
      obtain⟨g',k1,k2,k3⟩:=Ku i1 (by rw[Bs _ _ _ _ Dn];exact hd) i3 a3 a4 (fun i kv e q1 q2=>(a5 i kv e q1 q2).mono i2.keeps (fun _ h=>h) (fun _ h=>h.elim));exact⟨_,_,_,_,_,Ce _ _ _ a3,hk,k1,i2.trans k2,k3⟩
     .exact hk.elim
   .exact hk.elim
  .exact hk.elim
theorem ZL{ty:TypeId}{x:AV}(hx:Bo g w (AD h) x vx)(hk:ZK h x K):Kb P w0 g0 h0 h g w (Instr.next vx false ty) K:=by
 unfold ZK at hk;split at hk
 .rename_i r;split at hk
  .rename_i all rem Cl e0;have ho:=hI.objs r;rw[e0]at ho;obtain⟨t1,b,mb,Ia,seen,st,es,ck,a1,a2,a3,a4,a5,⟨sh,a6⟩,a7,a8,a9,RQ,UR,a12,eK⟩:=ho;have hl:(h r).live:=by rw[e0];trivial
   cases hx with
   |ref _ _ _ b' hu ht hp=>
    rw[a2]at hp;cases hp;have Dc:∀e∈es.toList,e.born<Ia:=fun e he=>by
     obtain⟨i,hi⟩:=Cv.1 he
     have:=a6.2.2.2.2.1 i e (by simpa using hi)
     omega
    rcases run_next_at (P:=P) w ty b mb Ia st seen es ck a3 a5 Dc sP with ⟨q1,q2⟩ | ⟨e,q1,w1,q2,q3⟩
    .have oF:rem=[]:=by
      apply List.eq_nil_iff_forall_not_mem.2;intro kv Mr;obtain⟨i,hi⟩:=Cv.1 (RQ.2 kv Mr);have cm:i<es.size:=by rw[a6.1];exact(Au.1 hi).1
      have hb:=(UR i kv es[i] hi (by simp[cm])).1 Mr;have hm:es[i]∈leftOf es seen:=by simp[leftOf,hb]
      have:=Array.size_pos_of_mem hm
      omega
     exact⟨_,w,g,_,h,q2,hk.1 oF,hI,.refl _ _ _,.tup _ _ _ rfl (fun i av x h1 h2=>by
      match i,h1,h2 with
      |0,h1,h2=>simp at h1 h2;subst h1;subst h2;exact .v _ _)⟩
    .have hq:e∈es/\e.born∉seen:=by simpa[leftOf]using q1
     obtain⟨i,hi⟩:=Array.mem_iff_getElem?.1 hq.1;have cm:i<all.length:=by rw[<-a6.1];exact(BN.1 hi).1
     have iF:all[i]?=some all[i]:=At cm;have Wv:=(UR i _ e iF hi).2 hq.2;obtain⟨s1,s2,hs⟩:=List.append_of_mem Wv;have I8:rem.Perm (all[i]::(s1++s2)):=by rw[hs];exact List.perm_middle
     have gf:(all[i]::(s1++s2)).Nodup:=I8.nodup_iff.1 RQ.1;have hr:=a9 i _ e iF hi;have NY:=a6.2.1 i _ e iF hi;have IK:w1.heap=w.heap/\w1.os=w.os/\w1.tape=w.tape/\w1.output=w.output:=by rcases q2 with rfl | rfl<;>exact⟨rfl,rfl,rfl,rfl⟩
     obtain⟨k1,k2⟩:=Do.swap hI hl a1 eK (.iter all (s1++s2) (some all[i])) a3 (.mapIter (some mb) Ia (seen.push e.born) ck) w1 IK sS (fun hg FW Dz Uo=>by
      obtain⟨u1,u2,u3,u4⟩:=Bi g r (g.ρ r) (g.ln r) (g.tk r) (g.own r) g.S;obtain⟨c1,c2,c3⟩:=FW mb 0 a4
      refine⟨u3.trans t1,b,mb,Ia,_,ck,es,ck,u4.trans a1,u1.trans a2,Dz,c1,c3 _ _ a5,⟨sh,a6⟩,a7,rfl,fun i kv e p q=>(a9 i kv e p q).mono FW (fun _ h=>h) (fun _ h=>h.elim),
       ⟨(JI.1 gf).2,fun kv Mr=>RQ.2 kv (I8.mem_iff.2 (Ai _ Mr))⟩,fun j kv e' p q=>?_,⟨i,e,iF,hi,by simp⟩,eK⟩
      rw[Array.mem_push];have h1:=UR j kv e' p q;rw[I8.mem_iff,AS]at h1;constructor
      .intro Mr hc;rcases hc with hc | hc
       .exact(h1.1 (.inr Mr)) hc
       .obtain rfl:=a6.2.2.2.2.2 j i e' e q hi hc;rw[iF]at p;cases p;exact(JI.1 gf).1 Mr
      .intro hc;rcases h1.2 (fun hm=>hc (.inl hm))with e2 | e2
       .have:j=i:=Qb (f:=fun x=>x) (l:=all) (by simpa using Li a6.2.2.2.1) p iF e2
        subst this;rw[hi]at q;cases q;exact absurd (.inr rfl) hc
       .exact e2)
     refine⟨_,_,_,_,_,q3,hk.2 all[i] (s1++s2) I8,k1,k2,.tup _ _ _ rfl (fun j av x h1 h2=>?_)⟩
     match j,h1,h2 with
     |0,h1,h2=>simp at h1 h2;subst h1;subst h2;exact .v _ _
     |1,h1,h2=>simp at h1 h2;subst h1;subst h2;rw[NY];exact .v _ _
     |2,h1,h2=>simp at h1 h2;subst h1;subst h2;exact(hr.up _).le k2
  .exact hk.elim
 .exact hk.elim
end
end Go.Eng
