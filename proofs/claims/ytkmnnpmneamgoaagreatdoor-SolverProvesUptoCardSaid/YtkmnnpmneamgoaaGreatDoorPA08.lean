/- Lemmas 8. -/
import Derived.Test.YtkmnnpmneamgoaaGreatDoorPA07
import Derived.Maps.RangeRun
namespace Go.Eng
variable {ρ:Operand->Value}{es:List (List AV)}{hi:Option Operand}{vx:Value}{K:HK}{a:Option Addr}{cx:Cx}{x:AV}{T:G0}
section
variable {P:Program}{w0:World}{g0:Gh}{h0 h:Nat->HO}{g:Gh}{w:World}(hI:Cw w0 g0 h0 h g w)
include hI
theorem Ov{d sz n:Nat}(hd:h d=.free)(hl:∀c∈es,c.length=sz)(hn:es.length=n)(hr:AY g w Fs (.slice .none es) (.slice a n n)) :
  ∃g',Cw w0 g0 h0 (AC h d (.tok sz n)) g' w/\Le h g w (AC h d (.tok sz n)) g' w/\AY g' w (Az (AC h d (.tok sz n))) (.slice (.id d sz) es) (.slice a n n):=by
 obtain⟨k1,k2⟩:=hI.upd d (.tok sz n) (.slice a n n) n true none g.S w none ⟨rfl,rfl,rfl,Ao _⟩ (fun _ _ _=>rfl) (fun b e=>by cases e) (fun _ _ h=>h) (fun _ _ h=>.inl h) (fun b o e=>by cases e) (fun b _ e=>by cases e) aa1
  (fun hu=>absurd hd hu) (fun _ _=>by
   obtain⟨u1,u2,u3,u4⟩:=Bh g d (.slice a n n) n true none g.S;exact⟨u3,u2,a,n,u1,.inl ⟨rfl,u4⟩⟩)
 exact⟨_,k1,k2,.tok _ d sz es _ (((hr.up (Az h)).le k2)) hl (by unfold Az;rw[AS];simp) (by simp[Gh.upd]) (by simp[Gh.upd,hn]) (fun _=>by simp[Gh.upd])⟩
theorem aW{d:Option Nat}(hx:AY g w (Az h) x vx)(hk:OR cx d h x K):∃g' av h',K av h'/\Cw w0 g0 h0 h' g' w/\Le h g w h' g' w/\AY g' w (Az h') av vx:=by
 have plain:K x h->∃g' av h',K av h'/\Cw w0 g0 h0 h' g' w/\Le h g w h' g' w/\AY g' w (Az h') av vx:=fun hk=>⟨g,x,h,hk,hI,.refl _ _ _,hx⟩;unfold OR at hk;split at hk
 .simp_all
 .rename_i d;split at hk
  .rename_i sz _;split at hk
   .refine⟨g,unT x,h,hk,hI,.refl _ _ _,?_⟩;cases x with
    |slice tk es=>exact(AY.slice_none hx).up _
    |_=>exact hx
   .split at hk
    .split at hk
     .rename_i hd;obtain rfl:=hx.v_eq;obtain⟨g',k1,k2,k3⟩:=Ov hI (sz:=sz) (es:=[]) (a:=none) hd aa1 rfl (.snil _ _ _)<;>grind
     simp_all
    simp_all
  .split at hk
   .rename_i sz _;split at hk
    .split at hk
     .rename_i hd;obtain rfl:=hx.v_eq
      obtain⟨k1,k2⟩:=hI.upd d (.arr sz []) (.slice none 0 0) 0 true none g.S w none ⟨rfl,rfl,rfl,Ao _⟩ (fun _ _ _=>rfl) (fun b e=>by cases e) (fun _ _ h=>h) (fun _ _ h=>.inl h) (fun b o e=>by cases e) (fun b _ e=>by cases e) aa1
       (fun hu=>absurd hd hu) (fun _ _=>by
        obtain⟨u1,u2,u3,u4⟩:=Bh g d (.slice none 0 0) 0 true none g.S;exact⟨u3,u2,by simp,.inl ⟨rfl,u1,u4⟩⟩)
      exact⟨_,_,_,hk,k1,k2,.msl _ d 0 none 0 (by unfold Az;rw[AS];simp) (by simp[Gh.upd]) (Ap _) (.inl rfl) (fun _=>by simp[Gh.upd])⟩
     simp_all
    simp_all
   simp_all
theorem ZC{mku:List Nat}{d:Option Nat}{ty:Nat}(hk:KO T mku d h ty K):NU P w0 g0 h0 h g w (Instr.makeMap ty none) K:=by
 unfold KO at hk;split at hk
 .simp_all
 .rename_i d;split at hk
  .rename_i hd;split at hk
   .split at hk
    .rename_i sh _;split at hk
     .obtain⟨k1,k2⟩:=hI.newOwn hd (.mapU sh []) (.map #[] 0) (.map (some w.heap.size)) 0 false w ⟨rfl,rfl,rfl,rfl⟩ aa1 (fun hg IJ=>by
       obtain⟨u1,u2,u3,u4⟩:=Bh g d (.map (some w.heap.size)) 0 false (some w.heap.size) g.S;exact⟨u3,w.heap.size,#[],0,u4,u1,Hj w _ rfl,⟨rfl,by simp,by simp,by simp,by simp,by simp⟩,by simp,fun o ho=>by have:=hI.slt _ _ ho;omega⟩)
      refine⟨_,_,_,_,_,?_,hk,k1,k2,.mref _ d w.heap.size (by grind [Az,AS]) ?_ ?_⟩
      .simp[Instr.makeMap]
      all_goals grind [Gh.upd]
     .obtain⟨k1,k2⟩:=hI.newOwn hd (.map sh []) (.map #[] 0) (.map (some w.heap.size)) 0 false w ⟨rfl,rfl,rfl,rfl⟩ aa1 (fun hg IJ=>by
       obtain⟨u1,u2,u3,u4⟩:=Bh g d (.map (some w.heap.size)) 0 false (some w.heap.size) g.S;exact⟨u3,w.heap.size,#[],0,u4,u1,Hj w _ rfl,⟨rfl,by simp,by simp,by simp,by simp,by simp⟩,by simp,fun o ho=>by have:=hI.slt _ _ ho;omega⟩)
      refine⟨_,_,_,_,_,?_,hk,k1,k2,.mref _ d w.heap.size (by grind [Az,AS]) ?_ ?_⟩
      .simp[Instr.makeMap]
      all_goals grind [Gh.upd]
    simp_all
   simp_all
  simp_all
omit hI in
theorem AY.sub{sz l m:Nat}{x:Value}{n cap:Nat}(hr:AY g w Fs (.slice .none es) x)(hx:x=.slice a n cap)(hl:∀c∈es,c.length=sz)(h1:l<=m)(h2:m<=es.length)(c' : Nat)(hc:m-l<=c')(a' : Option Addr)(ha:a'=a.map (·.add (l*sz))\/(m=l/\a'=a)):AY g w Fs (.slice .none ((es.take m).drop l)) (.slice a' (m-l) c'):=by
 subst hx;have CD:((es.take m).drop l).length=m-l:=by simp_all
 by_cases h0:m-l=0
 .grind [snil]
 .cases hr with
  |snil=>simp_all
  |slice _ _ b off HM cap val zt RT CT Ef=>
   have hz:HM=sz:=by
    have:(0:Nat)<es.length:=by omega
    have h3:=RT 0 es[0] (AR this);simp_all
   subst hz;have ha' : a'=some ⟨b,off+l*HM,none⟩:=by
    grind [Addr.add_lit]
   subst ha';rw[<-CD];have Fu:∀(i:Nat) (cs:List AV),((es.take m).drop l)[i]?=some cs->es[l+i]?=some cs:=fun i cs h=>by
    grind
   refine .slice _ _ b (off+l*HM) HM c' (fun i j=>val (l+i) j) aa0 (fun i cs h=>RT _ _ (Fu i cs h)) (fun i cs j av h1 h2=>?_) (fun i cs j av h1 h2=>Ef _ _ _ _ (Fu i cs h1) h2)
   grind
omit hI in
theorem KU{t:Nat->AV}(ht:∀x:Operand,AY g w (Az h) (ev t x) (ρ x)){o:Option Operand}{i:Option Int}(hk:CJ t o=some i):o.map ρ=i.map fun n=>.int .i64 n:=by
 cases o<;>grind [CJ,AY.v_eq]
omit hI in
theorem UH(b:Bool)(len cap:Nat)(lo hi mx:Option Int)(rP:mx=none\/hi≠none)(h0:0<=lo.getD 0)(h1:lo.getD 0<=hi.getD len)(h2:hi.getD len<=mx.getD cap)(h3:mx.getD cap<=cap) :
  (Instr.sliceBounds b len cap (lo.map fun n=>.int .i64 n) (hi.map fun n=>.int .i64 n) (mx.map fun n=>.int .i64 n)).run P w=.ok ((lo.getD 0).toNat,(hi.getD len).toNat,(mx.getD cap).toNat) w:=by
 have e1:∀n:Int,0<=n->(n.toNat:Int)=n:=fun n hn=>Int.toNat_of_nonneg hn;cases mx with
 |none=>
  cases hi with
  |none=>
   cases lo with
   |none=>simp[Instr.sliceBounds]
   |some l=>
    simp only[Ev,L3]at h0 h1 h2;simp[Instr.sliceBounds,run_sliceBound,h0,h1]
  |some hh=>
   simp only[Ev,L3]at h1 h2;have xG:0<=hh:=by omega
   cases lo with
   |none=>simp[Instr.sliceBounds,run_sliceBound,xG,h2]
   |some l=>
    simp only[Ev]at h0 h1;simp[Instr.sliceBounds,run_sliceBound,h0,h1,h2,xG,e1]
 |some m=>
  cases hi with
  |none=>simp_all
  |some hh=>
   simp only[Ev]at h1 h2 h3;have xG:0<=hh:=by omega
   have xR:0<=m:=by omega
   cases lo with
   |none=>simp[Instr.sliceBounds,run_sliceBound,h2,h3,xG,xR,e1]
   |some l=>
    simp only[Ev]at h0 h1;simp[Instr.sliceBounds,run_sliceBound,h0,h1,h2,h3,xG,xR,e1]
omit hI in
theorem EW(hT:BY P T){ty e k:Nat}(ht:(T ty).d=.slice e)(hk:(T e).size=k+1)(a:Option Addr)(len cap:Nat)(lo hi mx:Option Int)(rP:mx=none\/hi≠none)(h0:0<=lo.getD 0)(h1:lo.getD 0<=hi.getD len)(h2:hi.getD len<=mx.getD cap)(h3:mx.getD cap<=cap) :
  (Instr.sliceAt ty (.slice a len cap) (lo.map fun n=>.int .i64 n) (hi.map fun n=>.int .i64 n) (mx.map fun n=>.int .i64 n)).run P w =
   .ok (.slice (if(mx.getD cap).toNat=(lo.getD 0).toNat then a else a.map (·.add ((lo.getD 0).toNat*(T e).size))) ((hi.getD len).toNat-(lo.getD 0).toNat) ((mx.getD cap).toNat-(lo.getD 0).toNat)) w:=by
 have hu:=hT.slice ht;have hb:=UH (P:=P) (w:=w) true len cap lo hi mx rP h0 h1 h2 h3;simp only[Instr.sliceAt,Sem.run_bind,run_underlying hu,Result.andThen_ok,Instr.slice,hb,hT.size1 w hk,Sem.run_pure];rw[hk]
theorem Cw.moveO(r r2:Nat)(D8:r2≠r)(hf:h r2=.free)(hl:(h r).live){ob:Option Nat}(ho:∀c,ob=some c->g.own r=some c)(o' : HO)(x:Value)(n:Nat)(t:Bool)(hn:o'≠.free)
  (L8:E9 g w (g.upd r2 x n t ob g.S) w->DO (g.upd r2 x n t ob g.S) w (Az (AC (AC h r .dead) r2 o')) r2 o') :
  Cw w0 g0 h0 (AC (AC h r .dead) r2 o') (g.upd r2 x n t ob g.S) w/\Le h g w (AC (AC h r .dead) r2 o') (g.upd r2 x n t ob g.S) w:=by
 have kZ:Kg g (g.upd r2 x n t ob g.S) (Az h):=by
  intro i hi;have e:i≠r2:=fun e=>hi (by simp_all)
  grind [Gh.upd]
 have hK:E9 g w (g.upd r2 x n t ob g.S) w:=fun b o hb=>⟨hb,rfl,fun _ _ h=>h⟩;have Mz:∀i,Az h i->Az (AC (AC h r .dead) r2 o') i:=fun i hi=>DA hn i (DA aa1 i hi);have key:∀i,i≠r2->(AC (AC h r .dead) r2 o' i).live->i≠r/\(h i).live:=fun i h2 hl=>by
  rw[BN _ _ _ _ h2]at hl
  by_cases e:i=r
  .subst e;rw[AS]at hl;exact hl.elim
  grind [BN]
 have own:∀i,i≠r2->(g.upd r2 x n t ob g.S).own i=g.own i:=fun i e=>by simp[Gh.upd,e]
 have mL:(g.upd r2 x n t ob g.S).own r2=ob:=by simp[Gh.upd]
 refine⟨⟨hI.os,hI.tape,hI.output,hI.size,hI.frame,hI.slt,fun i=>?_,fun i j c hi hj ei ej=>?_,fun i c hi ei=>?_,hI.sg,hI.glob.keep hK⟩,kZ,Mz,hK⟩
 .by_cases e:i=r2
  .grind [AS]
  .rw[BN _ _ _ _ e]
   by_cases e1:i=r
   .subst e1;rw[AS];trivial
   .rw[BN _ _ _ _ e1];exact(hI.objs i).same hK Mz kZ (by simp[Gh.upd,e]) (by simp[Gh.upd,e]) (by simp[Gh.upd,e]) (by simp_all) (fun b hl hb=>⟨rfl,fun k hk=>hk⟩)
 .grind [Cw.inj]
 .by_cases e1:i=r2
  .subst e1;rw[mL]at ei;exact hI.loc r _ hl (ho _ ei)
  .rw[own i e1]at ei;exact hI.loc i c (key i e1 hi).2 ei
theorem af(hT:BY P cx.T){d:Option Nat}{ty:Nat}{t:Nat->AV}(ht:∀x:Operand,AY g w (Az h) (ev t x) (ρ x)){lo mx:Option Operand}(hx:AY g w (Az h) x vx)(hk:UE cx d h ty x (CJ t lo) hi mx K):NU P w0 g0 h0 h g w (Instr.sliceAt ty vx (lo.map ρ) (hi.map ρ) (mx.map ρ)) K:=by
 unfold UE at hk;split at hk
 .rename_i d Ib e1;rw[KU ht e1];split at hk
  .rename_i e hs;split at hk
   .simp_all
   .rename_i k FG;split at hk
    .rename_i r sz es;split at hk
     .rename_i HM n e0;split at hk
      .rename_i hd;split at hk
       .rename_i q1 q2;obtain rfl:=AW q1;have q2:=AW q2;obtain⟨⟨rfl,h1,h2⟩,hk⟩:=hk;have hl:(h r).live:=by rw[e0];trivial
        have D8:Kk cx d≠r:=fun e=>by simp_all
        have ho:=hI.objs r;rw[e0]at ho;obtain⟨t1,l1,a,cap,a1,a3⟩:=ho;have hr:=hx.slice_none;cases hx with
        |tok _ _ _ _ _ jA bL hu ht' hn RU=>
         have hv:=RU l1.symm;rw[a1]at hv;subst hv;have dM:es.length<=cap:=by omega
         have Ct:=EW (P:=P) (w:=w) hT hs FG a es.length cap (some Ib) none none (.inl rfl) h1 h2 (by simp_all) aa1;simp only[Ev,L3,FI]at Ct;have CD:(es.drop Ib.toNat).length=es.length-Ib.toNat:=SD;have gO:=AY.sub (c':=cap-Ib.toNat) hr rfl bL (l:=Ib.toNat) (m:=es.length) aa0 (Ao _) aa0 (if cap=Ib.toNat then a else a.map (·.add (Ib.toNat*(cx.T e).size))) (by
          grind)
         rw[F3]at gO
         have fin:∀ob:Option Nat,(∀c,ob=some c->g.own r=some c)->(es.length-Ib.toNat=cap-Ib.toNat/\ob=none\/es.length-Ib.toNat<=cap-Ib.toNat/\∃b E vs off,(if cap=Ib.toNat then a else a.map (·.add (Ib.toNat*(cx.T e).size)))=some ⟨b,off,none⟩/\ob=some b/\Rf w b vs E/\vs.size=off+(cap-Ib.toNat)*HM/\∀o,g.S b o->o<off+(es.length-Ib.toNat)*HM) ->
           NU P w0 g0 h0 h g w (Instr.sliceAt ty (.slice a es.length cap) ((some Ib).map fun n=>.int .i64 n) ((none:Option Operand).map ρ) ((none:Option Operand).map ρ)) K:=fun ob ho tG=>by
          obtain⟨k1,k2⟩:=hI.moveO r (Kk cx d) D8 hd hl ho (.tok HM (es.drop Ib.toNat).length) (.slice (if cap=Ib.toNat then a else a.map (·.add (Ib.toNat*(cx.T e).size))) (es.length-Ib.toNat) (cap-Ib.toNat)) (es.length-Ib.toNat) true aa1 (fun IJ=>by
           obtain⟨u1,u2,u3,u4⟩:=Bh g (Kk cx d) (.slice (if cap=Ib.toNat then a else a.map (·.add (Ib.toNat*(cx.T e).size))) (es.length-Ib.toNat) (cap-Ib.toNat)) (es.length-Ib.toNat) true ob g.S;refine⟨u3,u2.trans CD.symm,_,_,by rw[CD];exact u1,?_⟩;rw[CD,u4];exact tG)
          exact⟨_,w,_,_,_,Ct,hk,k1,k2,.tok _ _ _ _ _ (((gO.mono k2.keeps (fun _ h=>h) (fun _ h=>h.elim))).up _) (fun c hc=>bL c (Iw hc)) (by grind [Az,AS]) (by simp[Gh.upd]) (by simp[Gh.upd]) (fun _=>by simp[Gh.upd])⟩
         rcases a3 with ⟨e1,e2⟩ | ⟨e1,b,E,vs,off,rfl,e3,e4,e5,e6⟩
         .exact fin none (fun c h=>by cases h) (.inl ⟨by omega,rfl⟩)
         .by_cases hc:cap=Ib.toNat
          .exact fin none (fun c h=>by cases h) (.inl ⟨by omega,rfl⟩)
          .refine fin (some b) (fun c h=>by simp_all) (.inr ⟨by omega,b,E,vs,off+Ib.toNat*HM,?_,rfl,e4,?_,fun o ho=>?_⟩)
           .grind [Addr.add_lit]
           .rw[e5,Nat.sub_mul]
            have:=Bx HM (show Ib.toNat<=cap by omega)
            omega
           grind [Nat.sub_mul]
       simp_all
      simp_all
     simp_all
    simp_all
  simp_all
 simp_all
omit hI in
theorem N3{sz:Nat}:∀{es:List (List AV)},(∀cs∈es,cs.length=sz)->∀k,(es.take k).flatten=es.flatten.take (k*sz)
 | [],_,k=>by simp
 |c::es,hl,0=>by simp
 |c::es,hl,k+1=>by
  have h1:=hl c (Ah ..);have h2:c.length<=k*sz+sz:=by omega
  rw[List.take_succ_cons,Cj,Cj,N3 (fun x hx=>hl x (Ai _ hx)) k,List.take_append,h1,Nat.succ_mul,
   Bd h2,show k*sz+sz-sz=k*sz by omega]
omit hI in
theorem Ca.takeE{U:Nat->Prop}{sz k:Nat}{vs:List Value}(hl:∀cs∈es,cs.length=sz)(hk:k<=es.length)(h:Ca g w U es.flatten (vs.take (es.length*sz))):Ca g w U (es.take k).flatten (vs.take (k*sz)):=by
 have e:vs.take (k*sz)=(vs.take (es.length*sz)).take (k*sz):=by
  grind [Nat.mul_le_mul_right]
 rw[N3 hl,e];refine⟨by rw[Cy (l:=vs.take (es.length*sz)),h.1,Cy],fun x hx=>h.2.1 x (DU hx),fun i av x q1 q2=>?_⟩;have hi:i<k*sz:=by
  grind
 rw[List.getElem?_take,AX hi]at q1 q2;exact h.2.2 i av x q1 q2
theorem eI(hT:BY P cx.T){d:Option Nat}{ty:Nat}{t:Nat->AV}(ht:∀x:Operand,AY g w (Az h) (ev t x) (ρ x))(hx:AY g w (Az h) x vx)(hk:mV cx d h ty x (CJ t hi) K):NU P w0 g0 h0 h g w (Instr.sliceAt ty vx none (hi.map ρ) none) K:=by
 unfold mV at hk;split at hk
 .rename_i d OH e1;rw[KU ht e1];split at hk
  .rename_i e hs;split at hk
   .simp_all
   .rename_i k FG;split at hk
    .rename_i r n;split at hk
     .rename_i sz es e0;split at hk
      .rename_i hd;split at hk
       .rename_i q1 q3;have q1:=AW q1;obtain⟨⟨rfl,h1,h2⟩,hk⟩:=hk;have hl:(h r).live:=by rw[e0];trivial
        have D8:Kk cx d≠r:=fun e=>by simp_all
        have ho:=hI.objs r;rw[e0]at ho;obtain⟨t1,l1,al,a2⟩:=ho;have CD:(es.take OH.toNat).length=OH.toNat:=by simp_all
        cases hx with
        |msl _ _ _ a cap hu ht' bM ha RU=>
         have hv:=RU l1.symm;have KH:es.length<=cap:=by
          grind
         have Ct:=EW (P:=P) (w:=w) hT hs FG a es.length cap none (some OH) none (.inl rfl) aa1 (by simp_all) (by grind) aa1;have Rw:(if cap-(0:Nat)=0 then a else a.map (·.add (0*(cx.T e).size)))=a:=by
          grind [Addr.add]
         simp only[Ev,L3,FI,Int.toNat_zero,Nat.sub_zero]at Ct Rw;have key:∃a',(Instr.sliceAt ty (.slice a es.length cap) ((none:Option Int).map fun n=>.int .i64 n) ((some OH).map fun n=>.int .i64 n) ((none:Option Int).map fun n=>.int .i64 n)).run P w=.ok (.slice a' OH.toNat cap) w/\(a'=a):=⟨_,Ct,by omega⟩;obtain⟨a',Ct,rfl⟩:=key;have Oe:AY (g.upd (Kk cx d) (.slice a' OH.toNat cap) OH.toNat true (g.own r) g.S) w (Az (AC (AC h r .dead) (Kk cx d) (.arr sz (es.take OH.toNat)))) (.msl (Kk cx d) OH.toNat) (.slice a' OH.toNat cap):=
          .msl _ _ _ _ _ (by grind [Az,AS]) (by simp[Gh.upd]) (by simp[Gh.upd]) (ha.elim (fun e=>.inl aa0) .inr) (fun _=>by simp[Gh.upd])
         obtain⟨k1,k2⟩:=hI.moveO r (Kk cx d) D8 hd hl (ob:=g.own r) (fun c h=>h) (.arr sz (es.take OH.toNat)) (.slice a' OH.toNat cap) OH.toNat true aa1 (fun IJ=>by
          obtain⟨u1,u2,u3,u4⟩:=Bh g (Kk cx d) (.slice a' OH.toNat cap) OH.toNat true (g.own r) g.S;refine⟨u3,u2.trans CD.symm,fun c hc=>al c (DU hc),?_⟩;rcases a2 with ⟨b1,b2,b3⟩ | ⟨b,Mk,E,vs,b1,b2,b3,b4,b5,b6,b7⟩
          .simp_all
          .rw[b1]at hv;cases hv;refine .inr ⟨b,cap,E,vs,by simp_all,u4.trans b2,by omega,b4,b5,?_,b7⟩;rw[CD];exact(Ca.takeE al aa0 b6).mono IJ (fun _ h=>h) (fun _ h=>h.elim))
         exact⟨_,w,_,_,_,Ct,hk,k1,k2,Oe⟩
       simp_all
      simp_all
     simp_all
    simp_all
  simp_all
 simp_all
theorem Wx(hT:BY P cx.T){d:Option Nat}{ty:Nat}{t:Nat->AV}(ht:∀x:Operand,AY g w (Az h) (ev t x) (ρ x)){lo mx:Option Operand}(hx:AY g w (Az h) x vx)(hk:Ip cx d h ty x (CJ t lo) (CJ t hi) (CJ t mx) K):NU P w0 g0 h0 h g w (Instr.sliceAt ty vx (lo.map ρ) (hi.map ρ) (mx.map ρ)) K:=by
 unfold Ip at hk;split at hk
 .rename_i Ib OH rZ e1 e2 e3;rw[KU ht e1,KU ht e2,KU ht e3];split at hk
  .rename_i hs;split at hk
   .rename_i s;obtain⟨⟨h1,h2,h3⟩,hk⟩:=hk;obtain rfl:=hx.v_eq;have hb:=UH (P:=P) (w:=w) false s.size s.size Ib OH none (.inl rfl) h1 h2 (by simp_all) aa1;refine(Br.val (x:=.string (s.extract (Ib.getD 0).toNat (OH.getD s.size).toNat)) ?_ hk).does hI;simp only[Instr.sliceAt,Sem.run_bind,run_underlying (hT.string hs),Result.andThen_ok,Instr.slice];simp_all
   simp_all
  .rename_i e hs;split at hk
   .simp_all
   .rename_i k FG;split at hk
    .rename_i tk es;have hr:=hx.slice_none;obtain⟨a,cap,hv,KH⟩:∃a cap,vx=.slice a es.length cap/\es.length<=cap:=by
      grind [cases AY]
     subst hv;split at hk
     .obtain⟨⟨h1,h2,h3⟩,hl,hk⟩:=hk;have Ct:=EW (P:=P) (w:=w) hT hs FG a es.length cap Ib OH none (.inl rfl) h1 h2 (by grind) aa1;refine Br.does hI ⟨_,_,Ct,hk,(AY.sub (c':=cap-(Ib.getD 0).toNat) hr rfl hl (l:=(Ib.getD 0).toNat) (m:=(OH.getD es.length).toNat) aa0 aa0 aa0 _ ?_).up _⟩
      grind
     .rename_i m;split at hk
      .rename_i d hh;split at hk
       .obtain⟨⟨h1,h2,rfl,h3⟩,hl,hk⟩:=hk;have Ct:=EW (P:=P) (w:=w) hT hs FG a es.length cap Ib (some m) (some m) (.inr aa1) h1 h2 aa1 (by grind);simp only[Ev]at Ct;have CD:((es.take m.toNat).drop (Ib.getD 0).toNat).length=m.toNat-(Ib.getD 0).toNat:=by simp_all
        refine Br.does hI ⟨_,_,Ct,hk,.full _ _ _ _ ((AY.sub (c':=m.toNat-(Ib.getD 0).toNat) hr rfl hl (l:=(Ib.getD 0).toNat) (m:=m.toNat) aa0 aa0 aa0 _ ?_).up _) (fun c hc=>hl c (DU (Iw hc))) ⟨_,by rw[CD]⟩⟩
        grind
       split at hk
       .rename_i hd;obtain⟨⟨h1,h2,rfl,h3⟩,hl,hk⟩:=hk;have Ct:=EW (P:=P) (w:=w) hT hs FG a es.length cap Ib (some m) (some m) (.inr aa1) h1 h2 aa1 (by grind);simp only[Ev]at Ct
        obtain⟨g',k1,k2,k3⟩:=Ov hI (sz:=(cx.T e).size) (n:=m.toNat-(Ib.getD 0).toNat) hd (es:=(es.take m.toNat).drop (Ib.getD 0).toNat) (fun c hc=>hl c (DU (Iw hc))) (by simp_all)
         (AY.sub (c':=m.toNat-(Ib.getD 0).toNat) hr rfl hl (l:=(Ib.getD 0).toNat) (m:=m.toNat) aa0 aa0 aa0 (if m.toNat=(Ib.getD 0).toNat then a else a.map (·.add ((Ib.getD 0).toNat*(cx.T e).size))) (by
          grind))
        exact⟨_,w,g',_,_,Ct,hk,k1,k2,k3⟩
       simp_all
      simp_all
    .obtain⟨⟨h1,h2,h3⟩,h4,hk⟩:=hk;obtain rfl:=hx.v_eq;have Ct:=EW (P:=P) (w:=w) hT hs FG none 0 0 Ib OH rZ h4 aa0 (by simp_all) (by simp_all) (by simp_all)
     grind [Br.does,Br.val]
    .rename_i r n;split at hk
     .rename_i sz es e0;split at hk
      .rename_i U3;obtain rfl:=AW U3;obtain⟨⟨h1,h2,h3,h4,h5⟩,hk⟩:=hk;have ho:=hI.objs r;rw[e0]at ho;obtain⟨t1,l1,al,a3⟩:=ho;have hl:(h r).live:=by rw[e0];trivial
       have xT:rZ=none\/OH≠none:=h5.imp id (fun q=>q.2);cases hx with
       |msl _ _ _ a cap hu ht' hn ha RU=>
        have hv:=RU (h1.trans l1.symm);subst h1;have rP:∀c:Nat,es.length<=c->OH.getD es.length<=rZ.getD c/\rZ.getD c<=c:=fun c hc=>by
         rcases h5 with h5 | ⟨h5,D8⟩
         .grind
         .obtain⟨m,hm⟩:=Option.ne_none_iff_exists'.1 D8<;>grind
        rcases a3 with ⟨rfl,q2,q3⟩ | ⟨b,Mk,E,vs,q1,q2,q3,q4,q5,q6,q7⟩
        .rw[q2]at hv;cases hv;have Ct:=EW (P:=P) (w:=w) hT hs FG none 0 0 Ib OH rZ xT h2 h3 (rP 0 aa1).1 (rP 0 aa1).2
         obtain⟨k1,k2⟩:=hI.upd r .dead (g.ρ r) (g.ln r) (g.tk r) (g.own r) g.S w none ⟨rfl,rfl,rfl,Ao _⟩ (fun _ _ _=>rfl) (fun b e=>by cases e) (fun _ _ h=>h) (fun _ _ h=>.inl h) (fun b o e=>by cases e) (fun b hh _=>by cases hh) aa1
          (fun _=>⟨rfl,Ao _,fun _=>rfl,fun _=>rfl⟩) (fun _ _=>trivial)
         refine⟨_,w,_,_,_,Ct,hk,k1,k2,?_⟩
         grind [AY.snil]
        .rw[q1]at hv;cases hv;have Ct:=EW (P:=P) (w:=w) hT hs FG (some ⟨b,0,none⟩) es.length cap Ib OH rZ xT h2 h3 (rP _ q3).1 (rP _ q3).2;have xg:=(hI.loc r b hl q2).1
         obtain⟨k1,k2⟩:=hI.upd r .dead (g.ρ r) (g.ln r) (g.tk r) (g.own r) (g.more b (es.length*(cx.T e).size)) w none ⟨rfl,rfl,rfl,Ao _⟩ (fun _ _ _=>rfl) (fun b e=>by cases e) (fun _ _ h=>.inl h)
          (fun b' o hs=>hs.elim .inl (fun hs=>.inr ⟨by omega,.inr ⟨hl,by simp_all⟩⟩)) (fun b o e=>by cases e) (fun b hh _=>by cases hh) aa1
          (fun _=>⟨rfl,Ao _,fun _=>rfl,fun _=>rfl⟩) (fun _ _=>trivial)
         have Ef:=AY.slice_row (g:=g.upd r (g.ρ r) (g.ln r) (g.tk r) (g.own r) (g.more b (es.length*(cx.T e).size))) (U:=Fs) q4 al q3 (q6.mono k2.keeps (fun _ h=>h) (fun _ h=>h.elim)) (fun o ho=>.inr ⟨rfl,ho⟩);have Ahr:=rP _ q3;refine⟨_,w,_,_,_,Ct,hk,k1,k2,(AY.sub (c':=(rZ.getD cap).toNat-(Ib.getD 0).toNat) Ef rfl al (l:=(Ib.getD 0).toNat) (m:=(OH.getD es.length).toNat) aa0 aa0 aa0 _ ?_).up _⟩
         grind
      simp_all
     simp_all
    simp_all
  simp_all
 simp_all
theorem Vn(hT:BY P cx.T){d:Option Nat}{ty:Nat}{n c:AV}{vn vc:Value}(hn:AY g w (Az h) n vn)(hc:AY g w (Az h) c vc)(hk:Jx cx d h ty n c K) :
  NU P w0 g0 h0 h g w (Instr.makeSlice ty vn vc) K:=by
 unfold Jx at hk;split at hk
 .rename_i e n c hs;obtain rfl:=hn.v_eq;obtain rfl:=hc.v_eq;split at hk
  .rename_i Xw;split at hk
   .rename_i jB;have jB:=AW jB;split at hk
    .simp_all
    .rename_i k FG;obtain⟨⟨h1,h2,h3,h4⟩,hk⟩:=hk;obtain⟨i,z,i1,i2,i3,i4,i5⟩:=HT hT FG;have tX:(cx.T e).zc≠[]:=fun e0=>by simp_all
     have wn:IntKind.i64.wrap n=n:=Ns ⟨by omega,by omega⟩;have wc:IntKind.i64.wrap c=c:=Ns ⟨by omega,by omega⟩;have GI:∀l:List AV,(∀a∈l,one a=true)->G9 l=true:=by
      intro l
      induction l<;>grind [G9]
     have tO:((Array.range (c.toNat*(cx.T e).size)).map fun k=>z.cells[k % z.cells.size]!).toList=(List.replicate c.toNat (cx.T e).zc).flatten:=by
      rw[H6 c.toNat _ tX,jB,i5];have e6:z.cells.size=(cx.T e).size:=by simp_all
      simp[e6,Array.getElem!_eq_getD]
     have hzs:(cx.T e).zc.length=(cx.T e).size:=jB;have rN:∀c'∈List.replicate c.toNat (cx.T e).zc,c'.length=(cx.T e).size:=fun c' hc=>by simp_all
     have Acd : ∀c'∈List.replicate n.toNat ((cx.T e).zc.map AV.v),c'.length=(cx.T e).size:=fun c' hc=>by simp_all
     have Ahp:∀c'∈List.replicate n.toNat (cx.T e).zc,c'.length=(cx.T e).size:=fun c' hc=>by simp_all
     obtain⟨g',av,h',q1,q2,q3,q4⟩:=Ka hI hk (vs:=(Array.range (c.toNat*(cx.T e).size)).map fun k=>z.cells[k % z.cells.size]!) (cap:=c.toNat) e Acd (by grind) aa1 (by
      rw[tO,List.length_replicate];have e1:(List.replicate n.toNat ((cx.T e).zc.map AV.v)).flatten=(List.replicate n.toNat (cx.T e).zc).flatten.map AV.v:=by
       simp_all
      have e2:(List.replicate c.toNat (cx.T e).zc).flatten.take (n.toNat*(cx.T e).size)=(List.replicate n.toNat (cx.T e).zc).flatten:=by
       obtain⟨m,hm⟩:∃m,c.toNat=n.toNat+m:=⟨c.toNat-n.toNat,by omega⟩;rw[hm,<-List.replicate_append_replicate,Df,JN (by simp_all)]
      grind [Ca.vals,MY]) w ⟨rfl,rfl,rfl,rfl⟩
     rw[List.length_replicate]at q4;refine⟨_,_,g',av,h',?_,q1,q2,q3,q4⟩;have hb0:¬((cx.T e).bytes*c>2 ^ 48):=by grind
     have lw:((decide (c<0)||decide (((cx.T e).bytes:Int)*c>2 ^ 48))||decide (n<0)||decide (n>c))=false:=by
      grind
     simp only[Instr.makeSlice,Sem.run_bind,run_underlying (hT.slice hs),Result.andThen_ok,asInt,asIntOf,Sem.run_pure,typeInfo,run_program,i1,i4,wn,wc,lw,OJ,if_false,run_askRoom,hT.size1 w FG]
     by_cases hz:c.toNat*(k+1)=0
     .have pG:c.toNat=0:=by
       simp_all
      rw[pG];simp only[Nat.zero_mul,if_true];simp only[show Array.range 0=#[]from rfl,Array.map_empty];simp[newRow]
     .simp only[AI hz,Sem.run_bind,zeroValue,typeInfo,run_program,i1,i2,Result.andThen_ok,Sem.run_pure];rw[FG];simp[newRow]
   simp_all
  simp_all
 simp_all
end
end Go.Eng
namespace Go.Eng
open Go.ChangeMaps (setBlock)
variable {BV:List (Value×AV)}{es:Array MapEntry}{sh:EL}{vx:Value}{α β:Type}{f:α->β}{l:List α}{ck:Nat}{w:World}{k x y:Value}{a:AV}{K:HK}{r:Nat}{o':Obj}{j:Nat}{v:AV}{T:G0}
theorem Vr{o:Obj}(h:w.heap[r]?=some o):(setBlock w r o').heap[r]?=some o':=by
 grind [setBlock]
theorem UL{k:Nat}(h:k≠r):(setBlock w r o').heap[k]?=w.heap[k]?:=by
 grind [setBlock]
theorem Vs(w:World)(r:Nat)(o' : Obj):(setBlock w r o').heap.size=w.heap.size:=by simp[setBlock]
theorem Pu(h:(l.map f).Nodup):l.Nodup:=by
 induction l<;>grind
theorem Wk(h:(l.map f).Nodup){i:Nat}{a b:α}(ha:l[i]?=some a)(hb:l[j]?=some b)(he:f a=f b):i=j:=by
 induction l generalizing i j<;>grind
open Classical in
theorem Qz{b:AV}(h:(k,b)∈BV):Fm BV k a=BV.map fun p=>if p.1=k then(k,a)else p:=AX ⟨b,h⟩
open Classical in
theorem Qy(h:∀b,(k,b)∉BV):Fm BV k a=BV++[(k,a)]:=AI (fun⟨b,e⟩=>h b e)
theorem Wf(f:AV->AV)(h:Hx sh es ck BV):Hx sh es ck (BV.map fun p=>(p.1,f p.2)):=by
 obtain⟨h1,h2,h3,h4,h5,h6⟩:=h;refine⟨by simp_all,fun i kv e q1 q2=>?_,fun kv gI=>?_,?_,h5,h6⟩
 all_goals grind
theorem Pp(h:Hx sh es ck BV)(hj:BV[j]?=some (x,a)) :
  Hx sh (es.modify j fun e=>{ e with key:=x,val:=y }) ck (Fm BV x v) /\
   ∀(i:Nat) (kv:Value×AV) (e:MapEntry),(Fm BV x v)[i]?=some kv->(es.modify j fun e=>{ e with key:=x,val:=y })[i]?=some e ->
    (kv.2=v/\e.val=y)\/(BV[i]?=some kv/\es[i]?=some e):=by
 classical
 rw[Qz (Ax hj)];obtain⟨h1,h2,h3,h4,h5,h6⟩:=h;have hm:∀i e,(es.modify j fun e=>{ e with key:=x,val:=y })[i]?=some e->∃e0,es[i]?=some e0/\e.born=e0.born/\(if i=j then e.key=x/\e.val=y else e=e0):=by
  grind
 have hk:∀i kv,(BV.map fun p=>if p.1=x then(x,v)else p)[i]?=some kv->∃p,BV[i]?=some p/\kv.1=p.1/\(if i=j then kv.2=v else kv=p):=by
  intro i kv gI;rw[BA]at gI;obtain⟨p,q1,q2⟩:=B3.1 gI;refine⟨p,q1,?_⟩
  grind [Wk]
 have AeN:(BV.map fun p=>if p.1=x then(x,v)else p).map (·.1)=BV.map (·.1):=by
  rw[B2];apply Cg
  grind
 refine⟨⟨by grind,fun i kv e q1 q2=>?_,fun kv gI=>?_,by grind,fun i e q=>?_,fun i i' e e' q q' hb=>?_⟩,fun i kv e q1 q2=>?_⟩
 all_goals grind
theorem T9(h:Hx sh es ck BV)(hx:XV sh x=true)(hn:∀a,(x,a)∉BV) :
  Hx sh (es.push { key:=x,val:=y,born:=ck }) (ck+1) (Fm BV x v) /\
   ∀(i:Nat) (kv:Value×AV) (e:MapEntry),(Fm BV x v)[i]?=some kv->(es.push { key:=x,val:=y,born:=ck })[i]?=some e ->
    (kv.2=v/\e.val=y)\/(BV[i]?=some kv/\es[i]?=some e):=by
 rw[Qy hn];obtain⟨h1,h2,h3,h4,h5,h6⟩:=h;have hm:∀i e,(es.push { key:=x,val:=y,born:=ck })[i]?=some e->(es[i]?=some e/\i<es.size)\/(i=es.size/\e={ key:=x,val:=y,born:=ck }):=by
  grind
 have hk:∀i kv,(BV++[(x,v)])[i]?=some kv->(BV[i]?=some kv/\i<es.size)\/(i=es.size/\kv=(x,v)):=by
  grind
 refine⟨⟨by grind,fun i kv e q1 q2=>?_,fun kv gI=>?_,?_,fun i e q=>?_,fun i i' e e' q q' hb=>?_⟩,fun i kv e q1 q2=>?_⟩
 all_goals grind
section
variable {P:Program}{w0:World}{g0:Gh}{h0 h:Nat->HO}{g:Gh}{w:World}(hI:Cw w0 g0 h0 h g w)
include hI
theorem Cw.swap{r b:Nat}(hl:(h r).live)(ho:g.own r=some b)(hn:∀o,¬g.S b o)(o' : HO){ob:Obj}(hb:w.heap[b]?=some ob)(ob' : Obj)(w1:World)(TP:w1.heap=w.heap/\w1.os=w.os/\w1.tape=w.tape/\w1.output=w.output)(D8:o'≠.free)
  (L8:Kg g (g.upd r (g.ρ r) (g.ln r) (g.tk r) (g.own r) g.S) (Az h)->E9 g w (g.upd r (g.ρ r) (g.ln r) (g.tk r) (g.own r) g.S) (setBlock w1 b ob')->(setBlock w1 b ob').heap[b]?=some ob' ->
   (∀k,k≠b->(setBlock w1 b ob').heap[k]?=w.heap[k]?) ->
   DO (g.upd r (g.ρ r) (g.ln r) (g.tk r) (g.own r) g.S) (setBlock w1 b ob') (Az (AC h r o')) r o') :
  Cw w0 g0 h0 (AC h r o') (g.upd r (g.ρ r) (g.ln r) (g.tk r) (g.own r) g.S) (setBlock w1 b ob')/\Le h g w (AC h r o') (g.upd r (g.ρ r) (g.ln r) (g.tk r) (g.own r) g.S) (setBlock w1 b ob'):=by
 have E1:=(hI.loc r b hl ho).1;have EN:(setBlock w1 b ob').heap[b]?=some ob':=Vr (by rw[TP.1];exact hb);have bQ:∀k,k≠b->(setBlock w1 b ob').heap[k]?=w.heap[k]?:=fun k hk=>by grind [UL]
 refine hI.upd r o' _ _ _ _ _ _ (some b) ⟨TP.2.1,TP.2.2.1,TP.2.2.2,by grind [Vs]⟩ (fun k _ D8=>bQ k (fun e=>D8 (by rw[e]))) (fun b' e=>by simp_all) (fun _ _ h=>h) (fun _ _ h=>.inl h)
  (fun b' o e hs=>by simp_all) (fun b' _ e=>?_) D8 (fun _=>⟨rfl,Ao _,fun _=>rfl,fun _=>rfl⟩) (fun hg hk=>L8 hg hk EN bQ)
 grind
theorem NO(hT:BY P T){ty:Nat}{m k x:AV}{vm vk:Value}(hm:AY g w (Az h) m vm)(hk' : AY g w (Az h) k vk)(hx:AY g w (Az h) x vx)(hk:Ht T h ty m k x K) :
  jC P w0 g0 h0 h g w (Instr.mapUpdate ty vm vk vx) K:=by
 unfold Ht at hk;split at hk
 .rename_i r;split at hk
  .rename_i sh BV e0;obtain⟨kt,e,k1,k2,k3,k4⟩:=M7 hk' hk;have ho:=hI.objs r;rw[e0]at ho;obtain⟨t1,b,es,ck,a1,a2,a3,a4,a5,a6⟩:=ho;have hl:(h r).live:=by rw[e0];trivial
   cases hm with
   |mref _ _ b' hu ht hp=>
    rw[a2]at hp;cases hp;have lQ:=hT.map k1;have Fu:=run_getObj_map (P:=P) w b es ck a3;have Od:∀o',(setObj b o').run P w=.ok () (setBlock w b o'):=fun o'=>by grind [setObj,Sem.run,setBlock]
    have TM:=fun bb=>MS hT k2 w bb k3;obtain⟨res,r1,r2⟩:=Oz hT k2 w k3 es.toList a4.shape;have p6:=AY.str hI.objs hx;rcases r2 with ⟨rfl,hn⟩ | ⟨j,en,rfl,hj,hkey⟩
    .obtain⟨m1,m2⟩:=T9 a4 (x:=vk) (v:=str h x) (y:=vx) k3 (fun a=>a4.none hn a);obtain⟨i1,i2⟩:=Cw.swap hI hl a1 a6 (.map sh (Fm BV vk (str h x))) a3 (.map (es.push { key:=vk,val:=vx,born:=ck }) (ck+1)) w ⟨rfl,rfl,rfl,rfl⟩ aa1 (fun hg IJ EN bQ=>by
      obtain⟨u1,u2,u3,u4⟩:=Bh g r (g.ρ r) (g.ln r) (g.tk r) (g.own r) g.S;refine⟨u3.trans t1,b,_,_,u4.trans a1,u1.trans a2,EN,m1,fun i kv e q1 q2=>?_,a6⟩;rcases m2 i kv e q1 q2 with ⟨p1,p2⟩ | ⟨p1,p2⟩
      .rw[p1,p2];exact p6.mono IJ (fun _ h=>h) (fun _ h=>h.elim)
      .exact(a5 i kv e p1 p2).mono IJ (fun _ h=>h) (fun _ h=>h.elim))
     refine⟨_,_,_,?_,k4,i1,i2⟩;simp[Instr.mapUpdate,run_underlying lQ,Fu,TM,r1,Od]
    .obtain⟨a,q1,q2⟩:=a4.some hj hkey;obtain⟨m1,m2⟩:=Pp a4 (x:=vk) (v:=str h x) (y:=vx) q1;obtain⟨i1,i2⟩:=Cw.swap hI hl a1 a6 (.map sh (Fm BV vk (str h x))) a3 (.map (es.modify j fun e=>{ e with key:=vk,val:=vx }) ck) w ⟨rfl,rfl,rfl,rfl⟩ aa1 (fun hg IJ EN bQ=>by
      obtain⟨u1,u2,u3,u4⟩:=Bh g r (g.ρ r) (g.ln r) (g.tk r) (g.own r) g.S;refine⟨u3.trans t1,b,_,_,u4.trans a1,u1.trans a2,EN,m1,fun i kv e q1 q2=>?_,a6⟩;rcases m2 i kv e q1 q2 with ⟨p1,p2⟩ | ⟨p1,p2⟩
      .rw[p1,p2];exact p6.mono IJ (fun _ h=>h) (fun _ h=>h.elim)
      .exact(a5 i kv e p1 p2).mono IJ (fun _ h=>h) (fun _ h=>h.elim))
     refine⟨_,_,_,?_,k4,i1,i2⟩;have zz : es[j]?=some en:=by simp_all
     have Gw:=RK (P:=P) w k3;simp[Instr.mapUpdate,run_underlying lQ,Fu,TM,r1,Od,zz,hkey,Gw]
  .rename_i sh BV e0;obtain⟨kt,e,k1,k2,k3,k4⟩:=M7 hk' hk;have ho:=hI.objs r;rw[e0]at ho;obtain⟨t1,b,es,ck,a1,a2,a3,a4,a5,a6⟩:=ho;have hl:(h r).live:=by rw[e0];trivial
   cases hm with
   |mref _ _ b' hu ht hp=>
    rw[a2]at hp;cases hp;have lQ:=hT.map k1;have Fu:=run_getObj_map (P:=P) w b es ck a3;have Od:∀o',(setObj b o').run P w=.ok () (setBlock w b o'):=fun o'=>by grind [setObj,Sem.run,setBlock]
    have TM:=fun bb=>MS hT k2 w bb k3;obtain⟨res,r1,r2⟩:=Oz hT k2 w k3 es.toList a4.shape;rcases r2 with ⟨rfl,hn⟩ | ⟨j,en,rfl,hj,hkey⟩
    .obtain⟨m1,m2⟩:=T9 a4 (x:=vk) (v:=x) (y:=vx) k3 (fun a=>a4.none hn a);obtain⟨i1,i2⟩:=Cw.swap hI hl a1 a6 (.mapU sh (Fm BV vk (x))) a3 (.map (es.push { key:=vk,val:=vx,born:=ck }) (ck+1)) w ⟨rfl,rfl,rfl,rfl⟩ aa1 (fun hg IJ EN bQ=>by
      obtain⟨u1,u2,u3,u4⟩:=Bh g r (g.ρ r) (g.ln r) (g.tk r) (g.own r) g.S;have Mz:∀i,Az h i->Az (AC h r (.mapU sh (Fm BV vk x))) i:=fun i hi=>DA aa1 i hi;refine⟨u3.trans t1,b,_,_,u4.trans a1,u1.trans a2,EN,m1,fun i kv e q1 q2=>?_,a6⟩
      grind [AY.mono])
     refine⟨_,_,_,?_,k4,i1,i2⟩;simp[Instr.mapUpdate,run_underlying lQ,Fu,TM,r1,Od]
    .obtain⟨a,q1,q2⟩:=a4.some hj hkey;obtain⟨m1,m2⟩:=Pp a4 (x:=vk) (v:=x) (y:=vx) q1;obtain⟨i1,i2⟩:=Cw.swap hI hl a1 a6 (.mapU sh (Fm BV vk (x))) a3 (.map (es.modify j fun e=>{ e with key:=vk,val:=vx }) ck) w ⟨rfl,rfl,rfl,rfl⟩ aa1 (fun hg IJ EN bQ=>by
      obtain⟨u1,u2,u3,u4⟩:=Bh g r (g.ρ r) (g.ln r) (g.tk r) (g.own r) g.S;have Mz:∀i,Az h i->Az (AC h r (.mapU sh (Fm BV vk x))) i:=fun i hi=>DA aa1 i hi;refine⟨u3.trans t1,b,_,_,u4.trans a1,u1.trans a2,EN,m1,fun i kv e q1 q2=>?_,a6⟩
      grind [AY.mono])
     refine⟨_,_,_,?_,k4,i1,i2⟩;have zz : es[j]?=some en:=by simp_all
     have Gw:=RK (P:=P) w k3;simp[Instr.mapUpdate,run_underlying lQ,Fu,TM,r1,Od,zz,hkey,Gw]
  simp_all
 simp_all
theorem Ow{d b:Nat}{ck:Nat}(hd:h d=.free)(hS:g.S b 0)(hb:w.heap[b]?=some (.map es ck))(hm:Hx sh es ck BV)(hv:∀(i:Nat) (kv:Value×AV) (e:MapEntry),BV[i]?=some kv->es[i]?=some e->AY g w Fs kv.2 e.val) :
  ∃g',Cw w0 g0 h0 (AC h d (.iter BV BV none)) g' (w.alloc (.mapIter (some b) ck #[] ck))/\Le h g w (AC h d (.iter BV BV none)) g' (w.alloc (.mapIter (some b) ck #[] ck)) /\
   AY g' (w.alloc (.mapIter (some b) ck #[] ck)) (Az (AC h d (.iter BV BV none))) (.ref d 0) (.pointer (some ⟨w.heap.size,0,none⟩)):=by
 obtain⟨k1,k2⟩:=hI.newOwn hd (.iter BV BV none) (.mapIter (some b) ck #[] ck) (.pointer (some ⟨w.heap.size,0,none⟩)) 0 false w ⟨rfl,rfl,rfl,rfl⟩ aa1 (fun hg hk=>by
  obtain⟨u1,u2,u3,u4⟩:=Bh g d (.pointer (some ⟨w.heap.size,0,none⟩)) 0 false (some w.heap.size) g.S;obtain⟨c1,c2,c3⟩:=hk b 0 hS
  exact⟨u3,w.heap.size,b,ck,#[],ck,es,ck,u4,u1,Hj w _ rfl,c1,c3 es ck hb,⟨sh,hm⟩,rfl,rfl,fun i kv e q1 q2=>(hv i kv e q1 q2).mono hk (fun _ h=>h) (fun _ h=>h.elim),
   ⟨Pu hm.2.2.2.1,fun _ h=>h⟩,fun i kv e q1 q2=>by simp[List.mem_of_getElem? q1],trivial,fun o ho=>by have:=hI.slt _ _ ho;omega⟩)
 refine⟨_,k1,k2,.ref _ d 0 w.heap.size (by unfold Az;rw[AS];simp) ?_ ?_⟩<;>simp[Gh.upd]
theorem RB{r b:Nat}{ck:Nat}(e0:h r=.map sh BV)(a1:g.own r=some b)(a2:g.ρ r=.map (some b))(a3:w.heap[b]?=some (.map es ck))(a4:Hx sh es ck BV)(a5:∀(i:Nat) (kv:Value×AV) (e:MapEntry),BV[i]?=some kv->es[i]?=some e->AY g w Fs kv.2 e.val)(t1:g.tk r=false) :
  ∃g',Cw w0 g0 h0 (AC h r (.rom sh BV)) g' w/\Le h g w (AC h r (.rom sh BV)) g' w/\g'.S b 0:=by
 have hl:(h r).live:=by rw[e0];trivial
 have E1:=(hI.loc r b hl a1).1
 obtain⟨k1,k2⟩:=hI.upd r (.rom sh BV) (g.ρ r) (g.ln r) (g.tk r) none (g.more b 1) w none ⟨rfl,rfl,rfl,Ao _⟩ (fun _ _ _=>rfl) (fun b e=>by cases e) (fun _ _ h=>.inl h)
  (fun b' o hs=>hs.elim .inl (fun hs=>.inr ⟨by omega,.inr ⟨hl,by simp_all⟩⟩)) (fun b o e=>by cases e) (fun b hh _=>by cases hh) aa1
  (fun _=>⟨rfl,Ao _,fun _=>rfl,fun _=>rfl⟩) (fun hg hk=>by
   obtain⟨u1,u2,u3,u4⟩:=Bh g r (g.ρ r) (g.ln r) (g.tk r) none (g.more b 1);exact⟨u3.trans t1,b,u1.trans a2,.cmap _ sh BV b es ck (.inr ⟨rfl,Vx⟩) a3 a4 (fun i kv e q1 q2=>(a5 i kv e q1 q2).mono hk (fun _ h=>h) (fun _ h=>h.elim))⟩)
 exact⟨_,k1,k2,.inr ⟨rfl,Vx⟩⟩
theorem XH{r b:Nat}{ck:Nat}(e0:h r=.mapU sh BV)(a1:g.own r=some b)(a2:g.ρ r=.map (some b))(a3:w.heap[b]?=some (.map es ck))(a4:Hx sh es ck BV)(a5:∀(i:Nat) (kv:Value×AV) (e:MapEntry),BV[i]?=some kv->es[i]?=some e->AY g w (Az h) kv.2 e.val)(t1:g.tk r=false) :
  ∃g',Cw w0 g0 h0 (AC h r (.rom sh (Sb h BV))) g' w/\Le h g w (AC h r (.rom sh (Sb h BV))) g' w/\g'.S b 0:=by
 have hl:(h r).live:=by rw[e0];trivial
 have E1:=(hI.loc r b hl a1).1
 obtain⟨k1,k2⟩:=hI.upd r (.rom sh (Sb h BV)) (g.ρ r) (g.ln r) (g.tk r) none (g.more b 1) w none ⟨rfl,rfl,rfl,Ao _⟩ (fun _ _ _=>rfl) (fun b e=>by cases e) (fun _ _ h=>.inl h)
  (fun b' o hs=>hs.elim .inl (fun hs=>.inr ⟨by omega,.inr ⟨hl,by simp_all⟩⟩)) (fun b o e=>by cases e) (fun b hh _=>by cases hh) aa1
  (fun _=>⟨rfl,Ao _,fun _=>rfl,fun _=>rfl⟩) (fun hg hk=>by
   obtain⟨u1,u2,u3,u4⟩:=Bh g r (g.ρ r) (g.ln r) (g.tk r) none (g.more b 1);refine⟨u3.trans t1,b,u1.trans a2,.cmap _ sh _ b es ck (.inr ⟨rfl,Vx⟩) a3 (Wf _ a4) (fun i kv e q1 q2=>?_)⟩;unfold Sb at q1;rw[BA]at q1;obtain⟨p,q3,rfl⟩:=B3.1 q1;exact((a5 i p e q3 q2).str hI.objs).mono hk (fun _ h=>h) (fun _ h=>h.elim))
 exact⟨_,k1,k2,.inr ⟨rfl,Vx⟩⟩
theorem iV(hT:BY P T){ty kt e:Nat}(ht:(T ty).d=.map kt e){d:Option Nat}{x:AV}(hx:AY g w (Az h) x vx)(hk:cI d h x K) :
  NU P w0 g0 h0 h g w (Instr.range ty vx) K:=by
 have hu:=hT.map ht;unfold cI at hk;split at hk
 .simp_all
 .rename_i d;split at hk
  .rename_i hd;have Ct:∀b es ck,w.heap[b]?=some (.map es ck)->(Instr.range ty (.map (some b))).run P w=.ok (.pointer (some ⟨w.heap.size,0,none⟩)) (w.alloc (.mapIter (some b) ck #[] ck)):=fun b es ck hb=>by
    simp[Instr.range,run_underlying hu,run_getObj_map (P:=P) w b es ck hb]
   split at hk
   .cases hx with
    |cmap _ _ _ b es ck hS hb hm hv=>
     obtain⟨g',k1,k2,k3⟩:=Ow hI hd hS hb hm hv;exact⟨_,_,_,_,_,Ct _ _ _ hb,hk,k1,k2,k3⟩
   .rename_i r;have ho:=hI.objs r;cases hx with
    |mref _ _ b lQ ht' hp=>
     split at hk
     .rename_i sh BV e0;rw[e0]at ho;obtain⟨_,b',a1,a2⟩:=ho;rw[a1]at hp;cases hp;cases a2 with
      |cmap _ _ _ _ es ck hS hb hm hv=>
       obtain⟨g',k1,k2,k3⟩:=Ow hI hd hS hb hm hv;exact⟨_,_,_,_,_,Ct _ _ _ hb,hk,k1,k2,k3⟩
     .rename_i sh BV e0;rw[e0]at ho;obtain⟨t1,b',es,ck,a1,a2,a3,a4,a5,a6⟩:=ho;rw[a2]at hp;cases hp;obtain⟨g1,i1,i2,i3⟩:=RB hI e0 a1 a2 a3 a4 a5 t1;have D8:d≠r:=fun e=>by simp_all
      obtain⟨g',k1,k2,k3⟩:=Ow i1 (by rw[BN _ _ _ _ D8];exact hd) i3 a3 a4 (fun i kv e q1 q2=>(a5 i kv e q1 q2).mono i2.keeps (fun _ h=>h) (fun _ h=>h.elim));exact⟨_,_,_,_,_,Ct _ _ _ a3,hk,k1,i2.trans k2,k3⟩
     simp_all
   simp_all
  simp_all
theorem mq{ty:TypeId}{x:AV}(hx:AY g w (Az h) x vx)(hk:mp h x K):NU P w0 g0 h0 h g w (Instr.next vx false ty) K:=by
 unfold mp at hk;split at hk
 .rename_i r;split at hk
  .rename_i all rem Ej e0;have ho:=hI.objs r;rw[e0]at ho;obtain⟨t1,b,mb,Ke,seen,st,es,ck,a1,a2,a3,a4,a5,⟨sh,a6⟩,a7,a8,a9,X9,da,a12,sd⟩:=ho;have hl:(h r).live:=by rw[e0];trivial
   cases hx with
   |ref _ _ _ b' hu ht hp=>
    rw[a2]at hp;cases hp;have E1:∀e∈es.toList,e.born<Ke:=fun e he=>by
     obtain⟨i,hi⟩:=Eg.1 he
     have:=a6.2.2.2.2.1 i e (by simp_all)
     omega
    rcases run_next_at (P:=P) w ty b mb Ke st seen es ck a3 a5 E1 aa0 with ⟨q1,q2⟩ | ⟨e,q1,w1,q2,q3⟩
    .have AcB:rem=[]:=by
      apply LZ.2;intro kv gI;obtain⟨i,hi⟩:=Eg.1 (X9.2 kv gI);have hil:i<es.size:=by rw[a6.1];grind
      have hb:=(da i kv es[i] hi (by simp_all)).1 gI;have hm:es[i]∈leftOf es seen:=by grind [leftOf]
      simp_all
     exact⟨_,w,g,_,h,q2,hk.1 AcB,hI,.refl _ _ _,.tup _ _ _ rfl (fun i av x h1 h2=>by
      grind [AY.v])⟩
    .have hq:e∈es/\e.born∉seen:=by grind [leftOf]
     obtain⟨i,hi⟩:=Array.mem_iff_getElem?.1 hq.1;have hil:i<all.length:=by rw[<-a6.1];grind
     have xb:all[i]?=some all[i]:=AR hil;have Y2:=(da i _ e xb hi).2 hq.2;obtain⟨s1,s2,hs⟩:=List.append_of_mem Y2;have J6:rem.Perm (all[i]::(s1++s2)):=by simp_all
     have Sh:(all[i]::(s1++s2)).Nodup:=J6.nodup_iff.1 X9.1;have hr:=a9 i _ e xb hi;have hkey:=a6.2.1 i _ e xb hi;have TP:w1.heap=w.heap/\w1.os=w.os/\w1.tape=w.tape/\w1.output=w.output:=by rcases q2 with rfl | rfl<;>exact⟨rfl,rfl,rfl,rfl⟩
     obtain⟨k1,k2⟩:=Cw.swap hI hl a1 sd (.iter all (s1++s2) (some all[i])) a3 (.mapIter (some mb) Ke (seen.push e.born) ck) w1 TP aa1 (fun hg IJ EN bQ=>by
      obtain⟨u1,u2,u3,u4⟩:=Bh g r (g.ρ r) (g.ln r) (g.tk r) (g.own r) g.S;obtain⟨c1,c2,c3⟩:=IJ mb 0 a4
      refine⟨u3.trans t1,b,mb,Ke,_,ck,es,ck,u4.trans a1,u1.trans a2,EN,c1,c3 _ _ a5,⟨sh,a6⟩,a7,rfl,fun i kv e p q=>(a9 i kv e p q).mono IJ (fun _ h=>h) (fun _ h=>h.elim),
       ⟨(GK.1 Sh).2,fun kv gI=>X9.2 kv (J6.mem_iff.2 (Ai _ gI))⟩,fun j kv e' p q=>?_,⟨i,e,xb,hi,by simp⟩,sd⟩
      rw[Array.mem_push];have h1:=da j kv e' p q;rw[J6.mem_iff,AF]at h1;constructor
      .intro gI hc;rcases hc with hc | hc
       .simp_all
       .obtain rfl:=a6.2.2.2.2.2 j i e' e q hi hc<;>simp_all
      .intro hc;rcases h1.2 (fun hm=>hc (.inl hm))with e2 | e2
       .have:j=i:=Wk (f:=fun x=>x) (l:=all) (by simpa using Pu a6.2.2.2.1) p xb e2
        simp_all
       omega)
     refine⟨_,_,_,_,_,q3,hk.2 all[i] (s1++s2) J6,k1,k2,.tup _ _ _ rfl (fun j av x h1 h2=>?_)⟩
     match j,h1,h2 with
     |0,h1,h2=>grind [AY.v]
     |1,h1,h2=>grind [AY.v]
     |2,h1,h2=>simp at h1 h2;grind [AY.le,AY.up]
  simp_all
 simp_all
end
end Go.Eng
namespace Go.Eng
variable {F:(AV->Prop)->Prop}{a:AV}{α:Type}(T:G0)(cx:Cx)(o:Oper)(op:BinOp)(s:Nat)(st:St)(f:Nat)(R:List Nat)(k:IntKind)(w:Option Nat)(K:HK)(x:AV)
def Gs(F:(AV->Prop)->Prop):Prop:=∀K,F K->∃v,K v/\∀K',K' v->F K'
theorem CN(v:AV):Gs (fun K=>K v):=fun _ h=>⟨v,h,fun _ h=>h⟩
theorem DH{p:Prop}(h:Gs F):Gs (fun K=>p/\F K):=fun K ⟨hp,hk⟩=>
 let ⟨v,h1,h2⟩:=h K hk
 ⟨v,h1,fun K' h'=>⟨hp,h2 K' h'⟩⟩
theorem Ch:Gs (fun _=>False):=fun _ h=>h.elim
theorem Wo(p:Prop):Gs (IY p):=fun K h=>by
 by_cases hp:p
 .exact⟨_,h.1 hp,fun K' h'=>⟨fun _=>h',fun hn=>absurd hp hn⟩⟩
 .exact⟨_,h.2 hp,fun K' h'=>⟨fun q=>absurd q hp,fun _=>h'⟩⟩
theorem ae(h:Gs F):Gs (fun K=>F (iy K)):=fun K hk=>by
 obtain⟨v,h1,h2⟩:=h _ hk;unfold iy at h1;split at h1
 .exact⟨_,h1,fun K' h'=>h2 _ h'⟩
 .exact⟨_,h1,fun K' h'=>h2 _ h'⟩
 simp_all
theorem PE{F:α->(AV->Prop)->Prop}(h:∀x,Gs (F x)):Gs (fun K=>∃x,F x K):=fun K ⟨x,hk⟩=>
 let ⟨v,h1,h2⟩:=h x K hk
 ⟨v,h1,fun K' h'=>⟨x,h2 K' h'⟩⟩
theorem KX(t:Nat)(cs:List AV):Gs (LV T t cs):=by
 have head:Gs (Mx cs):=by unfold Mx;cases cs with | nil=>exact Ch | cons a _=>exact CN a
 unfold LV;split
 .exact DH (CN _)
 .exact DH (CN _)
 .cases cs with
  |nil=>exact Ch
  |cons a _=>
   intro K h;simp only[Mx]at h⊢;split at h
   .rename_i b;cases b<;>grind
   simp_all
 all_goals grind [Ch]
theorem eF(t:Nat)(x y:AV)(hx:∀tk es,x≠.slice tk es):Gs (u5 T t x y):=by
 unfold u5
 repeat' split
 all_goals first | exact Ch | exact CN _ | exact Wo _ | simp_all | simp_all
theorem Us(a b:Int):Gs (UM op k a b):=by
 unfold UM;split<;>first | exact Ch | exact DH (CN _)
theorem cz(a b:Int):Gs (SJ op k a b):=by
 unfold SJ
 repeat' split
 all_goals first | exact Ch | exact DH (CN _) | (unfold W0;split<;>first | exact CN _ | exact DH (CN _) | grind [Us])
theorem mQ(t:Nat)(x y:AV)(hx:∀tk es,x≠.slice tk es):Gs (SL T op t x y):=by
 unfold SL
 repeat' split
 all_goals first | exact Ch | exact Wo _ | exact cz _ _ _ _ | exact Us _ _ _ _ | exact DH (CN _) | exact eF _ _ _ _ hx | exact ae (eF _ _ _ _ hx)
theorem iP(t:Nat)(Y:Operand)(x y:AV)(hx:∀tk es,x≠.slice tk es):Gs (Ym T op t Y x y):=by
 unfold Ym
 repeat' split
 all_goals first | exact Ch | exact CN _ | grind [mQ]
theorem iQ(t:Nat)(x:AV):Gs (VR T s t x):=by
 unfold VR
 repeat' split
 all_goals first | exact Ch | exact CN _ | exact DH (CN _) | exact PE fun _=>DH (CN _)
theorem cB:Gs (Tl T s f x):=by
 unfold Tl
 repeat' split
 all_goals first | exact Ch | exact CN _
theorem ab:Gs (O5 T s f x):=by
 unfold O5
 repeat' split
 all_goals first | exact Ch | exact KX _ _ _
theorem Ur(t:Nat)(x ix:AV):Gs (Ju T t x ix):=by
 unfold Ju
 repeat' split
 all_goals first | exact Ch | exact DH (CN _) | exact PE fun _=>DH (DH (CN _))
theorem cC(t:Nat)(x ix:AV):Gs (TU T t x ix):=by
 unfold TU
 repeat' split
 all_goals first | exact Ch | exact DH (KX _ _ _) | exact PE fun _=>DH (CN _)
theorem XO(i:Nat):Gs (Ms x i):=by
 unfold Ms
 repeat' split
 all_goals first | exact Ch | exact CN _
theorem mS:Gs (KQ x):=by
 unfold KQ
 repeat' split
 all_goals first | exact Ch | exact CN _
theorem iR(c a b:AV):Gs (Z0 c a b):=by
 unfold Z0
 repeat' split
 all_goals first | exact Ch | exact CN _
theorem qF(f:Int->Int->Int)(x y:AV):Gs (qo f x y):=by
 unfold qo
 repeat' split
 all_goals first | exact Ch | exact CN _
theorem iT(op:UnOp)(x:AV):Gs (ax op x):=by
 unfold ax
 repeat' split
 all_goals first | exact Ch | exact CN _ | exact ae (CN _) | exact DH (CN _)
def rp(F:(α->Prop)->Prop):Prop:=∀K,F K->∃v,K v/\∀K',K' v->F K'
theorem aa(n:Nat)(a:AV):rp (Hr n a):=by
 intro K h;unfold Hr at h⊢
 grind
theorem Up(pl:Nat->Option (Nat×Nat))(t:Nat->AV):∀(ps:List (Nat×Operand)) (cs:List AV),rp (KE pl cs t ps)
 | [],cs=>fun K h=>⟨cs,h,fun _ h=>h⟩
 |(i,x)::r,cs=>by
  intro K h;unfold KE at h;split at h
  .simp_all
  .rename_i o n e;obtain⟨vs,h1,h2⟩:=aa _ _ _ h;split at h1
   .rename_i hb;obtain⟨c,h3,h4⟩:=Up pl t r _ _ h1<;>grind [KE]
   simp_all
theorem cA(ty:Nat)(t:Nat->AV)(ps:List (Nat×Operand)):Gs (PZ T ty t ps):=by
 unfold PZ
 repeat' split
 all_goals first
  |exact Ch
  |exact fun K h=>let ⟨c,h1,h2⟩:=Up _ _ _ _ _ h;⟨_,h1,fun K' h'=>h2 _ h'⟩
def eff(h:Nat->HO)(e:Option (Nat×HO)):Nat->HO:=match e with | none=>h | some (r,o)=>AC h r o
structure Alike(o:Oper)(R:List Nat)(st st2:St):Prop where
 t:∀x∈o.op.operands,ev st2.t x=ev st.t x
 h:∀r∈R,st2.h r=st.h r
def CU:Prop:=
 ∃v e,K v (eff st.h e)/\(∀r o',e=some (r,o')->w=some r/\r∈R)/\∀st2,Alike o R st st2->∀K' : HK,K' v (eff st2.h e)->F7 cx true o st2 K'
def SB(r:Nat):Prop:=match w with | none=>False | some x=>x=r\/(10000000<=x/\(x % 10000000=r\/x / 10000000=r))\/x=WX
def Ij(h:Nat->HO):List (Nat×HO)->Nat->HO
 | []=>h
 |p::l=>Ij (AC h p.1 p.2) l
def Sd:Prop:=
 ∃v e,K v (Ij st.h e)/\(∀r o',(r,o')∈e->SB w r/\r∈R)/\∀st2,Alike o R st st2->∀K' : HK,K' v (Ij st2.h e)->F7 cx true o st2 K'
section
variable {cx:Cx}{o:Oper}{st:St}{R:List Nat}{w:Option Nat}{K:HK}
theorem CU.pick(hF:Gs F)(h:F fun v=>K v st.h)(h2:∀st2,Alike o R st st2->∀K' : HK,F (fun v=>K' v st2.h)->F7 cx true o st2 K'):CU cx o st R w K:=
 let ⟨v,h1,h3⟩:=hF _ h
 ⟨v,none,h1,fun _ _ e=>(by cases e),fun st2 ha K' hk=>h2 st2 ha K' (h3 _ hk)⟩
theorem ZH{cs:List AV}(h:a∈cs):∀r∈Ze a,r∈p9 cs:=by
 induction cs with
 |nil=>cases h
 |cons c cs ih=>
  intro r hr;rcases AF.1 h with rfl | h
  .exact Bw _ hr
  .exact B8 _ (ih h r hr)
theorem mf{cs:List AV}(h:a∈cs):∀r∈Xz a,r∈tY cs:=by
 induction cs with
 |nil=>cases h
 |cons c cs ih=>
  intro r hr;rcases AF.1 h with rfl | h
  .exact Bw _ hr
  .exact B8 _ (ih h r hr)
theorem ZG{cs:List AV}(h:a∈cs):∀r∈Zd a,r∈TQ cs:=by
 induction cs with
 |nil=>cases h
 |cons c cs ih=>
  intro r hr;rcases AF.1 h with rfl | h
  .exact Bw _ hr
  .exact B8 _ (ih h r hr)
theorem V3(a:AV):∀r∈Ze a,r∈Xz a:=by cases a<;>simp[Ze,Xz]
theorem QV{h h2:Nat->HO}(e:∀r∈Ze a,h2 r=h r):str0 h2 a=str0 h a:=by
 cases a<;>simp only[str0]
 all_goals grind [Ze]
theorem WD{h h2:Nat->HO}(e:∀r∈Xz a,h2 r=h r):str h2 a=str h a:=by
 cases a with
 |agg cs=>simp only[str];exact Aa _ (Cg fun c hc=>QV fun r hr=>e r (ZH hc r hr))
 |clo f cs=>simp only[str];exact Aa _ (Cg fun c hc=>QV fun r hr=>e r (ZH hc r hr))
 |_=>exact QV (fun r hr=>e r (V3 _ r hr))
theorem lU(a:AV):∀r∈Xz a,r∈Zd a:=by
 cases a with
 |agg cs=>
  intro r hr;simp only[Zd,Xz]at *
  induction cs with
  |nil=>exact hr
  |cons c cs ih=>
   rcases Bc.1 hr with h | h
   .exact Bw _ (V3 c r h)
   .exact B8 _ (ih h)
 |_=>exact fun r hr=>hr
theorem K4{h h2:Nat->HO}(e:∀r∈Zd a,h2 r=h r):str h2 a=str h a:=WD fun r hr=>e r (lU a r hr)
theorem QW{h h2:Nat->HO}{l:List AV}(e:∀r∈TQ l,h2 r=h r):l.map (str h2)=l.map (str h):=
 Cg fun _ ha=>K4 fun r hr=>e r (ZG ha r hr)
theorem ns{h h2:Nat->HO}(e:∀r∈Zd a,h2 r=h r):rsv h2 a=rsv h a:=by
 cases a<;>simp only[rsv]
 all_goals grind [Zd,Xz,Ze]
theorem N1{n:Nat}{K:List AV->Prop}(hk:Hr n a K):∃cs,K cs/\(∀K' : List AV->Prop,K' cs->Hr n a K')/\∀h h2:Nat->HO,(∀r∈Zd a,h2 r=h r)->cs.map (str h2)=cs.map (str h):=by
 have single:K [a]->(∀K' : List AV->Prop,K' [a]->Hr n a K')->∃cs,K cs/\(∀K' : List AV->Prop,K' cs->Hr n a K')/\∀h h2:Nat->HO,(∀r∈Zd a,h2 r=h r)->cs.map (str h2)=cs.map (str h):=
  fun h1 h2=>⟨[a],h1,h2,fun h h2 e=>by simp[K4 e]⟩
 unfold Hr at hk;split at hk
 .rename_i cs;split at hk
  .rename_i hn;refine⟨cs,hk,fun K' h=>by grind [Hr],fun h h2 e=>Cg fun c hc=>WD fun r hr=>e r (mf hc r hr)⟩
  simp_all
 .rename_i hna;split at hk
  .rename_i h1;split at hk
   .refine single hk fun K' h=>?_
    grind [Hr]
   simp_all
  simp_all
theorem Tn{n sz:Nat}{t:Nat->AV}:∀{ps:List (Nat×Operand)} {es:List (List AV)} {h:Nat->HO} {K:List (List AV)->Prop},Rr n sz h es t ps K ->
  ∃E7,K E7/\∀(t2:Nat->AV) (h2:Nat->HO),(∀r∈TQ (ps.map fun p=>ev t p.2),h2 r=h r)->(∀p∈ps,ev t2 p.2=ev t p.2)->∀K' : List (List AV)->Prop,K' E7->Rr n sz h2 es t2 ps K'
 | [],es,h,K,hk=>⟨es,hk,fun _ _ _ _ _ h=>h⟩
 |(i,x)::r,es,h,K,hk=>by
  unfold Rr at hk;split at hk
  .rename_i hb;obtain⟨cs,c1,c2,c3⟩:=N1 hk;obtain⟨E7,e1,e2⟩:=Tn c1;refine⟨E7,e1,fun t2 h2 hh ht K' hk'=>?_⟩;unfold Rr;rw[hb,ht (i,x) (Ah ..)];refine c2 _ ?_;rw[c3 h h2 (fun r hr=>hh r (Bw _ hr))];exact e2 t2 h2 (fun r hr=>hh r (B8 _ hr)) (fun p hp=>ht p (Ai _ hp)) K' hk'
  simp_all
theorem Iu{d:Option Nat}{h:Nat->HO}{sz:Nat}{es:List (List AV)}(hk:E8 cx d h sz es K) :
  ∃d',d.map (Kk cx)=some d'/\∃v x,K v (AC h d' x)/\∀h2:Nat->HO,h2 d'=h d'->∀K' : HK,K' v (AC h2 d' x)->E8 cx d h2 sz es K':=by
 unfold E8 at hk;split at hk
 all_goals grind [E8]
theorem bu{h:Nat->HO}{x:AV}{K:List (List AV)->Prop}(hk:Li h x K):∃es,K es/\∀h2:Nat->HO,(∀r n,x=.msl r n->h2 r=h r)->∀K' : List (List AV)->Prop,K' es->Li h2 x K':=by
 unfold Li at hk
 grind [Li]
end
end Go.Eng
