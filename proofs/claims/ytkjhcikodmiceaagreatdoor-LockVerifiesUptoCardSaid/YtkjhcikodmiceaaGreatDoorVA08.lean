/- Lemmas 8. -/
import Derived.Test.YtkjhcikodmiceaaGreatDoorVA07
import Derived.Maps.RangeRun
namespace Go.Eng
variable {ρ:Operand->Value}{es:C0}{hi:Option Operand}{vx:Value}{K:HK}{a:Option Addr}{cx:Cx}{x:AV}{T:GW}
section
variable {P:Program}{w0:World}{g0:Gh}{h0 h:Nat->HO}{g:Gh}{w:World}(hI:CT w0 g0 h0 h g w)
include hI
theorem OI{d sz n:Nat}(hd:h d=.free)(hl:∀c∈es,c.length=sz)(hn:es.length=n)(hr:Bc g w FN (.slice .none es) (.slice a n n)) :
  ∃g',CT w0 g0 h0 (AK h d (.tok sz n)) g' w/\Le h g w (AK h d (.tok sz n)) g' w/\Bc g' w (AC (AK h d (.tok sz n))) (.slice (.id d sz) es) (.slice a n n):=by
 obtain⟨k1,k2⟩:=hI.upd d (.tok sz n) (.slice a n n) n true none g.S w none ⟨rfl,rfl,rfl,Ap _⟩ (fun _ _ _=>rfl) (fun b e=>by cases e) (fun _ _ h=>h) (fun _ _ h=>.inl h) (fun b o e=>by cases e) (fun b _ e=>by cases e) aa0
  (fun hu=>absurd hd hu) (fun _ _=>by
   obtain⟨u1,u2,u3,u4⟩:=Bm g d (.slice a n n) n true none g.S;exact⟨u3,u2,a,n,u1,.inl ⟨rfl,u4⟩⟩)
 exact⟨_,k1,k2,.tok _ d sz es _ (((hr.up (AC h)).le k2)) hl (by unfold AC;rw[A2];simp) (by simp[Gh.upd]) (by simp[Gh.upd,hn]) (fun _=>by simp[Gh.upd])⟩
theorem bW{d:Option Nat}(hx:Bc g w (AC h) x vx)(hk:Pd cx d h x K):∃g' av h',K av h'/\CT w0 g0 h0 h' g' w/\Le h g w h' g' w/\Bc g' w (AC h') av vx:=by
 have plain:K x h->∃g' av h',K av h'/\CT w0 g0 h0 h' g' w/\Le h g w h' g' w/\Bc g' w (AC h') av vx:=fun hk=>⟨g,x,h,hk,hI,.refl _ _ _,hx⟩;unfold Pd at hk;split at hk
 .simp_all
 .rename_i d;split at hk
  .rename_i sz _;split at hk
   .refine⟨g,unT x,h,hk,hI,.refl _ _ _,?_⟩;cases x with
    |slice tk es=>exact(Bc.slice_none hx).up _
    |_=>exact hx
   .split at hk
    .split at hk
     .rename_i hd;obtain rfl:=hx.v_eq;obtain⟨g',k1,k2,k3⟩:=OI hI (sz:=sz) (es:=[]) (a:=none) hd aa0 rfl (.snil _ _ _)<;>grind
     simp_all
    simp_all
  .split at hk
   .rename_i sz _;split at hk
    .split at hk
     .rename_i hd;obtain rfl:=hx.v_eq
      obtain⟨k1,k2⟩:=hI.upd d (.arr sz []) (.slice none 0 0) 0 true none g.S w none ⟨rfl,rfl,rfl,Ap _⟩ (fun _ _ _=>rfl) (fun b e=>by cases e) (fun _ _ h=>h) (fun _ _ h=>.inl h) (fun b o e=>by cases e) (fun b _ e=>by cases e) aa0
       (fun hu=>absurd hd hu) (fun _ _=>by
        obtain⟨u1,u2,u3,u4⟩:=Bm g d (.slice none 0 0) 0 true none g.S;exact⟨u3,u2,by simp,.inl ⟨rfl,u1,u4⟩⟩)
      exact⟨_,_,_,hk,k1,k2,.msl _ d 0 none 0 (by unfold AC;rw[A2];simp) (by simp[Gh.upd]) (Al _) (.inl rfl) (fun _=>by simp[Gh.upd])⟩
     simp_all
    simp_all
   simp_all
theorem ay{mku:List Nat}{d:Option Nat}{ty:Nat}(hk:KP T mku d h ty K):N8 P w0 g0 h0 h g w (Instr.makeMap ty none) K:=by
 unfold KP at hk;split at hk
 .simp_all
 .rename_i d;split at hk
  .rename_i hd;split at hk
   .split at hk
    .rename_i sh _;split at hk
     .obtain⟨k1,k2⟩:=hI.newOwn hd (.mapU sh []) (.map #[] 0) (.map (some w.heap.size)) 0 false w ⟨rfl,rfl,rfl,rfl⟩ aa0 (fun hg IS=>by
       obtain⟨u1,u2,u3,u4⟩:=Bm g d (.map (some w.heap.size)) 0 false (some w.heap.size) g.S;exact⟨u3,w.heap.size,#[],0,u4,u1,Hj w _ rfl,⟨rfl,by simp,by simp,by simp,by simp,by simp⟩,by simp,fun o ho=>by have:=hI.slt _ _ ho;omega⟩)
      refine⟨_,_,_,_,_,?_,hk,k1,k2,.mref _ d w.heap.size (by grind [AC,A2]) ?_ ?_⟩
      .simp[Instr.makeMap]
      all_goals grind [Gh.upd]
     .obtain⟨k1,k2⟩:=hI.newOwn hd (.map sh []) (.map #[] 0) (.map (some w.heap.size)) 0 false w ⟨rfl,rfl,rfl,rfl⟩ aa0 (fun hg IS=>by
       obtain⟨u1,u2,u3,u4⟩:=Bm g d (.map (some w.heap.size)) 0 false (some w.heap.size) g.S;exact⟨u3,w.heap.size,#[],0,u4,u1,Hj w _ rfl,⟨rfl,by simp,by simp,by simp,by simp,by simp⟩,by simp,fun o ho=>by have:=hI.slt _ _ ho;omega⟩)
      refine⟨_,_,_,_,_,?_,hk,k1,k2,.mref _ d w.heap.size (by grind [AC,A2]) ?_ ?_⟩
      .simp[Instr.makeMap]
      all_goals grind [Gh.upd]
    simp_all
   simp_all
  simp_all
omit hI in
theorem Bc.sub{sz l m:Nat}{x:Value}{n cap:Nat}(hr:Bc g w FN (.slice .none es) x)(hx:x=.slice a n cap)(hl:∀c∈es,c.length=sz)(h1:l<=m)(h2:m<=es.length)(c' : Nat)(hc:m-l<=c')(a' : Option Addr)(ha:a'=a.map (·.add (l*sz))\/(m=l/\a'=a)):Bc g w FN (.slice .none ((es.take m).drop l)) (.slice a' (m-l) c'):=by
 subst hx;have CL:((es.take m).drop l).length=m-l:=by simp_all
 by_cases h0:m-l=0
 .grind [snil]
 .cases hr with
  |snil=>simp_all
  |slice _ _ b off HS cap val hc' Sv DK El=>
   have hz:HS=sz:=by
    have:(0:Nat)<es.length:=by omega
    have h3:=Sv 0 es[0] (AW this);simp_all
   subst hz;have ha' : a'=some ⟨b,off+l*HS,none⟩:=by
    grind [Addr.add_lit]
   subst ha';rw[<-CL];have F3:∀(i:Nat) (cs:List AV),((es.take m).drop l)[i]?=some cs->es[l+i]?=some cs:=fun i cs h=>by
    grind
   refine .slice _ _ b (off+l*HS) HS c' (fun i j=>val (l+i) j) Wk (fun i cs h=>Sv _ _ (F3 i cs h)) (fun i cs j av h1 h2=>?_) (fun i cs j av h1 h2=>El _ _ _ _ (F3 i cs h1) h2)
   grind
omit hI in
theorem KU{t:Nat->AV}(ht:∀x:Operand,Bc g w (AC h) (ev t x) (ρ x)){o:Option Operand}{i:Option Int}(hk:CN t o=some i):o.map ρ=i.map fun n=>.int .i64 n:=by
 cases o<;>grind [CN,Bc.v_eq]
omit hI in
theorem U8(b:Bool)(len cap:Nat)(lo hi mx:Option Int)(sE:mx=none\/hi≠none)(h0:0<=lo.getD 0)(h1:lo.getD 0<=hi.getD len)(h2:hi.getD len<=mx.getD cap)(h3:mx.getD cap<=cap) :
  (Instr.sliceBounds b len cap (lo.map fun n=>.int .i64 n) (hi.map fun n=>.int .i64 n) (mx.map fun n=>.int .i64 n)).run P w=.ok ((lo.getD 0).toNat,(hi.getD len).toNat,(mx.getD cap).toNat) w:=by
 have e1:∀n:Int,0<=n->(n.toNat:Int)=n:=fun n hn=>Int.toNat_of_nonneg hn;cases mx with
 |none=>
  cases hi with
  |none=>
   cases lo with
   |none=>simp[Instr.sliceBounds]
   |some l=>
    simp only[Ey,L9]at h0 h1 h2;simp[Instr.sliceBounds,run_sliceBound,h0,h1]
  |some hh=>
   simp only[Ey,L9]at h1 h2;have yz:0<=hh:=by omega
   cases lo with
   |none=>simp[Instr.sliceBounds,run_sliceBound,yz,h2]
   |some l=>
    simp only[Ey]at h0 h1;simp[Instr.sliceBounds,run_sliceBound,h0,h1,h2,yz,e1]
 |some m=>
  cases hi with
  |none=>simp_all
  |some hh=>
   simp only[Ey]at h1 h2 h3;have yz:0<=hh:=by omega
   have hm0:0<=m:=by omega
   cases lo with
   |none=>simp[Instr.sliceBounds,run_sliceBound,h2,h3,yz,hm0,e1]
   |some l=>
    simp only[Ey]at h0 h1;simp[Instr.sliceBounds,run_sliceBound,h0,h1,h2,h3,yz,hm0,e1]
omit hI in
theorem E1(hT:B8 P T){ty e k:Nat}(ht:(T ty).d=.slice e)(hk:(T e).size=k+1)(a:Option Addr)(len cap:Nat)(lo hi mx:Option Int)(sE:mx=none\/hi≠none)(h0:0<=lo.getD 0)(h1:lo.getD 0<=hi.getD len)(h2:hi.getD len<=mx.getD cap)(h3:mx.getD cap<=cap) :
  (Instr.sliceAt ty (.slice a len cap) (lo.map fun n=>.int .i64 n) (hi.map fun n=>.int .i64 n) (mx.map fun n=>.int .i64 n)).run P w =
   .ok (.slice (if(mx.getD cap).toNat=(lo.getD 0).toNat then a else a.map (·.add ((lo.getD 0).toNat*(T e).size))) ((hi.getD len).toNat-(lo.getD 0).toNat) ((mx.getD cap).toNat-(lo.getD 0).toNat)) w:=by
 have hu:=hT.slice ht;have hb:=U8 (P:=P) (w:=w) true len cap lo hi mx sE h0 h1 h2 h3;simp only[Instr.sliceAt,Sem.run_bind,run_underlying hu,Result.andThen_ok,Instr.slice,hb,hT.size1 w hk,Sem.run_pure];rw[hk]
theorem CT.moveO(r r2:Nat)(EG:r2≠r)(hf:h r2=.free)(hl:(h r).live){ob:Option Nat}(ho:∀c,ob=some c->g.own r=some c)(o' : HO)(x:Value)(n:Nat)(t:Bool)(hn:o'≠.free)
  (Mb:Fa g w (g.upd r2 x n t ob g.S) w->DV (g.upd r2 x n t ob g.S) w (AC (AK (AK h r .dead) r2 o')) r2 o') :
  CT w0 g0 h0 (AK (AK h r .dead) r2 o') (g.upd r2 x n t ob g.S) w/\Le h g w (AK (AK h r .dead) r2 o') (g.upd r2 x n t ob g.S) w:=by
 have lR:Kn g (g.upd r2 x n t ob g.S) (AC h):=by
  intro i hi;have e:i≠r2:=fun e=>hi (by simp_all)
  grind [Gh.upd]
 have hK:Fa g w (g.upd r2 x n t ob g.S) w:=fun b o hb=>⟨hb,rfl,fun _ _ h=>h⟩;have NN:∀i,AC h i->AC (AK (AK h r .dead) r2 o') i:=fun i hi=>DG hn i (DG aa0 i hi);have key:∀i,i≠r2->(AK (AK h r .dead) r2 o' i).live->i≠r/\(h i).live:=fun i h2 hl=>by
  rw[BT _ _ _ _ h2]at hl
  by_cases e:i=r
  .subst e;rw[A2]at hl;exact hl.elim
  grind [BT]
 have own:∀i,i≠r2->(g.upd r2 x n t ob g.S).own i=g.own i:=fun i e=>by simp[Gh.upd,e]
 have nw:(g.upd r2 x n t ob g.S).own r2=ob:=by simp[Gh.upd]
 refine⟨⟨hI.os,hI.tape,hI.output,hI.size,hI.frame,hI.slt,fun i=>?_,fun i j c hi hj ei ej=>?_,fun i c hi ei=>?_,hI.sg,hI.glob.keep hK⟩,lR,NN,hK⟩
 .by_cases e:i=r2
  .grind [A2]
  .rw[BT _ _ _ _ e]
   by_cases e1:i=r
   .subst e1;rw[A2];trivial
   .rw[BT _ _ _ _ e1];exact(hI.objs i).same hK NN lR (by simp[Gh.upd,e]) (by simp[Gh.upd,e]) (by simp[Gh.upd,e]) (by simp_all) (fun b hl hb=>⟨rfl,fun k hk=>hk⟩)
 .grind [CT.inj]
 .by_cases e1:i=r2
  .subst e1;rw[nw]at ei;exact hI.loc r _ hl (ho _ ei)
  .rw[own i e1]at ei;exact hI.loc i c (key i e1 hi).2 ei
theorem bf(hT:B8 P cx.T){d:Option Nat}{ty:Nat}{t:Nat->AV}(ht:∀x:Operand,Bc g w (AC h) (ev t x) (ρ x)){lo mx:Option Operand}(hx:Bc g w (AC h) x vx)(hk:U5 cx d h ty x (CN t lo) hi mx K):N8 P w0 g0 h0 h g w (Instr.sliceAt ty vx (lo.map ρ) (hi.map ρ) (mx.map ρ)) K:=by
 unfold U5 at hk;split at hk
 .rename_i d Ij e1;rw[KU ht e1];split at hk
  .rename_i e hs;split at hk
   .simp_all
   .rename_i k FI;split at hk
    .rename_i r sz es;split at hk
     .rename_i HS n e0;split at hk
      .rename_i hd;split at hk
       .rename_i q1 q2;obtain rfl:=AZ q1;have q2:=AZ q2;obtain⟨⟨rfl,h1,h2⟩,hk⟩:=hk;have hl:(h r).live:=by rw[e0];trivial
        have EG:Kq cx d≠r:=fun e=>by simp_all
        have ho:=hI.objs r;rw[e0]at ho;obtain⟨t1,l1,a,cap,a1,a3⟩:=ho;have hr:=hx.slice_none;cases hx with
        |tok _ _ _ _ _ wx qt hu ht' hn Sx=>
         have hv:=Sx l1.symm;rw[a1]at hv;subst hv;have fh:es.length<=cap:=by omega
         have CE:=E1 (P:=P) (w:=w) hT hs FI a es.length cap (some Ij) none none (.inl rfl) h1 h2 (by simp_all) aa0;simp only[Ey,L9,GG]at CE;have CL:(es.drop Ij.toNat).length=es.length-Ij.toNat:=Td;have iK:=Bc.sub (c':=cap-Ij.toNat) hr rfl qt (l:=Ij.toNat) (m:=es.length) Wk (Ap _) Wk (if cap=Ij.toNat then a else a.map (·.add (Ij.toNat*(cx.T e).size))) (by
          grind)
         rw[IW]at iK
         have fin:∀ob:Option Nat,(∀c,ob=some c->g.own r=some c)->(es.length-Ij.toNat=cap-Ij.toNat/\ob=none\/es.length-Ij.toNat<=cap-Ij.toNat/\∃b E vs off,(if cap=Ij.toNat then a else a.map (·.add (Ij.toNat*(cx.T e).size)))=some ⟨b,off,none⟩/\ob=some b/\RD w b vs E/\vs.size=off+(cap-Ij.toNat)*HS/\∀o,g.S b o->o<off+(es.length-Ij.toNat)*HS) ->
           N8 P w0 g0 h0 h g w (Instr.sliceAt ty (.slice a es.length cap) ((some Ij).map fun n=>.int .i64 n) ((none:Option Operand).map ρ) ((none:Option Operand).map ρ)) K:=fun ob ho yP=>by
          obtain⟨k1,k2⟩:=hI.moveO r (Kq cx d) EG hd hl ho (.tok HS (es.drop Ij.toNat).length) (.slice (if cap=Ij.toNat then a else a.map (·.add (Ij.toNat*(cx.T e).size))) (es.length-Ij.toNat) (cap-Ij.toNat)) (es.length-Ij.toNat) true aa0 (fun IS=>by
           obtain⟨u1,u2,u3,u4⟩:=Bm g (Kq cx d) (.slice (if cap=Ij.toNat then a else a.map (·.add (Ij.toNat*(cx.T e).size))) (es.length-Ij.toNat) (cap-Ij.toNat)) (es.length-Ij.toNat) true ob g.S;refine⟨u3,u2.trans CL.symm,_,_,by rw[CL];exact u1,?_⟩;rw[CL,u4];exact yP)
          exact⟨_,w,_,_,_,CE,hk,k1,k2,.tok _ _ _ _ _ (((iK.mono k2.keeps (fun _ h=>h) (fun _ h=>h.elim))).up _) (fun c hc=>qt c (IF hc)) (by grind [AC,A2]) (by simp[Gh.upd]) (by simp[Gh.upd]) (fun _=>by simp[Gh.upd])⟩
         rcases a3 with ⟨e1,e2⟩ | ⟨e1,b,E,vs,off,rfl,e3,e4,e5,e6⟩
         .exact fin none (fun c h=>by cases h) (.inl ⟨by omega,rfl⟩)
         .by_cases hc:cap=Ij.toNat
          .exact fin none (fun c h=>by cases h) (.inl ⟨by omega,rfl⟩)
          .refine fin (some b) (fun c h=>by simp_all) (.inr ⟨by omega,b,E,vs,off+Ij.toNat*HS,?_,rfl,e4,?_,fun o ho=>?_⟩)
           .grind [Addr.add_lit]
           .rw[e5,Nat.sub_mul]
            have:=BD HS (show Ij.toNat<=cap by omega)
            omega
           grind [Nat.sub_mul]
       simp_all
      simp_all
     simp_all
    simp_all
  simp_all
 simp_all
omit hI in
theorem Oi{sz:Nat}:∀{es:C0},(∀cs∈es,cs.length=sz)->∀k,(es.take k).flatten=es.flatten.take (k*sz)
 | [],_,k=>by simp
 |c::es,hl,0=>by simp
 |c::es,hl,k+1=>by
  have h1:=hl c (Ag ..);have h2:c.length<=k*sz+sz:=by omega
  rw[List.take_succ_cons,Ck,Ck,Oi (fun x hx=>hl x (Aj _ hx)) k,List.take_append,h1,Nat.succ_mul,
   A5 h2,show k*sz+sz-sz=k*sz by omega]
omit hI in
theorem Cg.takeE{U:Nat->Prop}{sz k:Nat}{vs:List Value}(hl:∀cs∈es,cs.length=sz)(hk:k<=es.length)(h:Cg g w U es.flatten (vs.take (es.length*sz))):Cg g w U (es.take k).flatten (vs.take (k*sz)):=by
 have e:vs.take (k*sz)=(vs.take (es.length*sz)).take (k*sz):=by
  grind [Nat.mul_le_mul_right]
 rw[Oi hl,e];refine⟨by rw[BW (l:=vs.take (es.length*sz)),h.1,BW],fun x hx=>h.2.1 x (Ew hx),fun i av x q1 q2=>?_⟩;have hi:i<k*sz:=by
  grind
 rw[List.getElem?_take,A3 hi]at q1 q2;exact h.2.2 i av x q1 q2
theorem fU(hT:B8 P cx.T){d:Option Nat}{ty:Nat}{t:Nat->AV}(ht:∀x:Operand,Bc g w (AC h) (ev t x) (ρ x))(hx:Bc g w (AC h) x vx)(hk:nJ cx d h ty x (CN t hi) K):N8 P w0 g0 h0 h g w (Instr.sliceAt ty vx none (hi.map ρ) none) K:=by
 unfold nJ at hk;split at hk
 .rename_i d OU e1;rw[KU ht e1];split at hk
  .rename_i e hs;split at hk
   .simp_all
   .rename_i k FI;split at hk
    .rename_i r n;split at hk
     .rename_i sz es e0;split at hk
      .rename_i hd;split at hk
       .rename_i q1 q3;have q1:=AZ q1;obtain⟨⟨rfl,h1,h2⟩,hk⟩:=hk;have hl:(h r).live:=by rw[e0];trivial
        have EG:Kq cx d≠r:=fun e=>by simp_all
        have ho:=hI.objs r;rw[e0]at ho;obtain⟨t1,l1,al,a2⟩:=ho;have CL:(es.take OU.toNat).length=OU.toNat:=by simp_all
        cases hx with
        |msl _ _ _ a cap hu ht' kj ha Sx=>
         have hv:=Sx l1.symm;have MB:es.length<=cap:=by
          grind
         have CE:=E1 (P:=P) (w:=w) hT hs FI a es.length cap none (some OU) none (.inl rfl) aa0 (by simp_all) (by grind) aa0;have RT:(if cap-(0:Nat)=0 then a else a.map (·.add (0*(cx.T e).size)))=a:=by
          grind [Addr.add]
         simp only[Ey,L9,GG,Int.toNat_zero,Nat.sub_zero]at CE RT;have key:∃a',(Instr.sliceAt ty (.slice a es.length cap) ((none:Option Int).map fun n=>.int .i64 n) ((some OU).map fun n=>.int .i64 n) ((none:Option Int).map fun n=>.int .i64 n)).run P w=.ok (.slice a' OU.toNat cap) w/\(a'=a):=⟨_,CE,by omega⟩;obtain⟨a',CE,rfl⟩:=key;have hval:Bc (g.upd (Kq cx d) (.slice a' OU.toNat cap) OU.toNat true (g.own r) g.S) w (AC (AK (AK h r .dead) (Kq cx d) (.arr sz (es.take OU.toNat)))) (.msl (Kq cx d) OU.toNat) (.slice a' OU.toNat cap):=
          .msl _ _ _ _ _ (by grind [AC,A2]) (by simp[Gh.upd]) (by simp[Gh.upd]) (ha.elim (fun e=>.inl Wk) .inr) (fun _=>by simp[Gh.upd])
         obtain⟨k1,k2⟩:=hI.moveO r (Kq cx d) EG hd hl (ob:=g.own r) (fun c h=>h) (.arr sz (es.take OU.toNat)) (.slice a' OU.toNat cap) OU.toNat true aa0 (fun IS=>by
          obtain⟨u1,u2,u3,u4⟩:=Bm g (Kq cx d) (.slice a' OU.toNat cap) OU.toNat true (g.own r) g.S;refine⟨u3,u2.trans CL.symm,fun c hc=>al c (Ew hc),?_⟩;rcases a2 with ⟨b1,b2,b3⟩ | ⟨b,NL,E,vs,b1,b2,b3,b4,b5,b6,b7⟩
          .simp_all
          .rw[b1]at hv;cases hv;refine .inr ⟨b,cap,E,vs,by simp_all,u4.trans b2,by omega,b4,b5,?_,b7⟩;rw[CL];exact(Cg.takeE al Wk b6).mono IS (fun _ h=>h) (fun _ h=>h.elim))
         exact⟨_,w,_,_,_,CE,hk,k1,k2,hval⟩
       simp_all
      simp_all
     simp_all
    simp_all
  simp_all
 simp_all
theorem W7(hT:B8 P cx.T){d:Option Nat}{ty:Nat}{t:Nat->AV}(ht:∀x:Operand,Bc g w (AC h) (ev t x) (ρ x)){lo mx:Option Operand}(hx:Bc g w (AC h) x vx)(hk:Iv cx d h ty x (CN t lo) (CN t hi) (CN t mx) K):N8 P w0 g0 h0 h g w (Instr.sliceAt ty vx (lo.map ρ) (hi.map ρ) (mx.map ρ)) K:=by
 unfold Iv at hk;split at hk
 .rename_i Ij OU sR e1 e2 e3;rw[KU ht e1,KU ht e2,KU ht e3];split at hk
  .rename_i hs;split at hk
   .rename_i s;obtain⟨⟨h1,h2,h3⟩,hk⟩:=hk;obtain rfl:=hx.v_eq;have hb:=U8 (P:=P) (w:=w) false s.size s.size Ij OU none (.inl rfl) h1 h2 (by simp_all) aa0;refine(Bu.val (x:=.string (s.extract (Ij.getD 0).toNat (OU.getD s.size).toNat)) ?_ hk).does hI;simp only[Instr.sliceAt,Sem.run_bind,run_underlying (hT.string hs),Result.andThen_ok,Instr.slice];simp_all
   simp_all
  .rename_i e hs;split at hk
   .simp_all
   .rename_i k FI;split at hk
    .rename_i tk es;have hr:=hx.slice_none;obtain⟨a,cap,hv,MB⟩:∃a cap,vx=.slice a es.length cap/\es.length<=cap:=by
      grind [cases Bc]
     subst hv;split at hk
     .obtain⟨⟨h1,h2,h3⟩,hl,hk⟩:=hk;have CE:=E1 (P:=P) (w:=w) hT hs FI a es.length cap Ij OU none (.inl rfl) h1 h2 (by grind) aa0;refine Bu.does hI ⟨_,_,CE,hk,(Bc.sub (c':=cap-(Ij.getD 0).toNat) hr rfl hl (l:=(Ij.getD 0).toNat) (m:=(OU.getD es.length).toNat) Wk Wk Wk _ ?_).up _⟩
      grind
     .rename_i m;split at hk
      .rename_i d hh;split at hk
       .obtain⟨⟨h1,h2,rfl,h3⟩,hl,hk⟩:=hk;have CE:=E1 (P:=P) (w:=w) hT hs FI a es.length cap Ij (some m) (some m) (.inr aa0) h1 h2 aa0 (by grind);simp only[Ey]at CE;have CL:((es.take m.toNat).drop (Ij.getD 0).toNat).length=m.toNat-(Ij.getD 0).toNat:=by simp_all
        refine Bu.does hI ⟨_,_,CE,hk,.full _ _ _ _ ((Bc.sub (c':=m.toNat-(Ij.getD 0).toNat) hr rfl hl (l:=(Ij.getD 0).toNat) (m:=m.toNat) Wk Wk Wk _ ?_).up _) (fun c hc=>hl c (Ew (IF hc))) ⟨_,by rw[CL]⟩⟩
        grind
       split at hk
       .rename_i hd;obtain⟨⟨h1,h2,rfl,h3⟩,hl,hk⟩:=hk;have CE:=E1 (P:=P) (w:=w) hT hs FI a es.length cap Ij (some m) (some m) (.inr aa0) h1 h2 aa0 (by grind);simp only[Ey]at CE
        obtain⟨g',k1,k2,k3⟩:=OI hI (sz:=(cx.T e).size) (n:=m.toNat-(Ij.getD 0).toNat) hd (es:=(es.take m.toNat).drop (Ij.getD 0).toNat) (fun c hc=>hl c (Ew (IF hc))) (by simp_all)
         (Bc.sub (c':=m.toNat-(Ij.getD 0).toNat) hr rfl hl (l:=(Ij.getD 0).toNat) (m:=m.toNat) Wk Wk Wk (if m.toNat=(Ij.getD 0).toNat then a else a.map (·.add ((Ij.getD 0).toNat*(cx.T e).size))) (by
          grind))
        exact⟨_,w,g',_,_,CE,hk,k1,k2,k3⟩
       simp_all
      simp_all
    .obtain⟨⟨h1,h2,h3⟩,h4,hk⟩:=hk;obtain rfl:=hx.v_eq;have CE:=E1 (P:=P) (w:=w) hT hs FI none 0 0 Ij OU sR h4 Wk (by simp_all) (by simp_all) (by simp_all)
     grind [Bu.does,Bu.val]
    .rename_i r n;split at hk
     .rename_i sz es e0;split at hk
      .rename_i Vv;obtain rfl:=AZ Vv;obtain⟨⟨h1,h2,h3,h4,h5⟩,hk⟩:=hk;have ho:=hI.objs r;rw[e0]at ho;obtain⟨t1,l1,al,a3⟩:=ho;have hl:(h r).live:=by rw[e0];trivial
       have yK:sR=none\/OU≠none:=h5.imp id (fun q=>q.2);cases hx with
       |msl _ _ _ a cap hu ht' hn ha Sx=>
        have hv:=Sx (h1.trans l1.symm);subst h1;have sE:∀c:Nat,es.length<=c->OU.getD es.length<=sR.getD c/\sR.getD c<=c:=fun c hc=>by
         rcases h5 with h5 | ⟨h5,EG⟩
         .grind
         .obtain⟨m,hm⟩:=Option.ne_none_iff_exists'.1 EG<;>grind
        rcases a3 with ⟨rfl,q2,q3⟩ | ⟨b,NL,E,vs,q1,q2,q3,q4,q5,q6,q7⟩
        .rw[q2]at hv;cases hv;have CE:=E1 (P:=P) (w:=w) hT hs FI none 0 0 Ij OU sR yK h2 h3 (sE 0 aa0).1 (sE 0 aa0).2
         obtain⟨k1,k2⟩:=hI.upd r .dead (g.ρ r) (g.ln r) (g.tk r) (g.own r) g.S w none ⟨rfl,rfl,rfl,Ap _⟩ (fun _ _ _=>rfl) (fun b e=>by cases e) (fun _ _ h=>h) (fun _ _ h=>.inl h) (fun b o e=>by cases e) (fun b hh _=>by cases hh) aa0
          (fun _=>⟨rfl,Ap _,fun _=>rfl,fun _=>rfl⟩) (fun _ _=>trivial)
         refine⟨_,w,_,_,_,CE,hk,k1,k2,?_⟩
         grind [Bc.snil]
        .rw[q1]at hv;cases hv;have CE:=E1 (P:=P) (w:=w) hT hs FI (some ⟨b,0,none⟩) es.length cap Ij OU sR yK h2 h3 (sE _ q3).1 (sE _ q3).2;have x8:=(hI.loc r b hl q2).1
         obtain⟨k1,k2⟩:=hI.upd r .dead (g.ρ r) (g.ln r) (g.tk r) (g.own r) (g.more b (es.length*(cx.T e).size)) w none ⟨rfl,rfl,rfl,Ap _⟩ (fun _ _ _=>rfl) (fun b e=>by cases e) (fun _ _ h=>.inl h)
          (fun b' o hs=>hs.elim .inl (fun hs=>.inr ⟨by omega,.inr ⟨hl,by simp_all⟩⟩)) (fun b o e=>by cases e) (fun b hh _=>by cases hh) aa0
          (fun _=>⟨rfl,Ap _,fun _=>rfl,fun _=>rfl⟩) (fun _ _=>trivial)
         have El:=Bc.slice_row (g:=g.upd r (g.ρ r) (g.ln r) (g.tk r) (g.own r) (g.more b (es.length*(cx.T e).size))) (U:=FN) q4 al q3 (q6.mono k2.keeps (fun _ h=>h) (fun _ h=>h.elim)) (fun o ho=>.inr ⟨rfl,ho⟩);have Aix:=sE _ q3;refine⟨_,w,_,_,_,CE,hk,k1,k2,(Bc.sub (c':=(sR.getD cap).toNat-(Ij.getD 0).toNat) El rfl al (l:=(Ij.getD 0).toNat) (m:=(OU.getD es.length).toNat) Wk Wk Wk _ ?_).up _⟩
         grind
      simp_all
     simp_all
    simp_all
  simp_all
 simp_all
theorem VM(hT:B8 P cx.T){d:Option Nat}{ty:Nat}{n c:AV}{vn vc:Value}(hn:Bc g w (AC h) n vn)(hc:Bc g w (AC h) c vc)(hk:JO cx d h ty n c K) :
  N8 P w0 g0 h0 h g w (Instr.makeSlice ty vn vc) K:=by
 unfold JO at hk;split at hk
 .rename_i e n c hs;obtain rfl:=hn.v_eq;obtain rfl:=hc.v_eq;split at hk
  .rename_i X5;split at hk
   .rename_i YH;have YH:=AZ YH;split at hk
    .simp_all
    .rename_i k FI;obtain⟨⟨h1,h2,h3,h4⟩,hk⟩:=hk;obtain⟨i,z,i1,i2,i3,i4,i5⟩:=H2 hT FI;have uP:(cx.T e).zc≠[]:=fun e0=>by simp_all
     have wn:IntKind.i64.wrap n=n:=NH ⟨by omega,by omega⟩;have wc:IntKind.i64.wrap c=c:=NH ⟨by omega,by omega⟩;have GB:∀l:List AV,(∀a∈l,one a=true)->G6 l=true:=by
      intro l
      induction l<;>grind [G6]
     have uI:((Array.range (c.toNat*(cx.T e).size)).map fun k=>z.cells[k % z.cells.size]!).toList=(List.replicate c.toNat (cx.T e).zc).flatten:=by
      rw[Ie c.toNat _ uP,YH,i5];have e6:z.cells.size=(cx.T e).size:=by simp_all
      simp[e6,Array.getElem!_eq_getD]
     have hzs:(cx.T e).zc.length=(cx.T e).size:=YH;have hlr:∀c'∈List.replicate c.toNat (cx.T e).zc,c'.length=(cx.T e).size:=fun c' hc=>by simp_all
     have Ad0 : ∀c'∈List.replicate n.toNat ((cx.T e).zc.map AV.v),c'.length=(cx.T e).size:=fun c' hc=>by simp_all
     have Aiu:∀c'∈List.replicate n.toNat (cx.T e).zc,c'.length=(cx.T e).size:=fun c' hc=>by simp_all
     obtain⟨g',av,h',q1,q2,q3,q4⟩:=Ki hI hk (vs:=(Array.range (c.toNat*(cx.T e).size)).map fun k=>z.cells[k % z.cells.size]!) (cap:=c.toNat) e Ad0 (by grind) aa0 (by
      rw[uI,List.length_replicate];have e1:(List.replicate n.toNat ((cx.T e).zc.map AV.v)).flatten=(List.replicate n.toNat (cx.T e).zc).flatten.map AV.v:=by
       simp_all
      have e2:(List.replicate c.toNat (cx.T e).zc).flatten.take (n.toNat*(cx.T e).size)=(List.replicate n.toNat (cx.T e).zc).flatten:=by
       obtain⟨m,hm⟩:∃m,c.toNat=n.toNat+m:=⟨c.toNat-n.toNat,by omega⟩;rw[hm,<-List.replicate_append_replicate,D8,NK (by simp_all)]
      grind [Cg.vals,M6]) w ⟨rfl,rfl,rfl,rfl⟩
     rw[List.length_replicate]at q4;refine⟨_,_,g',av,h',?_,q1,q2,q3,q4⟩;have hb0:¬((cx.T e).bytes*c>2 ^ 48):=by grind
     have me:((decide (c<0)||decide (((cx.T e).bytes:Int)*c>2 ^ 48))||decide (n<0)||decide (n>c))=false:=by
      grind
     simp only[Instr.makeSlice,Sem.run_bind,run_underlying (hT.slice hs),Result.andThen_ok,asInt,asIntOf,Sem.run_pure,typeInfo,run_program,i1,i4,wn,wc,me,OW,if_false,run_askRoom,hT.size1 w FI]
     by_cases hz:c.toNat*(k+1)=0
     .have ya:c.toNat=0:=by
       simp_all
      rw[ya];simp only[Nat.zero_mul,if_true];simp only[show Array.range 0=#[]from rfl,Array.map_empty];simp[newRow]
     .simp only[AN hz,Sem.run_bind,zeroValue,typeInfo,run_program,i1,i2,Result.andThen_ok,Sem.run_pure];rw[FI];simp[newRow]
   simp_all
  simp_all
 simp_all
end
end Go.Eng
namespace Go.Eng
open Go.ChangeMaps (setBlock)
variable {BY:List (Value×AV)}{es:Array MapEntry}{sh:ES}{vx:Value}{α β:Type}{f:α->β}{l:List α}{ck:Nat}{w:World}{k x y:Value}{a:AV}{K:HK}{r:Nat}{o':Obj}{j:Nat}{v:AV}{T:GW}
theorem VR{o:Obj}(h:w.heap[r]?=some o):(setBlock w r o').heap[r]?=some o':=by
 grind [setBlock]
theorem Vc{k:Nat}(h:k≠r):(setBlock w r o').heap[k]?=w.heap[k]?:=by
 grind [setBlock]
theorem VS(w:World)(r:Nat)(o' : Obj):(setBlock w r o').heap.size=w.heap.size:=by simp[setBlock]
theorem PW(h:(l.map f).Nodup):l.Nodup:=by
 induction l<;>grind
theorem WT(h:(l.map f).Nodup){i:Nat}{a b:α}(ha:l[i]?=some a)(hb:l[j]?=some b)(he:f a=f b):i=j:=by
 induction l generalizing i j<;>grind
open Classical in
theorem QY{b:AV}(h:(k,b)∈BY):E7 BY k a=BY.map fun p=>if p.1=k then(k,a)else p:=A3 ⟨b,h⟩
open Classical in
theorem KQ(h:∀b,(k,b)∉BY):E7 BY k a=BY++[(k,a)]:=AN (fun⟨b,e⟩=>h b e)
theorem WP(f:AV->AV)(h:HB sh es ck BY):HB sh es ck (BY.map fun p=>(p.1,f p.2)):=by
 obtain⟨h1,h2,h3,h4,h5,h6⟩:=h;refine⟨by simp_all,fun i kv e q1 q2=>?_,fun kv iF=>?_,?_,h5,h6⟩
 all_goals grind
theorem PS(h:HB sh es ck BY)(hj:BY[j]?=some (x,a)) :
  HB sh (es.modify j fun e=>{ e with key:=x,val:=y }) ck (E7 BY x v) /\
   ∀(i:Nat) (kv:Value×AV) (e:MapEntry),(E7 BY x v)[i]?=some kv->(es.modify j fun e=>{ e with key:=x,val:=y })[i]?=some e ->
    (kv.2=v/\e.val=y)\/(BY[i]?=some kv/\es[i]?=some e):=by
 classical
 rw[QY (Az hj)];obtain⟨h1,h2,h3,h4,h5,h6⟩:=h;have hm:∀i e,(es.modify j fun e=>{ e with key:=x,val:=y })[i]?=some e->∃e0,es[i]?=some e0/\e.born=e0.born/\(if i=j then e.key=x/\e.val=y else e=e0):=by
  grind
 have hk:∀i kv,(BY.map fun p=>if p.1=x then(x,v)else p)[i]?=some kv->∃p,BY[i]?=some p/\kv.1=p.1/\(if i=j then kv.2=v else kv=p):=by
  intro i kv iF;rw[BK]at iF;obtain⟨p,q1,q2⟩:=B3.1 iF;refine⟨p,q1,?_⟩
  grind [WT]
 have AfI:(BY.map fun p=>if p.1=x then(x,v)else p).map (·.1)=BY.map (·.1):=by
  rw[BX];apply Ce
  grind
 refine⟨⟨by grind,fun i kv e q1 q2=>?_,fun kv iF=>?_,by grind,fun i e q=>?_,fun i i' e e' q q' hb=>?_⟩,fun i kv e q1 q2=>?_⟩
 all_goals grind
theorem UC(h:HB sh es ck BY)(hx:Yu sh x=true)(hn:∀a,(x,a)∉BY) :
  HB sh (es.push { key:=x,val:=y,born:=ck }) (ck+1) (E7 BY x v) /\
   ∀(i:Nat) (kv:Value×AV) (e:MapEntry),(E7 BY x v)[i]?=some kv->(es.push { key:=x,val:=y,born:=ck })[i]?=some e ->
    (kv.2=v/\e.val=y)\/(BY[i]?=some kv/\es[i]?=some e):=by
 rw[KQ hn];obtain⟨h1,h2,h3,h4,h5,h6⟩:=h;have hm:∀i e,(es.push { key:=x,val:=y,born:=ck })[i]?=some e->(es[i]?=some e/\i<es.size)\/(i=es.size/\e={ key:=x,val:=y,born:=ck }):=by
  grind
 have hk:∀i kv,(BY++[(x,v)])[i]?=some kv->(BY[i]?=some kv/\i<es.size)\/(i=es.size/\kv=(x,v)):=by
  grind
 refine⟨⟨by grind,fun i kv e q1 q2=>?_,fun kv iF=>?_,?_,fun i e q=>?_,fun i i' e e' q q' hb=>?_⟩,fun i kv e q1 q2=>?_⟩
 all_goals grind
section
variable {P:Program}{w0:World}{g0:Gh}{h0 h:Nat->HO}{g:Gh}{w:World}(hI:CT w0 g0 h0 h g w)
include hI
theorem CT.swap{r b:Nat}(hl:(h r).live)(ho:g.own r=some b)(hn:∀o,¬g.S b o)(o' : HO){ob:Obj}(hb:w.heap[b]?=some ob)(fO : Obj)(w1:World)(Ui:w1.heap=w.heap/\w1.os=w.os/\w1.tape=w.tape/\w1.output=w.output)(EG:o'≠.free)
  (Mb:Kn g (g.upd r (g.ρ r) (g.ln r) (g.tk r) (g.own r) g.S) (AC h)->Fa g w (g.upd r (g.ρ r) (g.ln r) (g.tk r) (g.own r) g.S) (setBlock w1 b fO)->(setBlock w1 b fO).heap[b]?=some fO ->
   (∀k,k≠b->(setBlock w1 b fO).heap[k]?=w.heap[k]?) ->
   DV (g.upd r (g.ρ r) (g.ln r) (g.tk r) (g.own r) g.S) (setBlock w1 b fO) (AC (AK h r o')) r o') :
  CT w0 g0 h0 (AK h r o') (g.upd r (g.ρ r) (g.ln r) (g.tk r) (g.own r) g.S) (setBlock w1 b fO)/\Le h g w (AK h r o') (g.upd r (g.ρ r) (g.ln r) (g.tk r) (g.own r) g.S) (setBlock w1 b fO):=by
 have ET:=(hI.loc r b hl ho).1;have EU:(setBlock w1 b fO).heap[b]?=some fO:=VR (by rw[Ui.1];exact hb);have cR:∀k,k≠b->(setBlock w1 b fO).heap[k]?=w.heap[k]?:=fun k hk=>by grind [Vc]
 refine hI.upd r o' _ _ _ _ _ _ (some b) ⟨Ui.2.1,Ui.2.2.1,Ui.2.2.2,by grind [VS]⟩ (fun k _ EG=>cR k (fun e=>EG (by rw[e]))) (fun b' e=>by simp_all) (fun _ _ h=>h) (fun _ _ h=>.inl h)
  (fun b' o e hs=>by simp_all) (fun b' _ e=>?_) EG (fun _=>⟨rfl,Ap _,fun _=>rfl,fun _=>rfl⟩) (fun hg hk=>Mb hg hk EU cR)
 grind
theorem N1(hT:B8 P T){ty:Nat}{m k x:AV}{vm vk:Value}(hm:Bc g w (AC h) m vm)(hk' : Bc g w (AC h) k vk)(hx:Bc g w (AC h) x vx)(hk:Hx T h ty m k x K) :
  kn P w0 g0 h0 h g w (Instr.mapUpdate ty vm vk vx) K:=by
 unfold Hx at hk;split at hk
 .rename_i r;split at hk
  .rename_i sh BY e0;obtain⟨kt,e,k1,k2,k3,k4⟩:=Nl hk' hk;have ho:=hI.objs r;rw[e0]at ho;obtain⟨t1,b,es,ck,a1,a2,a3,a4,a5,a6⟩:=ho;have hl:(h r).live:=by rw[e0];trivial
   cases hm with
   |mref _ _ b' hu ht hp=>
    rw[a2]at hp;cases hp;have mA:=hT.map k1;have F3:=run_getObj_map (P:=P) w b es ck a3;have Ot:∀o',(setObj b o').run P w=.ok () (setBlock w b o'):=fun o'=>by grind [setObj,Sem.run,setBlock]
    have Uc:=fun bb=>M0 hT k2 w bb k3;obtain⟨res,r1,r2⟩:=ON hT k2 w k3 es.toList a4.shape;have qA:=Bc.str hI.objs hx;rcases r2 with ⟨rfl,hn⟩ | ⟨j,en,rfl,hj,hkey⟩
    .obtain⟨m1,m2⟩:=UC a4 (x:=vk) (v:=str h x) (y:=vx) k3 (fun a=>a4.none hn a);obtain⟨i1,i2⟩:=CT.swap hI hl a1 a6 (.map sh (E7 BY vk (str h x))) a3 (.map (es.push { key:=vk,val:=vx,born:=ck }) (ck+1)) w ⟨rfl,rfl,rfl,rfl⟩ aa0 (fun hg IS EU cR=>by
      obtain⟨u1,u2,u3,u4⟩:=Bm g r (g.ρ r) (g.ln r) (g.tk r) (g.own r) g.S;refine⟨u3.trans t1,b,_,_,u4.trans a1,u1.trans a2,EU,m1,fun i kv e q1 q2=>?_,a6⟩;rcases m2 i kv e q1 q2 with ⟨p1,p2⟩ | ⟨p1,p2⟩
      .rw[p1,p2];exact qA.mono IS (fun _ h=>h) (fun _ h=>h.elim)
      .exact(a5 i kv e p1 p2).mono IS (fun _ h=>h) (fun _ h=>h.elim))
     refine⟨_,_,_,?_,k4,i1,i2⟩;simp[Instr.mapUpdate,run_underlying mA,F3,Uc,r1,Ot]
    .obtain⟨a,q1,q2⟩:=a4.some hj hkey;obtain⟨m1,m2⟩:=PS a4 (x:=vk) (v:=str h x) (y:=vx) q1;obtain⟨i1,i2⟩:=CT.swap hI hl a1 a6 (.map sh (E7 BY vk (str h x))) a3 (.map (es.modify j fun e=>{ e with key:=vk,val:=vx }) ck) w ⟨rfl,rfl,rfl,rfl⟩ aa0 (fun hg IS EU cR=>by
      obtain⟨u1,u2,u3,u4⟩:=Bm g r (g.ρ r) (g.ln r) (g.tk r) (g.own r) g.S;refine⟨u3.trans t1,b,_,_,u4.trans a1,u1.trans a2,EU,m1,fun i kv e q1 q2=>?_,a6⟩;rcases m2 i kv e q1 q2 with ⟨p1,p2⟩ | ⟨p1,p2⟩
      .rw[p1,p2];exact qA.mono IS (fun _ h=>h) (fun _ h=>h.elim)
      .exact(a5 i kv e p1 p2).mono IS (fun _ h=>h) (fun _ h=>h.elim))
     refine⟨_,_,_,?_,k4,i1,i2⟩;have hj' : es[j]?=some en:=by simp_all
     have Jt:=Sh (P:=P) w k3;simp[Instr.mapUpdate,run_underlying mA,F3,Uc,r1,Ot,hj',hkey,Jt]
  .rename_i sh BY e0;obtain⟨kt,e,k1,k2,k3,k4⟩:=Nl hk' hk;have ho:=hI.objs r;rw[e0]at ho;obtain⟨t1,b,es,ck,a1,a2,a3,a4,a5,a6⟩:=ho;have hl:(h r).live:=by rw[e0];trivial
   cases hm with
   |mref _ _ b' hu ht hp=>
    rw[a2]at hp;cases hp;have mA:=hT.map k1;have F3:=run_getObj_map (P:=P) w b es ck a3;have Ot:∀o',(setObj b o').run P w=.ok () (setBlock w b o'):=fun o'=>by grind [setObj,Sem.run,setBlock]
    have Uc:=fun bb=>M0 hT k2 w bb k3;obtain⟨res,r1,r2⟩:=ON hT k2 w k3 es.toList a4.shape;rcases r2 with ⟨rfl,hn⟩ | ⟨j,en,rfl,hj,hkey⟩
    .obtain⟨m1,m2⟩:=UC a4 (x:=vk) (v:=x) (y:=vx) k3 (fun a=>a4.none hn a);obtain⟨i1,i2⟩:=CT.swap hI hl a1 a6 (.mapU sh (E7 BY vk (x))) a3 (.map (es.push { key:=vk,val:=vx,born:=ck }) (ck+1)) w ⟨rfl,rfl,rfl,rfl⟩ aa0 (fun hg IS EU cR=>by
      obtain⟨u1,u2,u3,u4⟩:=Bm g r (g.ρ r) (g.ln r) (g.tk r) (g.own r) g.S;have NN:∀i,AC h i->AC (AK h r (.mapU sh (E7 BY vk x))) i:=fun i hi=>DG aa0 i hi;refine⟨u3.trans t1,b,_,_,u4.trans a1,u1.trans a2,EU,m1,fun i kv e q1 q2=>?_,a6⟩
      grind [Bc.mono])
     refine⟨_,_,_,?_,k4,i1,i2⟩;simp[Instr.mapUpdate,run_underlying mA,F3,Uc,r1,Ot]
    .obtain⟨a,q1,q2⟩:=a4.some hj hkey;obtain⟨m1,m2⟩:=PS a4 (x:=vk) (v:=x) (y:=vx) q1;obtain⟨i1,i2⟩:=CT.swap hI hl a1 a6 (.mapU sh (E7 BY vk (x))) a3 (.map (es.modify j fun e=>{ e with key:=vk,val:=vx }) ck) w ⟨rfl,rfl,rfl,rfl⟩ aa0 (fun hg IS EU cR=>by
      obtain⟨u1,u2,u3,u4⟩:=Bm g r (g.ρ r) (g.ln r) (g.tk r) (g.own r) g.S;have NN:∀i,AC h i->AC (AK h r (.mapU sh (E7 BY vk x))) i:=fun i hi=>DG aa0 i hi;refine⟨u3.trans t1,b,_,_,u4.trans a1,u1.trans a2,EU,m1,fun i kv e q1 q2=>?_,a6⟩
      grind [Bc.mono])
     refine⟨_,_,_,?_,k4,i1,i2⟩;have hj' : es[j]?=some en:=by simp_all
     have Jt:=Sh (P:=P) w k3;simp[Instr.mapUpdate,run_underlying mA,F3,Uc,r1,Ot,hj',hkey,Jt]
  simp_all
 simp_all
theorem OJ{d b:Nat}{ck:Nat}(hd:h d=.free)(hS:g.S b 0)(hb:w.heap[b]?=some (.map es ck))(hm:HB sh es ck BY)(hv:∀(i:Nat) (kv:Value×AV) (e:MapEntry),BY[i]?=some kv->es[i]?=some e->Bc g w FN kv.2 e.val) :
  ∃g',CT w0 g0 h0 (AK h d (.iter BY BY none)) g' (w.alloc (.mapIter (some b) ck #[] ck))/\Le h g w (AK h d (.iter BY BY none)) g' (w.alloc (.mapIter (some b) ck #[] ck)) /\
   Bc g' (w.alloc (.mapIter (some b) ck #[] ck)) (AC (AK h d (.iter BY BY none))) (.ref d 0) (.pointer (some ⟨w.heap.size,0,none⟩)):=by
 obtain⟨k1,k2⟩:=hI.newOwn hd (.iter BY BY none) (.mapIter (some b) ck #[] ck) (.pointer (some ⟨w.heap.size,0,none⟩)) 0 false w ⟨rfl,rfl,rfl,rfl⟩ aa0 (fun hg hk=>by
  obtain⟨u1,u2,u3,u4⟩:=Bm g d (.pointer (some ⟨w.heap.size,0,none⟩)) 0 false (some w.heap.size) g.S;obtain⟨c1,c2,c3⟩:=hk b 0 hS
  exact⟨u3,w.heap.size,b,ck,#[],ck,es,ck,u4,u1,Hj w _ rfl,c1,c3 es ck hb,⟨sh,hm⟩,rfl,rfl,fun i kv e q1 q2=>(hv i kv e q1 q2).mono hk (fun _ h=>h) (fun _ h=>h.elim),
   ⟨PW hm.2.2.2.1,fun _ h=>h⟩,fun i kv e q1 q2=>by simp[List.mem_of_getElem? q1],trivial,fun o ho=>by have:=hI.slt _ _ ho;omega⟩)
 refine⟨_,k1,k2,.ref _ d 0 w.heap.size (by unfold AC;rw[A2];simp) ?_ ?_⟩<;>simp[Gh.upd]
theorem RY{r b:Nat}{ck:Nat}(e0:h r=.map sh BY)(a1:g.own r=some b)(a2:g.ρ r=.map (some b))(a3:w.heap[b]?=some (.map es ck))(a4:HB sh es ck BY)(a5:∀(i:Nat) (kv:Value×AV) (e:MapEntry),BY[i]?=some kv->es[i]?=some e->Bc g w FN kv.2 e.val)(t1:g.tk r=false) :
  ∃g',CT w0 g0 h0 (AK h r (.rom sh BY)) g' w/\Le h g w (AK h r (.rom sh BY)) g' w/\g'.S b 0:=by
 have hl:(h r).live:=by rw[e0];trivial
 have ET:=(hI.loc r b hl a1).1
 obtain⟨k1,k2⟩:=hI.upd r (.rom sh BY) (g.ρ r) (g.ln r) (g.tk r) none (g.more b 1) w none ⟨rfl,rfl,rfl,Ap _⟩ (fun _ _ _=>rfl) (fun b e=>by cases e) (fun _ _ h=>.inl h)
  (fun b' o hs=>hs.elim .inl (fun hs=>.inr ⟨by omega,.inr ⟨hl,by simp_all⟩⟩)) (fun b o e=>by cases e) (fun b hh _=>by cases hh) aa0
  (fun _=>⟨rfl,Ap _,fun _=>rfl,fun _=>rfl⟩) (fun hg hk=>by
   obtain⟨u1,u2,u3,u4⟩:=Bm g r (g.ρ r) (g.ln r) (g.tk r) none (g.more b 1);exact⟨u3.trans t1,b,u1.trans a2,.cmap _ sh BY b es ck (.inr ⟨rfl,VY⟩) a3 a4 (fun i kv e q1 q2=>(a5 i kv e q1 q2).mono hk (fun _ h=>h) (fun _ h=>h.elim))⟩)
 exact⟨_,k1,k2,.inr ⟨rfl,VY⟩⟩
theorem Yf{r b:Nat}{ck:Nat}(e0:h r=.mapU sh BY)(a1:g.own r=some b)(a2:g.ρ r=.map (some b))(a3:w.heap[b]?=some (.map es ck))(a4:HB sh es ck BY)(a5:∀(i:Nat) (kv:Value×AV) (e:MapEntry),BY[i]?=some kv->es[i]?=some e->Bc g w (AC h) kv.2 e.val)(t1:g.tk r=false) :
  ∃g',CT w0 g0 h0 (AK h r (.rom sh (SC h BY))) g' w/\Le h g w (AK h r (.rom sh (SC h BY))) g' w/\g'.S b 0:=by
 have hl:(h r).live:=by rw[e0];trivial
 have ET:=(hI.loc r b hl a1).1
 obtain⟨k1,k2⟩:=hI.upd r (.rom sh (SC h BY)) (g.ρ r) (g.ln r) (g.tk r) none (g.more b 1) w none ⟨rfl,rfl,rfl,Ap _⟩ (fun _ _ _=>rfl) (fun b e=>by cases e) (fun _ _ h=>.inl h)
  (fun b' o hs=>hs.elim .inl (fun hs=>.inr ⟨by omega,.inr ⟨hl,by simp_all⟩⟩)) (fun b o e=>by cases e) (fun b hh _=>by cases hh) aa0
  (fun _=>⟨rfl,Ap _,fun _=>rfl,fun _=>rfl⟩) (fun hg hk=>by
   obtain⟨u1,u2,u3,u4⟩:=Bm g r (g.ρ r) (g.ln r) (g.tk r) none (g.more b 1);refine⟨u3.trans t1,b,u1.trans a2,.cmap _ sh _ b es ck (.inr ⟨rfl,VY⟩) a3 (WP _ a4) (fun i kv e q1 q2=>?_)⟩;unfold SC at q1;rw[BK]at q1;obtain⟨p,q3,rfl⟩:=B3.1 q1;exact((a5 i p e q3 q2).str hI.objs).mono hk (fun _ h=>h) (fun _ h=>h.elim))
 exact⟨_,k1,k2,.inr ⟨rfl,VY⟩⟩
theorem jH(hT:B8 P T){ty kt e:Nat}(ht:(T ty).d=.map kt e){d:Option Nat}{x:AV}(hx:Bc g w (AC h) x vx)(hk:dD d h x K) :
  N8 P w0 g0 h0 h g w (Instr.range ty vx) K:=by
 have hu:=hT.map ht;unfold dD at hk;split at hk
 .simp_all
 .rename_i d;split at hk
  .rename_i hd;have CE:∀b es ck,w.heap[b]?=some (.map es ck)->(Instr.range ty (.map (some b))).run P w=.ok (.pointer (some ⟨w.heap.size,0,none⟩)) (w.alloc (.mapIter (some b) ck #[] ck)):=fun b es ck hb=>by
    simp[Instr.range,run_underlying hu,run_getObj_map (P:=P) w b es ck hb]
   split at hk
   .cases hx with
    |cmap _ _ _ b es ck hS hb hm hv=>
     obtain⟨g',k1,k2,k3⟩:=OJ hI hd hS hb hm hv;exact⟨_,_,_,_,_,CE _ _ _ hb,hk,k1,k2,k3⟩
   .rename_i r;have ho:=hI.objs r;cases hx with
    |mref _ _ b mA ht' hp=>
     split at hk
     .rename_i sh BY e0;rw[e0]at ho;obtain⟨_,b',a1,a2⟩:=ho;rw[a1]at hp;cases hp;cases a2 with
      |cmap _ _ _ _ es ck hS hb hm hv=>
       obtain⟨g',k1,k2,k3⟩:=OJ hI hd hS hb hm hv;exact⟨_,_,_,_,_,CE _ _ _ hb,hk,k1,k2,k3⟩
     .rename_i sh BY e0;rw[e0]at ho;obtain⟨t1,b',es,ck,a1,a2,a3,a4,a5,a6⟩:=ho;rw[a2]at hp;cases hp;obtain⟨g1,i1,i2,i3⟩:=RY hI e0 a1 a2 a3 a4 a5 t1;have EG:d≠r:=fun e=>by simp_all
      obtain⟨g',k1,k2,k3⟩:=OJ i1 (by rw[BT _ _ _ _ EG];exact hd) i3 a3 a4 (fun i kv e q1 q2=>(a5 i kv e q1 q2).mono i2.keeps (fun _ h=>h) (fun _ h=>h.elim));exact⟨_,_,_,_,_,CE _ _ _ a3,hk,k1,i2.trans k2,k3⟩
     simp_all
   simp_all
  simp_all
theorem m5{ty:TypeId}{x:AV}(hx:Bc g w (AC h) x vx)(hk:m0 h x K):N8 P w0 g0 h0 h g w (Instr.next vx false ty) K:=by
 unfold m0 at hk;split at hk
 .rename_i r;split at hk
  .rename_i all rem Ef e0;have ho:=hI.objs r;rw[e0]at ho;obtain⟨t1,b,mb,Kl,seen,st,es,ck,a1,a2,a3,a4,a5,⟨sh,a6⟩,a7,a8,a9,YM,dU,a12,te⟩:=ho;have hl:(h r).live:=by rw[e0];trivial
   cases hx with
   |ref _ _ _ b' hu ht hp=>
    rw[a2]at hp;cases hp;have ET:∀e∈es.toList,e.born<Kl:=fun e he=>by
     obtain⟨i,hi⟩:=Ed.1 he
     have:=a6.2.2.2.2.1 i e (by simp_all)
     omega
    rcases run_next_at (P:=P) w ty b mb Kl st seen es ck a3 a5 ET Wk with ⟨q1,q2⟩ | ⟨e,q1,w1,q2,q3⟩
    .have Ads:rem=[]:=by
      apply L7.2;intro kv iF;obtain⟨i,hi⟩:=Ed.1 (YM.2 kv iF);have sA:i<es.size:=by rw[a6.1];grind
      have hb:=(dU i kv es[i] hi (by simp_all)).1 iF;have hm:es[i]∈leftOf es seen:=by grind [leftOf]
      simp_all
     exact⟨_,w,g,_,h,q2,hk.1 Ads,hI,.refl _ _ _,.tup _ _ _ rfl (fun i av x h1 h2=>by
      grind [Bc.v])⟩
    .have hq:e∈es/\e.born∉seen:=by grind [leftOf]
     obtain⟨i,hi⟩:=Array.mem_iff_getElem?.1 hq.1;have sA:i<all.length:=by rw[<-a6.1];grind
     have xX:all[i]?=some all[i]:=AW sA;have ZO:=(dU i _ e xX hi).2 hq.2;obtain⟨s1,s2,hs⟩:=List.append_of_mem ZO;have Je:rem.Perm (all[i]::(s1++s2)):=by simp_all
     have Vu:(all[i]::(s1++s2)).Nodup:=Je.nodup_iff.1 YM.1;have hr:=a9 i _ e xX hi;have hkey:=a6.2.1 i _ e xX hi;have Ui:w1.heap=w.heap/\w1.os=w.os/\w1.tape=w.tape/\w1.output=w.output:=by rcases q2 with rfl | rfl<;>exact⟨rfl,rfl,rfl,rfl⟩
     obtain⟨k1,k2⟩:=CT.swap hI hl a1 te (.iter all (s1++s2) (some all[i])) a3 (.mapIter (some mb) Kl (seen.push e.born) ck) w1 Ui aa0 (fun hg IS EU cR=>by
      obtain⟨u1,u2,u3,u4⟩:=Bm g r (g.ρ r) (g.ln r) (g.tk r) (g.own r) g.S;obtain⟨c1,c2,c3⟩:=IS mb 0 a4
      refine⟨u3.trans t1,b,mb,Kl,_,ck,es,ck,u4.trans a1,u1.trans a2,EU,c1,c3 _ _ a5,⟨sh,a6⟩,a7,rfl,fun i kv e p q=>(a9 i kv e p q).mono IS (fun _ h=>h) (fun _ h=>h.elim),
       ⟨(GE.1 Vu).2,fun kv iF=>YM.2 kv (Je.mem_iff.2 (Aj _ iF))⟩,fun j kv e' p q=>?_,⟨i,e,xX,hi,by simp⟩,te⟩
      rw[Array.mem_push];have h1:=dU j kv e' p q;rw[Je.mem_iff,AR]at h1;constructor
      .intro iF hc;rcases hc with hc | hc
       .simp_all
       .obtain rfl:=a6.2.2.2.2.2 j i e' e q hi hc<;>simp_all
      .intro hc;rcases h1.2 (fun hm=>hc (.inl hm))with e2 | e2
       .have:j=i:=WT (f:=fun x=>x) (l:=all) (by simpa using PW a6.2.2.2.1) p xX e2
        simp_all
       omega)
     refine⟨_,_,_,_,_,q3,hk.2 all[i] (s1++s2) Je,k1,k2,.tup _ _ _ rfl (fun j av x h1 h2=>?_)⟩
     match j,h1,h2 with
     |0,h1,h2=>grind [Bc.v]
     |1,h1,h2=>grind [Bc.v]
     |2,h1,h2=>simp at h1 h2;grind [Bc.le,Bc.up]
  simp_all
 simp_all
end
end Go.Eng
namespace Go.Eng
variable {F:(AV->Prop)->Prop}{a:AV}{α:Type}(T:GW)(cx:Cx)(o:Oper)(op:BinOp)(s:Nat)(st:St)(f:Nat)(R:List Nat)(k:IntKind)(w:Option Nat)(K:HK)(x:AV)
def Gm(F:(AV->Prop)->Prop):Prop:=∀K,F K->∃v,K v/\∀K',K' v->F K'
theorem CQ(v:AV):Gm (fun K=>K v):=fun _ h=>⟨v,h,fun _ h=>h⟩
theorem DO{p:Prop}(h:Gm F):Gm (fun K=>p/\F K):=fun K ⟨hp,hk⟩=>
 let ⟨v,h1,h2⟩:=h K hk
 ⟨v,h1,fun K' h'=>⟨hp,h2 K' h'⟩⟩
theorem Ci:Gm (fun _=>False):=fun _ h=>h.elim
theorem WY(p:Prop):Gm (I8 p):=fun K h=>by
 by_cases hp:p
 .exact⟨_,h.1 hp,fun K' h'=>⟨fun _=>h',fun hn=>absurd hp hn⟩⟩
 .exact⟨_,h.2 hp,fun K' h'=>⟨fun q=>absurd q hp,fun _=>h'⟩⟩
theorem bc(h:Gm F):Gm (fun K=>F (jp K)):=fun K hk=>by
 obtain⟨v,h1,h2⟩:=h _ hk;unfold jp at h1;split at h1
 .exact⟨_,h1,fun K' h'=>h2 _ h'⟩
 .exact⟨_,h1,fun K' h'=>h2 _ h'⟩
 simp_all
theorem Qh{F:α->(AV->Prop)->Prop}(h:∀x,Gm (F x)):Gm (fun K=>∃x,F x K):=fun K ⟨x,hk⟩=>
 let ⟨v,h1,h2⟩:=h x K hk
 ⟨v,h1,fun K' h'=>⟨x,h2 K' h'⟩⟩
theorem KX(t:Nat)(cs:List AV):Gm (L3 T t cs):=by
 have head:Gm (MC cs):=by unfold MC;cases cs with | nil=>exact Ci | cons a _=>exact CQ a
 unfold L3;split
 .exact DO (CQ _)
 .exact DO (CQ _)
 .cases cs with
  |nil=>exact Ci
  |cons a _=>
   intro K h;simp only[MC]at h⊢;split at h
   .rename_i b;cases b<;>grind
   simp_all
 all_goals grind [Ci]
theorem fR(t:Nat)(x y:AV)(hx:∀tk es,x≠.slice tk es):Gm (wg T t x y):=by
 unfold wg
 repeat' split
 all_goals first | exact Ci | exact CQ _ | exact WY _ | simp_all | simp_all
theorem UU(a b:Int):Gm (Vd op k a b):=by
 unfold Vd;split<;>first | exact Ci | exact DO (CQ _)
theorem dz(a b:Int):Gm (Tj op k a b):=by
 unfold Tj
 repeat' split
 all_goals first | exact Ci | exact DO (CQ _) | (unfold Xw;split<;>first | exact CQ _ | exact DO (CQ _) | grind [UU])
theorem nE(t:Nat)(x y:AV)(hx:∀tk es,x≠.slice tk es):Gm (Tn T op t x y):=by
 unfold Tn
 repeat' split
 all_goals first | exact Ci | exact WY _ | exact dz _ _ _ _ | exact UU _ _ _ _ | exact DO (CQ _) | exact fR _ _ _ _ hx | exact bc (fR _ _ _ _ hx)
theorem jC(t:Nat)(Y:Operand)(x y:AV)(hx:∀tk es,x≠.slice tk es):Gm (YY T op t Y x y):=by
 unfold YY
 repeat' split
 all_goals first | exact Ci | exact CQ _ | grind [nE]
theorem jD(t:Nat)(x:AV):Gm (Wp T s t x):=by
 unfold Wp
 repeat' split
 all_goals first | exact Ci | exact CQ _ | exact DO (CQ _) | exact Qh fun _=>DO (CQ _)
theorem dB:Gm (TN T s f x):=by
 unfold TN
 repeat' split
 all_goals first | exact Ci | exact CQ _
theorem aY:Gm (Pw T s f x):=by
 unfold Pw
 repeat' split
 all_goals first | exact Ci | exact KX _ _ _
theorem UT(t:Nat)(x ix:AV):Gm (JM T t x ix):=by
 unfold JM
 repeat' split
 all_goals first | exact Ci | exact DO (CQ _) | exact Qh fun _=>DO (DO (CQ _))
theorem dC(t:Nat)(x ix:AV):Gm (Un T t x ix):=by
 unfold Un
 repeat' split
 all_goals first | exact Ci | exact DO (KX _ _ _) | exact Qh fun _=>DO (CQ _)
theorem Ym(i:Nat):Gm (Ms x i):=by
 unfold Ms
 repeat' split
 all_goals first | exact Ci | exact CQ _
theorem nG:Gm (KR x):=by
 unfold KR
 repeat' split
 all_goals first | exact Ci | exact CQ _
theorem jE(c a b:AV):Gm (aW c a b):=by
 unfold aW
 repeat' split
 all_goals first | exact Ci | exact CQ _
theorem rf(f:Int->Int->Int)(x y:AV):Gm (qQ f x y):=by
 unfold qQ
 repeat' split
 all_goals first | exact Ci | exact CQ _
theorem jF(op:UnOp)(x:AV):Gm (bv op x):=by
 unfold bv
 repeat' split
 all_goals first | exact Ci | exact CQ _ | exact bc (CQ _) | exact DO (CQ _)
def r9(F:(α->Prop)->Prop):Prop:=∀K,F K->∃v,K v/\∀K',K' v->F K'
theorem aX(n:Nat)(a:AV):r9 (Hv n a):=by
 intro K h;unfold Hv at h⊢
 grind
theorem UR(pl:Nat->Option (Nat×Nat))(t:Nat->AV):∀(ps:List (Nat×Operand)) (cs:List AV),r9 (KJ pl cs t ps)
 | [],cs=>fun K h=>⟨cs,h,fun _ h=>h⟩
 |(i,x)::r,cs=>by
  intro K h;unfold KJ at h;split at h
  .simp_all
  .rename_i o n e;obtain⟨vs,h1,h2⟩:=aX _ _ _ h;split at h1
   .rename_i hb;obtain⟨c,h3,h4⟩:=UR pl t r _ _ h1<;>grind [KJ]
   simp_all
theorem dA(ty:Nat)(t:Nat->AV)(ps:List (Nat×Operand)):Gm (QE T ty t ps):=by
 unfold QE
 repeat' split
 all_goals first
  |exact Ci
  |exact fun K h=>let ⟨c,h1,h2⟩:=UR _ _ _ _ _ h;⟨_,h1,fun K' h'=>h2 _ h'⟩
def eff(h:Nat->HO)(e:Option (Nat×HO)):Nat->HO:=match e with | none=>h | some (r,o)=>AK h r o
structure Alike(o:Oper)(R:List Nat)(st st2:St):Prop where
 t:∀x∈o.op.operands,ev st2.t x=ev st.t x
 h:∀r∈R,st2.h r=st.h r
def CZ:Prop:=
 ∃v e,K v (eff st.h e)/\(∀r o',e=some (r,o')->w=some r/\r∈R)/\∀st2,Alike o R st st2->∀K' : HK,K' v (eff st2.h e)->F6 cx true o st2 K'
def Tb(r:Nat):Prop:=match w with | none=>False | some x=>x=r\/(10000000<=x/\(x % 10000000=r\/x / 10000000=r))\/x=Xt
def Ip(h:Nat->HO):List (Nat×HO)->Nat->HO
 | []=>h
 |p::l=>Ip (AK h p.1 p.2) l
def SE:Prop:=
 ∃v e,K v (Ip st.h e)/\(∀r o',(r,o')∈e->Tb w r/\r∈R)/\∀st2,Alike o R st st2->∀K' : HK,K' v (Ip st2.h e)->F6 cx true o st2 K'
section
variable {cx:Cx}{o:Oper}{st:St}{R:List Nat}{w:Option Nat}{K:HK}
theorem CZ.pick(hF:Gm F)(h:F fun v=>K v st.h)(h2:∀st2,Alike o R st st2->∀K' : HK,F (fun v=>K' v st2.h)->F6 cx true o st2 K'):CZ cx o st R w K:=
 let ⟨v,h1,h3⟩:=hF _ h
 ⟨v,none,h1,fun _ _ e=>(by cases e),fun st2 ha K' hk=>h2 st2 ha K' (h3 _ hk)⟩
theorem aD{cs:List AV}(h:a∈cs):∀r∈ZV a,r∈qB cs:=by
 induction cs with
 |nil=>cases h
 |cons c cs ih=>
  intro r hr;rcases AR.1 h with rfl | h
  .exact Bw _ hr
  .exact B7 _ (ih h r hr)
theorem mU{cs:List AV}(h:a∈cs):∀r∈X8 a,r∈uQ cs:=by
 induction cs with
 |nil=>cases h
 |cons c cs ih=>
  intro r hr;rcases AR.1 h with rfl | h
  .exact Bw _ hr
  .exact B7 _ (ih h r hr)
theorem aC{cs:List AV}(h:a∈cs):∀r∈ZU a,r∈Uj cs:=by
 induction cs with
 |nil=>cases h
 |cons c cs ih=>
  intro r hr;rcases AR.1 h with rfl | h
  .exact Bw _ hr
  .exact B7 _ (ih h r hr)
theorem WC(a:AV):∀r∈ZV a,r∈X8 a:=by cases a<;>simp[ZV,X8]
theorem Rv{h h2:Nat->HO}(e:∀r∈ZV a,h2 r=h r):str0 h2 a=str0 h a:=by
 cases a<;>simp only[str0]
 all_goals grind [ZV]
theorem Xc{h h2:Nat->HO}(e:∀r∈X8 a,h2 r=h r):str h2 a=str h a:=by
 cases a with
 |agg cs=>simp only[str];exact Aa _ (Ce fun c hc=>Rv fun r hr=>e r (aD hc r hr))
 |clo f cs=>simp only[str];exact Aa _ (Ce fun c hc=>Rv fun r hr=>e r (aD hc r hr))
 |_=>exact Rv (fun r hr=>e r (WC _ r hr))
theorem mF(a:AV):∀r∈X8 a,r∈ZU a:=by
 cases a with
 |agg cs=>
  intro r hr;simp only[ZU,X8]at *
  induction cs with
  |nil=>exact hr
  |cons c cs ih=>
   rcases Bi.1 hr with h | h
   .exact Bw _ (WC c r h)
   .exact B7 _ (ih h)
 |_=>exact fun r hr=>hr
theorem K4{h h2:Nat->HO}(e:∀r∈ZU a,h2 r=h r):str h2 a=str h a:=Xc fun r hr=>e r (mF a r hr)
theorem Rw{h h2:Nat->HO}{l:List AV}(e:∀r∈Uj l,h2 r=h r):l.map (str h2)=l.map (str h):=
 Ce fun _ ha=>K4 fun r hr=>e r (aC ha r hr)
theorem nX{h h2:Nat->HO}(e:∀r∈ZU a,h2 r=h r):rsv h2 a=rsv h a:=by
 cases a<;>simp only[rsv]
 all_goals grind [ZU,X8,ZV]
theorem Of{n:Nat}{K:List AV->Prop}(hk:Hv n a K):∃cs,K cs/\(∀K' : List AV->Prop,K' cs->Hv n a K')/\∀h h2:Nat->HO,(∀r∈ZU a,h2 r=h r)->cs.map (str h2)=cs.map (str h):=by
 have single:K [a]->(∀K' : List AV->Prop,K' [a]->Hv n a K')->∃cs,K cs/\(∀K' : List AV->Prop,K' cs->Hv n a K')/\∀h h2:Nat->HO,(∀r∈ZU a,h2 r=h r)->cs.map (str h2)=cs.map (str h):=
  fun h1 h2=>⟨[a],h1,h2,fun h h2 e=>by simp[K4 e]⟩
 unfold Hv at hk;split at hk
 .rename_i cs;split at hk
  .rename_i hn;refine⟨cs,hk,fun K' h=>by grind [Hv],fun h h2 e=>Ce fun c hc=>Xc fun r hr=>e r (mU hc r hr)⟩
  simp_all
 .rename_i hna;split at hk
  .rename_i h1;split at hk
   .refine single hk fun K' h=>?_
    grind [Hv]
   simp_all
  simp_all
theorem TO{n sz:Nat}{t:Nat->AV}:∀{ps:List (Nat×Operand)} {es:C0} {h:Nat->HO} {K:C0->Prop},RN n sz h es t ps K ->
  ∃FU,K FU/\∀(t2:Nat->AV) (h2:Nat->HO),(∀r∈Uj (ps.map fun p=>ev t p.2),h2 r=h r)->(∀p∈ps,ev t2 p.2=ev t p.2)->∀K' : C0->Prop,K' FU->RN n sz h2 es t2 ps K'
 | [],es,h,K,hk=>⟨es,hk,fun _ _ _ _ _ h=>h⟩
 |(i,x)::r,es,h,K,hk=>by
  unfold RN at hk;split at hk
  .rename_i hb;obtain⟨cs,c1,c2,c3⟩:=Of hk;obtain⟨FU,e1,e2⟩:=TO c1;refine⟨FU,e1,fun t2 h2 hh ht K' hk'=>?_⟩;unfold RN;rw[hb,ht (i,x) (Ag ..)];refine c2 _ ?_;rw[c3 h h2 (fun r hr=>hh r (Bw _ hr))];exact e2 t2 h2 (fun r hr=>hh r (B7 _ hr)) (fun p hp=>ht p (Aj _ hp)) K' hk'
  simp_all
theorem ID{d:Option Nat}{h:Nat->HO}{sz:Nat}{es:C0}(hk:E8 cx d h sz es K) :
  ∃d',d.map (Kq cx)=some d'/\∃v x,K v (AK h d' x)/\∀h2:Nat->HO,h2 d'=h d'->∀K' : HK,K' v (AK h2 d' x)->E8 cx d h2 sz es K':=by
 unfold E8 at hk;split at hk
 all_goals grind [E8]
theorem cw{h:Nat->HO}{x:AV}{K:C0->Prop}(hk:Lh h x K):∃es,K es/\∀h2:Nat->HO,(∀r n,x=.msl r n->h2 r=h r)->∀K' : C0->Prop,K' es->Lh h2 x K':=by
 unfold Lh at hk
 grind [Lh]
end
end Go.Eng
