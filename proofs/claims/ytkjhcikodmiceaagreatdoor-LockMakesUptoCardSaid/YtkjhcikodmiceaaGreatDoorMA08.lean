/- Lemmas 8. -/
import Derived.Test.YtkjhcikodmiceaaGreatDoorMA07
import Derived.Maps.RangeRun
namespace Go.Eng
variable {ρ:Operand->Value}{es:C0}{hi:Option Operand}{vx:Value}{K:HK}{a:Option Addr}{cx:Cx}{x:AV}{T:G4}
section
variable {P:Program}{w0:World}{g0:D}{h0 h:Nat->HO}{g:D}{w:World}(hI:CZ w0 g0 h0 h g w)
include hI
theorem Pl{d sz n:Nat}(hd:h d=.free)(hl:∀c∈es,c.length=sz)(hn:es.length=n)(hr:O g w FK (.slice .none es) (.slice a n n)) :
  ∃g',CZ w0 g0 h0 (AJ h d (.tok sz n)) g' w/\Le h g w (AJ h d (.tok sz n)) g' w/\O g' w (L (AJ h d (.tok sz n))) (.slice (.id d sz) es) (.slice a n n):=by
 obtain⟨k1,k2⟩:=hI.upd d (.tok sz n) (.slice a n n) n true none g.S w none ⟨rfl,rfl,rfl,Ao _⟩ (fun _ _ _=>rfl) (fun b e=>by cases e) (fun _ _ h=>h) (fun _ _ h=>.inl h) (fun b o e=>by cases e) (fun b _ e=>by cases e) aa1
  (fun hu=>absurd hd hu) (fun _ _=>by
   obtain⟨u1,u2,u3,u4⟩:=Bn g d (.slice a n n) n true none g.S;exact⟨u3,u2,a,n,u1,.inl ⟨rfl,u4⟩⟩)
 exact⟨_,k1,k2,.tok _ d sz es _ (((hr.up (L h)).le k2)) hl (by unfold L;rw[A0];simp) (by simp[D.upd]) (by simp[D.upd,hn]) (fun _=>by simp[D.upd])⟩
theorem dy{d:Option Nat}(hx:O g w (L h) x vx)(hk:PK cx d h x K):∃g' av h',K av h'/\CZ w0 g0 h0 h' g' w/\Le h g w h' g' w/\O g' w (L h') av vx:=by
 have plain:K x h->∃g' av h',K av h'/\CZ w0 g0 h0 h' g' w/\Le h g w h' g' w/\O g' w (L h') av vx:=fun hk=>⟨g,x,h,hk,hI,.refl _ _ _,hx⟩;unfold PK at hk;split at hk
 .simp_all
 .rename_i d;split at hk
  .rename_i sz _;split at hk
   .refine⟨g,unT x,h,hk,hI,.refl _ _ _,?_⟩;cases x with
    |slice tk es=>exact(O.slice_none hx).up _
    |_=>exact hx
   .split at hk
    .split at hk
     .rename_i hd;obtain rfl:=hx.v_eq;obtain⟨g',k1,k2,k3⟩:=Pl hI (sz:=sz) (es:=[]) (a:=none) hd aa1 rfl (.snil _ _ _)<;>grind
     simp_all
    simp_all
  .split at hk
   .rename_i sz _;split at hk
    .split at hk
     .rename_i hd;obtain rfl:=hx.v_eq
      obtain⟨k1,k2⟩:=hI.upd d (.arr sz []) (.slice none 0 0) 0 true none g.S w none ⟨rfl,rfl,rfl,Ao _⟩ (fun _ _ _=>rfl) (fun b e=>by cases e) (fun _ _ h=>h) (fun _ _ h=>.inl h) (fun b o e=>by cases e) (fun b _ e=>by cases e) aa1
       (fun hu=>absurd hd hu) (fun _ _=>by
        obtain⟨u1,u2,u3,u4⟩:=Bn g d (.slice none 0 0) 0 true none g.S;exact⟨u3,u2,by simp,.inl ⟨rfl,u1,u4⟩⟩)
      exact⟨_,_,_,hk,k1,k2,.msl _ d 0 none 0 (by unfold L;rw[A0];simp) (by simp[D.upd]) (Ak _) (.inl rfl) (fun _=>by simp[D.upd])⟩
     simp_all
    simp_all
   simp_all
theorem bM{mku:List Nat}{d:Option Nat}{ty:Nat}(hk:Lg T mku d h ty K):OD P w0 g0 h0 h g w (Instr.makeMap ty none) K:=by
 unfold Lg at hk;split at hk
 .simp_all
 .rename_i d;split at hk
  .rename_i hd;split at hk
   .split at hk
    .rename_i sh _;split at hk
     .obtain⟨k1,k2⟩:=hI.newOwn hd (.mapU sh []) (.map #[] 0) (.map (some w.heap.size)) 0 false w ⟨rfl,rfl,rfl,rfl⟩ aa1 (fun hg Jf=>by
       obtain⟨u1,u2,u3,u4⟩:=Bn g d (.map (some w.heap.size)) 0 false (some w.heap.size) g.S;exact⟨u3,w.heap.size,#[],0,u4,u1,Hx w _ rfl,⟨rfl,by simp,by simp,by simp,by simp,by simp⟩,by simp,fun o ho=>by have:=hI.slt _ _ ho;omega⟩)
      refine⟨_,_,_,_,_,?_,hk,k1,k2,.mref _ d w.heap.size (by grind [L,A0]) ?_ ?_⟩
      .simp[Instr.makeMap]
      all_goals grind [D.upd]
     .obtain⟨k1,k2⟩:=hI.newOwn hd (.map sh []) (.map #[] 0) (.map (some w.heap.size)) 0 false w ⟨rfl,rfl,rfl,rfl⟩ aa1 (fun hg Jf=>by
       obtain⟨u1,u2,u3,u4⟩:=Bn g d (.map (some w.heap.size)) 0 false (some w.heap.size) g.S;exact⟨u3,w.heap.size,#[],0,u4,u1,Hx w _ rfl,⟨rfl,by simp,by simp,by simp,by simp,by simp⟩,by simp,fun o ho=>by have:=hI.slt _ _ ho;omega⟩)
      refine⟨_,_,_,_,_,?_,hk,k1,k2,.mref _ d w.heap.size (by grind [L,A0]) ?_ ?_⟩
      .simp[Instr.makeMap]
      all_goals grind [D.upd]
    simp_all
   simp_all
  simp_all
omit hI in
theorem O.sub{sz l m:Nat}{x:Value}{n cap:Nat}(hr:O g w FK (.slice .none es) x)(hx:x=.slice a n cap)(hl:∀c∈es,c.length=sz)(h1:l<=m)(h2:m<=es.length)(c' : Nat)(hc:m-l<=c')(a' : Option Addr)(ha:a'=a.map (·.add (l*sz))\/(m=l/\a'=a)):O g w FK (.slice .none ((es.take m).drop l)) (.slice a' (m-l) c'):=by
 subst hx;have CN:((es.take m).drop l).length=m-l:=aa0
 by_cases h0:m-l=0
 .grind [snil]
 .cases hr with
  |snil=>simp_all
  |slice _ _ b off H9 cap val hc' Tf DS EB=>
   have hz:H9=sz:=by
    have:(0:Nat)<es.length:=Wk
    have h3:=Tf 0 es[0] (AT this);simp_all
   subst hz;have ha' : a'=some ⟨b,off+l*H9,none⟩:=by
    grind [Addr.add_lit]
   subst ha';rw[<-CN];have F5:∀(i:Nat) (cs:List AV),((es.take m).drop l)[i]?=some cs->es[l+i]?=some cs:=fun i cs h=>by
    grind
   refine .slice _ _ b (off+l*H9) H9 c' (fun i j=>val (l+i) j) Wk (fun i cs h=>Tf _ _ (F5 i cs h)) (fun i cs j av h1 h2=>?_) (fun i cs j av h1 h2=>EB _ _ _ _ (F5 i cs h1) h2)
   grind
omit hI in
theorem Ln{t:Nat->AV}(ht:∀x:Operand,O g w (L h) (ev t x) (ρ x)){o:Option Operand}{i:Option Int}(hk:CT t o=some i):o.map ρ=i.map fun n=>.int .i64 n:=by
 cases o<;>grind [CT,O.v_eq]
omit hI in
theorem VN(b:Bool)(len cap:Nat)(lo hi mx:Option Int)(uH:mx=none\/hi≠none)(h0:0<=lo.getD 0)(h1:lo.getD 0<=hi.getD len)(h2:hi.getD len<=mx.getD cap)(h3:mx.getD cap<=cap) :
  (Instr.sliceBounds b len cap (lo.map fun n=>.int .i64 n) (hi.map fun n=>.int .i64 n) (mx.map fun n=>.int .i64 n)).run P w=.ok ((lo.getD 0).toNat,(hi.getD len).toNat,(mx.getD cap).toNat) w:=by
 have e1:∀n:Int,0<=n->(n.toNat:Int)=n:=fun n hn=>Int.toNat_of_nonneg hn;cases mx with
 |none=>
  cases hi with
  |none=>
   cases lo with
   |none=>simp[Instr.sliceBounds]
   |some l=>
    simp only[EK,Mr]at h0 h1 h2;simp[Instr.sliceBounds,run_sliceBound,h0,h1]
  |some hh=>
   simp only[EK,Mr]at h1 h2;have hh0:0<=hh:=Wk
   cases lo with
   |none=>simp[Instr.sliceBounds,run_sliceBound,hh0,h2]
   |some l=>
    simp only[EK]at h0 h1;simp[Instr.sliceBounds,run_sliceBound,h0,h1,h2,hh0,e1]
 |some m=>
  cases hi with
  |none=>simp_all
  |some hh=>
   simp only[EK]at h1 h2 h3;have hh0:0<=hh:=Wk
   have nU:0<=m:=Wk
   cases lo with
   |none=>simp[Instr.sliceBounds,run_sliceBound,h2,h3,hh0,nU,e1]
   |some l=>
    simp only[EK]at h0 h1;simp[Instr.sliceBounds,run_sliceBound,h0,h1,h2,h3,hh0,nU,e1]
omit hI in
theorem E6(hT:Cc P T){ty e k:Nat}(ht:(T ty).d=.slice e)(hk:(T e).size=k+1)(a:Option Addr)(len cap:Nat)(lo hi mx:Option Int)(uH:mx=none\/hi≠none)(h0:0<=lo.getD 0)(h1:lo.getD 0<=hi.getD len)(h2:hi.getD len<=mx.getD cap)(h3:mx.getD cap<=cap) :
  (Instr.sliceAt ty (.slice a len cap) (lo.map fun n=>.int .i64 n) (hi.map fun n=>.int .i64 n) (mx.map fun n=>.int .i64 n)).run P w =
   .ok (.slice (if(mx.getD cap).toNat=(lo.getD 0).toNat then a else a.map (·.add ((lo.getD 0).toNat*(T e).size))) ((hi.getD len).toNat-(lo.getD 0).toNat) ((mx.getD cap).toNat-(lo.getD 0).toNat)) w:=by
 have hu:=hT.slice ht;have hb:=VN (P:=P) (w:=w) true len cap lo hi mx uH h0 h1 h2 h3;simp only[Instr.sliceAt,Sem.run_bind,run_underlying hu,Result.andThen_ok,Instr.slice,hb,hT.size1 w hk,Sem.run_pure];rw[hk]
theorem CZ.moveO(r r2:Nat)(ER:r2≠r)(hf:h r2=.free)(hl:(h r).live){ob:Option Nat}(ho:∀c,ob=some c->g.own r=some c)(o' : HO)(x:Value)(n:Nat)(t:Bool)(hn:o'≠.free)
  (Mt:Fg g w (g.upd r2 x n t ob g.S) w->D6 (g.upd r2 x n t ob g.S) w (L (AJ (AJ h r .dead) r2 o')) r2 o') :
  CZ w0 g0 h0 (AJ (AJ h r .dead) r2 o') (g.upd r2 x n t ob g.S) w/\Le h g w (AJ (AJ h r .dead) r2 o') (g.upd r2 x n t ob g.S) w:=by
 have nA:KK g (g.upd r2 x n t ob g.S) (L h):=by
  intro i hi;have e:i≠r2:=fun e=>hi aa0
  grind [D.upd]
 have hK:Fg g w (g.upd r2 x n t ob g.S) w:=fun b o hb=>⟨hb,rfl,fun _ _ h=>h⟩;have Oa:∀i,L h i->L (AJ (AJ h r .dead) r2 o') i:=fun i hi=>DP hn i (DP aa1 i hi);have key:∀i,i≠r2->(AJ (AJ h r .dead) r2 o' i).live->i≠r/\(h i).live:=fun i h2 hl=>by
  rw[BQ _ _ _ _ h2]at hl
  by_cases e:i=r
  .subst e;rw[A0]at hl;exact hl.elim
  grind [BQ]
 have own:∀i,i≠r2->(g.upd r2 x n t ob g.S).own i=g.own i:=fun i e=>by simp[D.upd,e]
 have pi:(g.upd r2 x n t ob g.S).own r2=ob:=by simp[D.upd]
 refine⟨⟨hI.os,hI.tape,hI.output,hI.size,hI.frame,hI.slt,fun i=>?_,fun i j c hi hj ei ej=>?_,fun i c hi ei=>?_,hI.sg,hI.glob.keep hK⟩,nA,Oa,hK⟩
 .by_cases e:i=r2
  .grind [A0]
  .rw[BQ _ _ _ _ e]
   by_cases e1:i=r
   .subst e1;rw[A0];trivial
   .rw[BQ _ _ _ _ e1];exact(hI.objs i).same hK Oa nA (by simp[D.upd,e]) (by simp[D.upd,e]) (by simp[D.upd,e]) aa0 (fun b hl hb=>⟨rfl,fun k hk=>hk⟩)
 .grind [CZ.inj]
 .by_cases e1:i=r2
  .subst e1;rw[pi]at ei;exact hI.loc r _ hl (ho _ ei)
  .rw[own i e1]at ei;exact hI.loc i c (key i e1 hi).2 ei
theorem cy(hT:Cc P cx.T){d:Option Nat}{ty:Nat}{t:Nat->AV}(ht:∀x:Operand,O g w (L h) (ev t x) (ρ x)){lo mx:Option Operand}(hx:O g w (L h) x vx)(hk:VJ cx d h ty x (CT t lo) hi mx K):OD P w0 g0 h0 h g w (Instr.sliceAt ty vx (lo.map ρ) (hi.map ρ) (mx.map ρ)) K:=by
 unfold VJ at hk;split at hk
 .rename_i d IA e1;rw[Ln ht e1];split at hk
  .rename_i e hs;split at hk
   .simp_all
   .rename_i k FW;split at hk
    .rename_i r sz es;split at hk
     .rename_i H9 n e0;split at hk
      .rename_i hd;split at hk
       .rename_i q1 q2;obtain rfl:=AY q1;have q2:=AY q2;obtain⟨⟨rfl,h1,h2⟩,hk⟩:=hk;have hl:(h r).live:=by rw[e0];trivial
        have ER:KO cx d≠r:=fun e=>by simp_all
        have ho:=hI.objs r;rw[e0]at ho;obtain⟨t1,l1,a,cap,a1,a3⟩:=ho;have hr:=hx.slice_none;cases hx with
        |tok _ _ _ _ _ yt sa hu ht' hn Tg=>
         have hv:=Tg l1.symm;rw[a1]at hv;subst hv;have gT:es.length<=cap:=Wk
         have CL:=E6 (P:=P) (w:=w) hT hs FW a es.length cap (some IA) none none (.inl rfl) h1 h2 aa0 aa1;simp only[EK,Mr,GO]at CL;have CN:(es.drop IA.toNat).length=es.length-IA.toNat:=TT;have kh:=O.sub (c':=cap-IA.toNat) hr rfl sa (l:=IA.toNat) (m:=es.length) Wk (Ao _) Wk (if cap=IA.toNat then a else a.map (·.add (IA.toNat*(cx.T e).size))) (by
          grind)
         rw[Hu]at kh
         have fin:∀ob:Option Nat,(∀c,ob=some c->g.own r=some c)->(es.length-IA.toNat=cap-IA.toNat/\ob=none\/es.length-IA.toNat<=cap-IA.toNat/\∃b E vs off,(if cap=IA.toNat then a else a.map (·.add (IA.toNat*(cx.T e).size)))=some ⟨b,off,none⟩/\ob=some b/\Sj w b vs E/\vs.size=off+(cap-IA.toNat)*H9/\∀o,g.S b o->o<off+(es.length-IA.toNat)*H9) ->
           OD P w0 g0 h0 h g w (Instr.sliceAt ty (.slice a es.length cap) ((some IA).map fun n=>.int .i64 n) ((none:Option Operand).map ρ) ((none:Option Operand).map ρ)) K:=fun ob ho hob=>by
          obtain⟨k1,k2⟩:=hI.moveO r (KO cx d) ER hd hl ho (.tok H9 (es.drop IA.toNat).length) (.slice (if cap=IA.toNat then a else a.map (·.add (IA.toNat*(cx.T e).size))) (es.length-IA.toNat) (cap-IA.toNat)) (es.length-IA.toNat) true aa1 (fun Jf=>by
           obtain⟨u1,u2,u3,u4⟩:=Bn g (KO cx d) (.slice (if cap=IA.toNat then a else a.map (·.add (IA.toNat*(cx.T e).size))) (es.length-IA.toNat) (cap-IA.toNat)) (es.length-IA.toNat) true ob g.S;refine⟨u3,u2.trans CN.symm,_,_,by rw[CN];exact u1,?_⟩;rw[CN,u4];exact hob)
          exact⟨_,w,_,_,_,CL,hk,k1,k2,.tok _ _ _ _ _ (((kh.mono k2.keeps (fun _ h=>h) (fun _ h=>h.elim))).up _) (fun c hc=>sa c (I1 hc)) (by grind [L,A0]) (by simp[D.upd]) (by simp[D.upd]) (fun _=>by simp[D.upd])⟩
         rcases a3 with ⟨e1,e2⟩ | ⟨e1,b,E,vs,off,rfl,e3,e4,e5,e6⟩
         .exact fin none (fun c h=>by cases h) (.inl ⟨by omega,rfl⟩)
         .by_cases hc:cap=IA.toNat
          .exact fin none (fun c h=>by cases h) (.inl ⟨by omega,rfl⟩)
          .refine fin (some b) (fun c h=>by simp_all) (.inr ⟨by omega,b,E,vs,off+IA.toNat*H9,?_,rfl,e4,?_,fun o ho=>?_⟩)
           .grind [Addr.add_lit]
           .rw[e5,Nat.sub_mul]
            have:=BB H9 (show IA.toNat<=cap by omega)
            omega
           grind [Nat.sub_mul]
       simp_all
      simp_all
     simp_all
    simp_all
  simp_all
 simp_all
omit hI in
theorem ON{sz:Nat}:∀{es:C0},(∀cs∈es,cs.length=sz)->∀k,(es.take k).flatten=es.flatten.take (k*sz)
 | [],_,k=>by simp
 |c::es,hl,0=>by simp
 |c::es,hl,k+1=>by
  have h1:=hl c (Ah ..);have h2:c.length<=k*sz+sz:=Wk
  rw[List.take_succ_cons,Cs,Cs,ON (fun x hx=>hl x (Aj _ hx)) k,List.take_append,h1,Nat.succ_mul,
   A3 h2,show k*sz+sz-sz=k*sz by omega]
omit hI in
theorem Ci.takeE{U:Nat->Prop}{sz k:Nat}{vs:List Value}(hl:∀cs∈es,cs.length=sz)(hk:k<=es.length)(h:Ci g w U es.flatten (vs.take (es.length*sz))):Ci g w U (es.take k).flatten (vs.take (k*sz)):=by
 have e:vs.take (k*sz)=(vs.take (es.length*sz)).take (k*sz):=by
  grind [Nat.mul_le_mul_right]
 rw[ON hl,e];refine⟨by rw[BX (l:=vs.take (es.length*sz)),h.1,BX],fun x hx=>h.2.1 x (EJ hx),fun i av x q1 q2=>?_⟩;have hi:i<k*sz:=by
  grind
 rw[List.getElem?_take,A1 hi]at q1 q2;exact h.2.2 i av x q1 q2
theorem iF(hT:Cc P cx.T){d:Option Nat}{ty:Nat}{t:Nat->AV}(ht:∀x:Operand,O g w (L h) (ev t x) (ρ x))(hx:O g w (L h) x vx)(hk:py cx d h ty x (CT t hi) K):OD P w0 g0 h0 h g w (Instr.sliceAt ty vx none (hi.map ρ) none) K:=by
 unfold py at hk;split at hk
 .rename_i d Pw e1;rw[Ln ht e1];split at hk
  .rename_i e hs;split at hk
   .simp_all
   .rename_i k FW;split at hk
    .rename_i r n;split at hk
     .rename_i sz es e0;split at hk
      .rename_i hd;split at hk
       .rename_i q1 q3;have q1:=AY q1;obtain⟨⟨rfl,h1,h2⟩,hk⟩:=hk;have hl:(h r).live:=by rw[e0];trivial
        have ER:KO cx d≠r:=fun e=>by simp_all
        have ho:=hI.objs r;rw[e0]at ho;obtain⟨t1,l1,al,a2⟩:=ho;have CN:(es.take Pw.toNat).length=Pw.toNat:=aa0
        cases hx with
        |msl _ _ _ a cap hu ht' kc ha Tg=>
         have hv:=Tg l1.symm;have Qp:es.length<=cap:=by
          grind
         have CL:=E6 (P:=P) (w:=w) hT hs FW a es.length cap none (some Pw) none (.inl rfl) aa1 aa0 aa2 aa1;have SE:(if cap-(0:Nat)=0 then a else a.map (·.add (0*(cx.T e).size)))=a:=by
          grind [Addr.add]
         simp only[EK,Mr,GO,Int.toNat_zero,Nat.sub_zero]at CL SE;have key:∃a',(Instr.sliceAt ty (.slice a es.length cap) ((none:Option Int).map fun n=>.int .i64 n) ((some Pw).map fun n=>.int .i64 n) ((none:Option Int).map fun n=>.int .i64 n)).run P w=.ok (.slice a' Pw.toNat cap) w/\(a'=a):=⟨_,CL,by omega⟩;obtain⟨a',CL,rfl⟩:=key;have hval:O (g.upd (KO cx d) (.slice a' Pw.toNat cap) Pw.toNat true (g.own r) g.S) w (L (AJ (AJ h r .dead) (KO cx d) (.arr sz (es.take Pw.toNat)))) (.msl (KO cx d) Pw.toNat) (.slice a' Pw.toNat cap):=
          .msl _ _ _ _ _ (by grind [L,A0]) (by simp[D.upd]) (by simp[D.upd]) (ha.elim (fun e=>.inl Wk) .inr) (fun _=>by simp[D.upd])
         obtain⟨k1,k2⟩:=hI.moveO r (KO cx d) ER hd hl (ob:=g.own r) (fun c h=>h) (.arr sz (es.take Pw.toNat)) (.slice a' Pw.toNat cap) Pw.toNat true aa1 (fun Jf=>by
          obtain⟨u1,u2,u3,u4⟩:=Bn g (KO cx d) (.slice a' Pw.toNat cap) Pw.toNat true (g.own r) g.S;refine⟨u3,u2.trans CN.symm,fun c hc=>al c (EJ hc),?_⟩;rcases a2 with ⟨b1,b2,b3⟩ | ⟨b,N7,E,vs,b1,b2,b3,b4,b5,b6,b7⟩
          .simp_all
          .rw[b1]at hv;cases hv;refine .inr ⟨b,cap,E,vs,by simp_all,u4.trans b2,by omega,b4,b5,?_,b7⟩;rw[CN];exact(Ci.takeE al Wk b6).mono Jf (fun _ h=>h) (fun _ h=>h.elim))
         exact⟨_,w,_,_,_,CL,hk,k1,k2,hval⟩
       simp_all
      simp_all
     simp_all
    simp_all
  simp_all
 simp_all
theorem XO(hT:Cc P cx.T){d:Option Nat}{ty:Nat}{t:Nat->AV}(ht:∀x:Operand,O g w (L h) (ev t x) (ρ x)){lo mx:Option Operand}(hx:O g w (L h) x vx)(hk:IQ cx d h ty x (CT t lo) (CT t hi) (CT t mx) K):OD P w0 g0 h0 h g w (Instr.sliceAt ty vx (lo.map ρ) (hi.map ρ) (mx.map ρ)) K:=by
 unfold IQ at hk;split at hk
 .rename_i IA Pw uW e1 e2 e3;rw[Ln ht e1,Ln ht e2,Ln ht e3];split at hk
  .rename_i hs;split at hk
   .rename_i s;obtain⟨⟨h1,h2,h3⟩,hk⟩:=hk;obtain rfl:=hx.v_eq;have hb:=VN (P:=P) (w:=w) false s.size s.size IA Pw none (.inl rfl) h1 h2 aa0 aa1;refine(Bw.val (x:=.string (s.extract (IA.getD 0).toNat (Pw.getD s.size).toNat)) ?_ hk).does hI;simp only[Instr.sliceAt,Sem.run_bind,run_underlying (hT.string hs),Result.andThen_ok,Instr.slice];simp_all
   simp_all
  .rename_i e hs;split at hk
   .simp_all
   .rename_i k FW;split at hk
    .rename_i tk es;have hr:=hx.slice_none;obtain⟨a,cap,hv,Qp⟩:∃a cap,vx=.slice a es.length cap/\es.length<=cap:=by
      grind [cases O]
     subst hv;split at hk
     .obtain⟨⟨h1,h2,h3⟩,hl,hk⟩:=hk;have CL:=E6 (P:=P) (w:=w) hT hs FW a es.length cap IA Pw none (.inl rfl) h1 h2 aa2 aa1;refine Bw.does hI ⟨_,_,CL,hk,(O.sub (c':=cap-(IA.getD 0).toNat) hr rfl hl (l:=(IA.getD 0).toNat) (m:=(Pw.getD es.length).toNat) Wk Wk Wk _ ?_).up _⟩
      grind
     .rename_i m;split at hk
      .rename_i d hh;split at hk
       .obtain⟨⟨h1,h2,rfl,h3⟩,hl,hk⟩:=hk;have CL:=E6 (P:=P) (w:=w) hT hs FW a es.length cap IA (some m) (some m) (.inr aa1) h1 h2 aa1 aa2;simp only[EK]at CL;have CN:((es.take m.toNat).drop (IA.getD 0).toNat).length=m.toNat-(IA.getD 0).toNat:=aa0
        refine Bw.does hI ⟨_,_,CL,hk,.full _ _ _ _ ((O.sub (c':=m.toNat-(IA.getD 0).toNat) hr rfl hl (l:=(IA.getD 0).toNat) (m:=m.toNat) Wk Wk Wk _ ?_).up _) (fun c hc=>hl c (EJ (I1 hc))) ⟨_,by rw[CN]⟩⟩
        grind
       split at hk
       .rename_i hd;obtain⟨⟨h1,h2,rfl,h3⟩,hl,hk⟩:=hk;have CL:=E6 (P:=P) (w:=w) hT hs FW a es.length cap IA (some m) (some m) (.inr aa1) h1 h2 aa1 aa2;simp only[EK]at CL
        obtain⟨g',k1,k2,k3⟩:=Pl hI (sz:=(cx.T e).size) (n:=m.toNat-(IA.getD 0).toNat) hd (es:=(es.take m.toNat).drop (IA.getD 0).toNat) (fun c hc=>hl c (EJ (I1 hc))) aa0
         (O.sub (c':=m.toNat-(IA.getD 0).toNat) hr rfl hl (l:=(IA.getD 0).toNat) (m:=m.toNat) Wk Wk Wk (if m.toNat=(IA.getD 0).toNat then a else a.map (·.add ((IA.getD 0).toNat*(cx.T e).size))) (by
          grind))
        exact⟨_,w,g',_,_,CL,hk,k1,k2,k3⟩
       simp_all
      simp_all
    .obtain⟨⟨h1,h2,h3⟩,h4,hk⟩:=hk;obtain rfl:=hx.v_eq;have CL:=E6 (P:=P) (w:=w) hT hs FW none 0 0 IA Pw uW h4 Wk aa0 aa0 aa0
     grind [Bw.does,Bw.val]
    .rename_i r n;split at hk
     .rename_i sz es e0;split at hk
      .rename_i We;obtain rfl:=AY We;obtain⟨⟨h1,h2,h3,h4,h5⟩,hk⟩:=hk;have ho:=hI.objs r;rw[e0]at ho;obtain⟨t1,l1,al,a3⟩:=ho;have hl:(h r).live:=by rw[e0];trivial
       have AaB:uW=none\/Pw≠none:=h5.imp id (fun q=>q.2);cases hx with
       |msl _ _ _ a cap hu ht' hn ha Tg=>
        have hv:=Tg (h1.trans l1.symm);subst h1;have uH:∀c:Nat,es.length<=c->Pw.getD es.length<=uW.getD c/\uW.getD c<=c:=fun c hc=>by
         rcases h5 with h5 | ⟨h5,ER⟩
         .grind
         .obtain⟨m,hm⟩:=Option.ne_none_iff_exists'.1 ER<;>grind
        rcases a3 with ⟨rfl,q2,q3⟩ | ⟨b,N7,E,vs,q1,q2,q3,q4,q5,q6,q7⟩
        .rw[q2]at hv;cases hv;have CL:=E6 (P:=P) (w:=w) hT hs FW none 0 0 IA Pw uW AaB h2 h3 (uH 0 aa1).1 (uH 0 aa1).2
         obtain⟨k1,k2⟩:=hI.upd r .dead (g.ρ r) (g.ln r) (g.tk r) (g.own r) g.S w none ⟨rfl,rfl,rfl,Ao _⟩ (fun _ _ _=>rfl) (fun b e=>by cases e) (fun _ _ h=>h) (fun _ _ h=>.inl h) (fun b o e=>by cases e) (fun b hh _=>by cases hh) aa1
          (fun _=>⟨rfl,Ao _,fun _=>rfl,fun _=>rfl⟩) (fun _ _=>trivial)
         refine⟨_,w,_,_,_,CL,hk,k1,k2,?_⟩
         grind [O.snil]
        .rw[q1]at hv;cases hv;have CL:=E6 (P:=P) (w:=w) hT hs FW (some ⟨b,0,none⟩) es.length cap IA Pw uW AaB h2 h3 (uH _ q3).1 (uH _ q3).2;have z8:=(hI.loc r b hl q2).1
         obtain⟨k1,k2⟩:=hI.upd r .dead (g.ρ r) (g.ln r) (g.tk r) (g.own r) (g.more b (es.length*(cx.T e).size)) w none ⟨rfl,rfl,rfl,Ao _⟩ (fun _ _ _=>rfl) (fun b e=>by cases e) (fun _ _ h=>.inl h)
          (fun b' o hs=>hs.elim .inl (fun hs=>.inr ⟨by omega,.inr ⟨hl,by simp_all⟩⟩)) (fun b o e=>by cases e) (fun b hh _=>by cases hh) aa1
          (fun _=>⟨rfl,Ao _,fun _=>rfl,fun _=>rfl⟩) (fun _ _=>trivial)
         have EB:=O.slice_row (g:=g.upd r (g.ρ r) (g.ln r) (g.tk r) (g.own r) (g.more b (es.length*(cx.T e).size))) (U:=FK) q4 al q3 (q6.mono k2.keeps (fun _ h=>h) (fun _ h=>h.elim)) (fun o ho=>.inr ⟨rfl,ho⟩);have AkR:=uH _ q3;refine⟨_,w,_,_,_,CL,hk,k1,k2,(O.sub (c':=(uW.getD cap).toNat-(IA.getD 0).toNat) EB rfl al (l:=(IA.getD 0).toNat) (m:=(Pw.getD es.length).toNat) Wk Wk Wk _ ?_).up _⟩
         grind
      simp_all
     simp_all
    simp_all
  simp_all
 simp_all
theorem Ww(hT:Cc P cx.T){d:Option Nat}{ty:Nat}{n c:AV}{vn vc:Value}(hn:O g w (L h) n vn)(hc:O g w (L h) c vc)(hk:Kb cx d h ty n c K) :
  OD P w0 g0 h0 h g w (Instr.makeSlice ty vn vc) K:=by
 unfold Kb at hk;split at hk
 .rename_i e n c hs;obtain rfl:=hn.v_eq;obtain rfl:=hc.v_eq;split at hk
  .rename_i YS;split at hk
   .rename_i ZL;have ZL:=AY ZL;split at hk
    .simp_all
    .rename_i k FW;obtain⟨⟨h1,h2,h3,h4⟩,hk⟩:=hk;obtain⟨i,z,i1,i2,i3,i4,i5⟩:=Ij hT FW;have wZ:(cx.T e).zc≠[]:=fun e0=>by simp_all
     have wn:IntKind.i64.wrap n=n:=N3 ⟨by omega,by omega⟩;have wc:IntKind.i64.wrap c=c:=N3 ⟨by omega,by omega⟩;have GI:∀l:List AV,(∀a∈l,one a=true)->Hj l=true:=by
      intro l
      induction l<;>grind [Hj]
     have wT:((Array.range (c.toNat*(cx.T e).size)).map fun k=>z.cells[k % z.cells.size]!).toList=(List.replicate c.toNat (cx.T e).zc).flatten:=by
      rw[Iv c.toNat _ wZ,ZL,i5];have e6:z.cells.size=(cx.T e).size:=aa0
      simp[e6,Array.getElem!_eq_getD]
     have hzs:(cx.T e).zc.length=(cx.T e).size:=ZL;have hlr:∀c'∈List.replicate c.toNat (cx.T e).zc,c'.length=(cx.T e).size:=fun c' hc=>by simp_all
     have Af2 : ∀c'∈List.replicate n.toNat ((cx.T e).zc.map AV.v),c'.length=(cx.T e).size:=fun c' hc=>by simp_all
     have AkN:∀c'∈List.replicate n.toNat (cx.T e).zc,c'.length=(cx.T e).size:=fun c' hc=>by simp_all
     obtain⟨g',av,h',q1,q2,q3,q4⟩:=KE hI hk (vs:=(Array.range (c.toNat*(cx.T e).size)).map fun k=>z.cells[k % z.cells.size]!) (cap:=c.toNat) e Af2 aa2 aa1 (by
      rw[wT,List.length_replicate];have e1:(List.replicate n.toNat ((cx.T e).zc.map AV.v)).flatten=(List.replicate n.toNat (cx.T e).zc).flatten.map AV.v:=by
       simp_all
      have e2:(List.replicate c.toNat (cx.T e).zc).flatten.take (n.toNat*(cx.T e).size)=(List.replicate n.toNat (cx.T e).zc).flatten:=by
       obtain⟨m,hm⟩:∃m,c.toNat=n.toNat+m:=⟨c.toNat-n.toNat,by omega⟩;rw[hm,<-List.replicate_append_replicate,Ej,N5 aa0]
      grind [Ci.vals,Nt]) w ⟨rfl,rfl,rfl,rfl⟩
     rw[List.length_replicate]at q4;refine⟨_,_,g',av,h',?_,q1,q2,q3,q4⟩;have hb0:¬((cx.T e).bytes*c>2 ^ 48):=aa2
     have nP:((decide (c<0)||decide (((cx.T e).bytes:Int)*c>2 ^ 48))||decide (n<0)||decide (n>c))=false:=by
      grind
     simp only[Instr.makeSlice,Sem.run_bind,run_underlying (hT.slice hs),Result.andThen_ok,asInt,asIntOf,Sem.run_pure,typeInfo,run_program,i1,i4,wn,wc,nP,Bool.false_eq_true,if_false,run_askRoom,hT.size1 w FW]
     by_cases hz:c.toNat*(k+1)=0
     .have hc0:c.toNat=0:=by
       simp_all
      rw[hc0];simp only[Nat.zero_mul,if_true];simp only[show Array.range 0=#[]from rfl,Array.map_empty];simp[newRow]
     .simp only[AL hz,Sem.run_bind,zeroValue,typeInfo,run_program,i1,i2,Result.andThen_ok,Sem.run_pure];rw[FW];simp[newRow]
   simp_all
  simp_all
 simp_all
end
end Go.Eng
namespace Go.Eng
open Go.ChangeMaps (setBlock)
variable {BZ:List (Value×AV)}{es:Array MapEntry}{sh:E0}{vx:Value}{α β:Type}{f:α->β}{l:List α}{ck:Nat}{w:World}{k x y:Value}{a:AV}{K:HK}{r:Nat}{o':Obj}{j:Nat}{v:AV}{T:G4}
theorem WC{o:Obj}(h:w.heap[r]?=some o):(setBlock w r o').heap[r]?=some o':=by
 grind [setBlock]
theorem VS{k:Nat}(h:k≠r):(setBlock w r o').heap[k]?=w.heap[k]?:=by
 grind [setBlock]
theorem WD(w:World)(r:Nat)(o' : Obj):(setBlock w r o').heap.size=w.heap.size:=by simp[setBlock]
theorem QC(h:(l.map f).Nodup):l.Nodup:=by
 induction l<;>grind
theorem XC(h:(l.map f).Nodup){i:Nat}{a b:α}(ha:l[i]?=some a)(hb:l[j]?=some b)(he:f a=f b):i=j:=by
 induction l generalizing i j<;>grind
open Classical in
theorem RE{b:AV}(h:(k,b)∈BZ):Fc BZ k a=BZ.map fun p=>if p.1=k then(k,a)else p:=A1 ⟨b,h⟩
open Classical in
theorem Lh(h:∀b,(k,b)∉BZ):Fc BZ k a=BZ++[(k,a)]:=AL (fun⟨b,e⟩=>h b e)
theorem Xx(f:AV->AV)(h:HQ sh es ck BZ):HQ sh es ck (BZ.map fun p=>(p.1,f p.2)):=by
 obtain⟨h1,h2,h3,h4,h5,h6⟩:=h;refine⟨by simp_all,fun i kv e q1 q2=>?_,fun kv ka=>?_,?_,h5,h6⟩
 all_goals grind
theorem Qy(h:HQ sh es ck BZ)(hj:BZ[j]?=some (x,a)) :
  HQ sh (es.modify j fun e=>{ e with key:=x,val:=y }) ck (Fc BZ x v) /\
   ∀(i:Nat) (kv:Value×AV) (e:MapEntry),(Fc BZ x v)[i]?=some kv->(es.modify j fun e=>{ e with key:=x,val:=y })[i]?=some e ->
    (kv.2=v/\e.val=y)\/(BZ[i]?=some kv/\es[i]?=some e):=by
 classical
 rw[RE (AA hj)];obtain⟨h1,h2,h3,h4,h5,h6⟩:=h;have hm:∀i e,(es.modify j fun e=>{ e with key:=x,val:=y })[i]?=some e->∃e0,es[i]?=some e0/\e.born=e0.born/\(if i=j then e.key=x/\e.val=y else e=e0):=by
  grind
 have hk:∀i kv,(BZ.map fun p=>if p.1=x then(x,v)else p)[i]?=some kv->∃p,BZ[i]?=some p/\kv.1=p.1/\(if i=j then kv.2=v else kv=p):=by
  intro i kv ka;rw[Ct]at ka;obtain⟨p,q1,q2⟩:=B6.1 ka;refine⟨p,q1,?_⟩
  grind [XC]
 have AhX:(BZ.map fun p=>if p.1=x then(x,v)else p).map (·.1)=BZ.map (·.1):=by
  rw[BH];apply Cg
  grind
 refine⟨⟨by grind,fun i kv e q1 q2=>?_,fun kv ka=>?_,by grind,fun i e q=>?_,fun i i' e e' q q' hb=>?_⟩,fun i kv e q1 q2=>?_⟩
 all_goals grind
theorem Vg(h:HQ sh es ck BZ)(hx:Zw sh x=true)(hn:∀a,(x,a)∉BZ) :
  HQ sh (es.push { key:=x,val:=y,born:=ck }) (ck+1) (Fc BZ x v) /\
   ∀(i:Nat) (kv:Value×AV) (e:MapEntry),(Fc BZ x v)[i]?=some kv->(es.push { key:=x,val:=y,born:=ck })[i]?=some e ->
    (kv.2=v/\e.val=y)\/(BZ[i]?=some kv/\es[i]?=some e):=by
 rw[Lh hn];obtain⟨h1,h2,h3,h4,h5,h6⟩:=h;have hm:∀i e,(es.push { key:=x,val:=y,born:=ck })[i]?=some e->(es[i]?=some e/\i<es.size)\/(i=es.size/\e={ key:=x,val:=y,born:=ck }):=by
  grind
 have hk:∀i kv,(BZ++[(x,v)])[i]?=some kv->(BZ[i]?=some kv/\i<es.size)\/(i=es.size/\kv=(x,v)):=by
  grind
 refine⟨⟨by grind,fun i kv e q1 q2=>?_,fun kv ka=>?_,?_,fun i e q=>?_,fun i i' e e' q q' hb=>?_⟩,fun i kv e q1 q2=>?_⟩
 all_goals grind
section
variable {P:Program}{w0:World}{g0:D}{h0 h:Nat->HO}{g:D}{w:World}(hI:CZ w0 g0 h0 h g w)
include hI
theorem CZ.swap{r b:Nat}(hl:(h r).live)(ho:g.own r=some b)(hn:∀o,¬g.S b o)(o' : HO){ob:Obj}(hb:w.heap[b]?=some ob)(iz : Obj)(w1:World)(UV:w1.heap=w.heap/\w1.os=w.os/\w1.tape=w.tape/\w1.output=w.output)(ER:o'≠.free)
  (Mt:KK g (g.upd r (g.ρ r) (g.ln r) (g.tk r) (g.own r) g.S) (L h)->Fg g w (g.upd r (g.ρ r) (g.ln r) (g.tk r) (g.own r) g.S) (setBlock w1 b iz)->(setBlock w1 b iz).heap[b]?=some iz ->
   (∀k,k≠b->(setBlock w1 b iz).heap[k]?=w.heap[k]?) ->
   D6 (g.upd r (g.ρ r) (g.ln r) (g.tk r) (g.own r) g.S) (setBlock w1 b iz) (L (AJ h r o')) r o') :
  CZ w0 g0 h0 (AJ h r o') (g.upd r (g.ρ r) (g.ln r) (g.tk r) (g.own r) g.S) (setBlock w1 b iz)/\Le h g w (AJ h r o') (g.upd r (g.ρ r) (g.ln r) (g.tk r) (g.own r) g.S) (setBlock w1 b iz):=by
 have E4:=(hI.loc r b hl ho).1;have E1:(setBlock w1 b iz).heap[b]?=some iz:=WC (by rw[UV.1];exact hb);have eQ:∀k,k≠b->(setBlock w1 b iz).heap[k]?=w.heap[k]?:=fun k hk=>by grind [VS]
 refine hI.upd r o' _ _ _ _ _ _ (some b) ⟨UV.2.1,UV.2.2.1,UV.2.2.2,by grind [WD]⟩ (fun k _ ER=>eQ k (fun e=>ER (by rw[e]))) (fun b' e=>by simp_all) (fun _ _ h=>h) (fun _ _ h=>.inl h)
  (fun b' o e hs=>by simp_all) (fun b' _ e=>?_) ER (fun _=>⟨rfl,Ao _,fun _=>rfl,fun _=>rfl⟩) (fun hg hk=>Mt hg hk E1 eQ)
 grind
theorem Oq(hT:Cc P T){ty:Nat}{m k x:AV}{vm vk:Value}(hm:O g w (L h) m vm)(hk' : O g w (L h) k vk)(hx:O g w (L h) x vx)(hk:HL T h ty m k x K) :
  lY P w0 g0 h0 h g w (Instr.mapUpdate ty vm vk vx) K:=by
 unfold HL at hk;split at hk
 .rename_i r;split at hk
  .rename_i sh BZ e0;obtain⟨kt,e,k1,k2,k3,k4⟩:=NG hk' hk;have ho:=hI.objs r;rw[e0]at ho;obtain⟨t1,b,es,ck,a1,a2,a3,a4,a5,a6⟩:=ho;have hl:(h r).live:=by rw[e0];trivial
   cases hm with
   |mref _ _ b' hu ht hp=>
    rw[a2]at hp;cases hp;have oc:=hT.map k1;have F5:=run_getObj_map (P:=P) w b es ck a3;have OX:∀o',(setObj b o').run P w=.ok () (setBlock w b o'):=fun o'=>by grind [setObj,Sem.run,setBlock]
    have UQ:=fun bb=>Nk hT k2 w bb k3;obtain⟨res,r1,r2⟩:=Pq hT k2 w k3 es.toList a4.shape;have sj:=O.str hI.objs hx;rcases r2 with ⟨rfl,hn⟩ | ⟨j,en,rfl,hj,hkey⟩
    .obtain⟨m1,m2⟩:=Vg a4 (x:=vk) (v:=str h x) (y:=vx) k3 (fun a=>a4.none hn a);obtain⟨i1,i2⟩:=CZ.swap hI hl a1 a6 (.map sh (Fc BZ vk (str h x))) a3 (.map (es.push { key:=vk,val:=vx,born:=ck }) (ck+1)) w ⟨rfl,rfl,rfl,rfl⟩ aa1 (fun hg Jf E1 eQ=>by
      obtain⟨u1,u2,u3,u4⟩:=Bn g r (g.ρ r) (g.ln r) (g.tk r) (g.own r) g.S;refine⟨u3.trans t1,b,_,_,u4.trans a1,u1.trans a2,E1,m1,fun i kv e q1 q2=>?_,a6⟩;rcases m2 i kv e q1 q2 with ⟨p1,p2⟩ | ⟨p1,p2⟩
      .rw[p1,p2];exact sj.mono Jf (fun _ h=>h) (fun _ h=>h.elim)
      .exact(a5 i kv e p1 p2).mono Jf (fun _ h=>h) (fun _ h=>h.elim))
     refine⟨_,_,_,?_,k4,i1,i2⟩;simp[Instr.mapUpdate,run_underlying oc,F5,UQ,r1,OX]
    .obtain⟨a,q1,q2⟩:=a4.some hj hkey;obtain⟨m1,m2⟩:=Qy a4 (x:=vk) (v:=str h x) (y:=vx) q1;obtain⟨i1,i2⟩:=CZ.swap hI hl a1 a6 (.map sh (Fc BZ vk (str h x))) a3 (.map (es.modify j fun e=>{ e with key:=vk,val:=vx }) ck) w ⟨rfl,rfl,rfl,rfl⟩ aa1 (fun hg Jf E1 eQ=>by
      obtain⟨u1,u2,u3,u4⟩:=Bn g r (g.ρ r) (g.ln r) (g.tk r) (g.own r) g.S;refine⟨u3.trans t1,b,_,_,u4.trans a1,u1.trans a2,E1,m1,fun i kv e q1 q2=>?_,a6⟩;rcases m2 i kv e q1 q2 with ⟨p1,p2⟩ | ⟨p1,p2⟩
      .rw[p1,p2];exact sj.mono Jf (fun _ h=>h) (fun _ h=>h.elim)
      .exact(a5 i kv e p1 p2).mono Jf (fun _ h=>h) (fun _ h=>h.elim))
     refine⟨_,_,_,?_,k4,i1,i2⟩;have hj' : es[j]?=some en:=aa0
     have Iz:=SV (P:=P) w k3;simp[Instr.mapUpdate,run_underlying oc,F5,UQ,r1,OX,hj',hkey,Iz]
  .rename_i sh BZ e0;obtain⟨kt,e,k1,k2,k3,k4⟩:=NG hk' hk;have ho:=hI.objs r;rw[e0]at ho;obtain⟨t1,b,es,ck,a1,a2,a3,a4,a5,a6⟩:=ho;have hl:(h r).live:=by rw[e0];trivial
   cases hm with
   |mref _ _ b' hu ht hp=>
    rw[a2]at hp;cases hp;have oc:=hT.map k1;have F5:=run_getObj_map (P:=P) w b es ck a3;have OX:∀o',(setObj b o').run P w=.ok () (setBlock w b o'):=fun o'=>by grind [setObj,Sem.run,setBlock]
    have UQ:=fun bb=>Nk hT k2 w bb k3;obtain⟨res,r1,r2⟩:=Pq hT k2 w k3 es.toList a4.shape;rcases r2 with ⟨rfl,hn⟩ | ⟨j,en,rfl,hj,hkey⟩
    .obtain⟨m1,m2⟩:=Vg a4 (x:=vk) (v:=x) (y:=vx) k3 (fun a=>a4.none hn a);obtain⟨i1,i2⟩:=CZ.swap hI hl a1 a6 (.mapU sh (Fc BZ vk (x))) a3 (.map (es.push { key:=vk,val:=vx,born:=ck }) (ck+1)) w ⟨rfl,rfl,rfl,rfl⟩ aa1 (fun hg Jf E1 eQ=>by
      obtain⟨u1,u2,u3,u4⟩:=Bn g r (g.ρ r) (g.ln r) (g.tk r) (g.own r) g.S;have Oa:∀i,L h i->L (AJ h r (.mapU sh (Fc BZ vk x))) i:=fun i hi=>DP aa1 i hi;refine⟨u3.trans t1,b,_,_,u4.trans a1,u1.trans a2,E1,m1,fun i kv e q1 q2=>?_,a6⟩
      grind [O.mono])
     refine⟨_,_,_,?_,k4,i1,i2⟩;simp[Instr.mapUpdate,run_underlying oc,F5,UQ,r1,OX]
    .obtain⟨a,q1,q2⟩:=a4.some hj hkey;obtain⟨m1,m2⟩:=Qy a4 (x:=vk) (v:=x) (y:=vx) q1;obtain⟨i1,i2⟩:=CZ.swap hI hl a1 a6 (.mapU sh (Fc BZ vk (x))) a3 (.map (es.modify j fun e=>{ e with key:=vk,val:=vx }) ck) w ⟨rfl,rfl,rfl,rfl⟩ aa1 (fun hg Jf E1 eQ=>by
      obtain⟨u1,u2,u3,u4⟩:=Bn g r (g.ρ r) (g.ln r) (g.tk r) (g.own r) g.S;have Oa:∀i,L h i->L (AJ h r (.mapU sh (Fc BZ vk x))) i:=fun i hi=>DP aa1 i hi;refine⟨u3.trans t1,b,_,_,u4.trans a1,u1.trans a2,E1,m1,fun i kv e q1 q2=>?_,a6⟩
      grind [O.mono])
     refine⟨_,_,_,?_,k4,i1,i2⟩;have hj' : es[j]?=some en:=aa0
     have Iz:=SV (P:=P) w k3;simp[Instr.mapUpdate,run_underlying oc,F5,UQ,r1,OX,hj',hkey,Iz]
  simp_all
 simp_all
theorem Pm{d b:Nat}{ck:Nat}(hd:h d=.free)(hS:g.S b 0)(hb:w.heap[b]?=some (.map es ck))(hm:HQ sh es ck BZ)(hv:∀(i:Nat) (kv:Value×AV) (e:MapEntry),BZ[i]?=some kv->es[i]?=some e->O g w FK kv.2 e.val) :
  ∃g',CZ w0 g0 h0 (AJ h d (.iter BZ BZ none)) g' (w.alloc (.mapIter (some b) ck #[] ck))/\Le h g w (AJ h d (.iter BZ BZ none)) g' (w.alloc (.mapIter (some b) ck #[] ck)) /\
   O g' (w.alloc (.mapIter (some b) ck #[] ck)) (L (AJ h d (.iter BZ BZ none))) (.ref d 0) (.pointer (some ⟨w.heap.size,0,none⟩)):=by
 obtain⟨k1,k2⟩:=hI.newOwn hd (.iter BZ BZ none) (.mapIter (some b) ck #[] ck) (.pointer (some ⟨w.heap.size,0,none⟩)) 0 false w ⟨rfl,rfl,rfl,rfl⟩ aa1 (fun hg hk=>by
  obtain⟨u1,u2,u3,u4⟩:=Bn g d (.pointer (some ⟨w.heap.size,0,none⟩)) 0 false (some w.heap.size) g.S;obtain⟨c1,c2,c3⟩:=hk b 0 hS
  exact⟨u3,w.heap.size,b,ck,#[],ck,es,ck,u4,u1,Hx w _ rfl,c1,c3 es ck hb,⟨sh,hm⟩,rfl,rfl,fun i kv e q1 q2=>(hv i kv e q1 q2).mono hk (fun _ h=>h) (fun _ h=>h.elim),
   ⟨QC hm.2.2.2.1,fun _ h=>h⟩,fun i kv e q1 q2=>by simp[List.mem_of_getElem? q1],trivial,fun o ho=>by have:=hI.slt _ _ ho;omega⟩)
 refine⟨_,k1,k2,.ref _ d 0 w.heap.size (by unfold L;rw[A0];simp) ?_ ?_⟩<;>simp[D.upd]
theorem SJ{r b:Nat}{ck:Nat}(e0:h r=.map sh BZ)(a1:g.own r=some b)(a2:g.ρ r=.map (some b))(a3:w.heap[b]?=some (.map es ck))(a4:HQ sh es ck BZ)(a5:∀(i:Nat) (kv:Value×AV) (e:MapEntry),BZ[i]?=some kv->es[i]?=some e->O g w FK kv.2 e.val)(t1:g.tk r=false) :
  ∃g',CZ w0 g0 h0 (AJ h r (.rom sh BZ)) g' w/\Le h g w (AJ h r (.rom sh BZ)) g' w/\g'.S b 0:=by
 have hl:(h r).live:=by rw[e0];trivial
 have E4:=(hI.loc r b hl a1).1
 obtain⟨k1,k2⟩:=hI.upd r (.rom sh BZ) (g.ρ r) (g.ln r) (g.tk r) none (g.more b 1) w none ⟨rfl,rfl,rfl,Ao _⟩ (fun _ _ _=>rfl) (fun b e=>by cases e) (fun _ _ h=>.inl h)
  (fun b' o hs=>hs.elim .inl (fun hs=>.inr ⟨by omega,.inr ⟨hl,by simp_all⟩⟩)) (fun b o e=>by cases e) (fun b hh _=>by cases hh) aa1
  (fun _=>⟨rfl,Ao _,fun _=>rfl,fun _=>rfl⟩) (fun hg hk=>by
   obtain⟨u1,u2,u3,u4⟩:=Bn g r (g.ρ r) (g.ln r) (g.tk r) none (g.more b 1);exact⟨u3.trans t1,b,u1.trans a2,.cmap _ sh BZ b es ck (.inr ⟨rfl,WG⟩) a3 a4 (fun i kv e q1 q2=>(a5 i kv e q1 q2).mono hk (fun _ h=>h) (fun _ h=>h.elim))⟩)
 exact⟨_,k1,k2,.inr ⟨rfl,WG⟩⟩
theorem Zf{r b:Nat}{ck:Nat}(e0:h r=.mapU sh BZ)(a1:g.own r=some b)(a2:g.ρ r=.map (some b))(a3:w.heap[b]?=some (.map es ck))(a4:HQ sh es ck BZ)(a5:∀(i:Nat) (kv:Value×AV) (e:MapEntry),BZ[i]?=some kv->es[i]?=some e->O g w (L h) kv.2 e.val)(t1:g.tk r=false) :
  ∃g',CZ w0 g0 h0 (AJ h r (.rom sh (Tl h BZ))) g' w/\Le h g w (AJ h r (.rom sh (Tl h BZ))) g' w/\g'.S b 0:=by
 have hl:(h r).live:=by rw[e0];trivial
 have E4:=(hI.loc r b hl a1).1
 obtain⟨k1,k2⟩:=hI.upd r (.rom sh (Tl h BZ)) (g.ρ r) (g.ln r) (g.tk r) none (g.more b 1) w none ⟨rfl,rfl,rfl,Ao _⟩ (fun _ _ _=>rfl) (fun b e=>by cases e) (fun _ _ h=>.inl h)
  (fun b' o hs=>hs.elim .inl (fun hs=>.inr ⟨by omega,.inr ⟨hl,by simp_all⟩⟩)) (fun b o e=>by cases e) (fun b hh _=>by cases hh) aa1
  (fun _=>⟨rfl,Ao _,fun _=>rfl,fun _=>rfl⟩) (fun hg hk=>by
   obtain⟨u1,u2,u3,u4⟩:=Bn g r (g.ρ r) (g.ln r) (g.tk r) none (g.more b 1);refine⟨u3.trans t1,b,u1.trans a2,.cmap _ sh _ b es ck (.inr ⟨rfl,WG⟩) a3 (Xx _ a4) (fun i kv e q1 q2=>?_)⟩;unfold Tl at q1;rw[Ct]at q1;obtain⟨p,q3,rfl⟩:=B6.1 q1;exact((a5 i p e q3 q2).str hI.objs).mono hk (fun _ h=>h) (fun _ h=>h.elim))
 exact⟨_,k1,k2,.inr ⟨rfl,WG⟩⟩
theorem lq(hT:Cc P T){ty kt e:Nat}(ht:(T ty).d=.map kt e){d:Option Nat}{x:AV}(hx:O g w (L h) x vx)(hk:fP d h x K) :
  OD P w0 g0 h0 h g w (Instr.range ty vx) K:=by
 have hu:=hT.map ht;unfold fP at hk;split at hk
 .simp_all
 .rename_i d;split at hk
  .rename_i hd;have CL:∀b es ck,w.heap[b]?=some (.map es ck)->(Instr.range ty (.map (some b))).run P w=.ok (.pointer (some ⟨w.heap.size,0,none⟩)) (w.alloc (.mapIter (some b) ck #[] ck)):=fun b es ck hb=>by
    simp[Instr.range,run_underlying hu,run_getObj_map (P:=P) w b es ck hb]
   split at hk
   .cases hx with
    |cmap _ _ _ b es ck hS hb hm hv=>
     obtain⟨g',k1,k2,k3⟩:=Pm hI hd hS hb hm hv;exact⟨_,_,_,_,_,CL _ _ _ hb,hk,k1,k2,k3⟩
   .rename_i r;have ho:=hI.objs r;cases hx with
    |mref _ _ b oc ht' hp=>
     split at hk
     .rename_i sh BZ e0;rw[e0]at ho;obtain⟨_,b',a1,a2⟩:=ho;rw[a1]at hp;cases hp;cases a2 with
      |cmap _ _ _ _ es ck hS hb hm hv=>
       obtain⟨g',k1,k2,k3⟩:=Pm hI hd hS hb hm hv;exact⟨_,_,_,_,_,CL _ _ _ hb,hk,k1,k2,k3⟩
     .rename_i sh BZ e0;rw[e0]at ho;obtain⟨t1,b',es,ck,a1,a2,a3,a4,a5,a6⟩:=ho;rw[a2]at hp;cases hp;obtain⟨g1,i1,i2,i3⟩:=SJ hI e0 a1 a2 a3 a4 a5 t1;have ER:d≠r:=fun e=>by simp_all
      obtain⟨g',k1,k2,k3⟩:=Pm i1 (by rw[BQ _ _ _ _ ER];exact hd) i3 a3 a4 (fun i kv e q1 q2=>(a5 i kv e q1 q2).mono i2.keeps (fun _ h=>h) (fun _ h=>h.elim));exact⟨_,_,_,_,_,CL _ _ _ a3,hk,k1,i2.trans k2,k3⟩
     simp_all
   simp_all
  simp_all
theorem oU{ty:TypeId}{x:AV}(hx:O g w (L h) x vx)(hk:oT h x K):OD P w0 g0 h0 h g w (Instr.next vx false ty) K:=by
 unfold oT at hk;split at hk
 .rename_i r;split at hk
  .rename_i all rem Ew e0;have ho:=hI.objs r;rw[e0]at ho;obtain⟨t1,b,mb,KI,seen,st,es,ck,a1,a2,a3,a4,a5,⟨sh,a6⟩,a7,a8,a9,ZQ,gm,a12,vt⟩:=ho;have hl:(h r).live:=by rw[e0];trivial
   cases hx with
   |ref _ _ _ b' hu ht hp=>
    rw[a2]at hp;cases hp;have E4:∀e∈es.toList,e.born<KI:=fun e he=>by
     obtain⟨i,hi⟩:=Es.1 he
     have:=a6.2.2.2.2.1 i e aa0
     omega
    rcases run_next_at (P:=P) w ty b mb KI st seen es ck a3 a5 E4 Wk with ⟨q1,q2⟩ | ⟨e,q1,w1,q2,q3⟩
    .have Aft:rem=[]:=by
      apply Mp.2;intro kv ka;obtain⟨i,hi⟩:=Es.1 (ZQ.2 kv ka);have hil:i<es.size:=by rw[a6.1];grind
      have hb:=(gm i kv es[i] hi aa0).1 ka;have hm:es[i]∈leftOf es seen:=by grind [leftOf]
      simp_all
     exact⟨_,w,g,_,h,q2,hk.1 Aft,hI,.refl _ _ _,.tup _ _ _ rfl (fun i av x h1 h2=>by
      grind [O.v])⟩
    .have hq:e∈es/\e.born∉seen:=by grind [leftOf]
     obtain⟨i,hi⟩:=Array.mem_iff_getElem?.1 hq.1;have hil:i<all.length:=by rw[<-a6.1];grind
     have zX:all[i]?=some all[i]:=AT hil;have aY:=(gm i _ e zX hi).2 hq.2;obtain⟨s1,s2,hs⟩:=List.append_of_mem aY;have Jz:rem.Perm (all[i]::(s1++s2)):=aa0
     have Rx:(all[i]::(s1++s2)).Nodup:=Jz.nodup_iff.1 ZQ.1;have hr:=a9 i _ e zX hi;have hkey:=a6.2.1 i _ e zX hi;have UV:w1.heap=w.heap/\w1.os=w.os/\w1.tape=w.tape/\w1.output=w.output:=by rcases q2 with rfl | rfl<;>exact⟨rfl,rfl,rfl,rfl⟩
     obtain⟨k1,k2⟩:=CZ.swap hI hl a1 vt (.iter all (s1++s2) (some all[i])) a3 (.mapIter (some mb) KI (seen.push e.born) ck) w1 UV aa1 (fun hg Jf E1 eQ=>by
      obtain⟨u1,u2,u3,u4⟩:=Bn g r (g.ρ r) (g.ln r) (g.tk r) (g.own r) g.S;obtain⟨c1,c2,c3⟩:=Jf mb 0 a4
      refine⟨u3.trans t1,b,mb,KI,_,ck,es,ck,u4.trans a1,u1.trans a2,E1,c1,c3 _ _ a5,⟨sh,a6⟩,a7,rfl,fun i kv e p q=>(a9 i kv e p q).mono Jf (fun _ h=>h) (fun _ h=>h.elim),
       ⟨(GL.1 Rx).2,fun kv ka=>ZQ.2 kv (Jz.mem_iff.2 (Aj _ ka))⟩,fun j kv e' p q=>?_,⟨i,e,zX,hi,by simp⟩,vt⟩
      rw[Array.mem_push];have h1:=gm j kv e' p q;rw[Jz.mem_iff,AM]at h1;constructor
      .intro ka hc;rcases hc with hc | hc
       .simp_all
       .obtain rfl:=a6.2.2.2.2.2 j i e' e q hi hc<;>simp_all
      .intro hc;rcases h1.2 (fun hm=>hc (.inl hm))with e2 | e2
       .have:j=i:=XC (f:=fun x=>x) (l:=all) (by simpa using QC a6.2.2.2.1) p zX e2
        simp_all
       omega)
     refine⟨_,_,_,_,_,q3,hk.2 all[i] (s1++s2) Jz,k1,k2,.tup _ _ _ rfl (fun j av x h1 h2=>?_)⟩
     match j,h1,h2 with
     |0,h1,h2=>grind [O.v]
     |1,h1,h2=>grind [O.v]
     |2,h1,h2=>simp at h1 h2;grind [O.le,O.up]
  simp_all
 simp_all
end
end Go.Eng
namespace Go.Eng
variable {F:(AV->Prop)->Prop}{a:AV}{α:Type}(T:G4)(cx:Cx)(o:Oper)(op:BinOp)(s:Nat)(st:St)(f:Nat)(R:List Nat)(k:IntKind)(w:Option Nat)(K:HK)(x:AV)
def Gu(F:(AV->Prop)->Prop):Prop:=∀K,F K->∃v,K v/\∀K',K' v->F K'
theorem CW(v:AV):Gu (fun K=>K v):=fun _ h=>⟨v,h,fun _ h=>h⟩
theorem DV{p:Prop}(h:Gu F):Gu (fun K=>p/\F K):=fun K ⟨hp,hk⟩=>
 let ⟨v,h1,h2⟩:=h K hk
 ⟨v,h1,fun K' h'=>⟨hp,h2 K' h'⟩⟩
theorem Cm:Gu (fun _=>False):=fun _ h=>h.elim
theorem XG(p:Prop):Gu (Jv p):=fun K h=>by
 by_cases hp:p
 .exact⟨_,h.1 hp,fun K' h'=>⟨fun _=>h',fun hn=>absurd hp hn⟩⟩
 .exact⟨_,h.2 hp,fun K' h'=>⟨fun q=>absurd q hp,fun _=>h'⟩⟩
theorem cw(h:Gu F):Gu (fun K=>F (kU K)):=fun K hk=>by
 obtain⟨v,h1,h2⟩:=h _ hk;unfold kU at h1;split at h1
 .exact⟨_,h1,fun K' h'=>h2 _ h'⟩
 .exact⟨_,h1,fun K' h'=>h2 _ h'⟩
 simp_all
theorem QM{F:α->(AV->Prop)->Prop}(h:∀x,Gu (F x)):Gu (fun K=>∃x,F x K):=fun K ⟨x,hk⟩=>
 let ⟨v,h1,h2⟩:=h x K hk
 ⟨v,h1,fun K' h'=>⟨x,h2 K' h'⟩⟩
theorem Ls(t:Nat)(cs:List AV):Gu (Ml T t cs):=by
 have head:Gu (MV cs):=by unfold MV;cases cs with | nil=>exact Cm | cons a _=>exact CW a
 unfold Ml;split
 .exact DV (CW _)
 .exact DV (CW _)
 .cases cs with
  |nil=>exact Cm
  |cons a _=>
   intro K h;simp only[MV]at h⊢;split at h
   .rename_i b;cases b<;>grind
   simp_all
 all_goals grind [Cm]
theorem iC(t:Nat)(x y:AV)(hx:∀tk es,x≠.slice tk es):Gu (yc T t x y):=by
 unfold yc
 repeat' split
 all_goals first | exact Cm | exact CW _ | exact XG _ | simp_all | simp_all
theorem Vz(a b:Int):Gu (VT op k a b):=by
 unfold VT;split<;>first | exact Cm | exact DV (CW _)
theorem fL(a b:Int):Gu (T0 op k a b):=by
 unfold T0
 repeat' split
 all_goals first | exact Cm | exact DV (CW _) | (unfold Ye;split<;>first | exact CW _ | exact DV (CW _) | grind [Vz])
theorem pp(t:Nat)(x y:AV)(hx:∀tk es,x≠.slice tk es):Gu (T2 T op t x y):=by
 unfold T2
 repeat' split
 all_goals first | exact Cm | exact XG _ | exact fL _ _ _ _ | exact Vz _ _ _ _ | exact DV (CW _) | exact iC _ _ _ _ hx | exact cw (iC _ _ _ _ hx)
theorem lj(t:Nat)(Y:Operand)(x y:AV)(hx:∀tk es,x≠.slice tk es):Gu (ab T op t Y x y):=by
 unfold ab
 repeat' split
 all_goals first | exact Cm | exact CW _ | grind [pp]
theorem lk(t:Nat)(x:AV):Gu (W4 T s t x):=by
 unfold W4
 repeat' split
 all_goals first | exact Cm | exact CW _ | exact DV (CW _) | exact QM fun _=>DV (CW _)
theorem fN:Gu (Ut T s f x):=by
 unfold Ut
 repeat' split
 all_goals first | exact Cm | exact CW _
theorem ct:Gu (Qd T s f x):=by
 unfold Qd
 repeat' split
 all_goals first | exact Cm | exact Ls _ _ _
theorem Vy(t:Nat)(x ix:AV):Gu (J8 T t x ix):=by
 unfold J8
 repeat' split
 all_goals first | exact Cm | exact DV (CW _) | exact QM fun _=>DV (DV (CW _))
theorem fO(t:Nat)(x ix:AV):Gu (U0 T t x ix):=by
 unfold U0
 repeat' split
 all_goals first | exact Cm | exact DV (Ls _ _ _) | exact QM fun _=>DV (CW _)
theorem Zn(i:Nat):Gu (MM x i):=by
 unfold MM
 repeat' split
 all_goals first | exact Cm | exact CW _
theorem pt:Gu (Li x):=by
 unfold Li
 repeat' split
 all_goals first | exact Cm | exact CW _
theorem ll(c a b:AV):Gu (cq c a b):=by
 unfold cq
 repeat' split
 all_goals first | exact Cm | exact CW _
theorem s8(f:Int->Int->Int)(x y:AV):Gu (sI f x y):=by
 unfold sI
 repeat' split
 all_goals first | exact Cm | exact CW _
theorem lm(op:UnOp)(x:AV):Gu (cO op x):=by
 unfold cO
 repeat' split
 all_goals first | exact Cm | exact CW _ | exact cw (CW _) | exact DV (CW _)
def uf(F:(α->Prop)->Prop):Prop:=∀K,F K->∃v,K v/\∀K',K' v->F K'
theorem cr(n:Nat)(a:AV):uf (HH n a):=by
 intro K h;unfold HH at h⊢
 grind
theorem Vw(pl:Nat->Option (Nat×Nat))(t:Nat->AV):∀(ps:List (Nat×Operand)) (cs:List AV),uf (K9 pl cs t ps)
 | [],cs=>fun K h=>⟨cs,h,fun _ h=>h⟩
 |(i,x)::r,cs=>by
  intro K h;unfold K9 at h;split at h
  .simp_all
  .rename_i o n e;obtain⟨vs,h1,h2⟩:=cr _ _ _ h;split at h1
   .rename_i hb;obtain⟨c,h3,h4⟩:=Vw pl t r _ _ h1<;>grind [K9]
   simp_all
theorem fM(ty:Nat)(t:Nat->AV)(ps:List (Nat×Operand)):Gu (Rh T ty t ps):=by
 unfold Rh
 repeat' split
 all_goals first
  |exact Cm
  |exact fun K h=>let ⟨c,h1,h2⟩:=Vw _ _ _ _ _ h;⟨_,h1,fun K' h'=>h2 _ h'⟩
def eff(h:Nat->HO)(e:Option (Nat×HO)):Nat->HO:=match e with | none=>h | some (r,o)=>AJ h r o
structure Alike(o:Oper)(R:List Nat)(st st2:St):Prop where
 t:∀x∈o.op.operands,ev st2.t x=ev st.t x
 h:∀r∈R,st2.h r=st.h r
def Dg:Prop:=
 ∃v e,K v (eff st.h e)/\(∀r o',e=some (r,o')->w=some r/\r∈R)/\∀st2,Alike o R st st2->∀K' : HK,K' v (eff st2.h e)->Gb cx true o st2 K'
def TR(r:Nat):Prop:=match w with | none=>False | some x=>x=r\/(10000000<=x/\(x % 10000000=r\/x / 10000000=r))\/x=Ya
def IH(h:Nat->HO):List (Nat×HO)->Nat->HO
 | []=>h
 |p::l=>IH (AJ h p.1 p.2) l
def To:Prop:=
 ∃v e,K v (IH st.h e)/\(∀r o',(r,o')∈e->TR w r/\r∈R)/\∀st2,Alike o R st st2->∀K' : HK,K' v (IH st2.h e)->Gb cx true o st2 K'
section
variable {cx:Cx}{o:Oper}{st:St}{R:List Nat}{w:Option Nat}{K:HK}
theorem Dg.pick(hF:Gu F)(h:F fun v=>K v st.h)(h2:∀st2,Alike o R st st2->∀K' : HK,F (fun v=>K' v st2.h)->Gb cx true o st2 K'):Dg cx o st R w K:=
 let ⟨v,h1,h3⟩:=hF _ h
 ⟨v,none,h1,fun _ _ e=>(by cases e),fun st2 ha K' hk=>h2 st2 ha K' (h3 _ hk)⟩
theorem bR{cs:List AV}(h:a∈cs):∀r∈bm a,r∈sm cs:=by
 induction cs with
 |nil=>cases h
 |cons c cs ih=>
  intro r hr;rcases AM.1 h with rfl | h
  .exact Bz _ hr
  .exact Cb _ (ih h r hr)
theorem oJ{cs:List AV}(h:a∈cs):∀r∈YW a,r∈w6 cs:=by
 induction cs with
 |nil=>cases h
 |cons c cs ih=>
  intro r hr;rcases AM.1 h with rfl | h
  .exact Bz _ hr
  .exact Cb _ (ih h r hr)
theorem bQ{cs:List AV}(h:a∈cs):∀r∈bl a,r∈UW cs:=by
 induction cs with
 |nil=>cases h
 |cons c cs ih=>
  intro r hr;rcases AM.1 h with rfl | h
  .exact Bz _ hr
  .exact Cb _ (ih h r hr)
theorem Xl(a:AV):∀r∈bm a,r∈YW a:=by cases a<;>simp[bm,YW]
theorem Sa{h h2:Nat->HO}(e:∀r∈bm a,h2 r=h r):str0 h2 a=str0 h a:=by
 cases a<;>simp only[str0]
 all_goals grind [bm]
theorem XS{h h2:Nat->HO}(e:∀r∈YW a,h2 r=h r):str h2 a=str h a:=by
 cases a with
 |agg cs=>simp only[str];exact Aa _ (Cg fun c hc=>Sa fun r hr=>e r (bR hc r hr))
 |clo f cs=>simp only[str];exact Aa _ (Cg fun c hc=>Sa fun r hr=>e r (bR hc r hr))
 |_=>exact Sa (fun r hr=>e r (Xl _ r hr))
theorem oh(a:AV):∀r∈YW a,r∈bl a:=by
 cases a with
 |agg cs=>
  intro r hr;simp only[bl,YW]at *
  induction cs with
  |nil=>exact hr
  |cons c cs ih=>
   rcases Bc.1 hr with h | h
   .exact Bz _ (Xl c r h)
   .exact Cb _ (ih h)
 |_=>exact fun r hr=>hr
theorem Ly{h h2:Nat->HO}(e:∀r∈bl a,h2 r=h r):str h2 a=str h a:=XS fun r hr=>e r (oh a r hr)
theorem Sb{h h2:Nat->HO}{l:List AV}(e:∀r∈UW l,h2 r=h r):l.map (str h2)=l.map (str h):=
 Cg fun _ ha=>Ly fun r hr=>e r (bQ ha r hr)
theorem pO{h h2:Nat->HO}(e:∀r∈bl a,h2 r=h r):rsv h2 a=rsv h a:=by
 cases a<;>simp only[rsv]
 all_goals grind [bl,YW,bm]
theorem OK{n:Nat}{K:List AV->Prop}(hk:HH n a K):∃cs,K cs/\(∀K' : List AV->Prop,K' cs->HH n a K')/\∀h h2:Nat->HO,(∀r∈bl a,h2 r=h r)->cs.map (str h2)=cs.map (str h):=by
 have single:K [a]->(∀K' : List AV->Prop,K' [a]->HH n a K')->∃cs,K cs/\(∀K' : List AV->Prop,K' cs->HH n a K')/\∀h h2:Nat->HO,(∀r∈bl a,h2 r=h r)->cs.map (str h2)=cs.map (str h):=
  fun h1 h2=>⟨[a],h1,h2,fun h h2 e=>by simp[Ly e]⟩
 unfold HH at hk;split at hk
 .rename_i cs;split at hk
  .rename_i hn;refine⟨cs,hk,fun K' h=>by grind [HH],fun h h2 e=>Cg fun c hc=>XS fun r hr=>e r (oJ hc r hr)⟩
  simp_all
 .rename_i hna;split at hk
  .rename_i h1;split at hk
   .refine single hk fun K' h=>?_
    grind [HH]
   simp_all
  simp_all
theorem Uu{n sz:Nat}{t:Nat->AV}:∀{ps:List (Nat×Operand)} {es:C0} {h:Nat->HO} {K:C0->Prop},Sw n sz h es t ps K ->
  ∃FX,K FX/\∀(t2:Nat->AV) (h2:Nat->HO),(∀r∈UW (ps.map fun p=>ev t p.2),h2 r=h r)->(∀p∈ps,ev t2 p.2=ev t p.2)->∀K' : C0->Prop,K' FX->Sw n sz h2 es t2 ps K'
 | [],es,h,K,hk=>⟨es,hk,fun _ _ _ _ _ h=>h⟩
 |(i,x)::r,es,h,K,hk=>by
  unfold Sw at hk;split at hk
  .rename_i hb;obtain⟨cs,c1,c2,c3⟩:=OK hk;obtain⟨FX,e1,e2⟩:=Uu c1;refine⟨FX,e1,fun t2 h2 hh ht K' hk'=>?_⟩;unfold Sw;rw[hb,ht (i,x) (Ah ..)];refine c2 _ ?_;rw[c3 h h2 (fun r hr=>hh r (Bz _ hr))];exact e2 t2 h2 (fun r hr=>hh r (Cb _ hr)) (fun p hp=>ht p (Aj _ hp)) K' hk'
  simp_all
theorem IZ{d:Option Nat}{h:Nat->HO}{sz:Nat}{es:C0}(hk:Fe cx d h sz es K) :
  ∃d',d.map (KO cx)=some d'/\∃v x,K v (AJ h d' x)/\∀h2:Nat->HO,h2 d'=h d'->∀K' : HK,K' v (AJ h2 d' x)->Fe cx d h2 sz es K':=by
 unfold Fe at hk;split at hk
 all_goals grind [Fe]
theorem dQ{h:Nat->HO}{x:AV}{K:C0->Prop}(hk:LK h x K):∃es,K es/\∀h2:Nat->HO,(∀r n,x=.msl r n->h2 r=h r)->∀K' : C0->Prop,K' es->LK h2 x K':=by
 unfold LK at hk
 grind [LK]
end
end Go.Eng
