/- Lemmas 10. -/
import Derived.Test.YtkjhcikodmiceaaGreatDoorCA09
namespace Go.Eng
abbrev Ap4:=List (Nat×HO)
variable {l:List Nat}{o:Oper}{K:St->Prop}{st:St}{σ:I7}{d n:Nat}{cx:Cx}{st2:St}{d':Nat}(ops:Array Oper)
theorem xy(h:I1 l n=true):n∈l:=by
 induction l<;>grind [I1,Dw]
theorem cK(G:Nat->HO):∀(σ:I7) (h:Nat->HO),Ea σ=true->(fun i=>match Ck σ i with | some j=>G j | none=>h i)=Iq h (σ.map fun p=>(p.1,G p.2))
 | [],h,_=>rfl
 |(i,j)::r,h,hσ=>by
  unfold Ea at hσ;simp only[Ao]at hσ;have ih:=cK G r (AS h i (G j)) hσ.2
  grind [Iq,AS,Ck,Dw]
theorem XW(hσ:Ea σ=true){h h' : Nat->HO}:DW σ d 0 h h'=Iq h (σ.map fun p=>(p.1,(h' p.2).ren (E2 σ d 0) h')):=by
 rw[<-cK (fun j=>(h' j).ren (E2 σ d 0) h') σ h hσ]
 grind [DW,Nat.blt,Nat.ble_eq]
section
variable {cx:Cx}{op:Op}{dst:Option Nat}{ty:Nat}{pos:String}{after:Array Edge}{gd:Option (Nat×Bool)}{st:St}{R:List Nat}{w:Option Nat}{K:HK}
theorem CO.toL(h:CO cx ⟨dst,op,ty,pos,after,gd⟩ st R w K):Us cx ⟨dst,op,ty,pos,after,gd⟩ st R w K:=by
 obtain⟨v,e,h1,h2,h3⟩:=h;cases e with
 |none=>exact⟨v,[],h1,fun r o' e=>(by cases e),h3⟩
 |some p=>exact⟨v,[p],h1,fun r o' e=>by
   obtain rfl:=AA.1 e;obtain⟨a,b⟩:=h2 r o' rfl;exact⟨by rw[a];exact .inl rfl,b⟩,h3⟩
theorem ic{c:Call}(hk:FU cx true ⟨dst,.call c,ty,pos,after,gd⟩ st K)(hf:E4 cx ⟨dst,.call c,ty,pos,after,gd⟩ st=some (R,w)):Us cx ⟨dst,.call c,ty,pos,after,gd⟩ st R w K:=by
 obtain⟨cal,args,Hd⟩:=c;have Mn:∀st2,Alike ⟨dst,.call ⟨cal,args,Hd⟩,ty,pos,after,gd⟩ R st st2->args.toList.map (ev st2.t)=args.toList.map (ev st.t):=fun st2 ha=>
  Ca fun x hx=>ha.t x (by grind [Op.operands,Call.operands])
 cases cal with
 |invoke r m=>exact hk.elim
 |value f=>
  have hk:Gs cx true dst st (ev st.t f) (args.toList.map (ev st.t)) K:=hk;have hf:G1 cx dst (.value f) st.t (args.toList.map (ev st.t))=some (R,w):=hf;unfold G1 at hf;unfold Gs at hk;simp only at hf hk;have hn:=Mn;split at hf
  .rename_i kE;rw[kE]at hk;cases hf;obtain⟨res,h1,h2⟩:=hk;refine CO.toL ⟨res,none,h2,fun r o' e=>(by cases e),fun st2 ha K' h'=>?_⟩;show Gs cx true dst st2 (ev st2.t f) (args.toList.map (ev st2.t)) K';rw[Mn st2 ha,ha.t f (by simp[Op.operands,Call.operands])];unfold Gs;simp only[kE];refine⟨res,?_,h'⟩
   grind [Lv,SP,Alike.h]
  .rename_i kE;rw[kE]at hk;simp only at hk;cases dst with
   |none=>simp_all
   |some d=>
    obtain⟨n,sz,es,h1,h2,h3⟩:=hk;have hf:some (BE d 0::(dB (ev st.t f)++VQ (args.toList.map (ev st.t))),some (BE d 0))=some (R,w):=hf;cases hf;refine CO.toL ⟨_,some (BE d 0,_),h3,fun r o' e=>aa0,fun st2 ha K' h'=>?_⟩;show Gs cx true (some d) st2 (ev st2.t f) (args.toList.map (ev st2.t)) K';rw[Mn st2 ha,ha.t f (by simp[Op.operands,Call.operands])];unfold Gs;simp only[kE];refine⟨n,sz,es,?_,?_,h'⟩
    all_goals grind [DO,Lv,SP,Alike.h]
  .rename_i kE;rw[kE]at hk;have hk:T9 cx 0 dst st.h (ev st.t f) (args.toList.map (ev st.t)) K:=hk;split at hf
   .rename_i r n l hl;cases hf;have QB:=hk;unfold T9 at QB;rw[hl]at QB;split at QB
    .rename_i d0 f0 r0 n0 l0 e1 e2 z1 z2;cases e2;split at QB
     .rename_i vs pU;split at QB
      .rename_i sz es hr;obtain⟨n',FG,h1,h2⟩:=QB;refine CO.toL ⟨_,some (r,_),h2,fun r o' e=>aa0,fun st2 ha K' h'=>?_⟩;show Gs cx true _ st2 (ev st2.t f) (args.toList.map (ev st2.t)) K';rw[Mn st2 ha,ha.t f (by simp[Op.operands,Call.operands]),hl,e1];unfold Gs;simp only[kE];unfold T2;simp only;unfold T9;simp only[pU,ha.h r (Ad ..),hr];exact⟨n',FG,h1,h'⟩
      simp_all
     simp_all
    simp_all
   simp_all
  .rename_i k kE;rw[kE]at hk;cases hb:Nat.beq k 1 with
   |true=>
    have kz:Nat.beq (k+1) 2=true:=hb;have hk:bF cx dst st (ev st.t f) (args.toList.map (ev st.t)) K:=by
     simp_all
    rw[hb]at hf;cases dst with
    |none=>exact hk.elim
    |some d=>
     obtain⟨sz,es,h1,h2,h3⟩:=hk;have hf:some (BE d 0::(dB (ev st.t f)++VQ (args.toList.map (ev st.t))),some (BE d 0))=some (R,w):=hf;cases hf;refine CO.toL ⟨_,some (BE d 0,_),h3,fun r o' e=>aa0,fun st2 ha K' h'=>?_⟩;show Gs cx true (some d) st2 (ev st2.t f) (args.toList.map (ev st2.t)) K';rw[Mn st2 ha,ha.t f (by simp[Op.operands,Call.operands])];unfold Gs;simp only[kE,kz];refine⟨sz,es,?_,?_,h'⟩
     all_goals grind [DO,Lv,SP,Alike.h]
   |false=>
    have kz:Nat.beq (k+1) 2=false:=hb;rw[hb]at hf;have QB:(match Nat.beq (k+1) 2 with | true=>bF cx dst st (ev st.t f) (args.toList.map (ev st.t)) K | false=>match Nat.beq (k+1) 3 with | true=>W9 cx dst st (ev st.t f) (args.toList.map (ev st.t)) K | false=>T2 cx (k+1) dst st (ev st.t f) (args.toList.map (ev st.t)) K):=hk;rw[kz]at QB;cases hc:Nat.beq k 2 with
    |true=>
     have hc2:Nat.beq (k+1) 3=true:=hc;rw[hc]at hf;simp only[hc2]at QB;have hf:qU (args.toList.map (ev st.t))=some (R,w):=hf;unfold qU at hf;unfold W9 at QB;split at hf
     .rename_i vs pU;cases hf;split at QB
      .rename_i l yI e1 e2 z1 z2;rw[pU]at e2;cases e2;split at QB
       .rename_i r sz es yA n e3 e4;obtain⟨⟨rfl,rfl⟩,v,FG,n',h1,h2⟩:=QB;refine⟨_,[(1001,_),(1000,_)],h2,fun r' o' e=>?_,fun st2 ha K' h'=>?_⟩
        .rcases AJ.1 e with e | e
         .cases e
          exact⟨.inr (.inl ⟨by decide,.inr aa3⟩),by simp⟩
         .obtain e:=AA.1 e;cases e;exact⟨.inr (.inl ⟨by decide,.inl aa3⟩),by simp⟩
        show Gs cx true _ st2 (ev st2.t f) (args.toList.map (ev st2.t)) K';rw[Mn st2 ha,ha.t f (by simp[Op.operands,Call.operands]),e1];unfold Gs;simp only[kE,kz,hc2];unfold W9;simp only[pU,ha.h 1000 aa1,ha.h 1001 aa1,e3,e4];exact⟨⟨trivial,trivial⟩,v,FG,n',h1,h'⟩
       simp_all
      simp_all
     simp_all
    |false=>
    have hc2:Nat.beq (k+1) 3=false:=hc;rw[hc]at hf;have nF:T2 cx (k+1) dst st (ev st.t f) (args.toList.map (ev st.t)) K:=by
     simp_all
    have hf3:qS k dst (args.toList.map (ev st.t))=some (R,w):=hf;unfold qS at hf3;unfold T2 at nF;cases he:Nat.beq k 3 with
    |true=>
     have vh:Nat.beq (k+1) 4=true:=he;rw[he]at hf3;rw[vh]at nF;have hf3:some (wv,some ZL)=some (R,w):=hf3;have nF:df cx dst st (ev st.t f) (args.toList.map (ev st.t)) K:=nF;cases hf3;unfold df at nF;split at nF
     .rename_i d f' caps e2 _ _ _;obtain⟨σ,H0,Hn,args',res,g1,g2,g3,g4⟩:=nF;simp only[Ao]at g2;refine⟨_,σ.map fun p=>(p.1,(Ah Hn Ab p.2).ren (E2 σ d 0) (Ah Hn Ab)),(XW (h:=st.h) (h':=Ah Hn Ab) (d:=d) g2.1.1)▸g4,fun r' o' e=>?_,fun st2 ha K' h'=>?_⟩
      .obtain⟨p,hp,e⟩:=Ap.1 e;cases e;exact⟨.inr (.inr rfl),xy (AZ.1 g2.2 p hp)⟩
      .show Gs cx true _ st2 (ev st2.t f) (args.toList.map (ev st2.t)) K';rw[Mn st2 ha,ha.t f (by simp[Op.operands,Call.operands])];unfold Gs;simp only[kE,kz,hc2];unfold T2;simp only[vh];unfold df
       grind [XW,Alike.h]
     simp_all
    |false=>
    have vh:Nat.beq (k+1) 4=false:=he;rw[he]at hf3;rw[vh]at nF;have hf:kj dst (args.toList.map (ev st.t))=some (R,w):=hf3;have hk:T9 cx (k+1) dst st.h (ev st.t f) (args.toList.map (ev st.t)) K:=nF;obtain⟨d,r,n,l,rfl,hl,e0⟩:=ia hf;cases e0;unfold T9 at hk;rw[hl]at hk;split at hk
    .rename_i d0 f0 r0 n0 l0 e9 e1 e2;cases e9;cases e2;split at hk
     .rename_i vs pU;split at hk
      .rename_i sz es hr;obtain⟨n',FG,h0,h1,h2⟩:=hk;have h00:=h0;simp only[Ao,FS]at h00;refine⟨_,[(r,.dead),(BE d 0,_)],h2,fun r' o' e=>?_,fun st2 ha K' h'=>?_⟩
       .rcases AJ.1 e with e | e
        .cases e
         refine⟨.inr (.inl ⟨by grind [BE],.inl ?_⟩),Ad ..⟩;omega
        .obtain e:=AA.1 e;cases e;refine⟨.inr (.inl ⟨by grind [BE],.inr ?_⟩),Aj _ (Ad ..)⟩;omega
       show Gs cx true _ st2 (ev st2.t f) (args.toList.map (ev st2.t)) K';rw[Mn st2 ha,ha.t f (by simp[Op.operands,Call.operands]),hl,e1];unfold Gs;simp only[kE,kz,hc2];unfold T2;simp only[vh];unfold T9;simp only[pU,ha.h r (Ad ..),hr]
       have:DO st2.h d 1=DO st.h d 1:=by grind [DO,Alike.h]
       exact⟨n',FG,by simp_all,h1,h'⟩
      simp_all
     simp_all
    simp_all
 |builtin b=>
  refine CO.toL ?_;have mm:∀f:Int->Int->Int,(∀(d:Option Nat) (h:Nat->HO) (Hd:List Nat) (args:List AV) (K:HK),FV cx d h b Hd args K=(match args with | [x,y]=>xA f x y fun v=>K v h | _=>False))->R=[]/\w=none->CO cx ⟨dst,.call ⟨.builtin b,args,Hd⟩,ty,pos,after,gd⟩ st R w K:=by
   rintro f hb ⟨rfl,rfl⟩
   have hk:FV cx dst st.h b Hd.toList (args.toList.map (ev st.t)) K:=hk;rw[hb]at hk;split at hk
   .rename_i x y e;refine .pick (xU f x y) hk fun st2 ha K' h=>?_;show FV cx dst st2.h b Hd.toList (args.toList.map (ev st2.t)) K';simp_all
   simp_all
  cases b
  case max=>exact mm max (fun d h Hd args K=>by cases args with | nil=>rfl | cons x l=>cases l with | nil=>rfl | cons y l=>cases l<;>rfl) (by
   have hf:G1 cx dst (.builtin .max) st.t (args.toList.map (ev st.t))=some (R,w):=hf
   grind [G1])
  case min=>exact mm min (fun d h Hd args K=>by cases args with | nil=>rfl | cons x l=>cases l with | nil=>rfl | cons y l=>cases l<;>rfl) (by
   have hf:G1 cx dst (.builtin .min) st.t (args.toList.map (ev st.t))=some (R,w):=hf
   grind [G1])
  case append=>
   obtain⟨l⟩:=args
   match l,hk,hf with
   | [s,x],hk,hf=>grind [ae]
   | [],hk,hf=>cases Hd;exact hk.elim
   | [_],hk,hf=>exact hk.elim
   |_::_::_::_,hk,hf=>exact hk.elim
  case len=>
   obtain⟨l⟩:=args
   match l,hk,hf with
   | [x],hk,hf=>grind [nq]
   | [],hk,hf=>exact hk.elim
   |_::_::_,hk,hf=>exact hk.elim
  all_goals exact hk.elim
theorem gE(hc:∀c,o.op≠.call c)(hs:(∃t x lo hi mx,o.op=.slice t x lo hi mx)->U2 cx.pl.tok o.dst=none)(hk:FU cx true o st K)(hf:E4 cx o st=some (R,w)):CO cx o st R w K:=by
 obtain⟨dst,op,ty,pos,after,gd⟩:=o;cases op with
 |call c=>simp_all
 |alloc e=>grind [c8]
 |box e x=>grind [np]
 |buildSlice t n ps=>grind [RR]
 |makeSlice t n c=>grind [Ue]
 |makeMap t r=>grind [Xt]
 |store t p x=>grind [c9]
 |mapUpdate t m k x=>grind [Uf]
 |makeFunc fn first cap=>grind [VB]
 |load t p=>grind [ie]
 |assign x=>grind [af]
 |slice t x lo hi mx=>grind [TH]
 |lookup t x i ok=>grind [ah]
 |move x=>
  cases hf
  exact .pick (CI _) hk fun st2 ha K' h=>by grind [FU,Op.operands,Alike.t]
 |pick c a b=>
  cases hf
  exact .pick (oV _ _ _) hk fun st2 ha K' h=>by grind [FU,Op.operands,Alike.t]
 |nilCheck x=>
  grind [tw,FU,Op.operands,CO.pick,Alike.t]
 |binOp op t x y u=>
  simp only[E4]at hf;split at hf
  .cases hf
  .rename_i hx;cases hf;exact .pick (oT _ _ _ _ _ _ hx) hk fun st2 ha K' h=>by grind [FU,Op.operands,Alike.t]
 |unOp op t x=>
  grind [oW,FU,Op.operands,CO.pick,Alike.t]
 |convert s t x=>
  grind [oU,FU,Op.operands,CO.pick,Alike.t]
 |fieldAddr s x f=>
  grind [iX,FU,Op.operands,CO.pick,Alike.t]
 |field s x f=>
  grind [fj,FU,Op.operands,CO.pick,Alike.t]
 |indexAddr t x i=>
  cases hf
  exact .pick (Wq _ _ _ _) hk fun st2 ha K' h=>by grind [FU,Op.operands,Alike.t]
 |index t x i=>
  cases hf
  exact .pick (iY _ _ _ _) hk fun st2 ha K' h=>by grind [FU,Op.operands,Alike.t]
 |extract x i=>
  grind [bc,FU,Op.operands,CO.pick,Alike.t]
 |build t ps=>
  cases hf
  refine .pick (iW _ _ _ _) hk fun st2 ha K' h=>?_;have hx:∀p∈ps.toList,ev st2.t p.2=ev st.t p.2:=fun p hp=>ha.t p.2 (by
   grind [Op.operands])
  simp only[FU];have fill:∀(pl:Nat->Option (Nat×Nat)) (l:List (Nat×Operand)) (cs:List AV) (K:List AV->Prop),(∀p∈l,ev st2.t p.2=ev st.t p.2)->KW pl cs st2.t l K=KW pl cs st.t l K:=by
   intro pl l
   induction l with
   |nil=>intro cs K _;rfl
   |cons p l ih=>
    intro cs K hp;obtain⟨i,x⟩:=p;have h1:ev st2.t x=ev st.t x:=hp (i,x) (Ad ..);have h2:∀cs,KW pl cs st2.t l K=KW pl cs st.t l K:=fun cs=>ih cs K (fun p xd=>hp p (Aj _ xd));simp only[KW,h1,h2]
  unfold RE at h⊢;simp only[fill _ _ _ _ hx];exact h
 |_=>cases hf
theorem mL(hk:FU cx true o st K)(hf:E4 cx o st=some (R,w)):Us cx o st R w K:=by
 obtain⟨dst,op,ty,pos,after,gd⟩:=o
 by_cases h:∃c,op=.call c
 .grind [ic]
 .by_cases h2:∃t x lo hi mx,op=.slice t x lo hi mx
  .obtain⟨t,x,lo,hi,mx,rfl⟩:=h2;cases hp:U2 cx.pl.tok dst<;>grind [CO.toL,TH,nv]
  grind [CO.toL,gE]
end
theorem nl(h:∀x∈o.op.operands,ev st2.t x=ev st.t x):E4 cx o st2=E4 cx o st:=by
 obtain⟨dst,op,ty,pos,after,gd⟩:=o;cases op with
 |call c=>
  obtain⟨cal,args,Hd⟩:=c;have ha:args.toList.map (ev st2.t)=args.toList.map (ev st.t):=Ca fun x hx=>h x (by grind [Op.operands,Call.operands]);simp only[E4];rw[ha];cases cal with
  |value f=>
   have hf:ev st2.t f=ev st.t f:=h f (by simp[Op.operands,Call.operands]);simp only[G1,hf]
  |builtin b=>
   generalize args.toList.map (ev st.t)=l
   match l with
   | []=>cases b<;>rfl
   | [x]=>cases b<;>cases x<;>rfl
   | [x,y]=>cases b<;>cases x<;>rfl
   |x::_::_::_=>cases b<;>cases x<;>rfl
  |invoke r m=>rfl
 |box e x=>grind [E4,Op.operands]
 |buildSlice t n ps=>
  grind [List.map_congr_left,Op.operands,E4]
 |store t p x=>grind [E4,Op.operands]
 |mapUpdate t m k x=>grind [E4,Op.operands]
 |makeFunc fn first cap=>
  grind [List.map_congr_left,Op.operands,E4]
 |load t p=>grind [E4,Op.operands]
 |assign x=>grind [E4,Op.operands]
 |binOp op t x y u=>grind [E4,Op.operands]
 |slice t x lo hi mx=>grind [E4,Op.operands]
 |lookup t x i ok=>grind [E4,Op.operands]
 |_=>rfl
def Looks(o:Oper)(st st2:St):Prop:=∀d∈o.looksAt ops,st2.t d=st.t d
theorem Looks.operands{ops:Array Oper}{o:Oper}{st st2:St}(h:Looks ops o st st2):∀x∈o.op.operands,ev st2.t x=ev st.t x:=fun x hx=>by
 cases x with
 |tmp t=>exact h t (Bq _ (List.mem_filterMap.2 ⟨.tmp t,by simp_all,rfl⟩))
 |_=>rfl
theorem YE(j:Nat):L4 ops.toList j=(ops[j]?).bind (·.dst):=by
 have:∀(l:List Oper) (j:Nat),L4 l j=(l[j]?).bind (·.dst):=by
  intro l
  induction l with
  |nil=>grind [L4]
  |cons o l ih=>
   intro j;cases j<;>grind [L4]
 simp_all
theorem Looks.guard{ops:Array Oper}(h:Looks ops o st st2){j:Nat}{b:Bool}(hg:o.guard=some (j,b))(hd:L4 ops.toList j=some d):st2.t d=st.t d:=
 h d (BZ _ (by grind [YE]))
def St.after(st:St)(o:Oper)(v:AV)(e:Ap4):St:=st.put o.dst v (Iq st.h e)
def Ry(cx:Cx)(ops:Array Oper)(o:Oper)(st:St)(f:Ft)(v:AV)(e:Ap4):Prop:=
 (∀r o',(r,o')∈e->UR f.2 r/\r∈f.1)/\∀st2,Looks ops o st st2->(∀r∈f.1,st2.h r=st.h r)->∀K:St->Prop,K (st2.after o v e)->JD cx true ops.toList o st2 K
theorem Vy{ops:Array Oper}(h:Looks ops o st st2):Oz cx ops.toList o st2=Oz cx ops.toList o st:=by
 grind [Oz,nl,Looks.operands,Looks.guard]
theorem PW{ops:Array Oper}{f:Ft}(hk:JD cx true ops.toList o st K)(hf:Oz cx ops.toList o st=some f) :
  ∃v e,Ry cx ops o st f v e/\K (st.after o v e):=by
 obtain⟨R,w⟩:=f;have skip:R=[]/\w=none->K (st.put o.dst (.v undef) st.h)->(∀st2,Looks ops o st st2->∀K:St->Prop,K (st2.put o.dst (.v undef) st2.h)->JD cx true ops.toList o st2 K)->∃v e,Ry cx ops o st (R,w) v e/\K (st.after o v e):=by
  rintro⟨rfl,rfl⟩ h1 h2
  exact⟨.v undef,[],⟨fun r o' e=>(by cases e),fun st2 hl _ K h=>h2 st2 hl K h⟩,h1⟩
 have run:E4 cx o st=some (R,w)->FU cx true o st (fun v h=>K (st.put o.dst v h))->(∀st2,Looks ops o st st2->∀K:St->Prop,FU cx true o st2 (fun v h=>K (st2.put o.dst v h))->JD cx true ops.toList o st2 K)->∃v e,Ry cx ops o st (R,w) v e/\K (st.after o v e):=by
  intro hf hk h2;obtain⟨v,e,q1,q2,q3⟩:=mL hk hf;exact⟨v,e,⟨q2,fun st2 hl hh K h=>h2 st2 hl K (q3 st2 ⟨hl.operands,hh⟩ _ h)⟩,q1⟩
 unfold JD at hk;unfold Oz at hf;cases hg:o.guard with
 |none=>
  rw[hg]at hk hf;exact run hf hk (fun st2 hl K h=>by unfold JD;rw[hg];exact h)
 |some p=>
  obtain⟨j,want⟩:=p;rw[hg]at hk hf;simp only at hk hf;cases hd:L4 ops.toList j with
  |none=>simp_all
  |some d=>
   rw[hd]at hk hf;simp only at hk hf;have he:∀st2,Looks ops o st st2->st2.t d=st.t d:=fun st2 hl=>hl.guard hg hd;generalize hx:st.t d=x at hk hf he;split at hk
   .exact run hf hk (fun st2 hl K h=>by unfold JD;simp only[hg,hd,he st2 hl];exact h)
   .exact run hf hk (fun st2 hl K h=>by unfold JD;simp only[hg,hd,he st2 hl];exact h)
   all_goals grind [JD]
def aAt(cx:Cx)(ops:Array Oper)(FT:Nat->Ft)(i:Nat)(K:St->Prop)(st:St):Prop:=
 match ops[i]? with
 |none=>K st
 |some o=>Oz cx ops.toList o st=some (FT i)/\JD cx true ops.toList o st K
def bZ(cx:Cx)(ops:Array Oper)(FT:Nat->Ft)(K:St->Prop):Nat->Array Bool->St->Prop
 |0,listed,st=>Region.ready .any ops listed=[]/\K st
 |fuel+1,listed,st=>
  (Region.ready .any ops listed=[]->K st)/\∀i∈Region.ready .any ops listed,aAt cx ops FT i (bZ cx ops FT K fuel (listed.setIfInBounds i true)) st
theorem pG(t:Nat->AV)(h:d'≠d)(v v' : AV):KE (KE t d v) d' v'=KE (KE t d' v') d v:=by
 grind [KE,Dw]
theorem nK(t:Nat->HO)(h:d'≠d)(v v' : HO):AS (AS t d v) d' v'=AS (AS t d' v') d v:=by
 grind [AS,Dw]
theorem dV(h:n∈l):I1 l n=true:=by
 induction l<;>grind [I1,Nat.beq_refl]
theorem dY(h:I1 l n=true):n∈l:=by
 induction l<;>grind [I1,Dw]
theorem eY{x:Nat}(h:eU l x=true):∀r,UR (some x) r->r∉l:=by
 intro r hc hr;unfold eU at h
 by_cases hx:x=ZL
 .subst hx;rw[Xl,cond_true]at h;cases l with
  |nil=>cases hr
  |cons a l=>cases h
 rw[Dw hx,GG]at h;simp only[Ao,JW,Fp,FS]at h;rcases hc with rfl | ⟨h1,h2⟩ | hc<;>grind [dV]
theorem m8{a b:Ft}(h:Vj a b=true):(∀r,UR a.2 r->r∉b.1)/\∀r,UR b.2 r->r∉a.1:=by
 obtain⟨a1,a2⟩:=a;obtain⟨b1,b2⟩:=b;simp only[Vj,Ao]at h;refine⟨fun r e=>?_,fun r e=>?_⟩
 .cases a2 with
  |none=>exact e.elim
  |some x=>grind [eY]
 .cases b2 with
  |none=>exact e.elim
  |some x=>grind [eY]
section
variable {cx:Cx}{ops:Array Oper}{FT:Nat->Ft}
theorem TQ{oi oj:Oper}(h:∀d,oi.dst=some d->d∉oj.looksAt ops)(st:St)(v:AV)(e:Ap4):Looks ops oj st (st.after oi v e):=by
 intro d hd;cases hdst:oi.dst with
 |none=>grind [St.after,St.put]
 |some d'=>
  have:d≠d':=fun q=>h d' hdst (q▸hd)
  simp[St.after,St.put,hdst,KE,Dw this]
theorem Looks.symm{o:Oper}{st st2:St}(h:Looks ops o st st2):Looks ops o st2 st:=fun d hd=>(h d hd).symm
theorem kw{o:Oper}{v:AV}{e:Ap4}:(st.after o v e).h=Iq st.h e:=by
 unfold St.after St.put;grind
theorem RM{r:Nat}:∀{e:Ap4} {h:Nat->HO},(∀o',(r,o')∉e)->Iq h e r=h r
 | [],_,_=>rfl
 |p::e,h,hr=>by
  have:r≠p.1:=fun q=>hr p.2 aa0
  show Iq (AS h p.1 p.2) e r=h r;rw[RM fun o' ho=>hr o' (Aj _ ho),BS _ _ _ _ this]
theorem cL{r:Nat}{o:HO}:∀{e:Ap4} {h:Nat->HO},(∀r' o',(r',o')∈e->r'≠r)->Iq (AS h r o) e=AS (Iq h e) r o
 | [],_,_=>rfl
 |p::e,h,hr=>by
  show Iq (AS (AS h r o) p.1 p.2) e=AS (Iq (AS h p.1 p.2) e) r o;rw[nK h (hr p.1 p.2 (Ad ..)),cL fun r' o' ho=>hr r' o' (Aj _ ho)]
theorem X9:∀{e e' : Ap4} {h:Nat->HO},(∀r o r' o',(r,o)∈e->(r',o')∈e'->r'≠r)->Iq (Iq h e) e'=Iq (Iq h e') e
 | [],_,_,_=>rfl
 |p::e,e',h,hd=>by
  show Iq (Iq (AS h p.1 p.2) e) e'=Iq (AS (Iq h e') p.1 p.2) e;rw[<-cL fun r' o' ho=>hd p.1 p.2 r' o' (Ad ..) ho,X9 fun r o r' o' h1 h2=>hd r o r' o' (Aj _ h1) h2]
theorem gC{oi oj:Oper}{v v' : AV}{e e' : Ap4}(h1:∀d,oi.dst=some d->oj.dst≠some d)(h2:∀r o r' o',(r,o)∈e->(r',o')∈e'->r'≠r) :
  (st.after oi v e).after oj v' e'=(st.after oj v' e').after oi v e:=by
 have hh:Iq (Iq st.h e) e'=Iq (Iq st.h e') e:=X9 h2;have key:∀o:Oper,∀v e,∀st:St,st.after o v e=⟨match o.dst with | none=>st.t | some d=>KE st.t d v,Iq st.h e⟩:=fun o v e st=>by
  grind [St.after,St.put]
 grind [pG]
theorem gy{i:Nat}{oi:Oper}{v:AV}{e:Ap4}(hi:ops[i]?=some oi)(D:Nat->Prop)(hD:∀j,D j->∃oj,ops[j]?=some oj/\∃ed∈oj.after,Region.binds .any ed=true/\(ed.on=i\/D ed.on)) :
  ∀(fuel:Nat) (listed:Array Bool) (st:St),
   (∀j oj,ops[j]?=some oj->j≠i->listed.getD j true=false->¬D j->oi.apart ops oj=true/\Vj (FT i) (FT j)=true) ->
   i∈Region.ready .any ops listed->(∀j,D j->listed.getD j true=false)->Oz cx ops.toList oi st=some (FT i)->Ry cx ops oi st (FT i) v e ->
   bZ cx ops FT K fuel (listed.setIfInBounds i true) (st.after oi v e)->bZ cx ops FT K (fuel+1) listed st:=by
 have here:∀(fuel:Nat) (listed:Array Bool) (st:St),Oz cx ops.toList oi st=some (FT i)->Ry cx ops oi st (FT i) v e ->
   bZ cx ops FT K fuel (listed.setIfInBounds i true) (st.after oi v e)->aAt cx ops FT i (bZ cx ops FT K fuel (listed.setIfInBounds i true)) st:=by
  intro fuel listed st hf hy H;unfold aAt;rw[hi];exact⟨hf,hy.2 st (fun _ _=>rfl) (fun _ _=>rfl) _ H⟩
 intro fuel
 induction fuel with
 |zero=>
  intro listed st _ hr _ hf hy H;refine⟨fun h=>aa0,fun j hj=>?_⟩
  by_cases IY:j=i
  .simp_all
  .have:=ready_mono hj IY
   rw[H.1]at this;simp_all
 |succ fuel ih=>
  intro listed st Ab hr hDl hf hy H;refine⟨fun h=>aa0,fun j hj=>?_⟩
  by_cases IY:j=i
  .simp_all
  .have h1:=H.2 j (ready_mono hj IY);obtain⟨Akb,oj,hoj,HE⟩:=mem_ready.1 hj;have AoB:∀k,listed.getD k true=false->listed.getD k false=true->False:=fun k h0 h1=>by
    grind
   have hnD:¬D j:=fun hdj=>by
    grind [mem_ready]
   obtain⟨hap,hdj⟩:=Ab j oj hoj IY Akb hnD;obtain⟨a1,a2,a3⟩:=Oper.apart_spec hap;obtain⟨d1,d2⟩:=m8 hdj;unfold aAt at h1⊢;rw[hoj]at h1⊢;obtain⟨hfj,hkj⟩:=h1;have hlj:=TQ (ops:=ops) a1 st v e;obtain⟨vj,ej,hyj,hK⟩:=PW hkj hfj;have he1:∀r o',(r,o')∈e->r∉(FT j).1:=fun r o' q=>d1 r (hy.1 r o' q).1;have vh:∀r o',(r,o')∈ej->r∉(FT i).1:=fun r o' q=>d2 r (hyj.1 r o' q).1;refine⟨by grind [Vy],hyj.2 st hlj.symm (fun r ay=>?_) _ ?_⟩
   .rw[kw,RM (fun o' q=>he1 r o' q ay)]
   .have hli:=TQ (ops:=ops) a3 st vj ej;refine ih (listed.setIfInBounds j true) (st.after oj vj ej) (fun k ok hk hki hun OB=>?_) (ready_mono hr (Ne.symm IY)) (fun k hk=>?_) (by grind [Vy]) ⟨hy.1,fun st2 hl hh K' h'=>?_⟩ ?_
    .by_cases hjk:j=k
     .simp_all
     .rw[getD_set_ne true hjk]at hun;grind
    .by_cases hjk:j=k
     all_goals simp_all
    .refine hy.2 st2 (fun d hd=>(hl d hd).trans (hli d hd)) (fun r ay=>?_) K' h';rw[hh r ay,kw,RM (fun o' q=>vh r o' q ay)]
    .rw[Array.setIfInBounds_comm _ _ (Ne.symm IY)]at hK;rw[<-gC a2 (fun r o r' o' q q' e2=>vh r' o' q' (by rw[e2];exact(hy.1 r o q).2))];exact hK
def Aap(cx:Cx)(ops:Array Oper)(K:St->Prop):List Oper->List Ft->St->Prop
 | [],[],st=>K st
 |o::r,f::fs,st=>Oz cx ops.toList o st=some f/\∃v e,Ry cx ops o st f v e/\Aap cx ops K r fs (st.after o v e)
 |_,_,_=>False
theorem UX{K:St->Prop}:∀(l:List Oper) (acc:List Ft) (st:St),ci cx ops l acc st K->∃fs,Vl ops (acc.reverse++fs)=true/\Aap cx ops K l fs st
 | [],acc,st,h=>⟨[],by simpa using h.1,h.2⟩
 |o::r,acc,st,h=>by
  unfold ci at h;split at h
  .rename_i f hf;obtain⟨v,e,h1,h2⟩:=PW h hf;obtain⟨fs,q1,q2⟩:=UX r _ _ h2;exact⟨f::fs,by simp_all,hf,v,e,h1,q2⟩
  simp_all
theorem aq{o:Oper}{i:Nat}{D:List Nat}(h:Qy o i D=true):∃ed∈o.after,Region.binds .any ed=true/\(ed.on=i\/ed.on∈D):=by
 grind [Qy,Nat.eq_of_beq_eq_true,dY]
theorem WS{i:Nat}{D:List Nat}:∀(l:List Oper) (k:Nat),WR i D k l=true->∀j o,l[j]?=some o->k+j∈D->Qy o i D=true
 | [],_,_,_,_,h,_=>by simp_all
 |o::l,k,hs,j,o',h,hm=>by
  simp only[WR,Ao]at hs;cases j with
  |zero=>
   grind [dV]
  |succ j=>exact WS l (k+1) hs.2 j o' aa0 aa2
theorem XS{oi:Oper}{fi:Ft}{D:List Nat}:∀(l:List Oper) (fs:List Ft) (k:Nat),IH ops oi fi D k l fs=true->l.length=fs.length/\∀j o f,l[j]?=some o->fs[j]?=some f->k+j∉D->oi.apart ops o=true/\Vj fi f=true
 | [],[],_,_=>⟨rfl,fun _ _ _ h=>by simp_all⟩
 | [],_::_,_,h=>by grind [IH]
 |_::_,[],_,h=>by grind [IH]
 |o::l,f::fs,k,h=>by
  simp only[IH,Ao,JW]at h;obtain⟨h1,h2⟩:=XS l fs (k+1) h.2<;>grind [dY]
theorem ca{K:St->Prop}:∀(l:List Oper) (fs:List Ft) (k:Nat) (listed:Array Bool) (st:St),(∀j,l[j]?=ops[k+j]?)->(∀j f,fs[j]?=some f->FT (k+j)=f)->listed.size=ops.size ->
  (∀j,j<ops.size->listed.getD j true=decide (j<k))->M1 ops ops.toList k l fs=true->Aap cx ops K l fs st->bZ cx ops FT K l.length listed st
 | [],[],k,listed,st,hl,_,hs,hL,_,h=>by
  refine⟨?_,h⟩;apply Mw.2;intro j hj;obtain⟨h1,o,ho,_⟩:=mem_ready.1 hj;have CL:=(Ag.1 ho).1;rw[hL j CL]at h1;have dq:k<=j:=aa0
  have:=hl (j-k)
  simp_all
 | [],_::_,_,_,_,_,_,_,_,h,_=>by grind [M1]
 |_::_,[],_,_,_,_,_,_,_,h,_=>by grind [M1]
 |o::l,f::fs,k,listed,st,hl,hF,hs,hL,hg,h=>by
  simp only[M1,Ao]at hg;obtain⟨⟨⟨⟨g1,g2⟩,g3⟩,g4⟩,g5⟩:=hg;obtain⟨hf,v,e,hy,hp⟩:=h;have h0:ops[k]?=some o:=by simpa using(hl 0).symm
  have hk:=(Ag.1 h0).1;have hFk:FT k=f:=by simpa using hF 0 f rfl
  have RV : ∀j,l[j]?=ops[k+1+j]?:=fun j=>by have:=hl (j+1);grind
  have hF' : ∀j f,fs[j]?=some f->FT (k+1+j)=f:=fun j f' hj=>by have:=hF (j+1) f' aa0;grind
  obtain⟨CN,hap⟩:=XS l fs (k+1) g4;have wE:∀j,j∈RK k [] 0 ops.toList->k<j/\j<ops.size:=fun j hj=>by
   simp_all
  refine gy h0 (fun j=>j∈RK k [] 0 ops.toList) (fun j hj=>?_) l.length listed st (fun j oj hoj hjk hun hnD=>?_) ?_ (fun j hj=>?_) aa0 (by rw[hFk];exact hy) ?_
  .have CL:=(wE j hj).2
   have:=WS ops.toList 0 g2 j ops[j] aa0 aa0
   grind [aq]
  .have CL:=(Ag.1 hoj).1;rw[hL j CL]at hun;have dq:k<j:=aa2
   have e1:l[j-(k+1)]?=some oj:=aa2
   grind
  .grind [mem_ready,Nat.blt_eq]
  .grind
  .refine ca l fs (k+1) _ _ RV hF' aa0 (fun j hj=>?_) g5 hp
   by_cases hjk:j=k
   .simp_all
   .rw[getD_set_ne true (Ne.symm hjk),hL j hj]
    grind
theorem mH(h:ci cx ops ops.toList [] st K):Region.noSelect ops=true/\∃FT,bZ cx ops FT K ops.size (Array.replicate ops.size false) st:=by
 obtain⟨fs,h1,h2⟩:=UX _ _ _ h;simp only[Vl,List.reverse_nil,HL,Ao]at h1;refine⟨h1.1,fun j=>fs.getD j default,?_⟩
 have:=ca (FT:=fun j=>fs.getD j default) ops.toList fs 0 (Array.replicate ops.size false) st aa1 (fun j f hj=>by simp_all) aa1 (fun j hj=>by simp_all) h1.2 h2
 omega
end
theorem aE:∀{σ:I7},GD σ=true->∀i j,Ck σ i=some j↔Il σ j=some i
 | [],_,i,j=>by simp[Ck,Il]
 |(a,b)::r,h,i,j=>by
  simp only[GD,Ao]at h;obtain⟨h1,h2⟩:=h;have ih:=aE h2
  grind [Ck,Il,Nat.beq_refl,Dw]
theorem s7:∀{σ:I7},Ea σ=true->GD σ=true
 | [],_=>rfl
 |(a,b)::r,h=>by
  simp only[Ea,Ao]at h;simp only[GD,Ao];exact⟨h.1.1.1,s7 h.2⟩
theorem bp(h:Ea σ=true):∀i j,Ck σ i=some j↔Il σ j=some i:=aE (s7 h)
theorem Zi:∀{σ:I7},Ea σ=true->∀{i j},Ck σ i=some j->1000<=j/\j<2000
 | [],_,i,j,h=>by grind [Ck]
 |(a,b)::r,h,i,j,hf=>by
  simp only[Ea,Ao,PP,FS]at h;unfold Ck at hf
  by_cases e1:a=i
  .simp_all
  .simp only[Dw e1,GG]at hf;exact Zi h.2 hf
theorem QX(f:Nat->Option Nat)(h:Nat->HO):∀(σ:I7) (j:Nat),Ah (bo f h σ) Ab j=match Il σ j with | some i=>(h i).ren f h | none=>.free
 | [],j=>rfl
 |(a,b)::r,j=>by
  unfold bo Ah Il
  by_cases e:b=j
  .simp_all
  .simp only[Dw e,Dw (Ne.symm e),GG];exact QX f h r j
structure Ga(f:Nat->Option Nat)(h h2:Nat->HO)(g g2:D)(w:World):Prop where
 ids:∀r r',f r=some r'->L h r->g2.tk r'=g.tk r/\g2.ln r'=g.ln r/\g2.ρ r'=g.ρ r/\g2.own r'=g.own r/\L h2 r'
 S:∀b o,g2.S b o↔g.S b o
 objs:∀r,DE g w (L h) r (h r)
section
variable {f:Nat->Option Nat}{h h2:Nat->HO}{g g2:D}{w:World}
theorem Ga.keeps(hR:Ga f h h2 g g2 w):D8 g w g2 w:=fun b o hs=>⟨(hR.S b o).2 hs,rfl,fun _ _ e=>e⟩
theorem Ga.noU(hR:Ga f h h2 g g2 w){av:AV}{x:Value}(r:O g w DS av x):O g2 w (L h2) av x:=r.mono hR.keeps (fun _ h=>h.elim) (fun _ h=>h.elim)
theorem O.ren0(hR:Ga f h h2 g g2 w){av:AV}{x:Value}(r:O g w (L h) av x):O g2 w (L h2) (ren0 f h av) x:=by
 have down:O g2 w (L h2) (Eng.str0 h av) x:=hR.noU (O.str0 hR.objs r);cases av with
 |v y=>exact down
 |slice tk es=>
  cases tk with
  |none=>exact down
  |full sz=>exact down
  |id i sz=>
   simp only[Eng.ren0];split
   .rename_i i' e;cases r<;>grind [tok,O.slice_none,Ga.ids,Ga.noU]
   .exact hR.noU r.slice_none
  |ver i sz v=>
   simp only[Eng.ren0];split
   .rename_i i' e;cases r<;>grind [ver,O.slice_none,Ga.ids,Ga.noU]
   .exact hR.noU r.slice_none
 |msl i n=>
  simp only[Eng.ren0];split
  .rename_i i' e;cases r<;>grind [msl,Ga.ids]
  grind [junk]
 |agg cs=>exact down
 |tup cs=>exact down
 |cptr cs=>exact down
 |ref i off=>
  simp only[Eng.ren0];split
  .rename_i i' e;cases r<;>grind [ref,Ga.ids]
  omega
 |eref i n sz k off=>
  simp only[Eng.ren0];split
  .rename_i i' e;cases r<;>grind [eref,Ga.ids]
  grind [junk]
 |mref i=>
  simp only[Eng.ren0];split
  .rename_i i' e;cases r<;>grind [mref,Ga.ids]
  omega
 |cmap sh BM=>exact down
 |clo i cs=>exact down
 |junk=>exact down
theorem O.ren1(hR:Ga f h h2 g g2 w){av:AV}{x:Value}(r:O g w (L h) av x):O g2 w (L h2) (ren1 f h av) x:=by
 cases av with
 |agg cs=>
  cases r with
  |agg _ _ vs hs h1 hr=>
   exact .agg _ _ vs aa0 h1 fun i av x q1 q2=>by
    grind [ren0]
 |clo i cs=>
  cases r with
  |clo _ _ _ vs hs hr=>
   exact .clo _ _ _ vs aa0 fun i av x q1 q2=>by
    grind [ren0]
 |_=>exact r.ren0 hR
theorem O.ren(hR:Ga f h h2 g g2 w){av:AV}{x:Value}(r:O g w (L h) av x):O g2 w (L h2) (ren f h av) x:=by
 cases av with
 |tup cs=>
  cases r with
  |tup _ _ vs hs hr=>
   exact .tup _ _ vs aa0 fun i av x q1 q2=>by
    grind [ren1]
 |_=>exact r.ren1 hR
theorem Nx(f:Nat->Option Nat)(h:Nat->HO)(o:HO):(o.ren f h).live↔o.live:=by cases o<;>exact Iff.rfl
theorem Ny(f:Nat->Option Nat)(h:Nat->HO)(o:HO):o.ren f h≠.free↔o≠.free:=by cases o<;>simp[HO.ren]
theorem DE.ren(hR:Ga f h h2 g g2 w){i j:Nat}(gi:f i=some j)(hu:L h i){o:HO}(r:DE g w (L h) i o):DE g2 w (L h2) j (o.ren f h):=by
 obtain⟨k1,k2,k3,k4,k5⟩:=hR.ids i j gi hu;have noL:∀{cs:List AV} {vs:List Value},Cg g w DS cs vs->Cg g2 w DS cs vs:=fun hr=>hr.mono hR.keeps (fun _ h=>h) (fun _ h=>h.elim);have no1:∀{av:AV} {x:Value},O g w DS av x->O g2 w DS av x:=fun hr=>hr.mono hR.keeps (fun _ h=>h) (fun _ h=>h.elim);cases o with
 |free=>trivial
 |dead=>trivial
 |cells cs=>
  obtain⟨t,b,E,vs,a1,a2,a3,a4,a5⟩:=r;refine⟨k1.trans t,b,E,vs,k4.trans a1,k3.trans a2,a3,⟨by simp[a4.1],a4.2.1,fun i av x q1 q2=>?_⟩,fun o ho=>a5 o ((hR.S b o).1 ho)⟩;rw[BC]at q1;obtain⟨a,q3,rfl⟩:=BH.1 q1;exact(a4.2.2 i a x q3 q2).ren1 hR
 |ro cs=>
  obtain⟨t,b,a1,a2⟩:=r;exact⟨k1.trans t,b,k3.trans a1,no1 a2⟩
 |tok sz n=>
  obtain⟨t,l,a,cap,a1,a2⟩:=r;refine⟨k1.trans t,k2.trans l,a,cap,k3.trans a1,?_⟩
  grind [Ga.S]
 |var sz v n=>
  obtain⟨t,l,a,cap,a1,a2⟩:=r;refine⟨k1.trans t,k2.trans l,a,cap,k3.trans a1,?_⟩
  grind [Ga.S]
 |vox v=>exact⟨k1.trans r.1,k2.trans r.2⟩
 |raw b ob=>
  obtain⟨t,a1,a2,a3,a4⟩:=r;exact⟨k1.trans t,k4.trans a1,a2,a3,fun o ho=>a4 o ((hR.S b o).1 ho)⟩
 |arr sz es=>
  obtain⟨t,l,al,a2⟩:=r;refine⟨k1.trans t,k2.trans l,al,?_⟩;rcases a2 with ⟨b1,b2,b3⟩ | ⟨b,cap,E,vs,b1,b2,b3,b4,b5,b6,b7⟩
  .simp_all
  .exact .inr ⟨b,cap,E,vs,k3.trans b1,k4.trans b2,b3,b4,b5,noL b6,fun o ho=>b7 o ((hR.S b o).1 ho)⟩
 |map sh BM=>
  obtain⟨t,b,es,ck,a1,a2,a3,a4,a5,a6⟩:=r;exact⟨k1.trans t,b,es,ck,k4.trans a1,k3.trans a2,a3,a4,fun i kv e q1 q2=>no1 (a5 i kv e q1 q2),fun o ho=>a6 o ((hR.S b o).1 ho)⟩
 |mapU sh BM=>
  obtain⟨t,b,es,ck,a1,a2,a3,a4,a5,a6⟩:=r;refine⟨k1.trans t,b,es,ck,k4.trans a1,k3.trans a2,a3,Yz _ a4,fun i kv e q1 q2=>?_,fun o ho=>a6 o ((hR.S b o).1 ho)⟩
  grind [O.ren1]
 |rom sh BM=>
  obtain⟨t,b,a1,a2⟩:=r;exact⟨k1.trans t,b,k3.trans a1,no1 a2⟩
 |iter all rem DU=>
  obtain⟨t,b,mb,Ku,seen,st,es,ck,a1,a2,a3,a4,a5,a6,a7,a8,a9,bY,jK,a12,a13⟩:=r;exact⟨k1.trans t,b,mb,Ku,seen,st,es,ck,k4.trans a1,k3.trans a2,a3,(hR.S _ _).2 a4,a5,a6,a7,a8,fun i kv e q1 q2=>no1 (a9 i kv e q1 q2),bY,jK,a12,fun o ho=>a13 o ((hR.S b o).1 ho)⟩
end
theorem QL{h:Nat->HO}{d:Nat}:∀{n:Nat},DO h d n=true->∀k,k<n->h (BE d k)=.free
 |0,_,k,hk=>by omega
 |n+1,hf,k,hk=>by
  simp only[DO,Ao]at hf
  by_cases e:k=n
  .grind
  .exact QL hf.2 k I
theorem OH{d nn:Nat}:∀{σ:I7},CQ σ d nn=true->∀{i j},Ck σ i=some j->¬(BE d 0<=i/\i<BE d nn)
 | [],_,i,j,h=>by grind [Ck]
 |(a,b)::r,hs,i,j,hf=>by
  simp only[CQ,Ao]at hs;unfold Ck at hf
  by_cases e1:a=i
  .grind [Nat.ble_eq_true_of_le,Nat.blt_eq]
  .simp only[Dw e1,GG]at hf;exact OH hs.2 hf
section
variable {P:Program}{w0:World}{g0:D}{h0 h:Nat->HO}{g:D}{w:World}
def DA(σ:I7)(g:D):D:=
 ⟨fun j=>match Il σ j with | some i=>g.ρ i | none=>.nilIface,fun j=>match Il σ j with | some i=>g.ln i | none=>0,fun j=>match Il σ j with | some i=>g.tk i | none=>false,
  fun j=>match Il σ j with | some i=>g.own i | none=>none,g.S⟩
def src(σ:I7)(d nn:Nat)(i:Nat):Option Nat:=
 match Ck σ i with
 |some j=>some j
 |none=>match Nat.ble (BE d 0) i&&Nat.blt i (BE d nn)with |true=>some (2000+(i-BE d 0)) |false=>none
def GP(σ:I7)(d nn:Nat)(g g' : D):D:=
 ⟨fun i=>match src σ d nn i with | some j=>g'.ρ j | none=>g.ρ i,fun i=>match src σ d nn i with | some j=>g'.ln j | none=>g.ln i,fun i=>match src σ d nn i with | some j=>g'.tk j | none=>g.tk i,
  fun i=>match src σ d nn i with | some j=>g'.own j | none=>g.own i,g'.S⟩
theorem mR(σ:I7)(d nn:Nat)(h h' : Nat->HO)(i:Nat):DW σ d nn h h' i=match src σ d nn i with | some j=>(h' j).ren (E2 σ d nn) h' | none=>h i:=by
 grind [DW,src]
theorem ui{d nn:Nat}(hσ:Ea σ=true)(ha:CQ σ d nn=true)(i j:Nat):src σ d nn i=some j↔E2 σ d nn j=some i:=by
 have inv:=bp hσ;unfold src E2;cases h1:Ck σ i with
 |some j'=>
  have hb:=(inv i j').1 h1;dsimp only;constructor
  .grind
  .intro h;cases h2:Il σ j with
   |some i'=>grind
   |none=>
    rw[h2]at h;dsimp only at h;split at h
    .rename_i hc;have h:=EH h;subst h;simp only[Ao,PP,FS]at hc;exact absurd ⟨by grind [BE],by grind [BE]⟩ (OH ha h1)
    simp_all
 |none=>
  dsimp only;cases h2:Il σ j with
  |some i'=>
   dsimp only;have hf:=(inv i' j).2 h2;have hr:=Zi hσ hf
   grind
  |none=>
   dsimp only;constructor
   .grind [Nat.ble_eq,Nat.blt_eq,BE]
   .intro h;split at h
    .rename_i hc;have h:=EH h;subst h;simp only[Ao,PP,FS]at hc;have e1:(Nat.ble (BE d 0) (BE d (j-2000))&&Nat.blt (BE d (j-2000)) (BE d nn))=true:=by
      grind [Nat.ble_eq,Nat.blt_eq,BE]
     grind [BE]
    simp_all
theorem ai(hI:CH w0 g0 h0 h g w)(hσ:Ea σ=true):Ga (Ck σ) h (Fv σ h) g (DA σ g) w/\CH w (DA σ g) (Fv σ h) (Fv σ h) (DA σ g) w:=by
 have inv:=bp hσ;have FA:∀j,Fv σ h j=match Il σ j with | some i=>(h i).ren (Ck σ) h | none=>.free:=QX _ _ σ
 have hR:Ga (Ck σ) h (Fv σ h) g (DA σ g) w:=by
  refine⟨fun r r' hr hu=>?_,fun b o=>Iff.rfl,hI.objs⟩
  grind [DA,L,Ny]
 have M9:∀j,(Fv σ h j).live->∃i,Il σ j=some i/\(h i).live:=fun j hl=>by
  rw[FA]at hl;cases e:Il σ j with
  |none=>rw[e]at hl;exact hl.elim
  |some i=>grind [Nx]
 have Ph:∀j i,Il σ j=some i->(DA σ g).own j=g.own i:=fun j i e=>by simp[DA,e]
 refine⟨hR,rfl,rfl,rfl,Af _,fun _ _ _=>rfl,hI.slt,fun j=>?_,fun j j' b hl RV e e'=>?_,fun j b hl e=>?_,fun _ _ h=>.inl h,hI.glob⟩
 .rw[FA];cases e:Il σ j with
  |none=>trivial
  |some i=>
   by_cases hu:L h i
   .grind [DE.ren,CH.objs]
   .have:h i=.free:=BP.1 hu
    dsimp only;rw[this];trivial
 .obtain⟨i,e1,l1⟩:=M9 j hl;obtain⟨i',e2,l2⟩:=M9 j' RV;rw[Ph j i e1]at e;rw[Ph j' i' e2]at e';obtain rfl:=hI.inj i i' b l1 l2 e e'
  have:=(inv i j).2 e1
  rw[(inv i j').2 e2]at this;simp_all
 .obtain⟨i,e1,l1⟩:=M9 j hl;have e0:=e;rw[Ph j i e1]at e;exact⟨(hI.loc i b l1 e).1,.inr ⟨j,hl,e0⟩⟩
theorem NL{C:(Ending->World->Prop)->Prop}(hm:∀{R R' : Ending->World->Prop},C R->(∀e w,R e w->R' e w)->C R')(hI:CH w0 g0 h0 h g w){d nn:Nat}(EZ:(Ea σ&&DO h d nn&&CQ σ d nn)=true){Q:AV->(Nat->HO)->Prop}(hc:CH w (DA σ g) (Fv σ h) (Fv σ h) (DA σ g) w->C (fun e w'=>∃v r h' g',e=Ending.returned v/\Q r h'/\O g' w' (L h') r v/\CH w (DA σ g) (Fv σ h) h' g' w'/\Le (Fv σ h) (DA σ g) w h' g' w')){R:Ending->World->Prop}(kq:∀v r h' g2 w',Q r h'->CH w0 g0 h0 (DW σ d nn h h') g2 w'->Le h g w (DW σ d nn h h') g2 w'->O g2 w' (L (DW σ d nn h h')) (ren (E2 σ d nn) h' r) v->R (.returned v) w'):C R:=by
 simp only[Ao]at EZ;obtain⟨⟨hσ,hnf⟩,hap⟩:=EZ;obtain⟨hF,wF⟩:=ai hI hσ;have inv:=bp hσ;have hsb:=ui hσ hap;refine hm (hc wF) ?_
 rintro e w' ⟨v,r,h',g',rfl,q1,q2,q3,q4⟩
 have hb:=mR σ d nn h h';have hg2:∀i j,src σ d nn i=some j->(GP σ d nn g g').ρ i=g'.ρ j/\(GP σ d nn g g').ln i=g'.ln j/\(GP σ d nn g g').tk i=g'.tk j/\(GP σ d nn g g').own i=g'.own j:=fun i j e=>by simp[GP,e]
 have hg3:∀i,src σ d nn i=none->(GP σ d nn g g').ρ i=g.ρ i/\(GP σ d nn g g').ln i=g.ln i/\(GP σ d nn g g').tk i=g.tk i/\(GP σ d nn g g').own i=g.own i:=fun i e=>by simp[GP,e]
 have hB:Ga (E2 σ d nn) h' (DW σ d nn h h') g' (GP σ d nn g g') w':=by
  refine⟨fun j i hj hu=>?_,fun b o=>Iff.rfl,q3.objs⟩
  grind [L,Ny]
 have AeY:∀j,Fv σ h j=match Il σ j with | some i=>(h i).ren (Ck σ) h | none=>.free:=QX _ _ σ
 have AjY:∀j i,Ck σ i=some j->(h i).live->(Fv σ h j).live:=fun j i e hl=>by
  grind [Nx]
 have AmR:∀j i,Ck σ i=some j->(DA σ g).own j=g.own i:=fun j i e=>by grind [DA]
 have wQ : ∀j,(Fv σ h j).live->∃i,Ck σ i=some j/\(h i).live/\(DA σ g).own j=g.own i:=fun j hl=>by
  rw[AeY]at hl;cases e:Il σ j with
  |none=>rw[e]at hl;exact hl.elim
  |some i=>grind [Nx]
 -- what the callee may not touch
 have VL:∀b,b<w.heap.size->(∀i,(h i).live->Ck σ i≠none->g.own i≠some b)->w'.heap[b]?=w.heap[b]?:=fun b CL hn=>q3.frame b CL fun j hl e=>by
  grind
 have hSs:∀b o,g'.S b o->b<w.heap.size->(∀i,(h i).live->Ck σ i≠none->g.own i≠some b)->g.S b o:=fun b o hs CL hn=>by
  rcases q3.sg b o hs with h1 | h1 | ⟨j,h1,h2⟩
  .exact h1
  all_goals grind
 have hk:D8 g w (GP σ d nn g g') w':=q4.keeps;have Ab:∀i,Ck σ i=none->src σ d nn i≠none->h i=.free:=fun i e1 e2=>by
  unfold src at e2;rw[e1]at e2;dsimp only at e2;split at e2
  .rename_i hc;simp only[Ao,PP,FS]at hc
   have:=QL hnf (i-BE d 0) (by grind [BE])
   grind [BE]
  simp_all
 have AbM:∀i j,Ck σ i=some j->src σ d nn i=some j:=fun i j e=>by grind [src]
 have hgl:JA g (GP σ d nn g g') (L h):=fun i hu=>by
  cases e:Ck σ i with
  |some j=>
   obtain⟨k1,k2,k3,k4⟩:=hg2 i j (AbM i j e);obtain⟨f1,f2,f3,f4,f5⟩:=hF.ids i j e hu;obtain⟨m1,m2,m3,m4⟩:=q4.gh j f5<;>simp_all
  |none=>
   have e2:src σ d nn i=none:=BP.1 fun e2=>hu (Ab i e e2);simp_all
 have Na:∀i,L h i->L (DW σ d nn h h') i:=fun i hu=>by
  grind [L,Ny,src,Le.us,Ga.ids]
 have Xu:∀i,(DW σ d nn h h' i).live->(∃j,src σ d nn i=some j/\(h' j).live/\(GP σ d nn g g').own i=g'.own j)\/(src σ d nn i=none/\(h i).live/\(GP σ d nn g g').own i=g.own i/\Ck σ i=none):=fun i hl=>by
  grind [src,Nx]
 have wO:∀j b,(h' j).live->g'.own j=some b->b<w'.heap.size/\(w.heap.size<=b\/∃i,Ck σ i≠none/\(h i).live/\g.own i=some b):=fun j b hl e=>by
  grind [CH.loc]
 have hun:∀i b,(h i).live->g.own i=some b->Ck σ i=none->∀i',(h i').live->Ck σ i'≠none->g.own i'≠some b:=fun i b hl e hn i' RV nI e'=>by
  obtain rfl:=hI.inj i i' b hl RV e e';simp_all
 refine kq v r h' (GP σ d nn g g') w' q1 ⟨q3.os.trans hI.os,q3.tape.trans hI.tape,q3.output.trans hI.output,Az hI.size q3.size,fun b CL hn=>?_,q3.slt,fun i=>?_,fun i i' b hl RV e e'=>?_,fun i b hl e=>?_,fun b o hs=>?_,hI.glob.keep hk⟩ ⟨hgl,Na,hk⟩ (q2.ren hB)
 .grind [CH.loc,CH.frame]
 .rw[hb];cases e:src σ d nn i with
  |some j=>
   by_cases hu:L h' j
   .grind [DE.ren,CH.objs]
   .have:h' j=.free:=BP.1 hu
    dsimp only;rw[this];trivial
  |none=>
   obtain⟨k1,k2,k3,k4⟩:=hg3 i e;have e2:Ck σ i=none:=by
    cases e2:Ck σ i<;>grind [Ck]
   refine(hI.objs i).same hk Na hgl k1 k2 k3 k4 fun b hl ho=>?_;have CL:=(hI.loc i b hl ho).1;exact⟨VL b CL (hun i b hl ho e2),fun k hs=>hSs b k hs CL (hun i b hl ho e2)⟩
 .have mixed:∀i j i',(h' j).live->g'.own j=some b->(h i').live->g.own i'=some b->Ck σ i'=none->i=i':=fun i j i' l1 o1 l2 o2 n2=>by
   rcases(wO j b l1 o1).2 with h1 | ⟨i3,n3,l3,o3⟩
   .have:=(hI.loc i' b l2 o2).1;omega
   grind
  rcases Xu i hl with ⟨j,s1,l1,o1⟩ | ⟨s1,l1,o1,n1⟩<;>rcases Xu i' RV with ⟨j',s2,l2,o2⟩ | ⟨s2,l2,o2,n2⟩
  .obtain rfl:=q3.inj j j' b l1 l2 aa0 aa0;simp_all
  .exact mixed i j i' l1 aa0 l2 aa0 n2
  .exact(mixed i' j' i l2 aa0 l1 aa0 n1).symm
  .exact hI.inj i i' b l1 l2 aa0 aa0
 .rcases Xu i hl with ⟨j,s1,l1,o1⟩ | ⟨s1,l1,o1,n1⟩
  .obtain⟨h1,h2⟩:=wO j b l1 aa0;refine⟨h1,?_⟩;rcases h2 with h2 | ⟨i3,n3,l3,o3⟩
   .exact .inl (Az hI.size h2)
   .exact(hI.loc i3 b l3 o3).2
  .obtain⟨h1,h2⟩:=hI.loc i b l1 aa0
   grind
 .rcases q3.sg b o hs with h1 | h1 | ⟨j,h1,h2⟩
  .exact hI.sg b o h1
  .exact .inr (.inl (Az hI.size h1))
  .obtain⟨i,e1,l1,o1⟩:=wQ j h1;exact .inr (hI.loc i b l1 (by rw[<-o1];exact h2)).2
theorem qq(hI:CH w0 g0 h0 h g w){d nn:Nat}(EZ:(Ea σ&&DO h d nn&&CQ σ d nn)=true){f:Nat}{args:List AV}{Q:AV->(Nat->HO)->Prop}(hc:A1 P f args (Fv σ h) Q){vals:Array Value}(hs:vals.size=args.length)(hv:∀(i:Nat) (av:AV) (x:Value),args[i]?=some av->vals[i]?=some x->O (DA σ g) w (L (Fv σ h)) av x){R:Ending->World->Prop}(kq:∀v r h' g2 w',Q r h'->CH w0 g0 h0 (DW σ d nn h h') g2 w'->Le h g w (DW σ d nn h h') g2 w'->O g2 w' (L (DW σ d nn h h')) (ren (E2 σ d nn) h' r) v->R (.returned v) w'):Calls P f vals w R:=
 NL (C:=Calls P f vals w) (fun h k=>h.mono k) hI EZ (hc.2 (DA σ g) w vals hs hv) kq
end
end Go.Eng
