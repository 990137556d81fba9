/- Lemmas 10. -/
import Derived.Test.YtkjhcikodmiceaaGreatDoorRA09
namespace Go.Eng
variable {l:List Nat}{o:Oper}{K:St->Prop}{st:St}{σ:IC}{d n:Nat}{cx:Cx}{st2:St}{d':Nat}(ops:Array Oper)
theorem mZ(h:In l n=true):n∈l:=by
 induction l<;>grind [In,Dx]
theorem Xo(G:Nat->HO):∀(σ:IC) (h:Nat->HO),D4 σ=true->(fun i=>match Cn σ i with | some j=>G j | none=>h i)=HH h (σ.map fun p=>(p.1,G p.2))
 | [],h,_=>rfl
 |(i,j)::r,h,hσ=>by
  unfold D4 at hσ;simp only[Aj]at hσ;have ih:=Xo G r (AP h i (G j)) hσ.2
  grind [HH,AP,Cn,Dx]
theorem UC(hσ:D4 σ=true){h h' : Nat->HO}:DS σ d 0 h h'=HH h (σ.map fun p=>(p.1,(h' p.2).ren (EV σ d 0) h')):=by
 rw[<-Xo (fun j=>(h' j).ren (EV σ d 0) h') σ h hσ]
 grind [DS,Nat.blt,Nat.ble_eq]
section
variable {cx:Cx}{op:Op}{dst:Option Nat}{ty:Nat}{pos:String}{after:Array Edge}{gd:Option (Nat×Bool)}{st:St}{R:List Nat}{w:Option Nat}{K:HK}
theorem CG.toL(h:CG cx ⟨dst,op,ty,pos,after,gd⟩ st R w K):Rz cx ⟨dst,op,ty,pos,after,gd⟩ st R w K:=by
 obtain⟨v,e,h1,h2,h3⟩:=h;cases e with
 |none=>exact⟨v,[],h1,fun r o' e=>(by cases e),h3⟩
 |some p=>exact⟨v,[p],h1,fun r o' e=>by
   obtain rfl:=AC.1 e;obtain⟨a,b⟩:=h2 r o' rfl;exact⟨by rw[a];exact .inl rfl,b⟩,h3⟩
theorem Z0{c:Call}(hk:FB cx true ⟨dst,.call c,ty,pos,after,gd⟩ st K)(hf:ET cx ⟨dst,.call c,ty,pos,after,gd⟩ st=some (R,w)):Rz cx ⟨dst,.call c,ty,pos,after,gd⟩ st R w K:=by
 obtain⟨rG,args,GI⟩:=c;have KY:∀st2,Alike ⟨dst,.call ⟨rG,args,GI⟩,ty,pos,after,gd⟩ R st st2->args.toList.map (ev st2.t)=args.toList.map (ev st.t):=fun st2 ha=>
  Cf fun x hx=>ha.t x (by grind [Op.operands,Call.operands])
 cases rG with
 |invoke r m=>exact hk.elim
 |value f=>
  have hk:F2 cx true dst st (ev st.t f) (args.toList.map (ev st.t)) K:=hk;have hf:GD cx dst (.value f) st.t (args.toList.map (ev st.t))=some (R,w):=hf;unfold GD at hf;unfold F2 at hk;simp only at hf hk;have hn:=KY;split at hf
  .rename_i bM;rw[bM]at hk;cases hf;obtain⟨res,h1,h2⟩:=hk;refine CG.toL ⟨res,none,h2,fun r o' e=>(by cases e),fun st2 ha K' h'=>?_⟩;show F2 cx true dst st2 (ev st2.t f) (args.toList.map (ev st2.t)) K';rw[KY st2 ha,ha.t f (by simp[Op.operands,Call.operands])];unfold F2;simp only[bM];refine⟨res,?_,h'⟩
   grind [Kg,Qo,Alike.h]
  .rename_i bM;rw[bM]at hk;simp only at hk;cases dst with
   |none=>simp_all
   |some d=>
    obtain⟨n,sz,es,h1,h2,h3⟩:=hk;have hf:some (BM d 0::(XU (ev st.t f)++SX (args.toList.map (ev st.t))),some (BM d 0))=some (R,w):=hf;cases hf;refine CG.toL ⟨_,some (BM d 0,_),h3,fun r o' e=>Wk,fun st2 ha K' h'=>?_⟩;show F2 cx true (some d) st2 (ev st2.t f) (args.toList.map (ev st2.t)) K';rw[KY st2 ha,ha.t f (by simp[Op.operands,Call.operands])];unfold F2;simp only[bM];refine⟨n,sz,es,?_,?_,h'⟩
    all_goals grind [DN,Kg,Qo,Alike.h]
  .rename_i bM;rw[bM]at hk;have hk:Rf cx 0 dst st.h (ev st.t f) (args.toList.map (ev st.t)) K:=hk;split at hf
   .rename_i r n l hl;cases hf;have Im:=hk;unfold Rf at Im;rw[hl]at Im;split at Im
    .rename_i d0 f0 r0 n0 l0 e1 e2 z1 z2;cases e2;split at Im
     .rename_i vs bV;split at Im
      .rename_i sz es hr;obtain⟨n',Fp,h1,h2⟩:=Im;refine CG.toL ⟨_,some (r,_),h2,fun r o' e=>Wk,fun st2 ha K' h'=>?_⟩;show F2 cx true _ st2 (ev st2.t f) (args.toList.map (ev st2.t)) K';rw[KY st2 ha,ha.t f (by simp[Op.operands,Call.operands]),hl,e1];unfold F2;simp only[bM];unfold Rc;simp only;unfold Rf;simp only[bV,ha.h r (Ae ..),hr];exact⟨n',Fp,h1,h'⟩
      simp_all
     simp_all
    simp_all
   simp_all
  .rename_i k bM;rw[bM]at hk;cases hb:Nat.beq k 1 with
   |true=>
    have OD:Nat.beq (k+1) 2=true:=hb;have hk:WK cx dst st (ev st.t f) (args.toList.map (ev st.t)) K:=by
     simp_all
    rw[hb]at hf;cases dst with
    |none=>exact hk.elim
    |some d=>
     obtain⟨sz,es,h1,h2,h3⟩:=hk;have hf:some (BM d 0::(XU (ev st.t f)++SX (args.toList.map (ev st.t))),some (BM d 0))=some (R,w):=hf;cases hf;refine CG.toL ⟨_,some (BM d 0,_),h3,fun r o' e=>Wk,fun st2 ha K' h'=>?_⟩;show F2 cx true (some d) st2 (ev st2.t f) (args.toList.map (ev st2.t)) K';rw[KY st2 ha,ha.t f (by simp[Op.operands,Call.operands])];unfold F2;simp only[bM,OD];refine⟨sz,es,?_,?_,h'⟩
     all_goals grind [DN,Kg,Qo,Alike.h]
   |false=>
    have OD:Nat.beq (k+1) 2=false:=hb;rw[hb]at hf;have Im:(match Nat.beq (k+1) 2 with | true=>WK cx dst st (ev st.t f) (args.toList.map (ev st.t)) K | false=>match Nat.beq (k+1) 3 with | true=>T2 cx dst st (ev st.t f) (args.toList.map (ev st.t)) K | false=>Rc cx (k+1) dst st (ev st.t f) (args.toList.map (ev st.t)) K):=hk;rw[OD]at Im;cases hc:Nat.beq k 2 with
    |true=>
     have tw:Nat.beq (k+1) 3=true:=hc;rw[hc]at hf;simp only[tw]at Im;have hf:iy (args.toList.map (ev st.t))=some (R,w):=hf;unfold iy at hf;unfold T2 at Im;split at hf
     .rename_i vs bV;cases hf;split at Im
      .rename_i l gz e1 e2 z1 z2;rw[bV]at e2;cases e2;split at Im
       .rename_i r sz es cP n e3 e4;obtain⟨⟨rfl,rfl⟩,v,Fp,n',h1,h2⟩:=Im;refine⟨_,[(1001,_),(1000,_)],h2,fun r' o' e=>?_,fun st2 ha K' h'=>?_⟩
        .rcases AM.1 e with e | e
         .cases e
          exact⟨.inr (.inl ⟨by decide,.inr aa2⟩),by simp⟩
         .obtain e:=AC.1 e;cases e;exact⟨.inr (.inl ⟨by decide,.inl aa2⟩),by simp⟩
        show F2 cx true _ st2 (ev st2.t f) (args.toList.map (ev st2.t)) K';rw[KY st2 ha,ha.t f (by simp[Op.operands,Call.operands]),e1];unfold F2;simp only[bM,OD,tw];unfold T2;simp only[bV,ha.h 1000 aa0,ha.h 1001 aa0,e3,e4];exact⟨⟨trivial,trivial⟩,v,Fp,n',h1,h'⟩
       simp_all
      simp_all
     simp_all
    |false=>
    have tw:Nat.beq (k+1) 3=false:=hc;rw[hc]at hf;have dY:Rc cx (k+1) dst st (ev st.t f) (args.toList.map (ev st.t)) K:=by
     simp_all
    have qn:iv k dst (args.toList.map (ev st.t))=some (R,w):=hf;unfold iv at qn;unfold Rc at dY;cases he:Nat.beq k 3 with
    |true=>
     have lf:Nat.beq (k+1) 4=true:=he;rw[he]at qn;rw[lf]at dY;have qn:some (l5,some VG)=some (R,w):=qn;have dY:XF cx dst st (ev st.t f) (args.toList.map (ev st.t)) K:=dY;cases qn;unfold XF at dY;split at dY
     .rename_i d f' caps e2 _ _ _;obtain⟨σ,H0,Hn,args',res,g1,g2,g3,g4⟩:=dY;simp only[Aj]at g2;refine⟨_,σ.map fun p=>(p.1,(Ag Hn Ad p.2).ren (EV σ d 0) (Ag Hn Ad)),(UC (h:=st.h) (h':=Ag Hn Ad) (d:=d) g2.1.1)▸g4,fun r' o' e=>?_,fun st2 ha K' h'=>?_⟩
      .obtain⟨p,hp,e⟩:=Ar.1 e;cases e;exact⟨.inr (.inr rfl),mZ (A9.1 g2.2 p hp)⟩
      .show F2 cx true _ st2 (ev st2.t f) (args.toList.map (ev st2.t)) K';rw[KY st2 ha,ha.t f (by simp[Op.operands,Call.operands])];unfold F2;simp only[bM,OD,tw];unfold Rc;simp only[lf];unfold XF
       grind [UC,Alike.h]
     simp_all
    |false=>
    have lf:Nat.beq (k+1) 4=false:=he;rw[he]at qn;rw[lf]at dY;have hf:bE dst (args.toList.map (ev st.t))=some (R,w):=qn;have hk:Rf cx (k+1) dst st.h (ev st.t f) (args.toList.map (ev st.t)) K:=dY;obtain⟨d,r,n,l,rfl,hl,e0⟩:=ZY hf;cases e0;unfold Rf at hk;rw[hl]at hk;split at hk
    .rename_i d0 f0 r0 n0 l0 e9 e1 e2;cases e9;cases e2;split at hk
     .rename_i vs bV;split at hk
      .rename_i sz es hr;obtain⟨n',Fp,h0,h1,h2⟩:=hk;have h00:=h0;simp only[Aj,FD]at h00;refine⟨_,[(r,.dead),(BM d 0,_)],h2,fun r' o' e=>?_,fun st2 ha K' h'=>?_⟩
       .rcases AM.1 e with e | e
        .cases e
         refine⟨.inr (.inl ⟨by grind [BM],.inl ?_⟩),Ae ..⟩;omega
        .obtain e:=AC.1 e;cases e;refine⟨.inr (.inl ⟨by grind [BM],.inr ?_⟩),Ah _ (Ae ..)⟩;omega
       show F2 cx true _ st2 (ev st2.t f) (args.toList.map (ev st2.t)) K';rw[KY st2 ha,ha.t f (by simp[Op.operands,Call.operands]),hl,e1];unfold F2;simp only[bM,OD,tw];unfold Rc;simp only[lf];unfold Rf;simp only[bV,ha.h r (Ae ..),hr]
       have:DN st2.h d 1=DN st.h d 1:=by grind [DN,Alike.h]
       exact⟨n',Fp,by simp_all,h1,h'⟩
      simp_all
     simp_all
    simp_all
 |builtin b=>
  refine CG.toL ?_;have mm:∀f:Int->Int->Int,(∀(d:Option Nat) (h:Nat->HO) (GI:List Nat) (args:List AV) (K:HK),FF cx d h b GI args K=(match args with | [x,y]=>m6 f x y fun v=>K v h | _=>False))->R=[]/\w=none->CG cx ⟨dst,.call ⟨.builtin b,args,GI⟩,ty,pos,after,gd⟩ st R w K:=by
   rintro f hb ⟨rfl,rfl⟩
   have hk:FF cx dst st.h b GI.toList (args.toList.map (ev st.t)) K:=hk;rw[hb]at hk;split at hk
   .rename_i x y e;refine .pick (nB f x y) hk fun st2 ha K' h=>?_;show FF cx dst st2.h b GI.toList (args.toList.map (ev st2.t)) K';simp_all
   simp_all
  cases b
  case max=>exact mm max (fun d h GI args K=>by cases args with | nil=>rfl | cons x l=>cases l with | nil=>rfl | cons y l=>cases l<;>rfl) (by
   have hf:GD cx dst (.builtin .max) st.t (args.toList.map (ev st.t))=some (R,w):=hf
   grind [GD])
  case min=>exact mm min (fun d h GI args K=>by cases args with | nil=>rfl | cons x l=>cases l with | nil=>rfl | cons y l=>cases l<;>rfl) (by
   have hf:GD cx dst (.builtin .min) st.t (args.toList.map (ev st.t))=some (R,w):=hf
   grind [GD])
  case append=>
   obtain⟨l⟩:=args
   match l,hk,hf with
   | [s,x],hk,hf=>grind [V3]
   | [],hk,hf=>cases GI;exact hk.elim
   | [_],hk,hf=>exact hk.elim
   |_::_::_::_,hk,hf=>exact hk.elim
  case len=>
   obtain⟨l⟩:=args
   match l,hk,hf with
   | [x],hk,hf=>grind [dQ]
   | [],hk,hf=>exact hk.elim
   |_::_::_,hk,hf=>exact hk.elim
  all_goals exact hk.elim
theorem ZB(hc:∀c,o.op≠.call c)(hs:(∃t x lo hi mx,o.op=.slice t x lo hi mx)->RZ cx.pl.tok o.dst=none)(hk:FB cx true o st K)(hf:ET cx o st=some (R,w)):CG cx o st R w K:=by
 obtain⟨dst,op,ty,pos,after,gd⟩:=o;cases op with
 |call c=>simp_all
 |alloc e=>grind [XA]
 |box e x=>grind [dP]
 |buildSlice t n ps=>grind [PD]
 |makeSlice t n c=>grind [Rn]
 |makeMap t r=>grind [Uk]
 |store t p x=>grind [XB]
 |mapUpdate t m k x=>grind [Ro]
 |makeFunc fn first cap=>grind [SG]
 |load t p=>grind [aa]
 |assign x=>grind [V4]
 |slice t x lo hi mx=>grind [QM]
 |lookup t x i ok=>grind [V5]
 |move x=>
  cases hf
  exact .pick (Cy _) hk fun st2 ha K' h=>by grind [FB,Op.operands,Alike.t]
 |pick c a b=>
  cases hf
  exact .pick (fP _ _ _) hk fun st2 ha K' h=>by grind [FB,Op.operands,Alike.t]
 |nilCheck x=>
  grind [jU,FB,Op.operands,CG.pick,Alike.t]
 |binOp op t x y u=>
  simp only[ET]at hf;split at hf
  .cases hf
  .rename_i hx;cases hf;exact .pick (fN _ _ _ _ _ _ hx) hk fun st2 ha K' h=>by grind [FB,Op.operands,Alike.t]
 |unOp op t x=>
  grind [fQ,FB,Op.operands,CG.pick,Alike.t]
 |convert s t x=>
  grind [fO,FB,Op.operands,CG.pick,Alike.t]
 |fieldAddr s x f=>
  grind [aO,FB,Op.operands,CG.pick,Alike.t]
 |field s x f=>
  grind [Yz,FB,Op.operands,CG.pick,Alike.t]
 |indexAddr t x i=>
  cases hf
  exact .pick (TB _ _ _ _) hk fun st2 ha K' h=>by grind [FB,Op.operands,Alike.t]
 |index t x i=>
  cases hf
  exact .pick (aP _ _ _ _) hk fun st2 ha K' h=>by grind [FB,Op.operands,Alike.t]
 |extract x i=>
  grind [Wy,FB,Op.operands,CG.pick,Alike.t]
 |build t ps=>
  cases hf
  refine .pick (aN _ _ _ _) hk fun st2 ha K' h=>?_;have hx:∀p∈ps.toList,ev st2.t p.2=ev st.t p.2:=fun p hp=>ha.t p.2 (by
   grind [Op.operands])
  simp only[FB];have fill:∀(pl:Nat->Option (Nat×Nat)) (l:List (Nat×Operand)) (cs:List AV) (K:List AV->Prop),(∀p∈l,ev st2.t p.2=ev st.t p.2)->JV pl cs st2.t l K=JV pl cs st.t l K:=by
   intro pl l
   induction l with
   |nil=>intro cs K _;rfl
   |cons p l ih=>
    intro cs K hp;obtain⟨i,x⟩:=p;have h1:ev st2.t x=ev st.t x:=hp (i,x) (Ae ..);have h2:∀cs,JV pl cs st2.t l K=JV pl cs st.t l K:=fun cs=>ih cs K (fun p mE=>hp p (Ah _ mE));simp only[JV,h1,h2]
  unfold Pq at h⊢;simp only[fill _ _ _ _ hx];exact h
 |_=>cases hf
theorem di(hk:FB cx true o st K)(hf:ET cx o st=some (R,w)):Rz cx o st R w K:=by
 obtain⟨dst,op,ty,pos,after,gd⟩:=o
 by_cases h:∃c,op=.call c
 .grind [Z0]
 .by_cases h2:∃t x lo hi mx,op=.slice t x lo hi mx
  .obtain⟨t,x,lo,hi,mx,rfl⟩:=h2;cases hp:RZ cx.pl.tok dst<;>grind [CG.toL,QM,dR]
  grind [CG.toL,ZB]
end
theorem dO(h:∀x∈o.op.operands,ev st2.t x=ev st.t x):ET cx o st2=ET cx o st:=by
 obtain⟨dst,op,ty,pos,after,gd⟩:=o;cases op with
 |call c=>
  obtain⟨rG,args,GI⟩:=c;have ha:args.toList.map (ev st2.t)=args.toList.map (ev st.t):=Cf fun x hx=>h x (by grind [Op.operands,Call.operands]);simp only[ET];rw[ha];cases rG with
  |value f=>
   have hf:ev st2.t f=ev st.t f:=h f (by simp[Op.operands,Call.operands]);simp only[GD,hf]
  |builtin b=>
   generalize args.toList.map (ev st.t)=l
   match l with
   | []=>cases b<;>rfl
   | [x]=>cases b<;>cases x<;>rfl
   | [x,y]=>cases b<;>cases x<;>rfl
   |x::_::_::_=>cases b<;>cases x<;>rfl
  |invoke r m=>rfl
 |box e x=>grind [ET,Op.operands]
 |buildSlice t n ps=>
  grind [List.map_congr_left,Op.operands,ET]
 |store t p x=>grind [ET,Op.operands]
 |mapUpdate t m k x=>grind [ET,Op.operands]
 |makeFunc fn first cap=>
  grind [List.map_congr_left,Op.operands,ET]
 |load t p=>grind [ET,Op.operands]
 |assign x=>grind [ET,Op.operands]
 |binOp op t x y u=>grind [ET,Op.operands]
 |slice t x lo hi mx=>grind [ET,Op.operands]
 |lookup t x i ok=>grind [ET,Op.operands]
 |_=>rfl
def Looks(o:Oper)(st st2:St):Prop:=∀d∈o.looksAt ops,st2.t d=st.t d
theorem Looks.operands{ops:Array Oper}{o:Oper}{st st2:St}(h:Looks ops o st st2):∀x∈o.op.operands,ev st2.t x=ev st.t x:=fun x hx=>by
 cases x with
 |tmp t=>exact h t (Bw _ (List.mem_filterMap.2 ⟨.tmp t,by simp_all,rfl⟩))
 |_=>rfl
theorem Vg(j:Nat):KI ops.toList j=(ops[j]?).bind (·.dst):=by
 have:∀(l:List Oper) (j:Nat),KI l j=(l[j]?).bind (·.dst):=by
  intro l
  induction l with
  |nil=>grind [KI]
  |cons o l ih=>
   intro j;cases j<;>grind [KI]
 simp_all
theorem Looks.guard{ops:Array Oper}(h:Looks ops o st st2){j:Nat}{b:Bool}(hg:o.guard=some (j,b))(hd:KI ops.toList j=some d):st2.t d=st.t d:=
 h d (Ca _ (by grind [Vg]))
def St.after(st:St)(o:Oper)(v:AV)(e:List (Nat×HO)):St:=st.put o.dst v (HH st.h e)
def Pn(cx:Cx)(ops:Array Oper)(o:Oper)(st:St)(f:Fa)(v:AV)(e:List (Nat×HO)):Prop:=
 (∀r o',(r,o')∈e->RP f.2 r/\r∈f.1)/\∀st2,Looks ops o st st2->(∀r∈f.1,st2.h r=st.h r)->∀K:St->Prop,K (st2.after o v e)->Iu cx true ops.toList o st2 K
theorem SE{ops:Array Oper}(h:Looks ops o st st2):M3 cx ops.toList o st2=M3 cx ops.toList o st:=by
 grind [M3,dO,Looks.operands,Looks.guard]
theorem N8{ops:Array Oper}{f:Fa}(hk:Iu cx true ops.toList o st K)(hf:M3 cx ops.toList o st=some f) :
  ∃v e,Pn cx ops o st f v e/\K (st.after o v e):=by
 obtain⟨R,w⟩:=f;have skip:R=[]/\w=none->K (st.put o.dst (.v undef) st.h)->(∀st2,Looks ops o st st2->∀K:St->Prop,K (st2.put o.dst (.v undef) st2.h)->Iu cx true ops.toList o st2 K)->∃v e,Pn cx ops o st (R,w) v e/\K (st.after o v e):=by
  rintro⟨rfl,rfl⟩ h1 h2
  exact⟨.v undef,[],⟨fun r o' e=>(by cases e),fun st2 hl _ K h=>h2 st2 hl K h⟩,h1⟩
 have run:ET cx o st=some (R,w)->FB cx true o st (fun v h=>K (st.put o.dst v h))->(∀st2,Looks ops o st st2->∀K:St->Prop,FB cx true o st2 (fun v h=>K (st2.put o.dst v h))->Iu cx true ops.toList o st2 K)->∃v e,Pn cx ops o st (R,w) v e/\K (st.after o v e):=by
  intro hf hk h2;obtain⟨v,e,q1,q2,q3⟩:=di hk hf;exact⟨v,e,⟨q2,fun st2 hl hh K h=>h2 st2 hl K (q3 st2 ⟨hl.operands,hh⟩ _ h)⟩,q1⟩
 unfold Iu at hk;unfold M3 at hf;cases hg:o.guard with
 |none=>
  rw[hg]at hk hf;exact run hf hk (fun st2 hl K h=>by unfold Iu;rw[hg];exact h)
 |some p=>
  obtain⟨j,want⟩:=p;rw[hg]at hk hf;simp only at hk hf;cases hd:KI ops.toList j with
  |none=>simp_all
  |some d=>
   rw[hd]at hk hf;simp only at hk hf;have he:∀st2,Looks ops o st st2->st2.t d=st.t d:=fun st2 hl=>hl.guard hg hd;generalize hx:st.t d=x at hk hf he;split at hk
   .exact run hf hk (fun st2 hl K h=>by unfold Iu;simp only[hg,hd,he st2 hl];exact h)
   .exact run hf hk (fun st2 hl K h=>by unfold Iu;simp only[hg,hd,he st2 hl];exact h)
   all_goals grind [Iu]
def sa(cx:Cx)(ops:Array Oper)(FT:Nat->Fa)(i:Nat)(K:St->Prop)(st:St):Prop:=
 match ops[i]? with
 |none=>K st
 |some o=>M3 cx ops.toList o st=some (FT i)/\Iu cx true ops.toList o st K
def WZ(cx:Cx)(ops:Array Oper)(FT:Nat->Fa)(K:St->Prop):Nat->Array Bool->St->Prop
 |0,listed,st=>Region.ready .any ops listed=[]/\K st
 |fuel+1,listed,st=>
  (Region.ready .any ops listed=[]->K st)/\∀i∈Region.ready .any ops listed,sa cx ops FT i (WZ cx ops FT K fuel (listed.setIfInBounds i true)) st
theorem gq(t:Nat->AV)(h:d'≠d)(v v' : AV):I9 (I9 t d v) d' v'=I9 (I9 t d' v') d v:=by
 grind [I9,Dx]
theorem d8(t:Nat->HO)(h:d'≠d)(v v' : HO):AP (AP t d v) d' v'=AP (AP t d' v') d v:=by
 grind [AP,Dx]
theorem Yc(h:n∈l):In l n=true:=by
 induction l<;>grind [In,Nat.beq_refl]
theorem Yf(h:In l n=true):n∈l:=by
 induction l<;>grind [In,Dx]
theorem Yu{x:Nat}(h:Ys l x=true):∀r,RP (some x) r->r∉l:=by
 intro r hc hr;unfold Ys at h
 by_cases hx:x=VG
 .subst hx;rw[Ue,cond_true]at h;cases l with
  |nil=>cases hr
  |cons a l=>cases h
 rw[Dx hx,Gi]at h;simp only[Aj,Ja,E7,FD]at h;rcases hc with rfl | ⟨h1,h2⟩ | hc<;>grind [Yc]
theorem dG{a b:Fa}(h:Sq a b=true):(∀r,RP a.2 r->r∉b.1)/\∀r,RP b.2 r->r∉a.1:=by
 obtain⟨a1,a2⟩:=a;obtain⟨b1,b2⟩:=b;simp only[Sq,Aj]at h;refine⟨fun r e=>?_,fun r e=>?_⟩
 .cases a2 with
  |none=>exact e.elim
  |some x=>grind [Yu]
 .cases b2 with
  |none=>exact e.elim
  |some x=>grind [Yu]
section
variable {cx:Cx}{ops:Array Oper}{FT:Nat->Fa}
theorem QT{oi oj:Oper}(h:∀d,oi.dst=some d->d∉oj.looksAt ops)(st:St)(v:AV)(e:List (Nat×HO)):Looks ops oj st (st.after oi v e):=by
 intro d hd;cases hdst:oi.dst with
 |none=>grind [St.after,St.put]
 |some d'=>
  have:d≠d':=fun q=>h d' hdst (q▸hd)
  simp[St.after,St.put,hdst,I9,Dx this]
theorem Looks.symm{o:Oper}{st st2:St}(h:Looks ops o st st2):Looks ops o st2 st:=fun d hd=>(h d hd).symm
theorem bI{o:Oper}{v:AV}{e:List (Nat×HO)}:(st.after o v e).h=HH st.h e:=by
 unfold St.after St.put;grind
theorem Px{r:Nat}:∀{e:List (Nat×HO)} {h:Nat->HO},(∀o',(r,o')∉e)->HH h e r=h r
 | [],_,_=>rfl
 |p::e,h,hr=>by
  have:r≠p.1:=fun q=>hr p.2 Wk
  show HH (AP h p.1 p.2) e r=h r;rw[Px fun o' ho=>hr o' (Ah _ ho),BQ _ _ _ _ this]
theorem Xp{r:Nat}{o:HO}:∀{e:List (Nat×HO)} {h:Nat->HO},(∀r' o',(r',o')∈e->r'≠r)->HH (AP h r o) e=AP (HH h e) r o
 | [],_,_=>rfl
 |p::e,h,hr=>by
  show HH (AP (AP h r o) p.1 p.2) e=AP (HH (AP h p.1 p.2) e) r o;rw[d8 h (hr p.1 p.2 (Ae ..)),Xp fun r' o' ho=>hr r' o' (Ah _ ho)]
theorem UP:∀{e e' : List (Nat×HO)} {h:Nat->HO},(∀r o r' o',(r,o)∈e->(r',o')∈e'->r'≠r)->HH (HH h e) e'=HH (HH h e') e
 | [],_,_,_=>rfl
 |p::e,e',h,hd=>by
  show HH (HH (AP h p.1 p.2) e) e'=HH (AP (HH h e') p.1 p.2) e;rw[<-Xp fun r' o' ho=>hd p.1 p.2 r' o' (Ae ..) ho,UP fun r o r' o' h1 h2=>hd r o r' o' (Ah _ h1) h2]
theorem Zz{oi oj:Oper}{v v' : AV}{e e' : List (Nat×HO)}(h1:∀d,oi.dst=some d->oj.dst≠some d)(h2:∀r o r' o',(r,o)∈e->(r',o')∈e'->r'≠r) :
  (st.after oi v e).after oj v' e'=(st.after oj v' e').after oi v e:=by
 have hh:HH (HH st.h e) e'=HH (HH st.h e') e:=UP h2;have key:∀o:Oper,∀v e,∀st:St,st.after o v e=⟨match o.dst with | none=>st.t | some d=>I9 st.t d v,HH st.h e⟩:=fun o v e st=>by
  grind [St.after,St.put]
 grind [gq]
theorem Zx{i:Nat}{oi:Oper}{v:AV}{e:List (Nat×HO)}(hi:ops[i]?=some oi)(D:Nat->Prop)(hD:∀j,D j->∃oj,ops[j]?=some oj/\∃ed∈oj.after,Region.binds .any ed=true/\(ed.on=i\/D ed.on)) :
  ∀(fuel:Nat) (listed:Array Bool) (st:St),
   (∀j oj,ops[j]?=some oj->j≠i->listed.getD j true=false->¬D j->oi.apart ops oj=true/\Sq (FT i) (FT j)=true) ->
   i∈Region.ready .any ops listed->(∀j,D j->listed.getD j true=false)->M3 cx ops.toList oi st=some (FT i)->Pn cx ops oi st (FT i) v e ->
   WZ cx ops FT K fuel (listed.setIfInBounds i true) (st.after oi v e)->WZ cx ops FT K (fuel+1) listed st:=by
 have here:∀(fuel:Nat) (listed:Array Bool) (st:St),M3 cx ops.toList oi st=some (FT i)->Pn cx ops oi st (FT i) v e ->
   WZ cx ops FT K fuel (listed.setIfInBounds i true) (st.after oi v e)->sa cx ops FT i (WZ cx ops FT K fuel (listed.setIfInBounds i true)) st:=by
  intro fuel listed st hf hy H;unfold sa;rw[hi];exact⟨hf,hy.2 st (fun _ _=>rfl) (fun _ _=>rfl) _ H⟩
 intro fuel
 induction fuel with
 |zero=>
  intro listed st _ hr _ hf hy H;refine⟨fun h=>Wk,fun j hj=>?_⟩
  by_cases JY:j=i
  .simp_all
  .have:=ready_mono hj JY
   rw[H.1]at this;simp_all
 |succ fuel ih=>
  intro listed st Ad hr hDl hf hy H;refine⟨fun h=>Wk,fun j hj=>?_⟩
  by_cases JY:j=i
  .simp_all
  .have h1:=H.2 j (ready_mono hj JY);obtain⟨yU,oj,qx,GP⟩:=mem_ready.1 hj;have AcP:∀k,listed.getD k true=false->listed.getD k false=true->False:=fun k h0 h1=>by
    grind
   have hnD:¬D j:=fun yF=>by
    grind [mem_ready]
   obtain⟨vZ,yF⟩:=Ad j oj qx JY yU hnD;obtain⟨a1,a2,a3⟩:=Oper.apart_spec vZ;obtain⟨d1,d2⟩:=dG yF;unfold sa at h1⊢;rw[qx]at h1⊢;obtain⟨hfj,hkj⟩:=h1;have hlj:=QT (ops:=ops) a1 st v e;obtain⟨vj,ej,hyj,hK⟩:=N8 hkj hfj;have he1:∀r o',(r,o')∈e->r∉(FT j).1:=fun r o' q=>d1 r (hy.1 r o' q).1;have lf:∀r o',(r,o')∈ej->r∉(FT i).1:=fun r o' q=>d2 r (hyj.1 r o' q).1;refine⟨by grind [SE],hyj.2 st hlj.symm (fun r Wg=>?_) _ ?_⟩
   .rw[bI,Px (fun o' q=>he1 r o' q Wg)]
   .have hli:=QT (ops:=ops) a3 st vj ej;refine ih (listed.setIfInBounds j true) (st.after oj vj ej) (fun k ok hk hki rV OF=>?_) (ready_mono hr (Ne.symm JY)) (fun k hk=>?_) (by grind [SE]) ⟨hy.1,fun st2 hl hh K' h'=>?_⟩ ?_
    .by_cases tK:j=k
     .simp_all
     .rw[getD_set_ne true tK]at rV;grind
    .by_cases tK:j=k
     all_goals simp_all
    .refine hy.2 st2 (fun d hd=>(hl d hd).trans (hli d hd)) (fun r Wg=>?_) K' h';rw[hh r Wg,bI,Px (fun o' q=>lf r o' q Wg)]
    .rw[Array.setIfInBounds_comm _ _ (Ne.symm JY)]at hK;rw[<-Zz a2 (fun r o r' o' q q' e2=>lf r' o' q' (by rw[e2];exact(hy.1 r o q).2))];exact hK
def pm(cx:Cx)(ops:Array Oper)(K:St->Prop):List Oper->List Fa->St->Prop
 | [],[],st=>K st
 |o::r,f::fs,st=>M3 cx ops.toList o st=some f/\∃v e,Pn cx ops o st f v e/\pm cx ops K r fs (st.after o v e)
 |_,_,_=>False
theorem RU{K:St->Prop}:∀(l:List Oper) (acc:List Fa) (st:St),W6 cx ops l acc st K->∃fs,Sr ops (acc.reverse++fs)=true/\pm cx ops K l fs st
 | [],acc,st,h=>⟨[],by simpa using h.1,h.2⟩
 |o::r,acc,st,h=>by
  unfold W6 at h;split at h
  .rename_i f hf;obtain⟨v,e,h1,h2⟩:=N8 h hf;obtain⟨fs,q1,q2⟩:=RU r _ _ h2;exact⟨f::fs,by simp_all,hf,v,e,h1,q2⟩
  simp_all
theorem Wb{o:Oper}{i:Nat}{D:List Nat}(h:OB o i D=true):∃ed∈o.after,Region.binds .any ed=true/\(ed.on=i\/ed.on∈D):=by
 grind [OB,Nat.eq_of_beq_eq_true,Yf]
theorem TX{i:Nat}{D:List Nat}:∀(l:List Oper) (k:Nat),TW i D k l=true->∀j o,l[j]?=some o->k+j∈D->OB o i D=true
 | [],_,_,_,_,h,_=>by simp_all
 |o::l,k,hs,j,o',h,hm=>by
  simp only[TW,Aj]at hs;cases j with
  |zero=>
   grind [Yc]
  |succ j=>exact TX l (k+1) hs.2 j o' Wk aa1
theorem Uy{oi:Oper}{fi:Fa}{D:List Nat}:∀(l:List Oper) (fs:List Fa) (k:Nat),H4 ops oi fi D k l fs=true->l.length=fs.length/\∀j o f,l[j]?=some o->fs[j]?=some f->k+j∉D->oi.apart ops o=true/\Sq fi f=true
 | [],[],_,_=>⟨rfl,fun _ _ _ h=>by simp_all⟩
 | [],_::_,_,h=>by grind [H4]
 |_::_,[],_,h=>by grind [H4]
 |o::l,f::fs,k,h=>by
  simp only[H4,Aj,Ja]at h;obtain⟨h1,h2⟩:=Uy l fs (k+1) h.2<;>grind [Yf]
theorem W0{K:St->Prop}:∀(l:List Oper) (fs:List Fa) (k:Nat) (listed:Array Bool) (st:St),(∀j,l[j]?=ops[k+j]?)->(∀j f,fs[j]?=some f->FT (k+j)=f)->listed.size=ops.size ->
  (∀j,j<ops.size->listed.getD j true=decide (j<k))->Lz ops ops.toList k l fs=true->pm cx ops K l fs st->WZ cx ops FT K l.length listed st
 | [],[],k,listed,st,hl,_,hs,hL,_,h=>by
  refine⟨?_,h⟩;apply La.2;intro j hj;obtain⟨h1,o,ho,_⟩:=mem_ready.1 hj;have BW:=(Ac.1 ho).1;rw[hL j BW]at h1;have WT:k<=j:=Wk
  have:=hl (j-k)
  simp_all
 | [],_::_,_,_,_,_,_,_,_,h,_=>by grind [Lz]
 |_::_,[],_,_,_,_,_,_,_,h,_=>by grind [Lz]
 |o::l,f::fs,k,listed,st,hl,hF,hs,hL,hg,h=>by
  simp only[Lz,Aj]at hg;obtain⟨⟨⟨⟨g1,g2⟩,g3⟩,g4⟩,g5⟩:=hg;obtain⟨hf,v,e,hy,hp⟩:=h;have h0:ops[k]?=some o:=by simpa using(hl 0).symm
  have hk:=(Ac.1 h0).1;have hFk:FT k=f:=by simpa using hF 0 f rfl
  have Pk : ∀j,l[j]?=ops[k+1+j]?:=fun j=>by have:=hl (j+1);grind
  have s8 : ∀j f,fs[j]?=some f->FT (k+1+j)=f:=fun j f' hj=>by have:=hF (j+1) f' Wk;grind
  obtain⟨CF,vZ⟩:=Uy l fs (k+1) g4;have mh:∀j,j∈Pv k [] 0 ops.toList->k<j/\j<ops.size:=fun j hj=>by
   simp_all
  refine Zx h0 (fun j=>j∈Pv k [] 0 ops.toList) (fun j hj=>?_) l.length listed st (fun j oj qx tK rV hnD=>?_) ?_ (fun j hj=>?_) Wk (by rw[hFk];exact hy) ?_
  .have BW:=(mh j hj).2
   have:=TX ops.toList 0 g2 j ops[j] Wk Wk
   grind [Wb]
  .have BW:=(Ac.1 qx).1;rw[hL j BW]at rV;have WT:k<j:=aa1
   have e1:l[j-(k+1)]?=some oj:=aa1
   grind
  .grind [mem_ready,Nat.blt_eq]
  .grind
  .refine W0 l fs (k+1) _ _ Pk s8 Wk (fun j hj=>?_) g5 hp
   by_cases tK:j=k
   .simp_all
   .rw[getD_set_ne true (Ne.symm tK),hL j hj]
    grind
theorem de(h:W6 cx ops ops.toList [] st K):Region.noSelect ops=true/\∃FT,WZ cx ops FT K ops.size (Array.replicate ops.size false) st:=by
 obtain⟨fs,h1,h2⟩:=RU _ _ _ h;simp only[Sr,List.reverse_nil,Fc,Aj]at h1;refine⟨h1.1,fun j=>fs.getD j default,?_⟩
 have:=W0 (FT:=fun j=>fs.getD j default) ops.toList fs 0 (Array.replicate ops.size false) st aa0 (fun j f hj=>by simp_all) aa0 (fun j hj=>by simp_all) h1.2 h2
 omega
end
theorem Wl:∀{σ:IC},Gy σ=true->∀i j,Cn σ i=some j↔HD σ j=some i
 | [],_,i,j=>by simp[Cn,HD]
 |(a,b)::r,h,i,j=>by
  simp only[Gy,Aj]at h;obtain⟨h1,h2⟩:=h;have ih:=Wl h2
  grind [Cn,HD,Nat.beq_refl,Dx]
theorem jL:∀{σ:IC},D4 σ=true->Gy σ=true
 | [],_=>rfl
 |(a,b)::r,h=>by
  simp only[D4,Aj]at h;simp only[Gy,Aj];exact⟨h.1.1.1,jL h.2⟩
theorem WB(h:D4 σ=true):∀i j,Cn σ i=some j↔HD σ j=some i:=Wl (jL h)
theorem Vl:∀{σ:IC},D4 σ=true->∀{i j},Cn σ i=some j->1000<=j/\j<2000
 | [],_,i,j,h=>by grind [Cn]
 |(a,b)::r,h,i,j,hf=>by
  simp only[D4,Aj,N0,FD]at h;unfold Cn at hf
  by_cases e1:a=i
  .simp_all
  .simp only[Dx e1,Gi]at hf;exact Vl h.2 hf
theorem Pa(f:Nat->Option Nat)(h:Nat->HO):∀(σ:IC) (j:Nat),Ag (WA f h σ) Ad j=match HD σ j with | some i=>(h i).ren f h | none=>.free
 | [],j=>rfl
 |(a,b)::r,j=>by
  unfold WA Ag HD
  by_cases e:b=j
  .simp_all
  .simp only[Dx e,Dx (Ne.symm e),Gi];exact Pa f h r j
structure FE(f:Nat->Option Nat)(h h2:Nat->HO)(g g2:Gh)(w:World):Prop where
 ids:∀r r',f r=some r'->AI h r->g2.tk r'=g.tk r/\g2.ln r'=g.ln r/\g2.ρ r'=g.ρ r/\g2.own r'=g.own r/\AI h2 r'
 S:∀b o,g2.S b o↔g.S b o
 objs:∀r,DD g w (AI h) r (h r)
section
variable {f:Nat->Option Nat}{h h2:Nat->HO}{g g2:Gh}{w:World}
theorem FE.keeps(hR:FE f h h2 g g2 w):D2 g w g2 w:=fun b o hs=>⟨(hR.S b o).2 hs,rfl,fun _ _ e=>e⟩
theorem FE.noU(hR:FE f h h2 g g2 w){av:AV}{x:Value}(r:A3 g w DR av x):A3 g2 w (AI h2) av x:=r.mono hR.keeps (fun _ h=>h.elim) (fun _ h=>h.elim)
theorem A3.ren0(hR:FE f h h2 g g2 w){av:AV}{x:Value}(r:A3 g w (AI h) av x):A3 g2 w (AI h2) (ren0 f h av) x:=by
 have down:A3 g2 w (AI h2) (Eng.str0 h av) x:=hR.noU (A3.str0 hR.objs r);cases av with
 |v y=>exact down
 |slice tk es=>
  cases tk with
  |none=>exact down
  |full sz=>exact down
  |id i sz=>
   simp only[Eng.ren0];split
   .rename_i i' e;cases r<;>grind [tok,A3.slice_none,FE.ids,FE.noU]
   .exact hR.noU r.slice_none
  |ver i sz v=>
   simp only[Eng.ren0];split
   .rename_i i' e;cases r<;>grind [ver,A3.slice_none,FE.ids,FE.noU]
   .exact hR.noU r.slice_none
 |msl i n=>
  simp only[Eng.ren0];split
  .rename_i i' e;cases r<;>grind [msl,FE.ids]
  grind [junk]
 |agg cs=>exact down
 |tup cs=>exact down
 |cptr cs=>exact down
 |ref i off=>
  simp only[Eng.ren0];split
  .rename_i i' e;cases r<;>grind [ref,FE.ids]
  omega
 |eref i n sz k off=>
  simp only[Eng.ren0];split
  .rename_i i' e;cases r<;>grind [eref,FE.ids]
  grind [junk]
 |mref i=>
  simp only[Eng.ren0];split
  .rename_i i' e;cases r<;>grind [mref,FE.ids]
  omega
 |cmap sh BU=>exact down
 |clo i cs=>exact down
 |junk=>exact down
theorem A3.ren1(hR:FE f h h2 g g2 w){av:AV}{x:Value}(r:A3 g w (AI h) av x):A3 g2 w (AI h2) (ren1 f h av) x:=by
 cases av with
 |agg cs=>
  cases r with
  |agg _ _ vs hs h1 hr=>
   exact .agg _ _ vs Wk h1 fun i av x q1 q2=>by
    grind [ren0]
 |clo i cs=>
  cases r with
  |clo _ _ _ vs hs hr=>
   exact .clo _ _ _ vs Wk fun i av x q1 q2=>by
    grind [ren0]
 |_=>exact r.ren0 hR
theorem A3.ren(hR:FE f h h2 g g2 w){av:AV}{x:Value}(r:A3 g w (AI h) av x):A3 g2 w (AI h2) (ren f h av) x:=by
 cases av with
 |tup cs=>
  cases r with
  |tup _ _ vs hs hr=>
   exact .tup _ _ vs Wk fun i av x q1 q2=>by
    grind [ren1]
 |_=>exact r.ren1 hR
theorem Mc(f:Nat->Option Nat)(h:Nat->HO)(o:HO):(o.ren f h).live↔o.live:=by cases o<;>exact Iff.rfl
theorem Md(f:Nat->Option Nat)(h:Nat->HO)(o:HO):o.ren f h≠.free↔o≠.free:=by cases o<;>simp[HO.ren]
theorem DD.ren(hR:FE f h h2 g g2 w){i j:Nat}(Wd:f i=some j)(hu:AI h i){o:HO}(r:DD g w (AI h) i o):DD g2 w (AI h2) j (o.ren f h):=by
 obtain⟨k1,k2,k3,k4,k5⟩:=hR.ids i j Wd hu;have noL:∀{cs:List AV} {vs:List Value},Cg g w DR cs vs->Cg g2 w DR cs vs:=fun hr=>hr.mono hR.keeps (fun _ h=>h) (fun _ h=>h.elim);have wH:∀{av:AV} {x:Value},A3 g w DR av x->A3 g2 w DR av x:=fun hr=>hr.mono hR.keeps (fun _ h=>h) (fun _ h=>h.elim);cases o with
 |free=>trivial
 |dead=>trivial
 |cells cs=>
  obtain⟨t,b,E,vs,a1,a2,a3,a4,a5⟩:=r;refine⟨k1.trans t,b,E,vs,k4.trans a1,k3.trans a2,a3,⟨by simp[a4.1],a4.2.1,fun i av x q1 q2=>?_⟩,fun o ho=>a5 o ((hR.S b o).1 ho)⟩;rw[BE]at q1;obtain⟨a,q3,rfl⟩:=B1.1 q1;exact(a4.2.2 i a x q3 q2).ren1 hR
 |ro cs=>
  obtain⟨t,b,a1,a2⟩:=r;exact⟨k1.trans t,b,k3.trans a1,wH a2⟩
 |tok sz n=>
  obtain⟨t,l,a,cap,a1,a2⟩:=r;refine⟨k1.trans t,k2.trans l,a,cap,k3.trans a1,?_⟩
  grind [FE.S]
 |var sz v n=>
  obtain⟨t,l,a,cap,a1,a2⟩:=r;refine⟨k1.trans t,k2.trans l,a,cap,k3.trans a1,?_⟩
  grind [FE.S]
 |vox v=>exact⟨k1.trans r.1,k2.trans r.2⟩
 |hol sz es i c av=>
  obtain⟨t,l,al,b,cap,E,vs,b1,b2,b3,b4,b5,b6,b7,b8,x,b9,Zl⟩:=r;exact⟨k1.trans t,k2.trans l,al,b,cap,E,vs,k3.trans b1,k4.trans b2,b3,b4,b5,noL b6,fun o ho=>b7 o ((hR.S b o).1 ho),b8,x,b9,Zl.ren1 hR⟩
 |bld x=>
  obtain⟨t,b,p,v,a1,a2,a3,a4,a5,a6⟩:=r;exact⟨k1.trans t,b,p,v,k4.trans a1,k3.trans a2,a3,a4,a5.ren1 hR,fun o ho=>a6 o ((hR.S b o).1 ho)⟩
 |bbf n=>
  obtain⟨t,l,a1⟩:=r;refine⟨k1.trans t,k2.trans l,?_⟩
  grind [FE.S]
 |raw b ob=>
  obtain⟨t,a1,a2,a3,a4⟩:=r;exact⟨k1.trans t,k4.trans a1,a2,a3,fun o ho=>a4 o ((hR.S b o).1 ho)⟩
 |arr sz es=>
  obtain⟨t,l,al,a2⟩:=r;refine⟨k1.trans t,k2.trans l,al,?_⟩;rcases a2 with ⟨b1,b2,b3⟩ | ⟨b,cap,E,vs,b1,b2,b3,b4,b5,b6,b7⟩
  .simp_all
  .exact .inr ⟨b,cap,E,vs,k3.trans b1,k4.trans b2,b3,b4,b5,noL b6,fun o ho=>b7 o ((hR.S b o).1 ho)⟩
 |map sh BU=>
  obtain⟨t,b,es,ck,a1,a2,a3,a4,a5,a6⟩:=r;exact⟨k1.trans t,b,es,ck,k4.trans a1,k3.trans a2,a3,a4,fun i kv e q1 q2=>wH (a5 i kv e q1 q2),fun o ho=>a6 o ((hR.S b o).1 ho)⟩
 |mapU sh BU=>
  obtain⟨t,b,es,ck,a1,a2,a3,a4,a5,a6⟩:=r;refine⟨k1.trans t,b,es,ck,k4.trans a1,k3.trans a2,a3,Vc _ a4,fun i kv e q1 q2=>?_,fun o ho=>a6 o ((hR.S b o).1 ho)⟩
  grind [A3.ren1]
 |rom sh BU=>
  obtain⟨t,b,a1,a2⟩:=r;exact⟨k1.trans t,b,k3.trans a1,wH a2⟩
 |iter all rem Dn=>
  obtain⟨t,b,mb,Jx,seen,st,es,ck,a1,a2,a3,a4,a5,a6,a7,a8,a9,WY,bo,a12,po⟩:=r;exact⟨k1.trans t,b,mb,Jx,seen,st,es,ck,k4.trans a1,k3.trans a2,a3,(hR.S _ _).2 a4,a5,a6,a7,a8,fun i kv e q1 q2=>wH (a9 i kv e q1 q2),WY,bo,a12,fun o ho=>po o ((hR.S b o).1 ho)⟩
end
theorem ON{h:Nat->HO}{d:Nat}:∀{n:Nat},DN h d n=true->∀k,k<n->h (BM d k)=.free
 |0,_,k,hk=>by omega
 |n+1,hf,k,hk=>by
  simp only[DN,Aj]at hf
  by_cases e:k=n
  .grind
  .exact ON hf.2 k B0
theorem M7{d nn:Nat}:∀{σ:IC},CI σ d nn=true->∀{i j},Cn σ i=some j->¬(BM d 0<=i/\i<BM d nn)
 | [],_,i,j,h=>by grind [Cn]
 |(a,b)::r,hs,i,j,hf=>by
  simp only[CI,Aj]at hs;unfold Cn at hf
  by_cases e1:a=i
  .grind [Nat.ble_eq_true_of_le,Nat.blt_eq]
  .simp only[Dx e1,Gi]at hf;exact M7 hs.2 hf
section
variable {P:Program}{w0:World}{g0:Gh}{h0 h:Nat->HO}{g:Gh}{w:World}
def DB(σ:IC)(g:Gh):Gh:=
 ⟨fun j=>match HD σ j with | some i=>g.ρ i | none=>.nilIface,fun j=>match HD σ j with | some i=>g.ln i | none=>0,fun j=>match HD σ j with | some i=>g.tk i | none=>false,
  fun j=>match HD σ j with | some i=>g.own i | none=>none,g.S⟩
def src(σ:IC)(d nn:Nat)(i:Nat):Option Nat:=
 match Cn σ i with
 |some j=>some j
 |none=>match Nat.ble (BM d 0) i&&Nat.blt i (BM d nn)with |true=>some (2000+(i-BM d 0)) |false=>none
def Gx(σ:IC)(d nn:Nat)(g g' : Gh):Gh:=
 ⟨fun i=>match src σ d nn i with | some j=>g'.ρ j | none=>g.ρ i,fun i=>match src σ d nn i with | some j=>g'.ln j | none=>g.ln i,fun i=>match src σ d nn i with | some j=>g'.tk j | none=>g.tk i,
  fun i=>match src σ d nn i with | some j=>g'.own j | none=>g.own i,g'.S⟩
theorem dq(σ:IC)(d nn:Nat)(h h' : Nat->HO)(i:Nat):DS σ d nn h h' i=match src σ d nn i with | some j=>(h' j).ren (EV σ d nn) h' | none=>h i:=by
 grind [DS,src]
theorem kE{d nn:Nat}(hσ:D4 σ=true)(ha:CI σ d nn=true)(i j:Nat):src σ d nn i=some j↔EV σ d nn j=some i:=by
 have inv:=WB hσ;unfold src EV;cases h1:Cn σ i with
 |some j'=>
  have hb:=(inv i j').1 h1;dsimp only;constructor
  .grind
  .intro h;cases h2:HD σ j with
   |some i'=>grind
   |none=>
    rw[h2]at h;dsimp only at h;split at h
    .rename_i hc;have h:=Jc h;subst h;simp only[Aj,N0,FD]at hc;exact absurd ⟨by grind [BM],by grind [BM]⟩ (M7 ha h1)
    simp_all
 |none=>
  dsimp only;cases h2:HD σ j with
  |some i'=>
   dsimp only;have hf:=(inv i' j).2 h2;have hr:=Vl hσ hf
   grind
  |none=>
   dsimp only;constructor
   .grind [Nat.ble_eq,Nat.blt_eq,BM]
   .intro h;split at h
    .rename_i hc;have h:=Jc h;subst h;simp only[Aj,N0,FD]at hc;have e1:(Nat.ble (BM d 0) (BM d (j-2000))&&Nat.blt (BM d (j-2000)) (BM d nn))=true:=by
      grind [Nat.ble_eq,Nat.blt_eq,BM]
     grind [BM]
    simp_all
theorem V6(hI:CA w0 g0 h0 h g w)(hσ:D4 σ=true):FE (Cn σ) h (Ff σ h) g (DB σ g) w/\CA w (DB σ g) (Ff σ h) (Ff σ h) (DB σ g) w:=by
 have inv:=WB hσ;have Fi:∀j,Ff σ h j=match HD σ j with | some i=>(h i).ren (Cn σ) h | none=>.free:=Pa _ _ σ
 have hR:FE (Cn σ) h (Ff σ h) g (DB σ g) w:=by
  refine⟨fun r r' hr hu=>?_,fun b o=>Iff.rfl,hI.objs⟩
  grind [DB,AI,Md]
 have LO:∀j,(Ff σ h j).live->∃i,HD σ j=some i/\(h i).live:=fun j hl=>by
  rw[Fi]at hl;cases e:HD σ j with
  |none=>rw[e]at hl;exact hl.elim
  |some i=>grind [Mc]
 have PF:∀j i,HD σ j=some i->(DB σ g).own j=g.own i:=fun j i e=>by simp[DB,e]
 refine⟨hR,rfl,rfl,rfl,Ai _,fun _ _ _=>rfl,hI.slt,fun j=>?_,fun j j' b hl Pk e e'=>?_,fun j b hl e=>?_,fun _ _ h=>.inl h,hI.glob⟩
 .rw[Fi];cases e:HD σ j with
  |none=>trivial
  |some i=>
   by_cases hu:AI h i
   .grind [DD.ren,CA.objs]
   .have:h i=.free:=BZ.1 hu
    dsimp only;rw[this];trivial
 .obtain⟨i,e1,l1⟩:=LO j hl;obtain⟨i',e2,l2⟩:=LO j' Pk;rw[PF j i e1]at e;rw[PF j' i' e2]at e';obtain rfl:=hI.inj i i' b l1 l2 e e'
  have:=(inv i j).2 e1
  rw[(inv i j').2 e2]at this;simp_all
 .obtain⟨i,e1,l1⟩:=LO j hl;have e0:=e;rw[PF j i e1]at e;exact⟨(hI.loc i b l1 e).1,.inr ⟨j,hl,e0⟩⟩
theorem Mo{C:(Ending->World->Prop)->Prop}(hm:∀{R R' : Ending->World->Prop},C R->(∀e w,R e w->R' e w)->C R')(hI:CA w0 g0 h0 h g w){d nn:Nat}(DY:(D4 σ&&DN h d nn&&CI σ d nn)=true){Q:AV->(Nat->HO)->Prop}(hc:CA w (DB σ g) (Ff σ h) (Ff σ h) (DB σ g) w->C (fun e w'=>∃v r h' g',e=Ending.returned v/\Q r h'/\A3 g' w' (AI h') r v/\CA w (DB σ g) (Ff σ h) h' g' w'/\Le (Ff σ h) (DB σ g) w h' g' w')){R:Ending->World->Prop}(bH:∀v r h' g2 w',Q r h'->CA w0 g0 h0 (DS σ d nn h h') g2 w'->Le h g w (DS σ d nn h h') g2 w'->A3 g2 w' (AI (DS σ d nn h h')) (ren (EV σ d nn) h' r) v->R (.returned v) w'):C R:=by
 simp only[Aj]at DY;obtain⟨⟨hσ,zd⟩,vZ⟩:=DY;obtain⟨hF,mi⟩:=V6 hI hσ;have inv:=WB hσ;have ub:=kE hσ vZ;refine hm (hc mi) ?_
 rintro e w' ⟨v,r,h',g',rfl,q1,q2,q3,q4⟩
 have hb:=dq σ d nn h h';have oK:∀i j,src σ d nn i=some j->(Gx σ d nn g g').ρ i=g'.ρ j/\(Gx σ d nn g g').ln i=g'.ln j/\(Gx σ d nn g g').tk i=g'.tk j/\(Gx σ d nn g g').own i=g'.own j:=fun i j e=>by simp[Gx,e]
 have hg3:∀i,src σ d nn i=none->(Gx σ d nn g g').ρ i=g.ρ i/\(Gx σ d nn g g').ln i=g.ln i/\(Gx σ d nn g g').tk i=g.tk i/\(Gx σ d nn g g').own i=g.own i:=fun i e=>by simp[Gx,e]
 have hB:FE (EV σ d nn) h' (DS σ d nn h h') g' (Gx σ d nn g g') w':=by
  refine⟨fun j i hj hu=>?_,fun b o=>Iff.rfl,q3.objs⟩
  grind [AI,Md]
 have tx:∀j,Ff σ h j=match HD σ j with | some i=>(h i).ren (Cn σ) h | none=>.free:=Pa _ _ σ
 have yC:∀j i,Cn σ i=some j->(h i).live->(Ff σ h j).live:=fun j i e hl=>by
  grind [Mc]
 have Abc:∀j i,Cn σ i=some j->(DB σ g).own j=g.own i:=fun j i e=>by grind [DB]
 have mv : ∀j,(Ff σ h j).live->∃i,Cn σ i=some j/\(h i).live/\(DB σ g).own j=g.own i:=fun j hl=>by
  rw[tx]at hl;cases e:HD σ j with
  |none=>rw[e]at hl;exact hl.elim
  |some i=>grind [Mc]
 -- what the callee may not touch
 have Rs:∀b,b<w.heap.size->(∀i,(h i).live->Cn σ i≠none->g.own i≠some b)->w'.heap[b]?=w.heap[b]?:=fun b BW hn=>q3.frame b BW fun j hl e=>by
  grind
 have hSs:∀b o,g'.S b o->b<w.heap.size->(∀i,(h i).live->Cn σ i≠none->g.own i≠some b)->g.S b o:=fun b o hs BW hn=>by
  rcases q3.sg b o hs with h1 | h1 | ⟨j,h1,h2⟩
  .exact h1
  all_goals grind
 have hk:D2 g w (Gx σ d nn g g') w':=q4.keeps;have Ad:∀i,Cn σ i=none->src σ d nn i≠none->h i=.free:=fun i e1 e2=>by
  unfold src at e2;rw[e1]at e2;dsimp only at e2;split at e2
  .rename_i hc;simp only[Aj,N0,FD]at hc
   have:=ON zd (i-BM d 0) (by grind [BM])
   grind [BM]
  simp_all
 have qD:∀i j,Cn σ i=some j->src σ d nn i=some j:=fun i j e=>by grind [src]
 have hgl:JA g (Gx σ d nn g g') (AI h):=fun i hu=>by
  cases e:Cn σ i with
  |some j=>
   obtain⟨k1,k2,k3,k4⟩:=oK i j (qD i j e);obtain⟨f1,f2,f3,f4,f5⟩:=hF.ids i j e hu;obtain⟨m1,m2,m3,m4⟩:=q4.gh j f5<;>simp_all
  |none=>
   have e2:src σ d nn i=none:=BZ.1 fun e2=>hu (Ad i e e2);simp_all
 have LQ:∀i,AI h i->AI (DS σ d nn h h') i:=fun i hu=>by
  grind [AI,Md,src,Le.us,FE.ids]
 have d7:∀i,(DS σ d nn h h' i).live->(∃j,src σ d nn i=some j/\(h' j).live/\(Gx σ d nn g g').own i=g'.own j)\/(src σ d nn i=none/\(h i).live/\(Gx σ d nn g g').own i=g.own i/\Cn σ i=none):=fun i hl=>by
  grind [src,Mc]
 have Ji:∀j b,(h' j).live->g'.own j=some b->b<w'.heap.size/\(w.heap.size<=b\/∃i,Cn σ i≠none/\(h i).live/\g.own i=some b):=fun j b hl e=>by
  grind [CA.loc]
 have rV:∀i b,(h i).live->g.own i=some b->Cn σ i=none->∀i',(h i').live->Cn σ i'≠none->g.own i'≠some b:=fun i b hl e hn i' Pk bS e'=>by
  obtain rfl:=hI.inj i i' b hl Pk e e';simp_all
 refine bH v r h' (Gx σ d nn g g') w' q1 ⟨q3.os.trans hI.os,q3.tape.trans hI.tape,q3.output.trans hI.output,AO hI.size q3.size,fun b BW hn=>?_,q3.slt,fun i=>?_,fun i i' b hl Pk e e'=>?_,fun i b hl e=>?_,fun b o hs=>?_,hI.glob.keep hk⟩ ⟨hgl,LQ,hk⟩ (q2.ren hB)
 .grind [CA.loc,CA.frame]
 .rw[hb];cases e:src σ d nn i with
  |some j=>
   by_cases hu:AI h' j
   .grind [DD.ren,CA.objs]
   .have:h' j=.free:=BZ.1 hu
    dsimp only;rw[this];trivial
  |none=>
   obtain⟨k1,k2,k3,k4⟩:=hg3 i e;have e2:Cn σ i=none:=by
    cases e2:Cn σ i<;>grind [Cn]
   refine(hI.objs i).same hk LQ hgl k1 k2 k3 k4 fun b hl ho=>?_;have BW:=(hI.loc i b hl ho).1;exact⟨Rs b BW (rV i b hl ho e2),fun k hs=>hSs b k hs BW (rV i b hl ho e2)⟩
 .have mixed:∀i j i',(h' j).live->g'.own j=some b->(h i').live->g.own i'=some b->Cn σ i'=none->i=i':=fun i j i' l1 o1 l2 o2 n2=>by
   rcases(Ji j b l1 o1).2 with h1 | ⟨i3,n3,l3,o3⟩
   .have:=(hI.loc i' b l2 o2).1;omega
   grind
  rcases d7 i hl with ⟨j,s1,l1,o1⟩ | ⟨s1,l1,o1,n1⟩<;>rcases d7 i' Pk with ⟨j',s2,l2,o2⟩ | ⟨s2,l2,o2,n2⟩
  .obtain rfl:=q3.inj j j' b l1 l2 Wk Wk;simp_all
  .exact mixed i j i' l1 Wk l2 Wk n2
  .exact(mixed i' j' i l2 Wk l1 Wk n1).symm
  .exact hI.inj i i' b l1 l2 Wk Wk
 .rcases d7 i hl with ⟨j,s1,l1,o1⟩ | ⟨s1,l1,o1,n1⟩
  .obtain⟨h1,h2⟩:=Ji j b l1 Wk;refine⟨h1,?_⟩;rcases h2 with h2 | ⟨i3,n3,l3,o3⟩
   .exact .inl (AO hI.size h2)
   .exact(hI.loc i3 b l3 o3).2
  .obtain⟨h1,h2⟩:=hI.loc i b l1 Wk
   grind
 .rcases q3.sg b o hs with h1 | h1 | ⟨j,h1,h2⟩
  .exact hI.sg b o h1
  .exact .inr (.inl (AO hI.size h1))
  .obtain⟨i,e1,l1,o1⟩:=mv j h1;exact .inr (hI.loc i b l1 (by rw[<-o1];exact h2)).2
theorem gV(hI:CA w0 g0 h0 h g w){d nn:Nat}(DY:(D4 σ&&DN h d nn&&CI σ d nn)=true){f:Nat}{args:List AV}{Q:AV->(Nat->HO)->Prop}(hc:Bd P f args (Ff σ h) Q){vals:Array Value}(hs:vals.size=args.length)(hv:∀(i:Nat) (av:AV) (x:Value),args[i]?=some av->vals[i]?=some x->A3 (DB σ g) w (AI (Ff σ h)) av x){R:Ending->World->Prop}(bH:∀v r h' g2 w',Q r h'->CA w0 g0 h0 (DS σ d nn h h') g2 w'->Le h g w (DS σ d nn h h') g2 w'->A3 g2 w' (AI (DS σ d nn h h')) (ren (EV σ d nn) h' r) v->R (.returned v) w'):Calls P f vals w R:=
 Mo (C:=Calls P f vals w) (fun h k=>h.mono k) hI DY (hc.2 (DB σ g) w vals hs hv) bH
end
end Go.Eng
