/- Lemmas for the claims of this seat, without a condition: part 10 (EngY, EngZ, EngZ1, EngZ2). -/
import Derived.Test.YtpgfieopnnkpfaaGreatDoorNA09
namespace Go.Eng

section
variable {cx:Cx} {op:Op} {dst:Option Nat} {ty:Nat} {pos:String} {after:Array Edge} {gd:Option (Nat × Bool)} {st:St} {R:List Nat} {w:Option Nat} {K:HK}

theorem Framed.toL (h:Framed cx ⟨dst,op,ty,pos,after,gd⟩ st R w K):FramedL cx ⟨dst,op,ty,pos,after,gd⟩ st R w K:=by
 obtain ⟨v,e,h1,h2,h3⟩:=h;cases e with
 | none=>exact ⟨v,[],h1,fun r o' e=>(by cases e),h3⟩
 | some p=>exact ⟨v,[p],h1,fun r o' e=>by
   obtain rfl:=List.mem_singleton.1 e;obtain ⟨a,b⟩:=h2 r o' rfl;exact ⟨by rw [a]; exact .inl rfl,b⟩,h3⟩
theorem frame_call {c:Call} (hk:aop cx true ⟨dst,.call c,ty,pos,after,gd⟩ st K) (hf:foot cx ⟨dst,.call c,ty,pos,after,gd⟩ st=some (R,w)):FramedL cx ⟨dst,.call c,ty,pos,after,gd⟩ st R w K:=by
 obtain ⟨cal,args,tys⟩:=c;have hargs:∀ st2,Alike ⟨dst,.call ⟨cal,args,tys⟩,ty,pos,after,gd⟩ R st st2→args.toList.map (ev st2.t)=args.toList.map (ev st.t):=fun st2 ha =>
  List.map_congr_left fun x hx=>ha.t x (by simp only [Op.operands,Call.operands,Array.mem_append]; exact .inr (by simpa using hx))
 cases cal with
 | invoke r m=>exact hk.elim
 | value f =>
  have hk:callK cx true dst st (ev st.t f) (args.toList.map (ev st.t)) K:=hk;have hf:footCall cx dst (.value f) st.t (args.toList.map (ev st.t))=some (R,w):=hf;unfold footCall at hf;unfold callK at hk;simp only at hf hk;have hn:=hargs;split at hf
  ·rename_i hdc;rw [hdc] at hk;cases hf;obtain ⟨res,h1,h2⟩:=hk;refine Framed.toL ⟨res,none,h2,fun r o' e=>(by cases e),fun st2 ha K' h'=>?_⟩;show callK cx true dst st2 (ev st2.t f) (args.toList.map (ev st2.t)) K';rw [hargs st2 ha,ha.t f (by simp [Op.operands,Call.operands])];unfold callK;simp only [hdc];refine ⟨res,?_,h'⟩;rw [str_same (h:=st.h) (fun r hr=>ha.h r (List.mem_append_left _ hr)),strA_same (h:=st.h) (fun r hr=>ha.h r (List.mem_append_right _ hr))];exact h1
  ·rename_i hdc;rw [hdc] at hk;simp only at hk;cases dst with
   | none=>exact hk.elim
   | some d =>
    obtain ⟨n,sz,es,h1,h2,h3⟩:=hk;have hf:some (newId d 0 :: (idl (ev st.t f)++idlA (args.toList.map (ev st.t))),some (newId d 0))=some (R,w):=hf;cases hf;refine Framed.toL ⟨_,some (newId d 0,_),h3,fun r o' e=>(by cases e; exact ⟨rfl,List.mem_cons_self ..⟩),fun st2 ha K' h'=>?_⟩;show callK cx true (some d) st2 (ev st2.t f) (args.toList.map (ev st2.t)) K';rw [hargs st2 ha,ha.t f (by simp [Op.operands,Call.operands])];unfold callK;simp only [hdc];refine ⟨n,sz,es,?_,?_,h'⟩
    ·have:newFree st2.h d 1=newFree st.h d 1:=by simp only [newFree,ha.h (newId d 0) (List.mem_cons_self ..)]
     rw [this]; exact h1
    ·rw [str_same (h:=st.h) (fun r hr=>ha.h r (List.mem_cons_of_mem _ (List.mem_append_left _ hr))),strA_same (h:=st.h) (fun r hr=>ha.h r (List.mem_cons_of_mem _ (List.mem_append_right _ hr)))];exact h2
  ·rename_i hdc;rw [hdc] at hk;have hk:turnK cx 0 dst st.h (ev st.t f) (args.toList.map (ev st.t)) K:=hk;split at hf
   ·rename_i r n l hl;cases hf;have hk2:=hk;unfold turnK at hk2;rw [hl] at hk2;split at hk2
    ·rename_i d0 f0 r0 n0 l0 e1 e2 z1 z2;cases e2;split at hk2
     ·rename_i vs hvs;split at hk2
      ·rename_i sz es hr;obtain ⟨n',es',h1,h2⟩:=hk2;refine Framed.toL ⟨_,some (r,_),h2,fun r o' e=>(by cases e; exact ⟨rfl,List.mem_cons_self ..⟩),fun st2 ha K' h'=>?_⟩;show callK cx true _ st2 (ev st2.t f) (args.toList.map (ev st2.t)) K';rw [hargs st2 ha,ha.t f (by simp [Op.operands,Call.operands]),hl,e1];unfold callK;simp only [hdc];unfold turnK;simp only [hvs,ha.h r (List.mem_cons_self ..),hr];exact ⟨n',es',h1,h'⟩
      ·exact hk2.elim
     ·exact hk2.elim
    ·exact hk2.elim
   ·cases hf
  ·rename_i k hdc;rw [hdc] at hk;cases hb:Nat.beq k 1 with
   | true =>
    have hb2:Nat.beq (k+1) 2=true:=hb;have hk:tokenK cx dst st (ev st.t f) (args.toList.map (ev st.t)) K:=by
     have hk2:(match Nat.beq (k+1) 2 with | true=>tokenK cx dst st (ev st.t f) (args.toList.map (ev st.t)) K | false=>match Nat.beq (k+1) 3 with | true=>yieldK cx dst st (ev st.t f) (args.toList.map (ev st.t)) K | false=>turnK cx (k+1) dst st.h (ev st.t f) (args.toList.map (ev st.t)) K):=hk;rw [hb2] at hk2; exact hk2
    rw [hb] at hf;cases dst with
    | none=>exact hk.elim
    | some d =>
     obtain ⟨sz,es,h1,h2,h3⟩:=hk;have hf:some (newId d 0 :: (idl (ev st.t f)++idlA (args.toList.map (ev st.t))),some (newId d 0))=some (R,w):=hf;cases hf;refine Framed.toL ⟨_,some (newId d 0,_),h3,fun r o' e=>(by cases e; exact ⟨rfl,List.mem_cons_self ..⟩),fun st2 ha K' h'=>?_⟩;show callK cx true (some d) st2 (ev st2.t f) (args.toList.map (ev st2.t)) K';rw [hargs st2 ha,ha.t f (by simp [Op.operands,Call.operands])];unfold callK;simp only [hdc,hb2];refine ⟨sz,es,?_,?_,h'⟩
     ·have:newFree st2.h d 1=newFree st.h d 1:=by simp only [newFree,ha.h (newId d 0) (List.mem_cons_self ..)]
      rw [this]; exact h1
     ·rw [str_same (h:=st.h) (fun r hr=>ha.h r (List.mem_cons_of_mem _ (List.mem_append_left _ hr))),strA_same (h:=st.h) (fun r hr=>ha.h r (List.mem_cons_of_mem _ (List.mem_append_right _ hr)))];exact h2
   | false =>
    have hb2:Nat.beq (k+1) 2=false:=hb;rw [hb] at hf;have hk2:(match Nat.beq (k+1) 2 with | true=>tokenK cx dst st (ev st.t f) (args.toList.map (ev st.t)) K | false=>match Nat.beq (k+1) 3 with | true=>yieldK cx dst st (ev st.t f) (args.toList.map (ev st.t)) K | false=>turnK cx (k+1) dst st.h (ev st.t f) (args.toList.map (ev st.t)) K):=hk;rw [hb2] at hk2;cases hc:Nat.beq k 2 with
    | true =>
     have hc2:Nat.beq (k+1) 3=true:=hc;rw [hc] at hf;simp only [hc2] at hk2;have hf:footY (args.toList.map (ev st.t))=some (R,w):=hf;unfold footY at hf;unfold yieldK at hk2;split at hf
     ·rename_i vs hvs;cases hf;split at hk2
      ·rename_i l vs' e1 e2 z1 z2;rw [hvs] at e2; cases e2;split at hk2
       ·rename_i r sz es sz2 n e3 e4;obtain ⟨⟨rfl,rfl⟩,v,es',n',h1,h2⟩:=hk2;refine ⟨_,[(1001,_),(1000,_)],h2,fun r' o' e=>?_,fun st2 ha K' h'=>?_⟩
        ·rcases List.mem_cons.1 e with e | e
         ·cases e
          exact ⟨.inr ⟨by decide,.inr (by decide)⟩,by simp⟩
         ·obtain e:=List.mem_singleton.1 e;cases e;exact ⟨.inr ⟨by decide,.inl (by decide)⟩,by simp⟩
        show callK cx true _ st2 (ev st2.t f) (args.toList.map (ev st2.t)) K';rw [hargs st2 ha,ha.t f (by simp [Op.operands,Call.operands]),e1];unfold callK;simp only [hdc,hb2,hc2];unfold yieldK;simp only [hvs,ha.h 1000 (by simp),ha.h 1001 (by simp),e3,e4];exact ⟨⟨trivial,trivial⟩,v,es',n',h1,h'⟩
       ·exact hk2.elim
      ·exact hk2.elim
     ·cases hf
    | false =>
    have hc2:Nat.beq (k+1) 3=false:=hc;rw [hc] at hf;have hk:turnK cx (k+1) dst st.h (ev st.t f) (args.toList.map (ev st.t)) K:=by
     simp only [hc2] at hk2; exact hk2
    obtain ⟨d,r,n,l,rfl,hl,e0⟩:=foot2_spec hf;cases e0;unfold turnK at hk;rw [hl] at hk;split at hk
    ·rename_i d0 f0 r0 n0 l0 e9 e1 e2;cases e9;cases e2;split at hk
     ·rename_i vs hvs;split at hk
      ·rename_i sz es hr;obtain ⟨n',es',h0,h1,h2⟩:=hk;have h00:=h0;simp only [Bool.and_eq_true,Nat.blt_eq] at h00;refine ⟨_,[(r,.dead),(newId d 0,_)],h2,fun r' o' e=>?_,fun st2 ha K' h'=>?_⟩
       ·rcases List.mem_cons.1 e with e | e
        ·cases e
         refine ⟨.inr ⟨by unfold newId; omega,.inl ?_⟩,List.mem_cons_self ..⟩;rw [Nat.add_mul_mod_self_left,Nat.mod_eq_of_lt h00.1.2]
        ·obtain e:=List.mem_singleton.1 e;cases e;refine ⟨.inr ⟨by unfold newId; omega,.inr ?_⟩,List.mem_cons_of_mem _ (List.mem_cons_self ..)⟩;rw [Nat.add_mul_div_left _ _ (by decide),Nat.div_eq_of_lt h00.1.2,Nat.zero_add]
       show callK cx true _ st2 (ev st2.t f) (args.toList.map (ev st2.t)) K';rw [hargs st2 ha,ha.t f (by simp [Op.operands,Call.operands]),hl,e1];unfold callK;simp only [hdc,hb2,hc2];unfold turnK;simp only [hvs,ha.h r (List.mem_cons_self ..),hr]
       have:newFree st2.h d 1=newFree st.h d 1:=by simp only [newFree,ha.h (newId d 0) (List.mem_cons_of_mem _ (List.mem_cons_self ..))]
       exact ⟨n',es',by rw [this]; exact h0,h1,h'⟩
      ·exact hk.elim
     ·exact hk.elim
    ·exact hk.elim
 | builtin b =>
  refine Framed.toL ?_;have mm:∀ f:Int→Int→Int,(∀ (d:Option Nat) (h:Nat→HO) (tys:List Nat) (args:List AV) (K:HK),builtinK cx d h b tys args K=(match args with | [x,y]=>mmK f x y fun v=>K v h | _=>False))→R=[]∧w=none→Framed cx ⟨dst,.call ⟨.builtin b,args,tys⟩,ty,pos,after,gd⟩ st R w K:=by
   rintro f hb ⟨rfl,rfl⟩
   have hk:builtinK cx dst st.h b tys.toList (args.toList.map (ev st.t)) K:=hk;rw [hb] at hk;split at hk
   ·rename_i x y e;refine .pick (pick_mm f x y) hk fun st2 ha K' h=>?_;show builtinK cx dst st2.h b tys.toList (args.toList.map (ev st2.t)) K';rw [hb,hargs st2 ha,e];exact h
   ·exact hk.elim
  cases b
  case max=>exact mm max (fun d h tys args K=>by cases args with | nil=>rfl | cons x l=>cases l with | nil=>rfl | cons y l=>cases l <;> rfl) (by
   have hf:footCall cx dst (.builtin .max) st.t (args.toList.map (ev st.t))=some (R,w):=hf;simp only [footCall] at hf; cases hf; exact ⟨rfl,rfl⟩)
  case min=>exact mm min (fun d h tys args K=>by cases args with | nil=>rfl | cons x l=>cases l with | nil=>rfl | cons y l=>cases l <;> rfl) (by
   have hf:footCall cx dst (.builtin .min) st.t (args.toList.map (ev st.t))=some (R,w):=hf;simp only [footCall] at hf; cases hf; exact ⟨rfl,rfl⟩)
  case append =>
   obtain ⟨l⟩:=args
   match l,hk,hf with
   | [s,x],hk,hf=>exact frame_append hk hf
   | [],hk,hf=>cases tys; exact hk.elim
   | [_],hk,hf=>exact hk.elim
   | _ :: _ :: _ :: _,hk,hf=>exact hk.elim
  case len =>
   obtain ⟨l⟩:=args
   match l,hk,hf with
   | [x],hk,hf=>exact frame_len hk hf
   | [],hk,hf=>exact hk.elim
   | _ :: _ :: _,hk,hf=>exact hk.elim
  all_goals exact hk.elim
theorem aop_frame1 {o:Oper} (hc:∀ c,o.op≠.call c) (hk:aop cx true o st K) (hf:foot cx o st=some (R,w)):Framed cx o st R w K:=by
 obtain ⟨dst,op,ty,pos,after,gd⟩:=o;cases op with
 | call c=>exact absurd rfl (hc c)
 | alloc e=>exact frame_alloc hk hf
 | box e x=>exact frame_box hk hf
 | buildSlice t n ps=>exact frame_buildSlice hk hf
 | makeSlice t n c=>exact frame_makeSlice hk hf
 | makeMap t r=>exact frame_makeMap hk hf
 | store t p x=>exact frame_store hk hf
 | mapUpdate t m k x=>exact frame_mapUpdate hk hf
 | makeFunc fn first cap=>exact frame_makeFunc hk hf
 | load t p=>exact frame_load hk hf
 | assign x=>exact frame_assign hk hf
 | slice t x lo hi mx=>exact frame_slice hk hf
 | lookup t x i ok=>exact frame_lookup hk hf
 | move x =>
  cases hf
  exact .pick (pick_id _) hk fun st2 ha K' h=>by simp only [aop,ha.t x (by simp [Op.operands])]; exact h
 | pick c a b =>
  cases hf
  exact .pick (pick_pick _ _ _) hk fun st2 ha K' h=>by simp only [aop,ha.t c (by simp [Op.operands]),ha.t a (by simp [Op.operands]),ha.t b (by simp [Op.operands])]; exact h
 | nilCheck x =>
  cases hf
  exact .pick (pick_nil _) hk fun st2 ha K' h=>by simp only [aop,ha.t x (by simp [Op.operands])]; exact h
 | binOp op t x y u =>
  simp only [foot] at hf;split at hf
  ·cases hf
  ·rename_i hx;cases hf;exact .pick (pick_bin2 _ _ _ _ _ _ hx) hk fun st2 ha K' h=>by simp only [aop,ha.t x (by simp [Op.operands]),ha.t y (by simp [Op.operands])]; exact h
 | unOp op t x =>
  cases hf
  exact .pick (pick_unop _ _) hk fun st2 ha K' h=>by simp only [aop,ha.t x (by simp [Op.operands])]; exact h
 | convert s t x =>
  cases hf
  exact .pick (pick_conv _ _ _ _) hk fun st2 ha K' h=>by simp only [aop,ha.t x (by simp [Op.operands])]; exact h
 | fieldAddr s x f =>
  cases hf
  exact .pick (pick_field _ _ _ _) hk fun st2 ha K' h=>by simp only [aop,ha.t x (by simp [Op.operands])]; exact h
 | field s x f =>
  cases hf
  exact .pick (pick_fieldV _ _ _ _) hk fun st2 ha K' h=>by simp only [aop,ha.t x (by simp [Op.operands])]; exact h
 | indexAddr t x i =>
  cases hf
  exact .pick (pick_indexAddr _ _ _ _) hk fun st2 ha K' h=>by simp only [aop,ha.t x (by simp [Op.operands]),ha.t i (by simp [Op.operands])]; exact h
 | index t x i =>
  cases hf
  exact .pick (pick_index _ _ _ _) hk fun st2 ha K' h=>by simp only [aop,ha.t x (by simp [Op.operands]),ha.t i (by simp [Op.operands])]; exact h
 | extract x i =>
  cases hf
  exact .pick (pick_extract _ _) hk fun st2 ha K' h=>by simp only [aop,ha.t x (by simp [Op.operands])]; exact h
 | build t ps =>
  cases hf
  refine .pick (pick_build _ _ _ _) hk fun st2 ha K' h=>?_;have hx:∀ p ∈ ps.toList,ev st2.t p.2=ev st.t p.2:=fun p hp=>ha.t p.2 (by
   simp only [Op.operands,List.mem_toArray];exact List.mem_map.2 ⟨p,hp,rfl⟩)
  simp only [aop];have fill:∀ (pl:Nat→Option (Nat × Nat)) (l:List (Nat × Operand)) (cs:List AV) (K:List AV→Prop),(∀ p ∈ l,ev st2.t p.2=ev st.t p.2)→fillK pl cs st2.t l K=fillK pl cs st.t l K:=by
   intro pl l
   induction l with
   | nil=>intro cs K _; rfl
   | cons p l ih =>
    intro cs K hp;obtain ⟨i,x⟩:=p;have h1:ev st2.t x=ev st.t x:=hp (i,x) (List.mem_cons_self ..);have h2:∀ cs,fillK pl cs st2.t l K=fillK pl cs st.t l K:=fun cs=>ih cs K (fun p hp'=>hp p (List.mem_cons_of_mem _ hp'));simp only [fillK,h1,h2]
  unfold buildK at h ⊢;simp only [fill _ _ _ _ hx];exact h
 | _=>cases hf
theorem aop_frame {o:Oper} (hk:aop cx true o st K) (hf:foot cx o st=some (R,w)):FramedL cx o st R w K:=by
 obtain ⟨dst,op,ty,pos,after,gd⟩:=o
 by_cases h:∃ c,op=.call c
 ·obtain ⟨c,rfl⟩:=h;exact frame_call hk hf
 ·exact Framed.toL (aop_frame1 (fun c e=>h ⟨c,e⟩) hk hf)
end
end Go.Eng

namespace Go.Eng

theorem foot_same {cx:Cx} {o:Oper} {st st2:St} (h:∀ x ∈ o.op.operands,ev st2.t x=ev st.t x):foot cx o st2=foot cx o st:=by
 obtain ⟨dst,op,ty,pos,after,gd⟩:=o;cases op with
 | call c =>
  obtain ⟨cal,args,tys⟩:=c;have ha:args.toList.map (ev st2.t)=args.toList.map (ev st.t):=List.map_congr_left fun x hx=>h x (by simp only [Op.operands,Call.operands,Array.mem_append]; exact .inr (by simpa using hx));simp only [foot];rw [ha];cases cal with
  | value f =>
   have hf:ev st2.t f=ev st.t f:=h f (by simp [Op.operands,Call.operands]);simp only [footCall,hf]
  | builtin b =>
   generalize args.toList.map (ev st.t)=l
   match l with
   | []=>cases b <;> rfl
   | [x]=>cases b <;> cases x <;> rfl
   | [x,y]=>cases b <;> cases x <;> rfl
   | x :: _ :: _ :: _=>cases b <;> cases x <;> rfl
  | invoke r m=>rfl
 | box e x=>simp only [foot,h x (by simp [Op.operands])]
 | buildSlice t n ps =>
  have hx:ps.toList.map (fun p=>ev st2.t p.2)=ps.toList.map (fun p=>ev st.t p.2):=List.map_congr_left fun p hp=>h p.2 (by
   simp only [Op.operands,List.mem_toArray];exact List.mem_map.2 ⟨p,hp,rfl⟩)
  simp only [foot,hx]
 | store t p x=>simp only [foot,h p (by simp [Op.operands]),h x (by simp [Op.operands])]
 | mapUpdate t m k x=>simp only [foot,h m (by simp [Op.operands]),h x (by simp [Op.operands])]
 | makeFunc fn first cap =>
  have hx:cap.toList.map (ev st2.t)=cap.toList.map (ev st.t):=List.map_congr_left fun x hx=>h x (by simp only [Op.operands,Array.mem_append]; exact .inr (by simpa using hx));simp only [foot,hx]
 | load t p=>simp only [foot,h p (by simp [Op.operands])]
 | assign x=>simp only [foot,h x (by simp [Op.operands])]
 | binOp op t x y u=>simp only [foot,h x (by simp [Op.operands])]
 | slice t x lo hi mx=>simp only [foot,h x (by simp [Op.operands])]
 | lookup t x i ok=>simp only [foot,h x (by simp [Op.operands])]
 | _=>rfl

def Looks (ops:Array Oper) (o:Oper) (st st2:St):Prop:=∀ d ∈ o.looksAt ops,st2.t d=st.t d
theorem Looks.operands {ops:Array Oper} {o:Oper} {st st2:St} (h:Looks ops o st st2):∀ x ∈ o.op.operands,ev st2.t x=ev st.t x:=fun x hx=>by
 cases x with
 | tmp t=>exact h t (List.mem_append_left _ (List.mem_filterMap.2 ⟨.tmp t,by simpa using hx,rfl⟩))
 | _=>rfl
theorem nthDst_eq (ops:Array Oper) (j:Nat):nthDst ops.toList j=(ops[j]?).bind (·.dst):=by
 have:∀ (l:List Oper) (j:Nat),nthDst l j=(l[j]?).bind (·.dst):=by
  intro l
  induction l with
  | nil=>intro j; simp [nthDst]
  | cons o l ih =>
   intro j;cases j with
   | zero=>simp [nthDst]
   | succ j=>simp [nthDst,ih]
 rw [this]; simp
theorem Looks.guard {ops:Array Oper} {o:Oper} {st st2:St} (h:Looks ops o st st2) {j:Nat} {b:Bool} (hg:o.guard=some (j,b)) {d:Nat} (hd:nthDst ops.toList j=some d):st2.t d=st.t d :=
 h d (List.mem_append_right _ (by rw [hg]; simp only; rw [← nthDst_eq,hd]; simp))

def St.after (st:St) (o:Oper) (v:AV) (e:List (Nat × HO)):St:=st.put o.dst v (effL st.h e)

def Yields (cx:Cx) (ops:Array Oper) (o:Oper) (st:St) (f:Foot) (v:AV) (e:List (Nat × HO)):Prop :=
 (∀ r o',(r,o') ∈ e→Covers f.2 r∧r ∈ f.1)∧∀ st2,Looks ops o st st2→(∀ r ∈ f.1,st2.h r=st.h r)→∀ K:St→Prop,K (st2.after o v e)→aoper cx true ops.toList o st2 K

theorem footO_same {cx:Cx} {ops:Array Oper} {o:Oper} {st st2:St} (h:Looks ops o st st2):footO cx ops.toList o st2=footO cx ops.toList o st:=by
 unfold footO;split
 ·exact foot_same h.operands
 ·rename_i j want hg;split
  ·rfl
  ·rename_i d hd;simp only [h.guard hg hd];split <;> first | exact foot_same h.operands | rfl

theorem aoper_yields {cx:Cx} {ops:Array Oper} {o:Oper} {st:St} {f:Foot} {K:St→Prop} (hk:aoper cx true ops.toList o st K) (hf:footO cx ops.toList o st=some f) :
  ∃ v e,Yields cx ops o st f v e∧K (st.after o v e):=by
 obtain ⟨R,w⟩:=f;have skip:R=[]∧w=none→K (st.put o.dst (.v undef) st.h)→(∀ st2,Looks ops o st st2→∀ K:St→Prop,K (st2.put o.dst (.v undef) st2.h)→aoper cx true ops.toList o st2 K)→∃ v e,Yields cx ops o st (R,w) v e∧K (st.after o v e):=by
  rintro ⟨rfl,rfl⟩ h1 h2
  exact ⟨.v undef,[],⟨fun r o' e=>(by cases e),fun st2 hl _ K h=>h2 st2 hl K h⟩,h1⟩
 have run:foot cx o st=some (R,w)→aop cx true o st (fun v h=>K (st.put o.dst v h))→(∀ st2,Looks ops o st st2→∀ K:St→Prop,aop cx true o st2 (fun v h=>K (st2.put o.dst v h))→aoper cx true ops.toList o st2 K)→∃ v e,Yields cx ops o st (R,w) v e∧K (st.after o v e):=by
  intro hf hk h2;obtain ⟨v,e,q1,q2,q3⟩:=aop_frame hk hf;exact ⟨v,e,⟨q2,fun st2 hl hh K h=>h2 st2 hl K (q3 st2 ⟨hl.operands,hh⟩ _ h)⟩,q1⟩
 unfold aoper at hk;unfold footO at hf;cases hg:o.guard with
 | none =>
  rw [hg] at hk hf;exact run hf hk (fun st2 hl K h=>by unfold aoper; rw [hg]; exact h)
 | some p =>
  obtain ⟨j,want⟩:=p;rw [hg] at hk hf;simp only at hk hf;cases hd:nthDst ops.toList j with
  | none=>rw [hd] at hk; exact hk.elim
  | some d =>
   rw [hd] at hk hf;simp only at hk hf;have he:∀ st2,Looks ops o st st2→st2.t d=st.t d:=fun st2 hl=>hl.guard hg hd;generalize hx:st.t d=x at hk hf he;split at hk
   ·exact run hf hk (fun st2 hl K h=>by unfold aoper; simp only [hg,hd,he st2 hl]; exact h)
   ·exact run hf hk (fun st2 hl K h=>by unfold aoper; simp only [hg,hd,he st2 hl]; exact h)
   ·exact skip (by cases hf; exact ⟨rfl,rfl⟩) hk (fun st2 hl K h=>by unfold aoper; simp only [hg,hd,he st2 hl]; exact h)
   ·exact skip (by cases hf; exact ⟨rfl,rfl⟩) hk (fun st2 hl K h=>by unfold aoper; simp only [hg,hd,he st2 hl]; exact h)
   ·exact skip (by cases hf; exact ⟨rfl,rfl⟩) hk (fun st2 hl K h=>by unfold aoper; simp only [hg,hd,he st2 hl]; exact h)
   ·exact hk.elim

def aAt (cx:Cx) (ops:Array Oper) (FT:Nat→Foot) (i:Nat) (K:St→Prop) (st:St):Prop :=
 match ops[i]? with
 | none=>K st
 | some o=>footO cx ops.toList o st=some (FT i)∧aoper cx true ops.toList o st K
def aAny (cx:Cx) (ops:Array Oper) (FT:Nat→Foot) (K:St→Prop):Nat→Array Bool→St→Prop
 | 0,listed,st=>Region.ready .any ops listed=[]∧K st
 | fuel+1,listed,st =>
  (Region.ready .any ops listed=[]→K st)∧∀ i ∈ Region.ready .any ops listed,aAt cx ops FT i (aAny cx ops FT K fuel (listed.setIfInBounds i true)) st

theorem tput_comm (t:Nat→AV) {d d' : Nat} (h:d'≠d) (v v' : AV):tput (tput t d v) d' v'=tput (tput t d' v') d v:=by
 funext i
 unfold tput
 by_cases h1:i=d <;> by_cases h2:i=d'
 ·exact absurd (h2.symm.trans h1) h
 ·subst h1; simp [beq_ne h2]
 ·subst h2; simp [beq_ne h1]
 ·simp [beq_ne h1,beq_ne h2]
theorem hput_comm (t:Nat→HO) {d d' : Nat} (h:d'≠d) (v v' : HO):hput (hput t d v) d' v'=hput (hput t d' v') d v:=by
 funext i
 unfold hput
 by_cases h1:i=d <;> by_cases h2:i=d'
 ·exact absurd (h2.symm.trans h1) h
 ·subst h1; simp [beq_ne h2]
 ·subst h2; simp [beq_ne h1]
 ·simp [beq_ne h1,beq_ne h2]
theorem memB_mem {l:List Nat} {n:Nat} (h:n ∈ l):memB l n=true:=by
 induction l with
 | nil=>cases h
 | cons a l ih =>
  unfold memB
  by_cases e:a=n
  ·subst e; simp
  ·rw [beq_ne e]; exact ih ((List.mem_cons.1 h).resolve_left (fun q=>e q.symm))
theorem mem_memB {l:List Nat} {n:Nat} (h:memB l n=true):n ∈ l:=by
 induction l with
 | nil=>cases h
 | cons a l ih =>
  unfold memB at h
  by_cases e:a=n
  ·exact e▸List.mem_cons_self ..
  ·rw [beq_ne e] at h; exact List.mem_cons_of_mem _ (ih h)
theorem off_spec {l:List Nat} {x:Nat} (h:offB l x=true):∀ r,Covers (some x) r→r ∉ l:=by
 intro r hc hr;simp only [offB,Bool.and_eq_true,Bool.or_eq_true,Bool.not_eq_true',Nat.blt_eq] at h;rcases hc with rfl | ⟨h1,h2⟩
 ·rw [memB_mem hr] at h; cases h.1
 ·rcases h.2 with h3 | h3
  ·omega
  ·rcases h2 with rfl | rfl
   ·rw [memB_mem hr] at h3; cases h3.1
   ·rw [memB_mem hr] at h3; cases h3.2
theorem disj_spec {a b:Foot} (h:disjB a b=true):(∀ r,Covers a.2 r→r ∉ b.1)∧∀ r,Covers b.2 r→r ∉ a.1:=by
 obtain ⟨a1,a2⟩:=a;obtain ⟨b1,b2⟩:=b;simp only [disjB,Bool.and_eq_true] at h;refine ⟨fun r e=>?_,fun r e=>?_⟩
 ·cases a2 with
  | none=>exact e.elim
  | some x=>exact off_spec h.1 r e
 ·cases b2 with
  | none=>exact e.elim
  | some x=>exact off_spec h.2 r e

section
variable {cx:Cx} {ops:Array Oper} {FT:Nat→Foot}
theorem looks_after {oi oj:Oper} (h:∀ d,oi.dst=some d→d ∉ oj.looksAt ops) (st:St) (v:AV) (e:List (Nat × HO)):Looks ops oj st (st.after oi v e):=by
 intro d hd;cases hdst:oi.dst with
 | none=>simp [St.after,St.put,hdst]
 | some d' =>
  have:d≠d':=fun q=>h d' hdst (q▸hd)
  simp [St.after,St.put,hdst,tput,beq_ne this]
theorem Looks.symm {o:Oper} {st st2:St} (h:Looks ops o st st2):Looks ops o st2 st:=fun d hd=>(h d hd).symm
theorem h_after {o:Oper} {st:St} {v:AV} {e:List (Nat × HO)} : (st.after o v e).h=effL st.h e:=by
 unfold St.after St.put; cases o.dst <;> rfl
theorem eff_other {r:Nat} : ∀ {e:List (Nat × HO)} {h:Nat→HO},(∀ o',(r,o') ∉ e)→effL h e r=h r
 | [],_,_=>rfl
 | p :: e,h,hr=>by
  have:r≠p.1:=fun q=>hr p.2 (by rw [q]; exact List.mem_cons_self ..)
  show effL (hput h p.1 p.2) e r=h r;rw [eff_other fun o' ho=>hr o' (List.mem_cons_of_mem _ ho),hput_ne _ _ _ _ this]
theorem effL_put {r:Nat} {o:HO} : ∀ {e:List (Nat × HO)} {h:Nat→HO},(∀ r' o',(r',o') ∈ e→r'≠r)→effL (hput h r o) e=hput (effL h e) r o
 | [],_,_=>rfl
 | p :: e,h,hr=>by
  show effL (hput (hput h r o) p.1 p.2) e=hput (effL (hput h p.1 p.2) e) r o;rw [hput_comm h (hr p.1 p.2 (List.mem_cons_self ..)),effL_put fun r' o' ho=>hr r' o' (List.mem_cons_of_mem _ ho)]
theorem effL_comm:∀ {e e' : List (Nat × HO)} {h:Nat→HO},(∀ r o r' o',(r,o) ∈ e→(r',o') ∈ e'→r'≠r)→effL (effL h e) e'=effL (effL h e') e
 | [],_,_,_=>rfl
 | p :: e,e',h,hd=>by
  show effL (effL (hput h p.1 p.2) e) e'=effL (hput (effL h e') p.1 p.2) e;rw [← effL_put fun r' o' ho=>hd p.1 p.2 r' o' (List.mem_cons_self ..) ho,effL_comm fun r o r' o' h1 h2=>hd r o r' o' (List.mem_cons_of_mem _ h1) h2]
theorem after_comm {oi oj:Oper} {st:St} {v v' : AV} {e e' : List (Nat × HO)} (h1:∀ d,oi.dst=some d→oj.dst≠some d) (h2:∀ r o r' o',(r,o) ∈ e→(r',o') ∈ e'→r'≠r) :
  (st.after oi v e).after oj v' e'=(st.after oj v' e').after oi v e:=by
 have hh:effL (effL st.h e) e'=effL (effL st.h e') e:=effL_comm h2;have key:∀ o:Oper,∀ v e,∀ st:St,st.after o v e=⟨match o.dst with | none=>st.t | some d=>tput st.t d v,effL st.h e⟩:=fun o v e st=>by
  unfold St.after St.put; cases o.dst <;> rfl
 rw [key,key,key,key];simp only [hh];cases hi:oi.dst with
 | none=>rfl
 | some d =>
  cases hj:oj.dst with
  | none=>rfl
  | some d' =>
   have hne:d'≠d:=fun q=>h1 d hi (by rw [hj,q]);simp only [tput_comm st.t hne v v']


theorem aAny_first {K:St→Prop} {i:Nat} {oi:Oper} {v:AV} {e:List (Nat × HO)} (hi:ops[i]?=some oi) (D:Nat→Prop)
  (hD:∀ j,D j→∃ oj,ops[j]?=some oj∧∃ ed ∈ oj.after,Region.binds .any ed=true∧(ed.on=i∨D ed.on)) :
  ∀ (fuel:Nat) (listed:Array Bool) (st:St),
   (∀ j oj,ops[j]?=some oj→j≠i→listed.getD j true=false→¬ D j→oi.apart ops oj=true∧disjB (FT i) (FT j)=true) →
   i ∈ Region.ready .any ops listed→(∀ j,D j→listed.getD j true=false)→footO cx ops.toList oi st=some (FT i)→Yields cx ops oi st (FT i) v e →
   aAny cx ops FT K fuel (listed.setIfInBounds i true) (st.after oi v e)→aAny cx ops FT K (fuel+1) listed st:=by
 have here:∀ (fuel:Nat) (listed:Array Bool) (st:St),footO cx ops.toList oi st=some (FT i)→Yields cx ops oi st (FT i) v e →
   aAny cx ops FT K fuel (listed.setIfInBounds i true) (st.after oi v e)→aAt cx ops FT i (aAny cx ops FT K fuel (listed.setIfInBounds i true)) st:=by
  intro fuel listed st hf hy H;unfold aAt;rw [hi];exact ⟨hf,hy.2 st (fun _ _=>rfl) (fun _ _=>rfl) _ H⟩
 intro fuel
 induction fuel with
 | zero =>
  intro listed st _ hr _ hf hy H;refine ⟨fun h=>(by rw [h] at hr; cases hr),fun j hj=>?_⟩
  by_cases hji:j=i
  ·subst hji; exact here 0 listed st hf hy H
  ·have:=ready_mono hj hji
   rw [H.1] at this;cases this
 | succ fuel ih =>
  intro listed st hfree hr hDl hf hy H;refine ⟨fun h=>(by rw [h] at hr; cases hr),fun j hj=>?_⟩
  by_cases hji:j=i
  ·subst hji; exact here (fuel+1) listed st hf hy H
  ·have h1:=H.2 j (ready_mono hj hji);obtain ⟨hjun,oj,hoj,hall⟩:=mem_ready.1 hj;have getd:∀ k,listed.getD k true=false→listed.getD k false=true→False:=fun k h0 h1=>by
    rcases Nat.lt_or_ge k listed.size with h' | h'
    ·simp [h'] at h0 h1; rw [h0] at h1; cases h1
    ·simp [Array.getElem?_eq_none h'] at h1
   have hnD:¬ D j:=fun hdj=>by
    obtain ⟨oj',ho',ed,he,hb,hon⟩:=hD j hdj;rw [hoj] at ho'; cases ho';have hl:=hall ed he hb;rcases hon with h2 | h2
    ·exact getd _ (by rw [h2]; exact (mem_ready.1 hr).1) hl
    ·exact getd _ (hDl _ h2) hl
   obtain ⟨hap,hdj⟩:=hfree j oj hoj hji hjun hnD;obtain ⟨a1,a2,a3⟩:=Oper.apart_spec hap;obtain ⟨d1,d2⟩:=disj_spec hdj;unfold aAt at h1 ⊢;rw [hoj] at h1 ⊢;obtain ⟨hfj,hkj⟩:=h1;have hlj:=looks_after (ops:=ops) a1 st v e;obtain ⟨vj,ej,hyj,hK⟩:=aoper_yields hkj hfj;have he1:∀ r o',(r,o') ∈ e→r ∉ (FT j).1:=fun r o' q=>d1 r (hy.1 r o' q).1;have he2:∀ r o',(r,o') ∈ ej→r ∉ (FT i).1:=fun r o' q=>d2 r (hyj.1 r o' q).1;refine ⟨by rw [← footO_same hlj]; exact hfj,hyj.2 st hlj.symm (fun r hr'=>?_) _ ?_⟩
   ·rw [h_after,eff_other (fun o' q=>he1 r o' q hr')]
   ·have hli:=looks_after (ops:=ops) a3 st vj ej;refine ih (listed.setIfInBounds j true) (st.after oj vj ej) (fun k ok hk hki hun hno=>?_) (ready_mono hr (Ne.symm hji)) (fun k hk=>?_) (by rw [footO_same hli]; exact hf) ⟨hy.1,fun st2 hl hh K' h'=>?_⟩ ?_
    ·by_cases hjk:j=k
     ·subst hjk; exact hfree _ ok hk hki hjun hno
     ·rw [getD_set_ne true hjk] at hun; exact hfree k ok hk hki hun hno
    ·by_cases hjk:j=k
     ·subst hjk; exact absurd hk hnD
     ·rw [getD_set_ne true hjk]; exact hDl k hk
    ·refine hy.2 st2 (fun d hd=>(hl d hd).trans (hli d hd)) (fun r hr'=>?_) K' h';rw [hh r hr',h_after,eff_other (fun o' q=>he2 r o' q hr')]
    ·rw [Array.setIfInBounds_comm _ _ (Ne.symm hji)] at hK;rw [← after_comm a2 (fun r o r' o' q q' e2=>he2 r' o' q' (by rw [e2]; exact (hy.1 r o q).2))];exact hK

def Path (cx:Cx) (ops:Array Oper) (K:St→Prop):List Oper→List Foot→St→Prop
 | [],[],st=>K st
 | o :: r,f :: fs,st=>footO cx ops.toList o st=some f∧∃ v e,Yields cx ops o st f v e∧Path cx ops K r fs (st.after o v e)
 | _,_,_=>False
theorem adraw_path {K:St→Prop} : ∀ (l:List Oper) (acc:List Foot) (st:St),adraw cx ops l acc st K→∃ fs,drawOk ops (acc.reverse++fs)=true∧Path cx ops K l fs st
 | [],acc,st,h=>⟨[],by simpa using h.1,h.2⟩
 | o :: r,acc,st,h=>by
  unfold adraw at h;split at h
  ·rename_i f hf;obtain ⟨v,e,h1,h2⟩:=aoper_yields h hf;obtain ⟨fs,q1,q2⟩:=adraw_path r _ _ h2;exact ⟨f :: fs,by simpa using q1,hf,v,e,h1,q2⟩
  ·exact h.elim

theorem hasEdge_spec {o:Oper} {i:Nat} {D:List Nat} (h:hasEdge o i D=true):∃ ed ∈ o.after,Region.binds .any ed=true∧(ed.on=i∨ed.on ∈ D):=by
 unfold hasEdge at h;obtain ⟨ed,h1,h2⟩:=List.any_eq_true.1 h;simp only [Bool.and_eq_true,Bool.or_eq_true] at h2;exact ⟨ed,by simpa using h1,h2.1,h2.2.imp Nat.eq_of_beq_eq_true mem_memB⟩
theorem sound_spec {i:Nat} {D:List Nat} : ∀ (l:List Oper) (k:Nat),soundB i D k l=true→∀ j o,l[j]?=some o→k+j ∈ D→hasEdge o i D=true
 | [],_,_,_,_,h,_=>by simp at h
 | o :: l,k,hs,j,o',h,hm=>by
  simp only [soundB,Bool.and_eq_true] at hs;cases j with
  | zero =>
   simp only [List.getElem?_cons_zero,Option.some.injEq] at h;subst h;have h1:=hs.1;rw [memB_mem (by simpa using hm)] at h1;simpa using h1
  | succ j=>exact sound_spec l (k+1) hs.2 j o' (by simpa using h) (by rw [Nat.add_assoc,Nat.add_comm 1 j]; exact hm)
theorem apart_all {oi:Oper} {fi:Foot} {D:List Nat} : ∀ (l:List Oper) (fs:List Foot) (k:Nat),apartAll ops oi fi D k l fs=true→l.length=fs.length∧∀ j o f,l[j]?=some o→fs[j]?=some f→k+j ∉ D→oi.apart ops o=true∧disjB fi f=true
 | [],[],_,_=>⟨rfl,fun _ _ _ h=>by simp at h⟩
 | [],_ :: _,_,h=>by simp [apartAll] at h
 | _ :: _,[],_,h=>by simp [apartAll] at h
 | o :: l,f :: fs,k,h=>by
  simp only [apartAll,Bool.and_eq_true,Bool.or_eq_true] at h;obtain ⟨h1,h2⟩:=apart_all l fs (k+1) h.2;refine ⟨by simp [h1],fun j o' f' q1 q2 hn=>?_⟩;cases j with
  | zero =>
   simp only [List.getElem?_cons_zero,Option.some.injEq] at q1 q2;subst q1; subst q2;rcases h.1 with h3 | h3
   ·exact absurd (mem_memB h3) hn
   ·exact h3
  | succ j=>exact h2 j o' f' (by simpa using q1) (by simpa using q2) (by simpa [Nat.add_assoc,Nat.add_comm 1 j] using hn)

theorem aAny_lex {K:St→Prop} : ∀ (l:List Oper) (fs:List Foot) (k:Nat) (listed:Array Bool) (st:St),(∀ j,l[j]?=ops[k+j]?)→(∀ j f,fs[j]?=some f→FT (k+j)=f)→listed.size=ops.size →
  (∀ j,j<ops.size→listed.getD j true=decide (j<k))→drawGo ops ops.toList k l fs=true→Path cx ops K l fs st→aAny cx ops FT K l.length listed st
 | [],[],k,listed,st,hl,_,hs,hL,_,h=>by
  refine ⟨?_,h⟩;apply List.eq_nil_iff_forall_not_mem.2;intro j hj;obtain ⟨h1,o,ho,_⟩:=mem_ready.1 hj;have hlt:=(Array.getElem?_eq_some_iff.1 ho).1;rw [hL j hlt] at h1;have hge:k≤j:=by simpa using h1
  have:=hl (j - k)
  rw [show k+(j - k)=j by omega,ho] at this;simp at this
 | [],_ :: _,_,_,_,_,_,_,_,h,_=>by simp [drawGo] at h
 | _ :: _,[],_,_,_,_,_,_,_,h,_=>by simp [drawGo] at h
 | o :: l,f :: fs,k,listed,st,hl,hF,hs,hL,hg,h=>by
  simp only [drawGo,Bool.and_eq_true] at hg;obtain ⟨⟨⟨⟨g1,g2⟩,g3⟩,g4⟩,g5⟩:=hg;obtain ⟨hf,v,e,hy,hp⟩:=h;have h0:ops[k]?=some o:=by simpa using (hl 0).symm
  have hk:=(Array.getElem?_eq_some_iff.1 h0).1;have hFk:FT k=f:=by simpa using hF 0 f rfl
  have hl' : ∀ j,l[j]?=ops[k+1+j]?:=fun j=>by have:=hl (j+1); simpa [Nat.add_assoc,Nat.add_comm 1 j] using this
  have hF' : ∀ j f,fs[j]?=some f→FT (k+1+j)=f:=fun j f' hj=>by have:=hF (j+1) f' (by simpa using hj); simpa [Nat.add_assoc,Nat.add_comm 1 j] using this
  obtain ⟨hlen,hap⟩:=apart_all l fs (k+1) g4;have hDrange:∀ j,j ∈ depsGo k [] 0 ops.toList→k<j∧j<ops.size:=fun j hj=>by
   have:=(List.all_eq_true.1 g3) j hj
   simp only [Bool.and_eq_true,Nat.blt_eq,Array.length_toList] at this;exact this
  refine aAny_first h0 (fun j=>j ∈ depsGo k [] 0 ops.toList) (fun j hj=>?_) l.length listed st (fun j oj hoj hjk hun hnD=>?_) ?_ (fun j hj=>?_) (by rw [hFk]; exact hf) (by rw [hFk]; exact hy) ?_
  ·have hlt:=(hDrange j hj).2
   have:=sound_spec ops.toList 0 g2 j ops[j] (by simp [hlt]) (by simpa using hj)
   obtain ⟨ed,e1,e2,e3⟩:=hasEdge_spec this;exact ⟨ops[j],by simp [hlt],ed,e1,e2,e3⟩
  ·have hlt:=(Array.getElem?_eq_some_iff.1 hoj).1;rw [hL j hlt] at hun;have hge:k<j:=by have q:k≤j:=(by simpa using hun); omega
   have e1:l[j - (k+1)]?=some oj:=by rw [hl',show k+1+(j - (k+1))=j by omega]; exact hoj
   have hfl:j - (k+1)<fs.length:=by rw [← hlen]; exact (List.getElem?_eq_some_iff.1 e1).1
   have e2:fs[j - (k+1)]?=some fs[j - (k+1)]:=List.getElem?_eq_getElem hfl;have e3:=hF' _ _ e2;rw [show k+1+(j - (k+1))=j by omega] at e3;rw [hFk,e3];exact hap _ _ _ e1 e2 (by rw [show k+1+(j - (k+1))=j by omega]; exact hnD)
  ·refine mem_ready.2 ⟨by rw [hL k hk]; simp,o,h0,fun ed he hb=>?_⟩
   have:=(List.all_eq_true.1 g1) ed (by simpa using he)
   simp only [hb,Bool.not_true,Bool.false_or,Nat.blt_eq] at this;have h1:=hL ed.on (by omega);have hlt:ed.on<listed.size:=by omega
   simp [hlt] at h1 ⊢;rw [h1]; simpa using this
  ·have:=hDrange j hj
   rw [hL j this.2];simp; omega
  ·refine aAny_lex l fs (k+1) _ _ hl' hF' (by simp [hs]) (fun j hj=>?_) g5 hp
   by_cases hjk:j=k
   ·subst hjk
    have:j<listed.size:=by omega
    simp [this]
   ·rw [getD_set_ne true (Ne.symm hjk),hL j hj]
    by_cases h1:j<k
    ·simp [h1]; omega
    ·simp [h1]; omega

theorem adraw_any {K:St→Prop} {st:St} (h:adraw cx ops ops.toList [] st K):Region.noSelect ops=true∧∃ FT,aAny cx ops FT K ops.size (Array.replicate ops.size false) st:=by
 obtain ⟨fs,h1,h2⟩:=adraw_path _ _ _ h;simp only [drawOk,List.reverse_nil,List.nil_append,Bool.and_eq_true] at h1;refine ⟨h1.1,fun j=>fs.getD j default,?_⟩
 have:=aAny_lex (FT:=fun j=>fs.getD j default) ops.toList fs 0 (Array.replicate ops.size false) st (by simp) (fun j f hj=>by simp [hj]) (by simp) (fun j hj=>by simp [hj]) h1.2 h2
 simpa using this
end
end Go.Eng

namespace Go.Eng

theorem inj_inv:∀ {σ:Ren},renInj σ=true→∀ i j,rfwd σ i=some j↔rbwd σ j=some i
 | [],_,i,j=>by simp [rfwd,rbwd]
 | (a,b) :: r,h,i,j=>by
  simp only [renInj,Bool.and_eq_true] at h;obtain ⟨h1,h2⟩:=h;have ih:=inj_inv h2;have hab:rfwd r a=none∧rbwd r b=none:=by
   split at h1
   ·rename_i e1 e2; exact ⟨e1,e2⟩
   ·cases h1
  unfold rfwd rbwd
  by_cases e1:a=i <;> by_cases e2:b=j
  ·subst e1; subst e2; simp
  ·subst e1;simp only [Nat.beq_refl,cond_true,beq_ne e2,cond_false];constructor
   ·intro h; cases h; exact absurd rfl e2
   ·intro h; rw [(ih a j).2 h] at hab; cases hab.1
  ·subst e2;simp only [Nat.beq_refl,cond_true,beq_ne e1,cond_false];constructor
   ·intro h; rw [(ih i b).1 h] at hab; cases hab.2
   ·intro h; cases h; exact absurd rfl e1
  ·simp only [beq_ne e1,beq_ne e2,cond_false];exact ih i j
theorem ok_inj:∀ {σ:Ren},renOk σ=true→renInj σ=true
 | [],_=>rfl
 | (a,b) :: r,h=>by
  simp only [renOk,Bool.and_eq_true] at h;simp only [renInj,Bool.and_eq_true];exact ⟨h.1.1.1,ok_inj h.2⟩
theorem ren_inv {σ:Ren} (h:renOk σ=true):∀ i j,rfwd σ i=some j↔rbwd σ j=some i:=inj_inv (ok_inj h)
theorem ren_range:∀ {σ:Ren},renOk σ=true→∀ {i j},rfwd σ i=some j→1000≤j∧j<2000
 | [],_,i,j,h=>by simp [rfwd] at h
 | (a,b) :: r,h,i,j,hf=>by
  simp only [renOk,Bool.and_eq_true,Nat.ble_eq,Nat.blt_eq] at h;unfold rfwd at hf
  by_cases e1:a=i
  ·subst e1;simp only [Nat.beq_refl,cond_true] at hf;cases hf;exact ⟨h.1.1.2,h.1.2⟩
  ·simp only [beq_ne e1,cond_false] at hf;exact ren_range h.2 hf
theorem renL_get (f:Nat→Option Nat) (h:Nat→HO):∀ (σ:Ren) (j:Nat),heapOf (renL f h σ) hfree j=match rbwd σ j with | some i=>(h i).ren f h | none=>.free
 | [],j=>rfl
 | (a,b) :: r,j=>by
  unfold renL heapOf rbwd
  by_cases e:b=j
  ·subst e; simp
  ·simp only [beq_ne e,beq_ne (Ne.symm e),cond_false];exact renL_get f h r j

structure RenOk (f:Nat→Option Nat) (h h2:Nat→HO) (g g2:Gh) (w:World):Prop where
 ids:∀ r r',f r=some r'→used h r→g2.tk r'=g.tk r∧g2.ln r'=g.ln r∧g2.ρ r'=g.ρ r∧g2.own r'=g.own r∧used h2 r'
 S:∀ b o,g2.S b o↔g.S b o
 objs:∀ r,ObjRep g w (used h) r (h r)

section
variable {f:Nat→Option Nat} {h h2:Nat→HO} {g g2:Gh} {w:World}
theorem RenOk.keeps (hR:RenOk f h h2 g g2 w):Keeps g w g2 w:=fun b o hs=>⟨(hR.S b o).2 hs,rfl,fun _ _ e=>e⟩
theorem RenOk.noU (hR:RenOk f h h2 g g2 w) {av:AV} {x:Value} (r:Rep g w NoU av x):Rep g2 w (used h2) av x:=r.mono hR.keeps (fun _ h=>h.elim) (fun _ h=>h.elim)
theorem Rep.ren0 (hR:RenOk f h h2 g g2 w) {av:AV} {x:Value} (r:Rep g w (used h) av x):Rep g2 w (used h2) (ren0 f h av) x:=by
 have down:Rep g2 w (used h2) (Eng.str0 h av) x:=hR.noU (Rep.str0 hR.objs r);cases av with
 | v y=>exact down
 | slice tk es =>
  cases tk with
  | none=>exact down
  | full sz=>exact down
  | id i sz =>
   simp only [Eng.ren0];split
   ·rename_i i' e;cases r with
    | tok _ _ _ _ _ hs hl hu ht hn hx =>
     obtain ⟨k1,k2,k3,k4,k5⟩:=hR.ids i i' e hu;exact .tok _ i' sz es x (hR.noU (Rep.slice_none hs)) hl k5 (k1.trans ht) (by omega) (fun q=>by rw [k3]; exact hx (by omega))
   ·exact hR.noU r.slice_none
 | msl i n =>
  simp only [Eng.ren0];split
  ·rename_i i' e;cases r with
   | msl _ _ _ a cap hu ht hn ha hx =>
    obtain ⟨k1,k2,k3,k4,k5⟩:=hR.ids i i' e hu;exact .msl _ i' n a cap k5 (k1.trans ht) (by omega) ha (fun q=>by rw [k3]; exact hx (by omega))
  ·exact .junk _ _
 | agg cs=>exact down
 | tup cs=>exact down
 | cptr cs=>exact down
 | ref i off =>
  simp only [Eng.ren0];split
  ·rename_i i' e;cases r with
   | ref _ _ _ b hu ht hx =>
    obtain ⟨k1,k2,k3,k4,k5⟩:=hR.ids i i' e hu;exact .ref _ i' off b k5 (k1.trans ht) (k3.trans hx)
  ·exact down
 | eref i n sz k off =>
  simp only [Eng.ren0];split
  ·rename_i i' e;cases r with
   | eref _ _ _ _ _ _ b cap hu ht hn hx =>
    obtain ⟨k1,k2,k3,k4,k5⟩:=hR.ids i i' e hu;exact .eref _ i' n sz k off b cap k5 (k1.trans ht) ⟨hn.1,by omega⟩ (fun q=>by rw [k3]; exact hx (by omega))
  ·exact .junk _ _
 | mref i =>
  simp only [Eng.ren0];split
  ·rename_i i' e;cases r with
   | mref _ _ b hu ht hx =>
    obtain ⟨k1,k2,k3,k4,k5⟩:=hR.ids i i' e hu;exact .mref _ i' b k5 (k1.trans ht) (k3.trans hx)
  ·exact down
 | cmap sh kvs=>exact down
 | clo i cs=>exact down
 | junk=>exact down
theorem Rep.ren1 (hR:RenOk f h h2 g g2 w) {av:AV} {x:Value} (r:Rep g w (used h) av x):Rep g2 w (used h2) (ren1 f h av) x:=by
 cases av with
 | agg cs =>
  cases r with
  | agg _ _ vs hs h1 hr =>
   exact .agg _ _ vs (by simp [hs]) h1 fun i av x q1 q2=>by
    rw [List.getElem?_map] at q1;obtain ⟨a,q3,rfl⟩:=Option.map_eq_some_iff.1 q1;exact (hr i a x q3 q2).ren0 hR
 | clo i cs =>
  cases r with
  | clo _ _ _ vs hs hr =>
   exact .clo _ _ _ vs (by simp [hs]) fun i av x q1 q2=>by
    rw [List.getElem?_map] at q1;obtain ⟨a,q3,rfl⟩:=Option.map_eq_some_iff.1 q1;exact (hr i a x q3 q2).ren0 hR
 | _=>exact r.ren0 hR
theorem Rep.ren (hR:RenOk f h h2 g g2 w) {av:AV} {x:Value} (r:Rep g w (used h) av x):Rep g2 w (used h2) (ren f h av) x:=by
 cases av with
 | tup cs =>
  cases r with
  | tup _ _ vs hs hr =>
   exact .tup _ _ vs (by simp [hs]) fun i av x q1 q2=>by
    rw [List.getElem?_map] at q1;obtain ⟨a,q3,rfl⟩:=Option.map_eq_some_iff.1 q1;exact (hr i a x q3 q2).ren1 hR
 | _=>exact r.ren1 hR
theorem ren_live (f:Nat→Option Nat) (h:Nat→HO) (o:HO):(o.ren f h).live↔o.live:=by cases o <;> exact Iff.rfl
theorem ren_used (f:Nat→Option Nat) (h:Nat→HO) (o:HO):o.ren f h≠.free↔o≠.free:=by cases o <;> simp [HO.ren]
theorem ObjRep.ren (hR:RenOk f h h2 g g2 w) {i j:Nat} (hij:f i=some j) (hu:used h i) {o:HO} (r:ObjRep g w (used h) i o):ObjRep g2 w (used h2) j (o.ren f h):=by
 obtain ⟨k1,k2,k3,k4,k5⟩:=hR.ids i j hij hu;have noL:∀ {cs:List AV} {vs:List Value},RepL g w NoU cs vs→RepL g2 w NoU cs vs:=fun hr=>hr.mono hR.keeps (fun _ h=>h) (fun _ h=>h.elim);have no1:∀ {av:AV} {x:Value},Rep g w NoU av x→Rep g2 w NoU av x:=fun hr=>hr.mono hR.keeps (fun _ h=>h) (fun _ h=>h.elim);cases o with
 | free=>trivial
 | dead=>trivial
 | cells cs =>
  obtain ⟨t,b,E,vs,a1,a2,a3,a4,a5⟩:=r;refine ⟨k1.trans t,b,E,vs,k4.trans a1,k3.trans a2,a3,⟨by simp [a4.1],a4.2.1,fun i av x q1 q2=>?_⟩,fun o ho=>a5 o ((hR.S b o).1 ho)⟩;rw [List.getElem?_map] at q1;obtain ⟨a,q3,rfl⟩:=Option.map_eq_some_iff.1 q1;exact (a4.2.2 i a x q3 q2).ren1 hR
 | ro cs =>
  obtain ⟨t,b,a1,a2⟩:=r;exact ⟨k1.trans t,b,k3.trans a1,no1 a2⟩
 | tok sz n =>
  obtain ⟨t,l,a,cap,a1,a2⟩:=r;refine ⟨k1.trans t,k2.trans l,a,cap,k3.trans a1,?_⟩;rcases a2 with ⟨b1,b2⟩ | ⟨b1,b,E,vs,off,b2,b3,b4,b5,b6⟩
  ·exact .inl ⟨b1,k4.trans b2⟩
  ·exact .inr ⟨b1,b,E,vs,off,b2,k4.trans b3,b4,b5,fun o ho=>b6 o ((hR.S b o).1 ho)⟩
 | arr sz es =>
  obtain ⟨t,l,al,a2⟩:=r;refine ⟨k1.trans t,k2.trans l,al,?_⟩;rcases a2 with ⟨b1,b2,b3⟩ | ⟨b,cap,E,vs,b1,b2,b3,b4,b5,b6,b7⟩
  ·exact .inl ⟨b1,k3.trans b2,k4.trans b3⟩
  ·exact .inr ⟨b,cap,E,vs,k3.trans b1,k4.trans b2,b3,b4,b5,noL b6,fun o ho=>b7 o ((hR.S b o).1 ho)⟩
 | map sh kvs =>
  obtain ⟨t,b,es,ck,a1,a2,a3,a4,a5,a6⟩:=r;exact ⟨k1.trans t,b,es,ck,k4.trans a1,k3.trans a2,a3,a4,fun i kv e q1 q2=>no1 (a5 i kv e q1 q2),fun o ho=>a6 o ((hR.S b o).1 ho)⟩
 | mapU sh kvs =>
  obtain ⟨t,b,es,ck,a1,a2,a3,a4,a5,a6⟩:=r;refine ⟨k1.trans t,b,es,ck,k4.trans a1,k3.trans a2,a3,mapOk_map _ a4,fun i kv e q1 q2=>?_,fun o ho=>a6 o ((hR.S b o).1 ho)⟩;rw [List.getElem?_map] at q1;obtain ⟨p,q3,rfl⟩:=Option.map_eq_some_iff.1 q1;exact (a5 i p e q3 q2).ren1 hR
 | rom sh kvs =>
  obtain ⟨t,b,a1,a2⟩:=r;exact ⟨k1.trans t,b,k3.trans a1,no1 a2⟩
 | iter all rem cur =>
  obtain ⟨t,b,mb,since,seen,st,es,ck,a1,a2,a3,a4,a5,a6,a7,a8,a9,a10,a11,a12,a13⟩:=r;exact ⟨k1.trans t,b,mb,since,seen,st,es,ck,k4.trans a1,k3.trans a2,a3,(hR.S _ _).2 a4,a5,a6,a7,a8,fun i kv e q1 q2=>no1 (a9 i kv e q1 q2),a10,a11,a12,fun o ho=>a13 o ((hR.S b o).1 ho)⟩
end
end Go.Eng

namespace Go.Eng

theorem newFree_spec {h:Nat→HO} {d:Nat} : ∀ {n:Nat},newFree h d n=true→∀ k,k<n→h (newId d k)=.free
 | 0,_,k,hk=>by omega
 | n+1,hf,k,hk=>by
  simp only [newFree,Bool.and_eq_true] at hf
  by_cases e:k=n
  ·subst e
   have:=hf.1
   split at this
   ·rename_i e2; exact e2
   ·cases this
  ·exact newFree_spec hf.2 k (by omega)
theorem newApart_spec {d nn:Nat} : ∀ {σ:Ren},newApart σ d nn=true→∀ {i j},rfwd σ i=some j→¬ (newId d 0≤i∧i<newId d nn)
 | [],_,i,j,h=>by simp [rfwd] at h
 | (a,b) :: r,hs,i,j,hf=>by
  simp only [newApart,Bool.and_eq_true] at hs;unfold rfwd at hf
  by_cases e1:a=i
  ·subst e1;have h1:=hs.1;simp only [Bool.not_eq_true',Bool.and_eq_false_iff] at h1;intro hc;rcases h1 with h1 | h1
   ·rw [Nat.ble_eq_true_of_le hc.1] at h1; cases h1
   ·have h2:Nat.blt a (newId d nn)=true:=by rw [Nat.blt_eq]; exact hc.2
    rw [h2] at h1; cases h1
  ·simp only [beq_ne e1,cond_false] at hf;exact newApart_spec hs.2 hf

section
variable {P:Program} {w0:World} {g0:Gh} {h0 h:Nat→HO} {g:Gh} {w:World}

def ghFwd (σ:Ren) (g:Gh):Gh :=
 ⟨fun j=>match rbwd σ j with | some i=>g.ρ i | none=>.nilIface,fun j=>match rbwd σ j with | some i=>g.ln i | none=>0,fun j=>match rbwd σ j with | some i=>g.tk i | none=>false,
  fun j=>match rbwd σ j with | some i=>g.own i | none=>none,g.S⟩
def src (σ:Ren) (d nn:Nat) (i:Nat):Option Nat :=
 match rfwd σ i with
 | some j=>some j
 | none=>match Nat.ble (newId d 0) i&&Nat.blt i (newId d nn) with | true=>some (2000+(i - newId d 0)) | false=>none
def ghBack (σ:Ren) (d nn:Nat) (g g' : Gh):Gh :=
 ⟨fun i=>match src σ d nn i with | some j=>g'.ρ j | none=>g.ρ i,fun i=>match src σ d nn i with | some j=>g'.ln j | none=>g.ln i,fun i=>match src σ d nn i with | some j=>g'.tk j | none=>g.tk i,
  fun i=>match src σ d nn i with | some j=>g'.own j | none=>g.own i,g'.S⟩
theorem backH_src (σ:Ren) (d nn:Nat) (h h' : Nat→HO) (i:Nat):backH σ d nn h h' i=match src σ d nn i with | some j=>(h' j).ren (backId σ d nn) h' | none=>h i:=by
 unfold backH src;cases rfwd σ i with
 | some j=>rfl
 | none =>
  dsimp only;cases Nat.ble (newId d 0) i&&Nat.blt i (newId d nn) <;> rfl
theorem src_back {σ:Ren} {d nn:Nat} (hσ:renOk σ=true) (ha:newApart σ d nn=true) (i j:Nat):src σ d nn i=some j↔backId σ d nn j=some i:=by
 have inv:=ren_inv hσ;unfold src backId;cases h1:rfwd σ i with
 | some j' =>
  have hb:=(inv i j').1 h1;dsimp only;constructor
  ·intro h; cases h; rw [hb]
  ·intro h;cases h2:rbwd σ j with
   | some i'=>rw [h2] at h; cases h; rw [(inv i j).2 h2] at h1; exact h1.symm
   | none =>
    rw [h2] at h;dsimp only at h;split at h
    ·rename_i hc;have h:=Option.some.inj h; subst h;simp only [Bool.and_eq_true,Nat.ble_eq,Nat.blt_eq] at hc;exact absurd ⟨by unfold newId; omega,by unfold newId; omega⟩ (newApart_spec ha h1)
    ·cases h
 | none =>
  dsimp only;cases h2:rbwd σ j with
  | some i' =>
   dsimp only;have hf:=(inv i' j).2 h2;have hr:=ren_range hσ hf;constructor
   ·intro h;split at h
    ·cases h; omega
    ·cases h
   ·intro h; cases h; rw [hf] at h1; cases h1
  | none =>
   dsimp only;constructor
   ·intro h;split at h
    ·rename_i hc;cases h;simp only [Bool.and_eq_true,Nat.ble_eq,Nat.blt_eq] at hc;have e1:(Nat.ble 2000 (2000+(i - newId d 0))&&Nat.blt (2000+(i - newId d 0)) (2000+nn))=true:=by
      simp only [Bool.and_eq_true,Nat.ble_eq,Nat.blt_eq];unfold newId at hc ⊢; omega
     rw [e1]
     have:newId d (2000+(i - newId d 0) - 2000)=i:=by unfold newId at hc ⊢; omega
     rw [this]
    ·cases h
   ·intro h;split at h
    ·rename_i hc;have h:=Option.some.inj h; subst h;simp only [Bool.and_eq_true,Nat.ble_eq,Nat.blt_eq] at hc;have e1:(Nat.ble (newId d 0) (newId d (j - 2000))&&Nat.blt (newId d (j - 2000)) (newId d nn))=true:=by
      simp only [Bool.and_eq_true,Nat.ble_eq,Nat.blt_eq];unfold newId; omega
     rw [e1]
     have:2000+(newId d (j - 2000) - newId d 0)=j:=by unfold newId; omega
     rw [this]
    ·cases h

theorem fwd_ok (hI:Inv w0 g0 h0 h g w) {σ:Ren} (hσ:renOk σ=true):RenOk (rfwd σ) h (renH σ h) g (ghFwd σ g) w∧Inv w (ghFwd σ g) (renH σ h) (renH σ h) (ghFwd σ g) w:=by
 have inv:=ren_inv hσ;have hget:∀ j,renH σ h j=match rbwd σ j with | some i=>(h i).ren (rfwd σ) h | none=>.free:=renL_get _ _ σ
 have hR:RenOk (rfwd σ) h (renH σ h) g (ghFwd σ g) w:=by
  refine ⟨fun r r' hr hu=>?_,fun b o=>Iff.rfl,hI.objs⟩;have hb:=(inv r r').1 hr;refine ⟨by simp [ghFwd,hb],by simp [ghFwd,hb],by simp [ghFwd,hb],by simp [ghFwd,hb],?_⟩;unfold used;rw [hget,hb];exact (ren_used _ _ _).2 hu
 have hlive:∀ j,(renH σ h j).live→∃ i,rbwd σ j=some i∧(h i).live:=fun j hl=>by
  rw [hget] at hl;cases e:rbwd σ j with
  | none=>rw [e] at hl; exact hl.elim
  | some i=>rw [e] at hl; exact ⟨i,rfl,(ren_live _ _ _).1 hl⟩
 have hown:∀ j i,rbwd σ j=some i→(ghFwd σ g).own j=g.own i:=fun j i e=>by simp [ghFwd,e]
 refine ⟨hR,rfl,rfl,rfl,Nat.le_refl _,fun _ _ _=>rfl,hI.slt,fun j=>?_,fun j j' b hl hl' e e'=>?_,fun j b hl e=>?_,fun _ _ h=>.inl h,hI.glob⟩
 ·rw [hget];cases e:rbwd σ j with
  | none=>trivial
  | some i =>
   by_cases hu:used h i
   ·exact (hI.objs i).ren hR ((inv i j).2 e) hu
   ·have:h i=.free:=Classical.not_not.1 hu
    dsimp only;rw [this]; trivial
 ·obtain ⟨i,e1,l1⟩:=hlive j hl;obtain ⟨i',e2,l2⟩:=hlive j' hl';rw [hown j i e1] at e;rw [hown j' i' e2] at e';obtain rfl:=hI.inj i i' b l1 l2 e e'
  have:=(inv i j).2 e1
  rw [(inv i j').2 e2] at this;cases this; rfl
 ·obtain ⟨i,e1,l1⟩:=hlive j hl;have e0:=e;rw [hown j i e1] at e;exact ⟨(hI.loc i b l1 e).1,.inr ⟨j,hl,e0⟩⟩

theorem call_genC {C:(Ending→World→Prop)→Prop} (hm:∀ {R R' : Ending→World→Prop},C R→(∀ e w,R e w→R' e w)→C R') (hI:Inv w0 g0 h0 h g w) {σ:Ren} {d nn:Nat} (hok:(renOk σ&&newFree h d nn&&newApart σ d nn)=true) {Q:AV→(Nat→HO)→Prop}
  (hc:Inv w (ghFwd σ g) (renH σ h) (renH σ h) (ghFwd σ g) w→C (fun e w'=>∃ v r h' g',e=Ending.returned v∧Q r h'∧Rep g' w' (used h') r v∧Inv w (ghFwd σ g) (renH σ h) h' g' w'∧Le (renH σ h) (ghFwd σ g) w h' g' w')) {R:Ending→World→Prop}
  (hRR:∀ v r h' g2 w',Q r h'→Inv w0 g0 h0 (backH σ d nn h h') g2 w'→Le h g w (backH σ d nn h h') g2 w'→Rep g2 w' (used (backH σ d nn h h')) (ren (backId σ d nn) h' r) v→R (.returned v) w'):C R:=by
 simp only [Bool.and_eq_true] at hok;obtain ⟨⟨hσ,hnf⟩,hap⟩:=hok;obtain ⟨hF,hI0⟩:=fwd_ok hI hσ;have inv:=ren_inv hσ;have hsb:=src_back hσ hap;refine hm (hc hI0) ?_
 rintro e w' ⟨v,r,h',g',rfl,q1,q2,q3,q4⟩
 have hb:=backH_src σ d nn h h';have hg2:∀ i j,src σ d nn i=some j→(ghBack σ d nn g g').ρ i=g'.ρ j∧(ghBack σ d nn g g').ln i=g'.ln j∧(ghBack σ d nn g g').tk i=g'.tk j∧(ghBack σ d nn g g').own i=g'.own j:=fun i j e=>by simp [ghBack,e]
 have hg3:∀ i,src σ d nn i=none→(ghBack σ d nn g g').ρ i=g.ρ i∧(ghBack σ d nn g g').ln i=g.ln i∧(ghBack σ d nn g g').tk i=g.tk i∧(ghBack σ d nn g g').own i=g.own i:=fun i e=>by simp [ghBack,e]
 have hB:RenOk (backId σ d nn) h' (backH σ d nn h h') g' (ghBack σ d nn g g') w':=by
  refine ⟨fun j i hj hu=>?_,fun b o=>Iff.rfl,q3.objs⟩;have e:=(hsb i j).2 hj;obtain ⟨k1,k2,k3,k4⟩:=hg2 i j e;refine ⟨k3,k2,k1,k4,?_⟩;unfold used;rw [hb,e];exact (ren_used _ _ _).2 hu
 have hcget:∀ j,renH σ h j=match rbwd σ j with | some i=>(h i).ren (rfwd σ) h | none=>.free:=renL_get _ _ σ
 have hclive:∀ j i,rfwd σ i=some j→(h i).live→(renH σ h j).live:=fun j i e hl=>by
  rw [hcget,(inv i j).1 e]; exact (ren_live _ _ _).2 hl
 have hcown:∀ j i,rfwd σ i=some j→(ghFwd σ g).own j=g.own i:=fun j i e=>by simp [ghFwd,(inv i j).1 e]
 have hclive' : ∀ j,(renH σ h j).live→∃ i,rfwd σ i=some j∧(h i).live∧(ghFwd σ g).own j=g.own i:=fun j hl=>by
  rw [hcget] at hl;cases e:rbwd σ j with
  | none=>rw [e] at hl; exact hl.elim
  | some i=>rw [e] at hl; exact ⟨i,(inv i j).2 e,(ren_live _ _ _).1 hl,by simp [ghFwd,e]⟩
 -- what the callee may not touch
 have hfr:∀ b,b<w.heap.size→(∀ i,(h i).live→rfwd σ i≠none→g.own i≠some b)→w'.heap[b]?=w.heap[b]?:=fun b hlt hn=>q3.frame b hlt fun j hl e=>by
  obtain ⟨i,e1,l1,o1⟩:=hclive' j hl;exact hn i l1 (by rw [e1]; simp) (by rw [← o1]; exact e)
 have hSs:∀ b o,g'.S b o→b<w.heap.size→(∀ i,(h i).live→rfwd σ i≠none→g.own i≠some b)→g.S b o:=fun b o hs hlt hn=>by
  rcases q3.sg b o hs with h1 | h1 | ⟨j,h1,h2⟩
  ·exact h1
  ·omega
  ·obtain ⟨i,e1,l1,o1⟩:=hclive' j h1;exact absurd (by rw [← o1]; exact h2) (hn i l1 (by rw [e1]; simp))
 have hk:Keeps g w (ghBack σ d nn g g') w':=q4.keeps;have hfree:∀ i,rfwd σ i=none→src σ d nn i≠none→h i=.free:=fun i e1 e2=>by
  unfold src at e2;rw [e1] at e2;dsimp only at e2;split at e2
  ·rename_i hc;simp only [Bool.and_eq_true,Nat.ble_eq,Nat.blt_eq] at hc
   have:=newFree_spec hnf (i - newId d 0) (by unfold newId at hc ⊢; omega)
   rw [show newId d (i - newId d 0)=i by unfold newId at hc ⊢; omega] at this;exact this
  ·exact absurd rfl e2
 have hsrc:∀ i j,rfwd σ i=some j→src σ d nn i=some j:=fun i j e=>by unfold src; rw [e]
 have hgl:GhLe g (ghBack σ d nn g g') (used h):=fun i hu=>by
  cases e:rfwd σ i with
  | some j =>
   obtain ⟨k1,k2,k3,k4⟩:=hg2 i j (hsrc i j e);obtain ⟨f1,f2,f3,f4,f5⟩:=hF.ids i j e hu;obtain ⟨m1,m2,m3,m4⟩:=q4.gh j f5;exact ⟨(k3.trans m1).trans f1,by omega,fun t=>(k1.trans (m3 (f1.trans t))).trans f3,fun l=>(k1.trans (m4 (by omega))).trans f3⟩
  | none =>
   have e2:src σ d nn i=none:=Classical.not_not.1 fun e2=>hu (hfree i e e2);obtain ⟨k1,k2,k3,k4⟩:=hg3 i e2;exact ⟨k3,by omega,fun _=>k1,fun _=>k1⟩
 have hus:∀ i,used h i→used (backH σ d nn h h') i:=fun i hu=>by
  unfold used;rw [hb];cases e:rfwd σ i with
  | some j =>
   rw [hsrc i j e];exact (ren_used _ _ _).2 (q4.us j (hF.ids i j e hu).2.2.2.2)
  | none =>
   have e2:src σ d nn i=none:=Classical.not_not.1 fun e2=>hu (hfree i e e2);rw [e2]; exact hu
 have hl2:∀ i,(backH σ d nn h h' i).live→(∃ j,src σ d nn i=some j∧(h' j).live∧(ghBack σ d nn g g').own i=g'.own j)∨(src σ d nn i=none∧(h i).live∧(ghBack σ d nn g g').own i=g.own i∧rfwd σ i=none):=fun i hl=>by
  rw [hb] at hl;cases e:src σ d nn i with
  | some j=>rw [e] at hl; exact .inl ⟨j,rfl,(ren_live _ _ _).1 hl,(hg2 i j e).2.2.2⟩
  | none =>
   rw [e] at hl;refine .inr ⟨rfl,hl,(hg3 i e).2.2.2,?_⟩;cases e2:rfwd σ i with
   | none=>rfl
   | some j=>rw [hsrc i j e2] at e; cases e
 have hcal:∀ j b,(h' j).live→g'.own j=some b→b<w'.heap.size∧(w.heap.size≤b∨∃ i,rfwd σ i≠none∧(h i).live∧g.own i=some b):=fun j b hl e=>by
  obtain ⟨h1,h2⟩:=q3.loc j b hl e;refine ⟨h1,h2.imp id ?_⟩
  rintro ⟨j',l',e'⟩
  obtain ⟨i,e1,l1,o1⟩:=hclive' j' l';exact ⟨i,by rw [e1]; simp,l1,by rw [← o1]; exact e'⟩
 have hun:∀ i b,(h i).live→g.own i=some b→rfwd σ i=none→∀ i',(h i').live→rfwd σ i'≠none→g.own i'≠some b:=fun i b hl e hn i' hl' hn' e'=>by
  obtain rfl:=hI.inj i i' b hl hl' e e';exact hn' hn
 refine hRR v r h' (ghBack σ d nn g g') w' q1 ⟨q3.os.trans hI.os,q3.tape.trans hI.tape,q3.output.trans hI.output,Nat.le_trans hI.size q3.size,fun b hlt hn=>?_,q3.slt,fun i=>?_,fun i i' b hl hl' e e'=>?_,fun i b hl e=>?_,fun b o hs=>?_,hI.glob.keep hk⟩ ⟨hgl,hus,hk⟩ (q2.ren hB)
 ·refine (hfr b (Nat.lt_of_lt_of_le hlt hI.size) fun i hl _ e=>?_).trans (hI.frame b hlt hn);rcases (hI.loc i b hl e).2 with h1 | ⟨r',h1,h2⟩
  ·omega
  ·exact hn r' h1 h2
 ·rw [hb];cases e:src σ d nn i with
  | some j =>
   by_cases hu:used h' j
   ·exact (q3.objs j).ren hB ((hsb i j).1 e) hu
   ·have:h' j=.free:=Classical.not_not.1 hu
    dsimp only;rw [this]; trivial
  | none =>
   obtain ⟨k1,k2,k3,k4⟩:=hg3 i e;have e2:rfwd σ i=none:=by
    cases e2:rfwd σ i with
    | none=>rfl
    | some j=>rw [hsrc i j e2] at e; cases e
   refine (hI.objs i).same hk hus hgl k1 k2 k3 k4 fun b hl ho=>?_;have hlt:=(hI.loc i b hl ho).1;exact ⟨hfr b hlt (hun i b hl ho e2),fun k hs=>hSs b k hs hlt (hun i b hl ho e2)⟩
 ·have mixed:∀ i j i',(h' j).live→g'.own j=some b→(h i').live→g.own i'=some b→rfwd σ i'=none→i=i':=fun i j i' l1 o1 l2 o2 n2=>by
   rcases (hcal j b l1 o1).2 with h1 | ⟨i3,n3,l3,o3⟩
   ·have:=(hI.loc i' b l2 o2).1; omega
   ·exact absurd o3 (hun i' b l2 o2 n2 i3 l3 n3)
  rcases hl2 i hl with ⟨j,s1,l1,o1⟩ | ⟨s1,l1,o1,n1⟩ <;> rcases hl2 i' hl' with ⟨j',s2,l2,o2⟩ | ⟨s2,l2,o2,n2⟩
  ·obtain rfl:=q3.inj j j' b l1 l2 (by rw [← o1]; exact e) (by rw [← o2]; exact e');have a1:=(hsb i j).1 s1;rw [(hsb i' j).1 s2] at a1;cases a1; rfl
  ·exact mixed i j i' l1 (by rw [← o1]; exact e) l2 (by rw [← o2]; exact e') n2
  ·exact (mixed i' j' i l2 (by rw [← o2]; exact e') l1 (by rw [← o1]; exact e) n1).symm
  ·exact hI.inj i i' b l1 l2 (by rw [← o1]; exact e) (by rw [← o2]; exact e')
 ·rcases hl2 i hl with ⟨j,s1,l1,o1⟩ | ⟨s1,l1,o1,n1⟩
  ·obtain ⟨h1,h2⟩:=hcal j b l1 (by rw [← o1]; exact e);refine ⟨h1,?_⟩;rcases h2 with h2 | ⟨i3,n3,l3,o3⟩
   ·exact .inl (Nat.le_trans hI.size h2)
   ·exact (hI.loc i3 b l3 o3).2
  ·obtain ⟨h1,h2⟩:=hI.loc i b l1 (by rw [← o1]; exact e);exact ⟨Nat.lt_of_lt_of_le h1 q3.size,h2⟩
 ·rcases q3.sg b o hs with h1 | h1 | ⟨j,h1,h2⟩
  ·exact hI.sg b o h1
  ·exact .inr (.inl (Nat.le_trans hI.size h1))
  ·obtain ⟨i,e1,l1,o1⟩:=hclive' j h1;exact .inr (hI.loc i b l1 (by rw [← o1]; exact h2)).2
theorem call_gen (hI:Inv w0 g0 h0 h g w) {σ:Ren} {d nn:Nat} (hok:(renOk σ&&newFree h d nn&&newApart σ d nn)=true) {f:Nat} {args:List AV} {Q:AV→(Nat→HO)→Prop} (hc:ACall P f args (renH σ h) Q) {vals:Array Value} (hs:vals.size=args.length)
  (hv:∀ (i:Nat) (av:AV) (x:Value),args[i]?=some av→vals[i]?=some x→Rep (ghFwd σ g) w (used (renH σ h)) av x) {R:Ending→World→Prop}
  (hRR:∀ v r h' g2 w',Q r h'→Inv w0 g0 h0 (backH σ d nn h h') g2 w'→Le h g w (backH σ d nn h h') g2 w'→Rep g2 w' (used (backH σ d nn h h')) (ren (backId σ d nn) h' r) v→R (.returned v) w'):Calls P f vals w R :=
 call_genC (C:=Calls P f vals w) (fun h k=>h.mono k) hI hok (hc.2 (ghFwd σ g) w vals hs hv) hRR
end
end Go.Eng
