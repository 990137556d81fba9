/- Lemmas for the claims of this seat, without a condition: part 11 (EngU, EngV, EngW, EngX, EngY). -/
import Derived.Test.YteaiieomnhbmgaaGreatDoorA10
namespace Go.Eng
variable {x:Operand}{F:(AV->Prop)->Prop}{a:AV}{p:Operand}{α:Type}(cx:Cx)(T:GU)(o:Oper)(st:St)(op:BinOp)(s:Nat)(R:List Nat)(k:IntKind)(f:Nat)(w:Option Nat)(K:HK)
def Gt(F:(AV->Prop)->Prop):Prop:=∀K,F K->∃v,K v/\∀K',K' v->F K'
theorem Dj(v:AV):Gt (fun K=>K v):=fun _ h=>⟨v,h,fun _ h=>h⟩
theorem DB{p:Prop}(h:Gt F):Gt (fun K=>p/\F K):=fun K ⟨hp,hk⟩ =>
 let ⟨v,h1,h2⟩:=h K hk
 ⟨v,h1,fun K' h'=>⟨hp,h2 K' h'⟩⟩
theorem CM:Gt (fun _=>False):=fun _ h=>h.elim
theorem Xd(p:Prop):Gt (Jr p):=fun K h=>by
 by_cases hp:p
 .exact⟨_,h.1 hp,fun K' h'=>⟨fun _=>h',fun hn=>absurd hp hn⟩⟩
 .exact⟨_,h.2 hp,fun K' h'=>⟨fun q=>absurd q hp,fun _=>h'⟩⟩
theorem aU(h:Gt F):Gt (fun K=>F (iM K)):=fun K hk=>by
 obtain⟨v,h1,h2⟩:=h _ hk;unfold iM at h1;split at h1
 .exact⟨_,h1,fun K' h'=>h2 _ h'⟩
 .exact⟨_,h1,fun K' h'=>h2 _ h'⟩
 .exact h1.elim
theorem NH{F:α->(AV->Prop)->Prop}(h:∀x,Gt (F x)):Gt (fun K=>∃x,F x K):=fun K ⟨x,hk⟩ =>
 let ⟨v,h1,h2⟩:=h x K hk
 ⟨v,h1,fun K' h'=>⟨x,h2 K' h'⟩⟩
theorem IP(t:Nat)(cs:List AV):Gt (Mq T t cs):=by
 have head:Gt (Ml cs):=by unfold Ml;cases cs with | nil=>exact CM | cons a _=>exact Dj a
 unfold Mq;split
 .exact DB (Dj _)
 .exact DB (Dj _)
 .cases cs with
  |nil=>exact CM
  |cons a _ =>
   intro K h;simp only[Ml]at h⊢;split at h
   .rename_i b;cases b with
    |true=>exact⟨_,h.1 rfl,fun K' h'=>⟨fun _=>h',fun e=>by cases e⟩⟩
    |false=>exact⟨_,h.2 rfl,fun K' h'=>⟨fun e=>(by cases e),fun _=>h'⟩⟩
   .exact h.elim
 .exact CM
 .exact head
theorem fA(t:Nat)(x y:AV)(hx:∀tk es,x≠.slice tk es):Gt (vt T t x y):=by
 unfold vt
 repeat' split
 all_goals first | exact CM | exact Dj _ | exact Xd _ | exact DB (Dj _) | exact absurd rfl (hx _ _)
theorem U7(a b:Int):Gt (Vh op k a b):=by
 unfold Vh;split<;>first | exact CM | exact DB (Dj _)
theorem dh(a b:Int):Gt (TL op k a b):=by
 unfold TL
 repeat' split
 all_goals first | exact CM | exact DB (Dj _) | (unfold XO;split<;>first | exact Dj _ | exact DB (Dj _) | exact U7 _ _ _ _)
theorem mN(t:Nat)(x y:AV)(hx:∀tk es,x≠.slice tk es):Gt (TQ T op t x y):=by
 unfold TQ
 repeat' split
 all_goals first | exact CM | exact Xd _ | exact dh _ _ _ _ | exact U7 _ _ _ _ | exact DB (Dj _) | exact fA _ _ _ _ hx | exact aU (fA _ _ _ _ hx)
theorem jc(t:Nat)(Y:Operand)(x y:AV)(hx:∀tk es,x≠.slice tk es):Gt (Zf T op t Y x y):=by
 unfold Zf
 repeat' split
 all_goals first | exact CM | exact Dj _ | exact mN _ _ _ _ _ hx
theorem jd(t:Nat)(x:AV):Gt (WB T s t x):=by
 unfold WB
 repeat' split
 all_goals first | exact CM | exact Dj _ | exact DB (Dj _) | exact NH fun _=>DB (Dj _)
theorem dj(x:AV):Gt (Ua T s f x):=by
 unfold Ua
 repeat' split
 all_goals first | exact CM | exact Dj _
theorem aS(x:AV):Gt (PA T s f x):=by
 unfold PA
 repeat' split
 all_goals first | exact CM | exact IP _ _ _
theorem U6(t:Nat)(x ix:AV):Gt (J8 T t x ix):=by
 unfold J8
 repeat' split
 all_goals first | exact CM | exact DB (Dj _) | exact NH fun _=>DB (DB (Dj _))
theorem dk(t:Nat)(x ix:AV):Gt (Uz T t x ix):=by
 unfold Uz
 repeat' split
 all_goals first | exact CM | exact DB (IP _ _ _) | exact NH fun _=>DB (Dj _)
theorem YC(x:AV)(i:Nat):Gt (MN x i):=by
 unfold MN
 repeat' split
 all_goals first | exact CM | exact Dj _
theorem mP(x:AV):Gt (Lv x):=by
 unfold Lv
 repeat' split
 all_goals first | exact CM | exact Dj _
theorem je(c a b:AV):Gt (aQ c a b):=by
 unfold aQ
 repeat' split
 all_goals first | exact CM | exact Dj _
theorem qk(f:Int->Int->Int)(x y:AV):Gt (pV f x y):=by
 unfold pV
 repeat' split
 all_goals first | exact CM | exact Dj _
theorem jf(op:UnOp)(x:AV):Gt (bl op x):=by
 unfold bl
 repeat' split
 all_goals first | exact CM | exact Dj _ | exact aU (Dj _) | exact DB (Dj _)
def re(F:(α->Prop)->Prop):Prop:=∀K,F K->∃v,K v/\∀K',K' v->F K'
theorem aR(n:Nat)(a:AV):re (HA n a):=by
 intro K h;unfold HA at h⊢
 repeat' split at h
 all_goals first | exact h.elim | skip
 all_goals exact⟨_,h,fun K' h'=>h'⟩
theorem U4(pl:Nat->Option (Nat×Nat))(t:Nat->AV):∀(ps:List (Nat×Operand)) (cs:List AV),re (Lp pl cs t ps)
 | [],cs=>fun K h=>⟨cs,h,fun _ h=>h⟩
 |(i,x)::r,cs=>by
  intro K h;unfold Lp at h;split at h
  .exact h.elim
  .rename_i o n e;obtain⟨vs,h1,h2⟩:=aR _ _ _ h;split at h1
   .rename_i hb;obtain⟨c,h3,h4⟩:=U4 pl t r _ _ h1;refine⟨c,h3,fun K' h'=>?_⟩;unfold Lp;simp only[e];refine h2 _ ?_;simp only[hb];exact h4 K' h'
   .exact h1.elim
theorem di(ty:Nat)(t:Nat->AV)(ps:List (Nat×Operand)):Gt (QI T ty t ps):=by
 unfold QI
 repeat' split
 all_goals first
  |exact CM
  |exact fun K h=>let ⟨c,h1,h2⟩:=U4 _ _ _ _ _ h;⟨_,h1,fun K' h'=>h2 _ h'⟩
def eff(h:Nat->HO)(e:Option (Nat×HO)):Nat->HO:=match e with | none=>h | some (r,o)=>A0 h r o
structure Jn(o:Oper)(R:List Nat)(st st2:St):Prop where
 t:∀x∈o.op.operands,ev st2.t x=ev st.t x
 h:∀r∈R,st2.h r=st.h r
def Ev:Prop :=
 ∃v e,K v (eff st.h e)/\(∀r o',e=some (r,o')->w=some r/\r∈R)/\∀st2,Jn o R st st2->∀K' : HK,K' v (eff st2.h e)->F5 cx true o st2 K'
def Tw(r:Nat):Prop:=match w with | none=>False | some x=>x=r\/(10000000<=x/\(x % 10000000=r\/x / 10000000=r))\/x=XM
def IG(h:Nat->HO):List (Nat×HO)->Nat->HO
 | []=>h
 |p::l=>IG (A0 h p.1 p.2) l
def SV:Prop :=
 ∃v e,K v (IG st.h e)/\(∀r o',(r,o')∈e->Tw w r/\r∈R)/\∀st2,Jn o R st st2->∀K' : HK,K' v (IG st2.h e)->F5 cx true o st2 K'
section
variable {cx:Cx}{o:Oper}{st:St}{R:List Nat}{w:Option Nat}{K:HK}
theorem Ev.pick(hF:Gt F)(h:F fun v=>K v st.h)(h2:∀st2,Jn o R st st2->∀K' : HK,F (fun v=>K' v st2.h)->F5 cx true o st2 K'):Ev cx o st R w K :=
 let ⟨v,h1,h3⟩:=hF _ h
 ⟨v,none,h1,fun _ _ e=>(by cases e),fun st2 ha K' hk=>h2 st2 ha K' (h3 _ hk)⟩
theorem aw{cs:List AV}(h:a∈cs):∀r∈VO a,r∈pH cs:=by
 induction cs with
 |nil=>cases h
 |cons c cs ih =>
  intro r hr;rcases Az.1 h with rfl | h
  .exact BC _ hr
  .exact Br _ (ih h r hr)
theorem ma{cs:List AV}(h:a∈cs):∀r∈VP a,r∈tO cs:=by
 induction cs with
 |nil=>cases h
 |cons c cs ih =>
  intro r hr;rcases Az.1 h with rfl | h
  .exact BC _ hr
  .exact Br _ (ih h r hr)
theorem au{cs:List AV}(h:a∈cs):∀r∈YZ a,r∈Uv cs:=by
 induction cs with
 |nil=>cases h
 |cons c cs ih =>
  intro r hr;rcases Az.1 h with rfl | h
  .exact BC _ hr
  .exact Br _ (ih h r hr)
theorem WN(a:AV):∀r∈VO a,r∈VP a:=by cases a<;>simp[VO,VP]
theorem Ry{h h2:Nat->HO}(e:∀r∈VO a,h2 r=h r):str0 h2 a=str0 h a:=by
 cases a<;>simp only[str0]
 .rw[e _ (by simp[VO])]
 .rw[e _ (by simp[VO])]
theorem Xt{h h2:Nat->HO}(e:∀r∈VP a,h2 r=h r):str h2 a=str h a:=by
 cases a with
 |agg cs=>simp only[str];exact Aa _ (Bh fun c hc=>Ry fun r hr=>e r (aw hc r hr))
 |clo f cs=>simp only[str];exact Aa _ (Bh fun c hc=>Ry fun r hr=>e r (aw hc r hr))
 |_=>exact Ry (fun r hr=>e r (WN _ r hr))
theorem lO(a:AV):∀r∈VP a,r∈YZ a:=by
 cases a with
 |agg cs =>
  intro r hr;simp only[YZ,VP]at *
  induction cs with
  |nil=>exact hr
  |cons c cs ih =>
   rcases AO.1 hr with h | h
   .exact BC _ (WN c r h)
   .exact Br _ (ih h)
 |_=>exact fun r hr=>hr
theorem LD{h h2:Nat->HO}(e:∀r∈YZ a,h2 r=h r):str h2 a=str h a:=Xt fun r hr=>e r (lO a r hr)
theorem Rz{h h2:Nat->HO}{l:List AV}(e:∀r∈Uv l,h2 r=h r):l.map (str h2)=l.map (str h) :=
 Bh fun _ ha=>LD fun r hr=>e r (au ha r hr)
theorem m7{h h2:Nat->HO}(e:∀r∈YZ a,h2 r=h r):rsv h2 a=rsv h a:=by
 cases a<;>simp only[rsv]
 .rw[e _ (by simp[YZ,VP,VO])]
 .rw[e _ (by simp[YZ,VP,VO])]
theorem Oo{n:Nat}{K:List AV->Prop}(hk:HA n a K):∃cs,K cs/\(∀K' : List AV->Prop,K' cs->HA n a K')/\∀h h2:Nat->HO,(∀r∈YZ a,h2 r=h r)->cs.map (str h2)=cs.map (str h):=by
 have single:K [a]->(∀K' : List AV->Prop,K' [a]->HA n a K')->∃cs,K cs/\(∀K' : List AV->Prop,K' cs->HA n a K')/\∀h h2:Nat->HO,(∀r∈YZ a,h2 r=h r)->cs.map (str h2)=cs.map (str h) :=
  fun h1 h2=>⟨[a],h1,h2,fun h h2 e=>by simp[LD e]⟩
 unfold HA at hk;split at hk
 .rename_i cs;split at hk
  .rename_i hn;refine⟨cs,hk,fun K' h=>by unfold HA;simp only[hn];exact h,fun h h2 e=>Bh fun c hc=>Xt fun r hr=>e r (ma hc r hr)⟩
  .exact hk.elim
 .rename_i tB;split at hk
  .rename_i h1;split at hk
   .refine single hk fun K' h=>?_;unfold HA;split
    .rename_i cs;exact absurd rfl (tB cs)
    .rw[h1];exact h
   .exact hk.elim
  .exact hk.elim
theorem Ub{n sz:Nat}{t:Nat->AV}:∀{ps:List (Nat×Operand)} {es:List (List AV)} {h:Nat->HO} {K:List (List AV)->Prop},RR n sz h es t ps K ->
  ∃FP,K FP/\∀(t2:Nat->AV) (h2:Nat->HO),(∀r∈Uv (ps.map fun p=>ev t p.2),h2 r=h r)->(∀p∈ps,ev t2 p.2=ev t p.2)->∀K' : List (List AV)->Prop,K' FP->RR n sz h2 es t2 ps K'
 | [],es,h,K,hk=>⟨es,hk,fun _ _ _ _ _ h=>h⟩
 |(i,x)::r,es,h,K,hk=>by
  unfold RR at hk;split at hk
  .rename_i hb;obtain⟨cs,c1,c2,c3⟩:=Oo hk;obtain⟨FP,e1,e2⟩:=Ub c1;refine⟨FP,e1,fun t2 h2 hh ht K' hk'=>?_⟩;unfold RR;rw[hb,ht (i,x) (Ab ..)];refine c2 _ ?_;rw[c3 h h2 (fun r hr=>hh r (BC _ hr))];exact e2 t2 h2 (fun r hr=>hh r (Br _ hr)) (fun p hp=>ht p (Ah _ hp)) K' hk'
  .exact hk.elim
theorem IU{d:Option Nat}{h:Nat->HO}{sz:Nat}{es:List (List AV)}(hk:ET cx d h sz es K) :
  ∃d',d.map (Ks cx)=some d'/\∃v x,K v (A0 h d' x)/\∀h2:Nat->HO,h2 d'=h d'->∀K' : HK,K' v (A0 h2 d' x)->ET cx d h2 sz es K':=by
 unfold ET at hk;split at hk
 .exact hk.elim
 .rename_i d;split at hk
  .rename_i hd;split at hk
   .rename_i e;exact⟨Ks cx d,rfl,_,_,hk,fun h2 hh K' h'=>by unfold ET;simp only[hh,hd,e];exact h'⟩
   .rename_i e;exact⟨Ks cx d,rfl,_,_,hk,fun h2 hh K' h'=>by unfold ET;simp only[hh,hd,e];exact h'⟩
  .exact hk.elim
theorem cd{h:Nat->HO}{x:AV}{K:List (List AV)->Prop}(hk:LX h x K):∃es,K es/\∀h2:Nat->HO,(∀r n,x=.msl r n->h2 r=h r)->∀K' : List (List AV)->Prop,K' es->LX h2 x K':=by
 unfold LX at hk;split at hk
 .exact⟨_,hk,fun _ _ K' h=>h⟩
 .exact⟨_,hk,fun _ _ K' h=>h⟩
 .rename_i r n;split at hk
  .rename_i sz es e;exact⟨_,hk.2,fun h2 hh K' h=>by unfold LX;simp only[hh r n rfl,e];exact⟨hk.1,h⟩⟩
  .exact hk.elim
 .exact hk.elim
end
section
variable {cx:Cx}{dst:Option Nat}{ty:Nat}{pos:String}{after:Array Edge}{gd:Option (Nat×Bool)}{st:St}{R:List Nat}{w:Option Nat}{K:HK}
theorem I5{d:Option Nat}{l:List Nat}{f:FJ}(h:I4 d l=some f):∃d',d=some d'/\f=(d' :: l,some d'):=by
 unfold I4 at h;cases d with
 |none=>cases h
 |some d=>cases h;exact⟨d,rfl,rfl⟩
theorem ZM{e:Nat}(hk:F5 cx true ⟨dst,.alloc e,ty,pos,after,gd⟩ st K)(hf:Fy cx ⟨dst,.alloc e,ty,pos,after,gd⟩ st=some (R,w)):Ev cx ⟨dst,.alloc e,ty,pos,after,gd⟩ st R w K:=by
 simp only[F5]at hk;obtain⟨d,rfl,e0⟩:=I5 hf;cases e0;unfold TJ at hk;simp only at hk;split at hk
 .rename_i hd;split at hk
  .exact hk.elim
  .rename_i Dy;split at hk
   .rename_i ha;refine⟨_,some (d,_),hk,fun r o' e=>(by cases e;exact⟨rfl,Ab ..⟩),fun st2 Hx K' h'=>?_⟩;simp only[F5,TJ];rw[Hx.h d (Ab ..),hd];simp only[ha];exact h'
   .exact hk.elim
 .exact hk.elim
theorem gW{e:Nat}(hk:F5 cx true ⟨dst,.box e x,ty,pos,after,gd⟩ st K)(hf:Fy cx ⟨dst,.box e x,ty,pos,after,gd⟩ st=some (R,w)):Ev cx ⟨dst,.box e x,ty,pos,after,gd⟩ st R w K:=by
 simp only[F5]at hk;obtain⟨d,rfl,e0⟩:=I5 hf;cases e0;unfold gA at hk;simp only at hk;split at hk
 .rename_i hd;split at hk
  .exact hk.elim
  .rename_i Dy;obtain⟨cs,c1,c2,c3⟩:=Oo hk;split at c1
   .rename_i hm;refine⟨_,some (d,_),c1,fun r o' e=>(by cases e;exact⟨rfl,Ab ..⟩),fun st2 Hx K' h'=>?_⟩;have hx:ev st2.t x=ev st.t x:=Hx.t x (by simp[Op.operands]);simp only[F5,gA];rw[Hx.h d (Ab ..),hd,hx];simp only[hm];refine c2 _ ?_;rw[c3 st.h st2.h (fun r hr=>Hx.h r (Ah _ hr))];exact h'
   .rename_i hm;refine⟨_,some (d,_),c1,fun r o' e=>(by cases e;exact⟨rfl,Ab ..⟩),fun st2 Hx K' h'=>?_⟩;have hx:ev st2.t x=ev st.t x:=Hx.t x (by simp[Op.operands]);simp only[F5,gA];rw[Hx.h d (Ab ..),hd,hx];simp only[hm];exact c2 _ h'
 .exact hk.elim
theorem QT{t n:Nat}{ps:Array (Nat×Operand)}(hk:F5 cx true ⟨dst,.buildSlice t n ps,ty,pos,after,gd⟩ st K)(hf:Fy cx ⟨dst,.buildSlice t n ps,ty,pos,after,gd⟩ st=some (R,w)) :
  Ev cx ⟨dst,.buildSlice t n ps,ty,pos,after,gd⟩ st R w K:=by
 simp only[F5]at hk;obtain⟨d,hJ,e0⟩:=I5 hf;cases e0;unfold I1 at hk;split at hk
 .rename_i e he;split at hk
  .rename_i h1 h2;split at hk
   .exact hk.elim
   .rename_i k EM;split at hk
    .rename_i hb;obtain⟨es,q1,q2⟩:=Ub hk;obtain⟨d',hd,v,x,q3,q4⟩:=IU q1;have hd:dst.map (Ks cx)=some d':=hd;have hJ:dst.map (Ks cx)=some d:=hJ;rw[hJ]at hd;cases hd;refine⟨v,some (d,x),q3,fun r o' e=>(by cases e;exact⟨rfl,Ab ..⟩),fun st2 Hx K' h'=>?_⟩;have hx:∀p∈ps.toList,ev st2.t p.2=ev st.t p.2:=fun p hp=>Hx.t p.2 (by
      simp only[Op.operands,List.mem_toArray];exact Ag.2 ⟨p,hp,rfl⟩)
     simp only[F5,I1,he,h1,h2];split
     .rename_i e0;rw[EM]at e0;cases e0
     .rw[hb];exact q2 st2.t st2.h (fun r hr=>Hx.h r (Ah _ hr)) hx _ (q4 st2.h (Hx.h d (Ab ..)) K' h')
    .exact hk.elim
  .exact hk.elim
 .exact hk.elim
theorem SF{t:Nat}{n c:Operand}(hk:F5 cx true ⟨dst,.makeSlice t n c,ty,pos,after,gd⟩ st K)(hf:Fy cx ⟨dst,.makeSlice t n c,ty,pos,after,gd⟩ st=some (R,w)) :
  Ev cx ⟨dst,.makeSlice t n c,ty,pos,after,gd⟩ st R w K:=by
 simp only[F5]at hk;obtain⟨d,hJ,e0⟩:=I5 hf;cases e0;have hn:∀st2,Jn ⟨dst,.makeSlice t n c,ty,pos,after,gd⟩ (d::[]) st st2->ev st2.t n=ev st.t n/\ev st2.t c=ev st.t c:=fun st2 ha=>⟨ha.t n (by simp[Op.operands]),ha.t c (by simp[Op.operands])⟩;unfold J9 at hk;split at hk
 .rename_i e a b h1 h2 h3;split at hk
  .rename_i h4;split at hk
   .rename_i h5;split at hk
    .exact hk.elim
    .rename_i k EM;obtain⟨d',hd,v,x,q3,q4⟩:=IU hk.2;have hd:dst.map (Ks cx)=some d':=hd;have hJ:dst.map (Ks cx)=some d:=hJ;rw[hJ]at hd;cases hd;refine⟨v,some (d,x),q3,fun r o' e=>(by cases e;exact⟨rfl,Ab ..⟩),fun st2 Hx K' h'=>?_⟩;simp only[F5,J9,(hn st2 Hx).1,(hn st2 Hx).2,h1,h2,h3,h4,h5];split
     .rename_i e0;rw[EM]at e0;cases e0
     .exact⟨hk.1,q4 st2.h (Hx.h d (Ab ..)) K' h'⟩
   .exact hk.elim
  .exact hk.elim
 .exact hk.elim
theorem VJ{t:Nat}{r:Option Operand}(hk:F5 cx true ⟨dst,.makeMap t r,ty,pos,after,gd⟩ st K)(hf:Fy cx ⟨dst,.makeMap t r,ty,pos,after,gd⟩ st=some (R,w)) :
  Ev cx ⟨dst,.makeMap t r,ty,pos,after,gd⟩ st R w K:=by
 cases r with
 |some r=>exact hk.elim
 |none =>
  simp only[F5]at hk;obtain⟨d,rfl,e0⟩:=I5 hf;cases e0;unfold Lt at hk;simp only at hk;split at hk
  .rename_i hd;split at hk
   .rename_i h1;split at hk
    .rename_i h2;split at hk
     .rename_i h3;refine⟨_,some (d,_),hk,fun r o' e=>(by cases e;exact⟨rfl,Ab ..⟩),fun st2 Hx K' h'=>?_⟩;simp only[F5,Lt];rw[Hx.h d (Ab ..),hd];simp only[h1,h2,h3];exact h'
     .rename_i h3;refine⟨_,some (d,_),hk,fun r o' e=>(by cases e;exact⟨rfl,Ab ..⟩),fun st2 Hx K' h'=>?_⟩;simp only[F5,Lt];rw[Hx.h d (Ab ..),hd];simp only[h1,h2,h3];exact h'
    .exact hk.elim
   .exact hk.elim
  .exact hk.elim
theorem ZN{t:Nat}(hk:F5 cx true ⟨dst,.store t p x,ty,pos,after,gd⟩ st K)(hf:Fy cx ⟨dst,.store t p x,ty,pos,after,gd⟩ st=some (R,w)) :
  Ev cx ⟨dst,.store t p x,ty,pos,after,gd⟩ st R w K:=by
 simp only[F5]at hk;have hn:∀st2,Jn ⟨dst,.store t p x,ty,pos,after,gd⟩ R st st2->ev st2.t p=ev st.t p/\ev st2.t x=ev st.t x:=fun st2 ha=>⟨ha.t p (by simp[Op.operands]),ha.t x (by simp[Op.operands])⟩;unfold OO at hk;split at hk
 .exact hk.elim
 .rename_i Dy;obtain⟨cs,c1,c2,c3⟩:=Oo hk;simp only[Fy]at hf;split at hf
  .rename_i r off hp;split at hf
   .cases hf
   .rename_i hm;cases hf;rw[hp]at c1;simp only at c1;split at c1
    .rename_i EC hr;obtain⟨H2,hk'⟩:=c1;rw[hm]at hk';refine⟨_,some (r,_),hk',fun r o' e=>(by cases e;exact⟨rfl,Ab ..⟩),fun st2 Hx K' h'=>?_⟩;simp only[F5,OO,(hn st2 Hx).1,(hn st2 Hx).2];refine c2 _ ?_;rw[hp];simp only[Hx.h r (Ab ..),hr,hm];exact⟨H2,h'⟩
    .exact c1.elim
  .rename_i r n sz i off hp;cases hf;rw[hp]at c1;simp only at c1;split at c1
   .rename_i GV es hr;split at c1
    .rename_i hs;obtain⟨H2,cell,e1,e2,hk'⟩:=c1;split at hk'
     .rename_i j m;refine⟨_,some (r,_),hk',fun r o' e=>(by cases e;exact⟨rfl,Ab ..⟩),fun st2 Hx K' h'=>?_⟩;simp only[F5,OO,(hn st2 Hx).1,(hn st2 Hx).2];refine c2 _ ?_;rw[hp];simp only[Hx.h r (Ab ..),hr,hs];exact⟨H2,cell,e1,e2,h'⟩
     .rename_i NO;refine⟨_,some (r,_),hk',fun r o' e=>(by cases e;exact⟨rfl,Ab ..⟩),fun st2 Hx K' h'=>?_⟩;simp only[F5,OO,(hn st2 Hx).1,(hn st2 Hx).2];refine c2 _ ?_;rw[hp];simp only[Hx.h r (Ab ..),hr,hs];refine⟨H2,cell,e1,e2,?_⟩;rw[c3 st.h st2.h (fun r hr=>Hx.h r (Ah _ hr))];exact h'
    .exact c1.elim
   .exact c1.elim
  .cases hf
theorem SG{t:Nat}{m k:Operand}(hk:F5 cx true ⟨dst,.mapUpdate t m k x,ty,pos,after,gd⟩ st K)(hf:Fy cx ⟨dst,.mapUpdate t m k x,ty,pos,after,gd⟩ st=some (R,w)) :
  Ev cx ⟨dst,.mapUpdate t m k x,ty,pos,after,gd⟩ st R w K:=by
 simp only[F5]at hk;have hn:∀st2,Jn ⟨dst,.mapUpdate t m k x,ty,pos,after,gd⟩ R st st2->ev st2.t m=ev st.t m/\ev st2.t k=ev st.t k/\ev st2.t x=ev st.t x:=fun st2 ha=>⟨ha.t m (by simp[Op.operands]),ha.t k (by simp[Op.operands]),ha.t x (by simp[Op.operands])⟩;simp only[Fy]at hf;split at hf
 .rename_i r hm;cases hf;unfold HE at hk;rw[hm]at hk;simp only at hk;split at hk
  .rename_i sh B7 hr;unfold KW at hk;split at hk
   .rename_i kt e h1;split at hk
    .rename_i z6 h2;split at hk
     .rename_i h3;split at hk
      .rename_i kx h4;split at hk
       .rename_i h5;refine⟨_,some (r,_),hk,fun r o' e=>(by cases e;exact⟨rfl,Ab ..⟩),fun st2 Hx K' h'=>?_⟩;obtain⟨n1,n2,n3⟩:=hn st2 Hx;simp only[F5,HE,n1,n2,n3,hm,Hx.h r (Ab ..),hr,KW,h1,h2,h3,h4,h5];rw[LD (h:=st.h) (h2:=st2.h) (fun r hr=>Hx.h r (Ah _ hr))];exact h'
       .exact hk.elim
      .exact hk.elim
     .exact hk.elim
    .exact hk.elim
   .exact hk.elim
  .rename_i sh B7 hr;unfold KW at hk;split at hk
   .rename_i kt e h1;split at hk
    .rename_i z6 h2;split at hk
     .rename_i h3;split at hk
      .rename_i kx h4;split at hk
       .rename_i h5;refine⟨_,some (r,_),hk,fun r o' e=>(by cases e;exact⟨rfl,Ab ..⟩),fun st2 Hx K' h'=>?_⟩;obtain⟨n1,n2,n3⟩:=hn st2 Hx;simp only[F5,HE,n1,n2,n3,hm,Hx.h r (Ab ..),hr,KW,h1,h2,h3,h4,h5];exact h'
       .exact hk.elim
      .exact hk.elim
     .exact hk.elim
    .exact hk.elim
   .exact hk.elim
  .exact hk.elim
 .cases hf
theorem fB{A B:(AV->Prop)->Prop}(ha:Gt A)(hb:Gt B):Gt fun K=>A K\/B K:=by
 intro K hk;rcases hk with hk | hk
 .obtain⟨v,h1,h2⟩:=ha K hk;exact⟨v,h1,fun K' h=>.inl (h2 K' h)⟩
 .obtain⟨v,h1,h2⟩:=hb K hk;exact⟨v,h1,fun K' h=>.inr (h2 K' h)⟩
theorem Ui{fn:Fn}{first cap:Array Operand}(hk:F5 cx true ⟨dst,.makeFunc fn first cap,ty,pos,after,gd⟩ st K)(hf:Fy cx ⟨dst,.makeFunc fn first cap,ty,pos,after,gd⟩ st=some (R,w)) :
  Ev cx ⟨dst,.makeFunc fn first cap,ty,pos,after,gd⟩ st R w K:=by
 simp only[F5]at hk;simp only[Fy]at hf;cases hf;unfold Ls at hk;split at hk
 .rename_i f h1;refine⟨_,none,hk,fun r o' e=>(by cases e),fun st2 Hx K' h'=>?_⟩;simp only[F5,h1,Ls]
  have:cap.toList.map (fun x=>rsv st2.h (ev st2.t x))=cap.toList.map (fun x=>rsv st.h (ev st.t x)):=Bh fun x hx=>by
   rw[Hx.t x (by simp only[Op.operands,Ts];exact .inr (by simpa using hx))];exact m7 fun r hr=>Hx.h r (au (Ag.2 ⟨x,hx,rfl⟩) r hr)
  rw[this];exact h'
 .exact hk.elim
end
section
variable {cx:Cx}{dst:Option Nat}{ty:Nat}{pos:String}{after:Array Edge}{gd:Option (Nat×Bool)}{st:St}{R:List Nat}{w:Option Nat}{K:HK}
theorem cq{t:Nat}(hk:F5 cx true ⟨dst,.load t p,ty,pos,after,gd⟩ st K)(hf:Fy cx ⟨dst,.load t p,ty,pos,after,gd⟩ st=some (R,w)):Ev cx ⟨dst,.load t p,ty,pos,after,gd⟩ st R w K:=by
 simp only[F5]at hk;have hn:∀st2,Jn ⟨dst,.load t p,ty,pos,after,gd⟩ R st st2->ev st2.t p=ev st.t p:=fun st2 ha=>ha.t p (by simp[Op.operands]);simp only[Fy]at hf;unfold IK at hk;split at hf
 .rename_i cs hp;cases hf;rw[hp]at hk;simp only at hk;exact .pick (IP _ _ _) hk fun st2 ha K' h=>by simp only[F5,IK,hn st2 ha,hp];exact h
 .rename_i r off hp;cases hf;rw[hp]at hk;simp only at hk;split at hk
  .rename_i cs hr;exact .pick (IP _ _ _) hk fun st2 ha K' h=>by simp only[F5,IK,hn st2 ha,hp,ha.h r (Ab ..),hr];exact h
  .rename_i cs hr;exact .pick (IP _ _ _) hk fun st2 ha K' h=>by simp only[F5,IK,hn st2 ha,hp,ha.h r (Ab ..),hr];exact h
  .exact hk.elim
 .rename_i r n sz i off hp;cases hf;rw[hp]at hk;simp only at hk;split at hk
  .rename_i GV es hr;split at hk
   .rename_i hs;exact .pick (DB (NH fun _=>DB (IP _ _ _))) hk fun st2 ha K' h=>by simp only[F5,IK,hn st2 ha,hp,ha.h r (Ab ..),hr,hs];exact h
   .exact hk.elim
  .rename_i GV es i' c av hr;split at hk
   .rename_i hs;exact .pick (DB (IP _ _ _)) hk fun st2 ha K' h=>by simp only[F5,IK,hn st2 ha,hp,ha.h r (Ab ..),hr,hs];exact h
   .exact hk.elim
  .exact hk.elim
 .cases hf
theorem Yf(hk:F5 cx true ⟨dst,.assign x,ty,pos,after,gd⟩ st K)(hf:Fy cx ⟨dst,.assign x,ty,pos,after,gd⟩ st=some (R,w)):Ev cx ⟨dst,.assign x,ty,pos,after,gd⟩ st R w K:=by
 simp only[F5]at hk;have hn:∀st2,Jn ⟨dst,.assign x,ty,pos,after,gd⟩ R st st2->ev st2.t x=ev st.t x:=fun st2 ha=>ha.t x (by simp[Op.operands]);simp only[Fy]at hf;split at hf
 .cases hf
 .rename_i hx;cases hf;have same:∃y,∀(h:Nat->HO) (K:HK),Pe cx dst h (ev st.t x) K↔K y h:=by
   unfold Pe;cases dst with
   |none=>exact⟨_,fun _ _=>RH⟩
   |some d =>
    simp only;cases G6 cx.pl.tok d with
    |some sz =>
     simp only;cases Nat.beq sz 0 with
     |true=>exact⟨_,fun _ _=>RH⟩
     |false =>
      refine⟨ev st.t x,fun h K=>?_⟩;simp only;split
      .rename_i e;exact absurd e (hx _ _ _)
      .exact RH
    |none =>
     simp only;cases G6 cx.pl.arr d with
     |some sz =>
      refine⟨ev st.t x,fun h K=>?_⟩;simp only;split
      .rename_i e;exact absurd e (hx _ _ _)
      .exact RH
     |none=>exact⟨_,fun _ _=>RH⟩
  obtain⟨y,same⟩:=same;exact .pick (Dj y) ((same _ _).1 hk) fun st2 ha K' h=>by simp only[F5];rw[hn st2 ha];exact(same _ _).2 h
theorem RT{t:Nat}{lo hi mx:Option Operand}(hp:Oj cx.pl.tok dst=none)(hk:F5 cx true ⟨dst,.slice t x lo hi mx,ty,pos,after,gd⟩ st K)(hf:Fy cx ⟨dst,.slice t x lo hi mx,ty,pos,after,gd⟩ st=some (R,w)) :
  Ev cx ⟨dst,.slice t x lo hi mx,ty,pos,after,gd⟩ st R w K:=by
 simp only[F5,hp]at hk;have hn:∀st2,Jn ⟨dst,.slice t x lo hi mx,ty,pos,after,gd⟩ R st st2->ev st2.t x=ev st.t x/\Ci st2.t lo=Ci st.t lo/\Ci st2.t hi=Ci st.t hi/\Ci st2.t mx=Ci st.t mx:=by
  intro st2 ha;have opt:∀y:Option Operand,(∀z,y=some z->ev st2.t z=ev st.t z)->Ci st2.t y=Ci st.t y:=by
   intro y hy;cases y with
   |none=>rfl
   |some z=>simp only[Ci];rw[hy z rfl]
  exact⟨ha.t x (by simp[Op.operands]),opt lo (fun z e=>ha.t z (by simp[Op.operands,e])),opt hi (fun z e=>ha.t z (by simp[Op.operands,e])),opt mx (fun z e=>ha.t z (by simp[Op.operands,e]))⟩
 simp only[Fy,hp]at hf;split at hf
 .cases hf
 .rename_i hx;cases hf;have e3:Ci st.t none=some none:=rfl
  have IH:Gt (fun K1=>GS cx dst st.h t (ev st.t x) (Ci st.t lo) (Ci st.t hi) (some none) fun v _=>K1 v) /\
    ∀(h:Nat->HO) (K:HK),GS cx dst h t (ev st.t x) (Ci st.t lo) (Ci st.t hi) (some none) K↔GS cx dst st.h t (ev st.t x) (Ci st.t lo) (Ci st.t hi) (some none) (fun v _=>K v h):=by
   generalize ev st.t x=X at hx;unfold GS;constructor
   .repeat' split
    all_goals first | exact CM | exact DB (Dj _) | exact DB (DB (Dj _)) | skip
    all_goals first | (rename_i e;cases e;done) | skip
    all_goals (exfalso;exact hx _ _ rfl)
   .intro h K
    repeat' split
    all_goals first | exact RH | skip
    all_goals exfalso
    all_goals first | exact hx _ _ rfl | (rename some none=some (some _)=>e4;cases e4)
  rw[e3]at hk;exact .pick IH.1 ((IH.2 _ _).1 hk) fun st2 ha K' h=>by
   obtain⟨n1,n2,n3,n4⟩:=hn st2 ha;simp only[F5,hp];rw[n1,n2,n3,n4,e3];exact(IH.2 _ _).2 h
 .rename_i y tk es hx;obtain⟨d,rfl,e0⟩:=I5 hf;cases e0;rw[hx]at hk;unfold GS at hk;split at hk
  .rename_i Ik MC rO e1 e2 e3;split at hk
   .split at hk<;>first | exact hk.elim | (rename_i e;cases e)
   .rename_i e he;split at hk
    .exact hk.elim
    .rename_i k EM;simp only at hk;split at hk
     .exfalso
      rename_i e4;simp only[Ci]at e3;split at e3<;>cases e3
     .rename_i m;split at hk
      .rename some d=some _=>e5
       cases e5
       split at hk
       .rename_i tg;refine⟨_,none,hk.2.2,fun r o' e=>(by cases e),fun st2 Hx K' h'=>?_⟩;obtain⟨n1,n2,n3,n4⟩:=hn st2 Hx;simp only[F5,hp];rw[n1,n2,n3,n4,hx,e1,e2,e3];unfold GS;simp only[he];split
        .rename_i e0;rw[EM]at e0;cases e0
        .simp only[tg];exact⟨hk.1,hk.2.1,h'⟩
       rename_i tg;split at hk
       .rename_i hd;refine⟨_,some (d,_),hk.2.2,fun r o' e=>(by cases e;exact⟨rfl,Ab ..⟩),fun st2 Hx K' h'=>?_⟩;obtain⟨n1,n2,n3,n4⟩:=hn st2 Hx;simp only[F5,hp];rw[n1,n2,n3,n4,hx,e1,e2,e3];unfold GS;simp only[he];split
        .rename_i e0;rw[EM]at e0;cases e0
        .simp only[tg];rw[Hx.h d (Ab ..),hd];exact⟨hk.1,hk.2.1,h'⟩
       .exact hk.elim
      .exact hk.elim
   .exact hk.elim
  .exact hk.elim
 .cases hf
theorem gY{t:Nat}{lo hi mx:Option Operand}{p:Nat}(hp:Oj cx.pl.tok dst=some p)(hk:F5 cx true ⟨dst,.slice t x lo hi mx,ty,pos,after,gd⟩ st K)(hf:Fy cx ⟨dst,.slice t x lo hi mx,ty,pos,after,gd⟩ st=some (R,w)) :
  SV cx ⟨dst,.slice t x lo hi mx,ty,pos,after,gd⟩ st R w K:=by
 simp only[F5,hp]at hk;simp only[Fy,hp]at hf;obtain⟨d',r,n,hd,hx,e0⟩:=co hf;cases e0;cases dst with
 |none=>cases hd
 |some d =>
 cases hd
 unfold Qh at hk;split at hk
 .rw[hx]at hk;unfold mR at hk;split at hk
  .rename_i d0 MC e1 e2;cases e1;split at hk
   .rename_i e he;split at hk
    .exact hk.elim
    .rename_i k EM;simp only at hk;split at hk
     .rename_i sz es hr;split at hk
      .rename_i hd;split at hk
       .rename_i q1 q3;obtain⟨h1,hk⟩:=hk;have hr8:r<10000000/\0<Ks cx d:=by simpa using q3
        obtain⟨hr7,hz⟩:=hr8;refine⟨_,[(r,.dead),(Ks cx d,_)],hk,fun r' o' e=>?_,fun st2 ha K' h'=>?_⟩
        .rcases Az.1 e with e | e
         .cases e
          refine⟨.inr (.inl ⟨by omega,.inl ?_⟩),Ab ..⟩;rw[Nat.add_mul_mod_self_left,Nat.mod_eq_of_lt hr7]
         .obtain e:=Ap.1 e;cases e;refine⟨.inr (.inl ⟨by omega,.inr ?_⟩),Ah _ (Ab ..)⟩;rw[Nat.add_mul_div_left _ _ Cl,Nat.div_eq_of_lt hr7,Bf]
        .have o1:Ci st2.t hi=Ci st.t hi:=by
          cases hi with
          |none=>rfl
          |some z=>simp only[Ci];rw[ha.t z (by simp[Op.operands])]
         simp only[F5,hp];unfold Qh;rw[ha.t x (by simp[Op.operands]),o1,hx,e2];unfold mR;simp only[he];split
         .rename_i e0;rw[EM]at e0;cases e0
         .simp only[ha.h r (Ab ..),hr,ha.h (Ks cx d) (Ah _ (Ab ..)),hd,q1,q3];exact⟨h1,h'⟩
       .exact hk.elim
      .exact hk.elim
     .exact hk.elim
   .exact hk.elim
  .exact hk.elim
 .exact hk.elim
theorem Ye{s:Operand}{Hg:Array TypeId}(hk:F5 cx true ⟨dst,.call ⟨.builtin .append,#[s,x],Hg⟩,ty,pos,after,gd⟩ st K)(hf:Fy cx ⟨dst,.call ⟨.builtin .append,#[s,x],Hg⟩,ty,pos,after,gd⟩ st=some (R,w)) :
  Ev cx ⟨dst,.call ⟨.builtin .append,#[s,x],Hg⟩,ty,pos,after,gd⟩ st R w K:=by
 have hk:Gj cx dst st.h .append Hg.toList [ev st.t s,ev st.t x] K:=hk;have hf:Yd cx dst (ev st.t s) (ev st.t x)=some (R,w):=hf;have hn:∀st2,Jn ⟨dst,.call ⟨.builtin .append,#[s,x],Hg⟩,ty,pos,after,gd⟩ R st st2->ev st2.t s=ev st.t s/\ev st2.t x=ev st.t x:=fun st2 ha =>
  ⟨ha.t s (by simp[Op.operands,Call.operands]),ha.t x (by simp[Op.operands,Call.operands])⟩
 have KU:∀st2,Jn ⟨dst,.call ⟨.builtin .append,#[s,x],Hg⟩,ty,pos,after,gd⟩ R st st2->∀K' : HK,Gj cx dst st2.h .append Hg.toList [ev st.t s,ev st.t x] K'->F5 cx true ⟨dst,.call ⟨.builtin .append,#[s,x],Hg⟩,ty,pos,after,gd⟩ st2 K':=by
  intro st2 ha K' h;rw[<-(hn st2 ha).1,<-(hn st2 ha).2]at h;exact h
 generalize Hg.toList=l at hk KU
 match l,hk,KU with
 | [t,t'],hk,KU =>
  simp only[Gj]at hk KU;split at hk
  .rename_i ht;simp only[ht]at KU;unfold IR at hk KU;split at hk
   .rename_i e he;simp only[he]at KU;split at hk
    .exact hk.elim
    .rename_i hz;simp only[hz]at KU;split at hk
     .exact hk.elim
     .rename_i k EM;obtain⟨es2,q1,q2⟩:=cd hk;have vK:∀d,R=d::iD (ev st.t x)->∀st2,Jn ⟨dst,.call ⟨.builtin .append,#[s,x],Hg⟩,ty,pos,after,gd⟩ R st st2->∀r n,ev st.t x=.msl r n->st2.h r=st.h r:=fun d hR st2 ha r n e=>ha.h r (by rw[hR,e];simp[iD]);unfold Yd at hf;split at hf
      .rename_i hs;obtain⟨d,hJ,e0⟩:=I5 hf;cases e0;rw[hs]at q1 KU;simp only at q1 KU;obtain⟨d',hd,v,y,q3,q4⟩:=IU q1.2;rw[hJ]at hd;cases hd;refine⟨v,some (d,y),q3,fun r o' e=>(by cases e;exact⟨rfl,Ab ..⟩),fun st2 Hx K' h'=>KU st2 Hx K' ?_⟩;split
       .rename_i e0;rw[EM]at e0;cases e0
       .exact q2 st2.h (vK d rfl st2 Hx) _ ⟨q1.1,q4 st2.h (Hx.h d (Ab ..)) K' h'⟩
      .rename_i GV es hs;obtain⟨d,hJ,e0⟩:=I5 hf;cases e0;rw[hs]at q1 KU;simp only at q1 KU;split at q1
       .rename_i h1;obtain⟨d',hd,v,y,q3,q4⟩:=IU q1.2;rw[hJ]at hd;cases hd;refine⟨v,some (d,y),q3,fun r o' e=>(by cases e;exact⟨rfl,Ab ..⟩),fun st2 Hx K' h'=>KU st2 Hx K' ?_⟩;split
        .rename_i e0;rw[EM]at e0;cases e0
        .refine q2 st2.h (vK d rfl st2 Hx) _ ?_;simp only[h1];exact⟨q1.1,q4 st2.h (Hx.h d (Ab ..)) K' h'⟩
       .exact q1.elim
      .rename_i r GV es hs;cases hf;rw[hs]at q1 KU;simp only at q1 KU;split at q1
       .rename_i sz n hr;split at q1
        .rename_i h1 h2;refine⟨_,some (r,_),q1.2,fun r o' e=>(by cases e;exact⟨rfl,Ab ..⟩),fun st2 Hx K' h'=>KU st2 Hx K' ?_⟩;split
         .rename_i e0;rw[EM]at e0;cases e0
         .refine q2 st2.h (vK r rfl st2 Hx) _ ?_;simp only[Hx.h r (Ab ..),hr,h1,h2];exact⟨q1.1,h'⟩
        .exact q1.elim
       .exact q1.elim
      .rename_i r n hs;cases hf;rw[hs]at q1 KU;simp only at q1 KU;split at q1
       .rename_i sz es hr;split at q1
        .rename_i h1;refine⟨_,some (r,_),q1.2,fun r o' e=>(by cases e;exact⟨rfl,Ab ..⟩),fun st2 Hx K' h'=>KU st2 Hx K' ?_⟩;split
         .rename_i e0;rw[EM]at e0;cases e0
         .refine q2 st2.h (vK r rfl st2 Hx) _ ?_;simp only[Hx.h r (Ab ..),hr,h1];exact⟨q1.1,h'⟩
        .exact q1.elim
       .exact q1.elim
      .cases hf
   .exact hk.elim
  .exact hk.elim
 | [],hk,_=>exact hk.elim
 | [_],hk,_=>exact hk.elim
 |_::_::_::_,hk,_=>exact hk.elim
theorem Xe(t:Nat):Gt (K6 T t):=by
 unfold K6
 repeat' split
 all_goals first | exact CM | exact Dj _
theorem U5(ty:Nat)(ok:Bool)(B7:List (Value×AV))(kx:Value):Gt (MR T ty ok B7 kx):=by
 unfold MR
 repeat' split
 .refine fB (NH fun a=>DB (Dj _)) (DB ?_);intro K hk;obtain⟨v,h1,h2⟩:=Xe T _ _ hk;exact⟨_,h1,fun K' h=>h2 _ h⟩
 .exact fB (NH fun a=>DB (Dj _)) (DB (Xe T _))
 .exact CM
theorem aT(ty:Nat)(sh:E2)(k:AV){F:Value->(AV->Prop)->Prop}(h:∀x,Gt (F x)):Gt fun K=>KW T ty sh k fun kx=>F kx K:=by
 unfold KW
 repeat' split
 all_goals first | exact CM | exact h _
theorem Yg{t:Nat}{m k:Operand}{ok:Bool}(hk:F5 cx true ⟨dst,.lookup t m k ok,ty,pos,after,gd⟩ st K)(hf:Fy cx ⟨dst,.lookup t m k ok,ty,pos,after,gd⟩ st=some (R,w)) :
  Ev cx ⟨dst,.lookup t m k ok,ty,pos,after,gd⟩ st R w K:=by
 simp only[F5]at hk;have hn:∀st2,Jn ⟨dst,.lookup t m k ok,ty,pos,after,gd⟩ R st st2->ev st2.t m=ev st.t m/\ev st2.t k=ev st.t k:=fun st2 ha=>⟨ha.t m (by simp[Op.operands]),ha.t k (by simp[Op.operands])⟩;simp only[Fy]at hf;unfold Nw at hk;split at hf
 .rename_i sh B7 hm;cases hf;rw[hm]at hk;simp only at hk;exact .pick (aT _ _ _ _ fun _=>U5 _ _ _ _ _) hk fun st2 ha K' h=>by simp only[F5,Nw,hn st2 ha,hm];exact h
 .rename_i r hm;cases hf;rw[hm]at hk;simp only at hk;split at hk
  all_goals first | exact hk.elim | (rename_i e;exact .pick (aT _ _ _ _ fun _=>U5 _ _ _ _ _) hk fun st2 ha K' h=>by simp only[F5,Nw,hn st2 ha,hm,ha.h r (Ab ..),e];exact h)
 .cases hf
theorem mO(t:Nat)(h:Nat->HO)(x:AV):Gt (Sg T t h x):=by
 unfold Sg
 repeat' split
 all_goals first | exact CM | exact Dj _
theorem tZ{T:GU}{t:Nat}{h h2:Nat->HO}{x:AV}(e:∀r,x=.mref r->h2 r=h r){K:AV->Prop}:Sg T t h2 x K=Sg T t h x K:=by
 cases x<;>first | rfl | skip
 rename_i r;unfold Sg;simp only[e r rfl]
theorem gX{Hg:Array TypeId}(hk:F5 cx true ⟨dst,.call ⟨.builtin .len,#[x],Hg⟩,ty,pos,after,gd⟩ st K)(hf:Fy cx ⟨dst,.call ⟨.builtin .len,#[x],Hg⟩,ty,pos,after,gd⟩ st=some (R,w)) :
  Ev cx ⟨dst,.call ⟨.builtin .len,#[x],Hg⟩,ty,pos,after,gd⟩ st R w K:=by
 have hk:Gj cx dst st.h .len Hg.toList [ev st.t x] K:=hk;have hf:Hs cx dst (.builtin .len) st.t [ev st.t x]=some (R,w):=hf;have hn:∀st2,Jn ⟨dst,.call ⟨.builtin .len,#[x],Hg⟩,ty,pos,after,gd⟩ R st st2->ev st2.t x=ev st.t x:=fun st2 ha=>ha.t x (by simp[Op.operands,Call.operands]);have KU:∀st2,Jn ⟨dst,.call ⟨.builtin .len,#[x],Hg⟩,ty,pos,after,gd⟩ R st st2->∀K' : HK,Gj cx dst st2.h .len Hg.toList [ev st.t x] K'->F5 cx true ⟨dst,.call ⟨.builtin .len,#[x],Hg⟩,ty,pos,after,gd⟩ st2 K':=by
  intro st2 ha K' h;rw[<-hn st2 ha]at h;exact h
 generalize Hg.toList=l at hk KU
 match l,hk,KU with
 | [t],hk,KU =>
  have hR:∀r,ev st.t x=.mref r->r∈R:=fun r e=>by
   rw[e]at hf;cases hf;exact Ab ..
  have hw:w=none:=by
   unfold Hs at hf;split at hf<;>first | (cases hf;rfl) | (rename_i e;cases e) | (rename_i e _;cases e) | skip
   all_goals (cases hf)
  subst hw;exact .pick (mO _ _ _ _) hk fun st2 ha K' h=>KU st2 ha K' (by
   simp only[Gj];rw[tZ fun r e=>ha.h r (hR r e)];exact h)
 | [],hk,_=>exact hk.elim
 |_::_::_,hk,_=>exact hk.elim
end
theorem pS{l:List Nat}{n:Nat}(h:Jk l n=true):n∈l:=by
 induction l with
 |nil=>cases h
 |cons a l ih =>
  unfold Jk at h
  by_cases e:a=n
  .exact e▸Ab ..
  .rw[CW e]at h;exact Ah _ (ih h)
theorem Zu(G:Nat->HO):∀(σ:JA) (h:Nat->HO),ED σ=true->(fun i=>match CC σ i with | some j=>G j | none=>h i)=IG h (σ.map fun p=>(p.1,G p.2))
 | [],h,_=>rfl
 |(i,j)::r,h,hσ=>by
  unfold ED at hσ;simp only[Ae]at hσ;have ih:=Zu G r (A0 h i (G j)) hσ.2;show _=IG (A0 h i (G j)) (r.map fun p=>(p.1,G p.2));rw[<-ih]
  funext i'
  have hn:CC r i=none:=by
   have:=hσ.1.1.1
   cases e:CC r i with
   |none=>rfl
   |some k=>rw[e]at this;simp at this
  by_cases e:i'=i
  .subst e;have e1:CC ((i',j)::r) i'=some j:=by unfold CC;rw[Di];rfl
   rw[e1,hn];show G j=A0 h i' (G j) i';unfold A0;rw[Di];rfl
  .have e1:CC ((i,j)::r) i'=CC r i':=by
    show(bif Nat.beq i i' then some j else CC r i')=_;rw[CW (Ne.symm e)];rfl
   rw[e1];cases CC r i' with
   |some k=>rfl
   |none=>show h i'=A0 h i (G j) i';unfold A0;rw[CW e];rfl
theorem Wq{σ:JA}{d:Nat}(hσ:ED σ=true){h h' : Nat->HO}:En σ d 0 h h'=IG h (σ.map fun p=>(p.1,(h' p.2).ren (Fq σ d 0) h')):=by
 rw[<-Zu (fun j=>(h' j).ren (Fq σ d 0) h') σ h hσ]
 funext i
 unfold En;cases CC σ i with
 |some j=>rfl
 |none =>
  have:(Nat.ble (BD d 0) i&&Nat.blt i (BD d 0))=false:=by
   rw[AM];simp only[WY,Ae,Dm,Cs];omega
  simp only[this]
section
variable {cx:Cx}{op:Op}{dst:Option Nat}{ty:Nat}{pos:String}{after:Array Edge}{gd:Option (Nat×Bool)}{st:St}{R:List Nat}{w:Option Nat}{K:HK}
theorem Ev.toL(h:Ev cx ⟨dst,op,ty,pos,after,gd⟩ st R w K):SV cx ⟨dst,op,ty,pos,after,gd⟩ st R w K:=by
 obtain⟨v,e,h1,h2,h3⟩:=h;cases e with
 |none=>exact⟨v,[],h1,fun r o' e=>(by cases e),h3⟩
 |some p=>exact⟨v,[p],h1,fun r o' e=>by
   obtain rfl:=Ap.1 e;obtain⟨a,b⟩:=h2 r o' rfl;exact⟨by rw[a];exact .inl rfl,b⟩,h3⟩
theorem cp{c:Call}(hk:F5 cx true ⟨dst,.call c,ty,pos,after,gd⟩ st K)(hf:Fy cx ⟨dst,.call c,ty,pos,after,gd⟩ st=some (R,w)):SV cx ⟨dst,.call c,ty,pos,after,gd⟩ st R w K:=by
 obtain⟨sW,args,Hg⟩:=c;have J3:∀st2,Jn ⟨dst,.call ⟨sW,args,Hg⟩,ty,pos,after,gd⟩ R st st2->args.toList.map (ev st2.t)=args.toList.map (ev st.t):=fun st2 ha =>
  Bh fun x hx=>ha.t x (by simp only[Op.operands,Call.operands,Ts];exact .inr (by simpa using hx))
 cases sW with
 |invoke r m=>exact hk.elim
 |value f =>
  have hk:GF cx true dst st (ev st.t f) (args.toList.map (ev st.t)) K:=hk;have hf:Hs cx dst (.value f) st.t (args.toList.map (ev st.t))=some (R,w):=hf;unfold Hs at hf;unfold GF at hk;simp only at hf hk;have hn:=J3;split at hf
  .rename_i eF;rw[eF]at hk;cases hf;obtain⟨res,h1,h2⟩:=hk;refine Ev.toL ⟨res,none,h2,fun r o' e=>(by cases e),fun st2 ha K' h'=>?_⟩;show GF cx true dst st2 (ev st2.t f) (args.toList.map (ev st2.t)) K';rw[J3 st2 ha,ha.t f (by simp[Op.operands,Call.operands])];unfold GF;simp only[eF];refine⟨res,?_,h'⟩;rw[LD (h:=st.h) (fun r hr=>ha.h r (BC _ hr)),Rz (h:=st.h) (fun r hr=>ha.h r (Br _ hr))];exact h1
  .rename_i eF;rw[eF]at hk;simp only at hk;cases dst with
   |none=>exact hk.elim
   |some d =>
    obtain⟨n,sz,es,h1,h2,h3⟩:=hk;have hf:some (BD d 0::(YZ (ev st.t f)++Uv (args.toList.map (ev st.t))),some (BD d 0))=some (R,w):=hf;cases hf;refine Ev.toL ⟨_,some (BD d 0,_),h3,fun r o' e=>(by cases e;exact⟨rfl,Ab ..⟩),fun st2 ha K' h'=>?_⟩;show GF cx true (some d) st2 (ev st2.t f) (args.toList.map (ev st2.t)) K';rw[J3 st2 ha,ha.t f (by simp[Op.operands,Call.operands])];unfold GF;simp only[eF];refine⟨n,sz,es,?_,?_,h'⟩
    .have:DU st2.h d 1=DU st.h d 1:=by simp only[DU,ha.h (BD d 0) (Ab ..)]
     rw[this];exact h1
    .rw[LD (h:=st.h) (fun r hr=>ha.h r (Ah _ (BC _ hr))),Rz (h:=st.h) (fun r hr=>ha.h r (Ah _ (Br _ hr)))];exact h2
  .rename_i eF;rw[eF]at hk;have hk:Sy cx 0 dst st.h (ev st.t f) (args.toList.map (ev st.t)) K:=hk;split at hf
   .rename_i r n l hl;cases hf;have IH:=hk;unfold Sy at IH;rw[hl]at IH;split at IH
    .rename_i d0 f0 r0 n0 l0 e1 e2 z1 z2;cases e2;split at IH
     .rename_i vs cI;split at IH
      .rename_i sz es hr;obtain⟨n',FP,h1,h2⟩:=IH;refine Ev.toL ⟨_,some (r,_),h2,fun r o' e=>(by cases e;exact⟨rfl,Ab ..⟩),fun st2 ha K' h'=>?_⟩;show GF cx true _ st2 (ev st2.t f) (args.toList.map (ev st2.t)) K';rw[J3 st2 ha,ha.t f (by simp[Op.operands,Call.operands]),hl,e1];unfold GF;simp only[eF];unfold Ql;simp only;unfold Sy;simp only[cI,ha.h r (Ab ..),hr];exact⟨n',FP,h1,h'⟩
      .exact IH.elim
     .exact IH.elim
    .exact IH.elim
   .cases hf
  .rename_i k eF;rw[eF]at hk;cases hb:Nat.beq k 1 with
   |true =>
    have QA:Nat.beq (k+1) 2=true:=hb;have hk:Vq cx dst st (ev st.t f) (args.toList.map (ev st.t)) K:=by
     have IH:(match Nat.beq (k+1) 2 with | true=>Vq cx dst st (ev st.t f) (args.toList.map (ev st.t)) K | false=>match Nat.beq (k+1) 3 with | true=>RF cx dst st (ev st.t f) (args.toList.map (ev st.t)) K | false=>Ql cx (k+1) dst st (ev st.t f) (args.toList.map (ev st.t)) K):=hk;rw[QA]at IH;exact IH
    rw[hb]at hf;cases dst with
    |none=>exact hk.elim
    |some d =>
     obtain⟨sz,es,h1,h2,h3⟩:=hk;have hf:some (BD d 0::(YZ (ev st.t f)++Uv (args.toList.map (ev st.t))),some (BD d 0))=some (R,w):=hf;cases hf;refine Ev.toL ⟨_,some (BD d 0,_),h3,fun r o' e=>(by cases e;exact⟨rfl,Ab ..⟩),fun st2 ha K' h'=>?_⟩;show GF cx true (some d) st2 (ev st2.t f) (args.toList.map (ev st2.t)) K';rw[J3 st2 ha,ha.t f (by simp[Op.operands,Call.operands])];unfold GF;simp only[eF,QA];refine⟨sz,es,?_,?_,h'⟩
     .have:DU st2.h d 1=DU st.h d 1:=by simp only[DU,ha.h (BD d 0) (Ab ..)]
      rw[this];exact h1
     .rw[LD (h:=st.h) (fun r hr=>ha.h r (Ah _ (BC _ hr))),Rz (h:=st.h) (fun r hr=>ha.h r (Ah _ (Br _ hr)))];exact h2
   |false =>
    have QA:Nat.beq (k+1) 2=false:=hb;rw[hb]at hf;have IH:(match Nat.beq (k+1) 2 with | true=>Vq cx dst st (ev st.t f) (args.toList.map (ev st.t)) K | false=>match Nat.beq (k+1) 3 with | true=>RF cx dst st (ev st.t f) (args.toList.map (ev st.t)) K | false=>Ql cx (k+1) dst st (ev st.t f) (args.toList.map (ev st.t)) K):=hk;rw[QA]at IH;cases hc:Nat.beq k 2 with
    |true =>
     have vz:Nat.beq (k+1) 3=true:=hc;rw[hc]at hf;simp only[vz]at IH;have hf:kW (args.toList.map (ev st.t))=some (R,w):=hf;unfold kW at hf;unfold RF at IH;split at hf
     .rename_i vs cI;cases hf;split at IH
      .rename_i l jP e1 e2 z1 z2;rw[cI]at e2;cases e2;split at IH
       .rename_i r sz es fN n e3 e4;obtain⟨⟨rfl,rfl⟩,v,FP,n',h1,h2⟩:=IH;refine⟨_,[(1001,_),(1000,_)],h2,fun r' o' e=>?_,fun st2 ha K' h'=>?_⟩
        .rcases Az.1 e with e | e
         .cases e
          exact⟨.inr (.inl ⟨by decide,.inr Cl⟩),by simp⟩
         .obtain e:=Ap.1 e;cases e;exact⟨.inr (.inl ⟨by decide,.inl Cl⟩),by simp⟩
        show GF cx true _ st2 (ev st2.t f) (args.toList.map (ev st2.t)) K';rw[J3 st2 ha,ha.t f (by simp[Op.operands,Call.operands]),e1];unfold GF;simp only[eF,QA,vz];unfold RF;simp only[cI,ha.h 1000 B0,ha.h 1001 B0,e3,e4];exact⟨⟨trivial,trivial⟩,v,FP,n',h1,h'⟩
       .exact IH.elim
      .exact IH.elim
     .cases hf
    |false =>
    have vz:Nat.beq (k+1) 3=false:=hc;rw[hc]at hf;have cC:Ql cx (k+1) dst st (ev st.t f) (args.toList.map (ev st.t)) K:=by
     simp only[vz]at IH;exact IH
    have tj:kU k dst (args.toList.map (ev st.t))=some (R,w):=hf;unfold kU at tj;unfold Ql at cC;cases he:Nat.beq k 3 with
    |true =>
     have og:Nat.beq (k+1) 4=true:=he;rw[he]at tj;rw[og]at cC;have tj:some (ph,some XM)=some (R,w):=tj;have cC:ZP cx dst st (ev st.t f) (args.toList.map (ev st.t)) K:=cC;cases tj;unfold ZP at cC;split at cC
     .rename_i d f' e2 _ _ _;obtain⟨σ,H0,Hn,args',res,g1,g2,g3,g4⟩:=cC;simp only[Ae]at g2;refine⟨_,σ.map fun p=>(p.1,(Ao Hn Af p.2).ren (Fq σ d 0) (Ao Hn Af)),(Wq (h:=st.h) (h':=Ao Hn Af) (d:=d) g2.1.1)▸g4,fun r' o' e=>?_,fun st2 ha K' h'=>?_⟩
      .obtain⟨p,hp,e⟩:=Ag.1 e;cases e;exact⟨.inr (.inr rfl),pS (Bc.1 g2.2 p hp)⟩
      .show GF cx true _ st2 (ev st2.t f) (args.toList.map (ev st2.t)) K';rw[J3 st2 ha,ha.t f (by simp[Op.operands,Call.operands])];unfold GF;simp only[eF,QA,vz];unfold Ql;simp only[og];unfold ZP;rw[e2];refine⟨σ,H0,Hn,args',res,fun h2 hh=>g1 h2 fun r hr=>(hh r hr).trans (ha.h r hr),by simp only[Ae];exact g2,g3,?_⟩;rw[Wq (h:=st2.h) (h':=Ao Hn Af) (d:=d) g2.1.1];exact h'
     .exact cC.elim
    |false =>
    have og:Nat.beq (k+1) 4=false:=he;rw[he]at tj;rw[og]at cC;have hf:d5 dst (args.toList.map (ev st.t))=some (R,w):=tj;have hk:Sy cx (k+1) dst st.h (ev st.t f) (args.toList.map (ev st.t)) K:=cC;obtain⟨d,r,n,l,rfl,hl,e0⟩:=cn hf;cases e0;unfold Sy at hk;rw[hl]at hk;split at hk
    .rename_i d0 f0 r0 n0 l0 e9 e1 e2;cases e9;cases e2;split at hk
     .rename_i vs cI;split at hk
      .rename_i sz es hr;obtain⟨n',FP,h0,h1,h2⟩:=hk;have h00:=h0;simp only[Ae,Cs]at h00;refine⟨_,[(r,.dead),(BD d 0,_)],h2,fun r' o' e=>?_,fun st2 ha K' h'=>?_⟩
       .rcases Az.1 e with e | e
        .cases e
         refine⟨.inr (.inl ⟨by unfold BD;omega,.inl ?_⟩),Ab ..⟩;rw[Nat.add_mul_mod_self_left,Nat.mod_eq_of_lt h00.1.2]
        .obtain e:=Ap.1 e;cases e;refine⟨.inr (.inl ⟨by unfold BD;omega,.inr ?_⟩),Ah _ (Ab ..)⟩;rw[Nat.add_mul_div_left _ _ Cl,Nat.div_eq_of_lt h00.1.2,Bf]
       show GF cx true _ st2 (ev st2.t f) (args.toList.map (ev st2.t)) K';rw[J3 st2 ha,ha.t f (by simp[Op.operands,Call.operands]),hl,e1];unfold GF;simp only[eF,QA,vz];unfold Ql;simp only[og];unfold Sy;simp only[cI,ha.h r (Ab ..),hr]
       have:DU st2.h d 1=DU st.h d 1:=by simp only[DU,ha.h (BD d 0) (Ah _ (Ab ..))]
       exact⟨n',FP,by rw[this];exact h0,h1,h'⟩
      .exact hk.elim
     .exact hk.elim
    .exact hk.elim
 |builtin b =>
  refine Ev.toL ?_;have mm:∀f:Int->Int->Int,(∀(d:Option Nat) (h:Nat->HO) (Hg:List Nat) (args:List AV) (K:HK),Gj cx d h b Hg args K=(match args with | [x,y]=>pV f x y fun v=>K v h | _=>False))->R=[]/\w=none->Ev cx ⟨dst,.call ⟨.builtin b,args,Hg⟩,ty,pos,after,gd⟩ st R w K:=by
   rintro f hb ⟨rfl,rfl⟩
   have hk:Gj cx dst st.h b Hg.toList (args.toList.map (ev st.t)) K:=hk;rw[hb]at hk;split at hk
   .rename_i x y e;refine .pick (qk f x y) hk fun st2 ha K' h=>?_;show Gj cx dst st2.h b Hg.toList (args.toList.map (ev st2.t)) K';rw[hb,J3 st2 ha,e];exact h
   .exact hk.elim
  cases b
  case max=>exact mm max (fun d h Hg args K=>by cases args with | nil=>rfl | cons x l=>cases l with | nil=>rfl | cons y l=>cases l<;>rfl) (by
   have hf:Hs cx dst (.builtin .max) st.t (args.toList.map (ev st.t))=some (R,w):=hf;simp only[Hs]at hf;cases hf;exact⟨rfl,rfl⟩)
  case min=>exact mm min (fun d h Hg args K=>by cases args with | nil=>rfl | cons x l=>cases l with | nil=>rfl | cons y l=>cases l<;>rfl) (by
   have hf:Hs cx dst (.builtin .min) st.t (args.toList.map (ev st.t))=some (R,w):=hf;simp only[Hs]at hf;cases hf;exact⟨rfl,rfl⟩)
  case append =>
   obtain⟨l⟩:=args
   match l,hk,hf with
   | [s,x],hk,hf=>exact Ye hk hf
   | [],hk,hf=>cases Hg;exact hk.elim
   | [_],hk,hf=>exact hk.elim
   |_::_::_::_,hk,hf=>exact hk.elim
  case len =>
   obtain⟨l⟩:=args
   match l,hk,hf with
   | [x],hk,hf=>exact gX hk hf
   | [],hk,hf=>exact hk.elim
   |_::_::_,hk,hf=>exact hk.elim
  all_goals exact hk.elim
theorem bJ{o:Oper}(hc:∀c,o.op≠.call c)(hs:(∃t x lo hi mx,o.op=.slice t x lo hi mx)->Oj cx.pl.tok o.dst=none)(hk:F5 cx true o st K)(hf:Fy cx o st=some (R,w)):Ev cx o st R w K:=by
 obtain⟨dst,op,ty,pos,after,gd⟩:=o;cases op with
 |call c=>exact absurd rfl (hc c)
 |alloc e=>exact ZM hk hf
 |box e x=>exact gW hk hf
 |buildSlice t n ps=>exact QT hk hf
 |makeSlice t n c=>exact SF hk hf
 |makeMap t r=>exact VJ hk hf
 |store t p x=>exact ZN hk hf
 |mapUpdate t m k x=>exact SG hk hf
 |makeFunc fn first cap=>exact Ui hk hf
 |load t p=>exact cq hk hf
 |assign x=>exact Yf hk hf
 |slice t x lo hi mx=>exact RT (hs ⟨t,x,lo,hi,mx,rfl⟩) hk hf
 |lookup t x i ok=>exact Yg hk hf
 |move x =>
  cases hf
  exact .pick (Dj _) hk fun st2 ha K' h=>by simp only[F5,ha.t x (by simp[Op.operands])];exact h
 |pick c a b =>
  cases hf
  exact .pick (je _ _ _) hk fun st2 ha K' h=>by simp only[F5,ha.t c (by simp[Op.operands]),ha.t a (by simp[Op.operands]),ha.t b (by simp[Op.operands])];exact h
 |nilCheck x =>
  cases hf
  exact .pick (mP _) hk fun st2 ha K' h=>by simp only[F5,ha.t x (by simp[Op.operands])];exact h
 |binOp op t x y u =>
  simp only[Fy]at hf;split at hf
  .cases hf
  .rename_i hx;cases hf;exact .pick (jc _ _ _ _ _ _ hx) hk fun st2 ha K' h=>by simp only[F5,ha.t x (by simp[Op.operands]),ha.t y (by simp[Op.operands])];exact h
 |unOp op t x =>
  cases hf
  exact .pick (jf _ _) hk fun st2 ha K' h=>by simp only[F5,ha.t x (by simp[Op.operands])];exact h
 |convert s t x =>
  cases hf
  exact .pick (jd _ _ _ _) hk fun st2 ha K' h=>by simp only[F5,ha.t x (by simp[Op.operands])];exact h
 |fieldAddr s x f =>
  cases hf
  exact .pick (dj _ _ _ _) hk fun st2 ha K' h=>by simp only[F5,ha.t x (by simp[Op.operands])];exact h
 |field s x f =>
  cases hf
  exact .pick (aS _ _ _ _) hk fun st2 ha K' h=>by simp only[F5,ha.t x (by simp[Op.operands])];exact h
 |indexAddr t x i =>
  cases hf
  exact .pick (U6 _ _ _ _) hk fun st2 ha K' h=>by simp only[F5,ha.t x (by simp[Op.operands]),ha.t i (by simp[Op.operands])];exact h
 |index t x i =>
  cases hf
  exact .pick (dk _ _ _ _) hk fun st2 ha K' h=>by simp only[F5,ha.t x (by simp[Op.operands]),ha.t i (by simp[Op.operands])];exact h
 |extract x i =>
  cases hf
  exact .pick (YC _ _) hk fun st2 ha K' h=>by simp only[F5,ha.t x (by simp[Op.operands])];exact h
 |build t ps =>
  cases hf
  refine .pick (di _ _ _ _) hk fun st2 ha K' h=>?_;have hx:∀p∈ps.toList,ev st2.t p.2=ev st.t p.2:=fun p hp=>ha.t p.2 (by
   simp only[Op.operands,List.mem_toArray];exact Ag.2 ⟨p,hp,rfl⟩)
  simp only[F5];have fill:∀(pl:Nat->Option (Nat×Nat)) (l:List (Nat×Operand)) (cs:List AV) (K:List AV->Prop),(∀p∈l,ev st2.t p.2=ev st.t p.2)->Lp pl cs st2.t l K=Lp pl cs st.t l K:=by
   intro pl l
   induction l with
   |nil=>intro cs K _;rfl
   |cons p l ih =>
    intro cs K hp;obtain⟨i,x⟩:=p;have h1:ev st2.t x=ev st.t x:=hp (i,x) (Ab ..);have h2:∀cs,Lp pl cs st2.t l K=Lp pl cs st.t l K:=fun cs=>ih cs K (fun p tE=>hp p (Ah _ tE));simp only[Lp,h1,h2]
  unfold QI at h⊢;simp only[fill _ _ _ _ hx];exact h
 |_=>cases hf
theorem gq{o:Oper}(hk:F5 cx true o st K)(hf:Fy cx o st=some (R,w)):SV cx o st R w K:=by
 obtain⟨dst,op,ty,pos,after,gd⟩:=o
 by_cases h:∃c,op=.call c
 .obtain⟨c,rfl⟩:=h;exact cp hk hf
 .by_cases h2:∃t x lo hi mx,op=.slice t x lo hi mx
  .obtain⟨t,x,lo,hi,mx,rfl⟩:=h2;cases hp:Oj cx.pl.tok dst with
   |none=>exact Ev.toL (RT hp hk hf)
   |some p=>exact gY hp hk hf
  .exact Ev.toL (bJ (fun c e=>h ⟨c,e⟩) (fun e=>absurd e h2) hk hf)
end
end Go.Eng
