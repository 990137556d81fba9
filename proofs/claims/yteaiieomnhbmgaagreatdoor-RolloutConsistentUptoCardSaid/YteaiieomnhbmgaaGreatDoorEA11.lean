/- Lemmas 11. -/
import Derived.Test.YteaiieomnhbmgaaGreatDoorEA10
namespace Go.Eng
variable {x:Operand}{F:(AV->Prop)->Prop}{a:AV}{p:Operand}{α:Type}(cx:Cx)(T:G2)(o:Oper)(st:St)(op:BinOp)(s:Nat)(R:List Nat)(k:IntKind)(f:Nat)(w:Option Nat)(K:HK)
def GC(F:(AV->Prop)->Prop):Prop:=∀K,F K->∃v,K v/\∀K',K' v->F K'
theorem Dq(v:AV):GC (fun K=>K v):=fun _ h=>⟨v,h,fun _ h=>h⟩
theorem DG{p:Prop}(h:GC F):GC (fun K=>p/\F K):=fun K ⟨hp,hk⟩=>
 let ⟨v,h1,h2⟩:=h K hk
 ⟨v,h1,fun K' h'=>⟨hp,h2 K' h'⟩⟩
theorem CQ:GC (fun _=>False):=fun _ h=>h.elim
theorem XJ(p:Prop):GC (JE p):=fun K h=>by
 by_cases hp:p
 .exact⟨_,h.1 hp,fun K' h'=>⟨fun _=>h',fun hn=>absurd hp hn⟩⟩
 .exact⟨_,h.2 hp,fun K' h'=>⟨fun q=>absurd q hp,fun _=>h'⟩⟩
theorem bN(h:GC F):GC (fun K=>F (jF K)):=fun K hk=>by
 obtain⟨v,h1,h2⟩:=h _ hk;unfold jF at h1;split at h1
 .exact⟨_,h1,fun K' h'=>h2 _ h'⟩
 .exact⟨_,h1,fun K' h'=>h2 _ h'⟩
 .exact h1.elim
theorem N4{F:α->(AV->Prop)->Prop}(h:∀x,GC (F x)):GC (fun K=>∃x,F x K):=fun K ⟨x,hk⟩=>
 let ⟨v,h1,h2⟩:=h x K hk
 ⟨v,h1,fun K' h'=>⟨x,h2 K' h'⟩⟩
theorem I1(t:Nat)(cs:List AV):GC (MG T t cs):=by
 have head:GC (MC cs):=by unfold MC;cases cs with | nil=>exact CQ | cons a _=>exact Dq a
 unfold MG;split
 .exact DG (Dq _)
 .exact DG (Dq _)
 .cases cs with
  |nil=>exact CQ
  |cons a _=>
   intro K h;simp only[MC]at h⊢;split at h
   .rename_i b;cases b with
    |true=>exact⟨_,h.1 rfl,fun K' h'=>⟨fun _=>h',fun e=>by cases e⟩⟩
    |false=>exact⟨_,h.2 rfl,fun K' h'=>⟨fun e=>(by cases e),fun _=>h'⟩⟩
   .exact h.elim
 .exact CQ
 .exact head
theorem gC(t:Nat)(x y:AV)(hx:∀tk es,x≠.slice tk es):GC (wK T t x y):=by
 unfold wK
 repeat' split
 all_goals first | exact CQ | exact Dq _ | exact XJ _ | exact DG (Dq _) | exact absurd rfl (hx _ _)
theorem VC(a b:Int):GC (VN op k a b):=by
 unfold VN;split<;>first | exact CQ | exact DG (Dq _)
theorem dR(a b:Int):GC (Ui op k a b):=by
 unfold Ui
 repeat' split
 all_goals first | exact CQ | exact DG (Dq _) | (unfold Ym;split<;>first | exact Dq _ | exact DG (Dq _) | exact VC _ _ _ _)
theorem nQ(t:Nat)(x y:AV)(hx:∀tk es,x≠.slice tk es):GC (Un T op t x y):=by
 unfold Un
 repeat' split
 all_goals first | exact CQ | exact XJ _ | exact dR _ _ _ _ | exact VC _ _ _ _ | exact DG (Dq _) | exact gC _ _ _ _ hx | exact bN (gC _ _ _ _ hx)
theorem jW(t:Nat)(Y:Operand)(x y:AV)(hx:∀tk es,x≠.slice tk es):GC (ZO T op t Y x y):=by
 unfold ZO
 repeat' split
 all_goals first | exact CQ | exact Dq _ | exact nQ _ _ _ _ _ hx
theorem jX(t:Nat)(x:AV):GC (Xf T s t x):=by
 unfold Xf
 repeat' split
 all_goals first | exact CQ | exact Dq _ | exact DG (Dq _) | exact N4 fun _=>DG (Dq _)
theorem dT(x:AV):GC (UG T s f x):=by
 unfold UG
 repeat' split
 all_goals first | exact CQ | exact Dq _
theorem bL(x:AV):GC (Qf T s f x):=by
 unfold Qf
 repeat' split
 all_goals first | exact CQ | exact I1 _ _ _
theorem VB(t:Nat)(x ix:AV):GC (Kj T t x ix):=by
 unfold Kj
 repeat' split
 all_goals first | exact CQ | exact DG (Dq _) | exact N4 fun _=>DG (DG (Dq _))
theorem dU(t:Nat)(x ix:AV):GC (U7 T t x ix):=by
 unfold U7
 repeat' split
 all_goals first | exact CQ | exact DG (I1 _ _ _) | exact N4 fun _=>DG (Dq _)
theorem Za(x:AV)(i:Nat):GC (M5 x i):=by
 unfold M5
 repeat' split
 all_goals first | exact CQ | exact Dq _
theorem nS(x:AV):GC (LK x):=by
 unfold LK
 repeat' split
 all_goals first | exact CQ | exact Dq _
theorem jY(c a b:AV):GC (bJ c a b):=by
 unfold bJ
 repeat' split
 all_goals first | exact CQ | exact Dq _
theorem rk(f:Int->Int->Int)(x y:AV):GC (qR f x y):=by
 unfold qR
 repeat' split
 all_goals first | exact CQ | exact Dq _
theorem jZ(op:UnOp)(x:AV):GC (bX op x):=by
 unfold bX
 repeat' split
 all_goals first | exact CQ | exact Dq _ | exact bN (Dq _) | exact DG (Dq _)
def sv(F:(α->Prop)->Prop):Prop:=∀K,F K->∃v,K v/\∀K',K' v->F K'
theorem bK(n:Nat)(a:AV):sv (HJ n a):=by
 intro K h;unfold HJ at h⊢
 repeat' split at h
 all_goals first | exact h.elim | skip
 all_goals exact⟨_,h,fun K' h'=>h'⟩
theorem Vz(pl:Nat->Option (Nat×Nat))(t:Nat->AV):∀(ps:List (Nat×Operand)) (cs:List AV),sv (LD pl cs t ps)
 | [],cs=>fun K h=>⟨cs,h,fun _ h=>h⟩
 |(i,x)::r,cs=>by
  intro K h;unfold LD at h;split at h
  .exact h.elim
  .rename_i o n e;obtain⟨vs,h1,h2⟩:=bK _ _ _ h;split at h1
   .rename_i hb;obtain⟨c,h3,h4⟩:=Vz pl t r _ _ h1;refine⟨c,h3,fun K' h'=>?_⟩;unfold LD;simp only[e];refine h2 _ ?_;simp only[hb];exact h4 K' h'
   .exact h1.elim
theorem dS(ty:Nat)(t:Nat->AV)(ps:List (Nat×Operand)):GC (Rk T ty t ps):=by
 unfold Rk
 repeat' split
 all_goals first
  |exact CQ
  |exact fun K h=>let ⟨c,h1,h2⟩:=Vz _ _ _ _ _ h;⟨_,h1,fun K' h'=>h2 _ h'⟩
def eff(h:Nat->HO)(e:Option (Nat×HO)):Nat->HO:=match e with | none=>h | some (r,o)=>A2 h r o
structure JA(o:Oper)(R:List Nat)(st st2:St):Prop where
 t:∀x∈o.op.operands,ev st2.t x=ev st.t x
 h:∀r∈R,st2.h r=st.h r
def EB:Prop:=
 ∃v e,K v (eff st.h e)/\(∀r o',e=some (r,o')->w=some r/\r∈R)/\∀st2,JA o R st st2->∀K' : HK,K' v (eff st2.h e)->Gf cx true o st2 K'
def T4(r:Nat):Prop:=match w with | none=>False | some x=>x=r\/(10000000<=x/\(x % 10000000=r\/x / 10000000=r))\/x=Yk
def IS(h:Nat->HO):List (Nat×HO)->Nat->HO
 | []=>h
 |p::l=>IS (A2 h p.1 p.2) l
def TB:Prop:=
 ∃v e,K v (IS st.h e)/\(∀r o',(r,o')∈e->T4 w r/\r∈R)/\∀st2,JA o R st st2->∀K' : HK,K' v (IS st2.h e)->Gf cx true o st2 K'
section
variable {cx:Cx}{o:Oper}{st:St}{R:List Nat}{w:Option Nat}{K:HK}
theorem EB.pick(hF:GC F)(h:F fun v=>K v st.h)(h2:∀st2,JA o R st st2->∀K' : HK,F (fun v=>K' v st2.h)->Gf cx true o st2 K'):EB cx o st R w K:=
 let ⟨v,h1,h3⟩:=hF _ h
 ⟨v,none,h1,fun _ _ e=>(by cases e),fun st2 ha K' hk=>h2 st2 ha K' (h3 _ hk)⟩
theorem bl{cs:List AV}(h:a∈cs):∀r∈Wt a,r∈qE cs:=by
 induction cs with
 |nil=>cases h
 |cons c cs ih=>
  intro r hr;rcases AC.1 h with rfl | h
  .exact BD _ hr
  .exact Bw _ (ih h r hr)
theorem m9{cs:List AV}(h:a∈cs):∀r∈Wu a,r∈uZ cs:=by
 induction cs with
 |nil=>cases h
 |cons c cs ih=>
  intro r hr;rcases AC.1 h with rfl | h
  .exact BD _ hr
  .exact Bw _ (ih h r hr)
theorem bj{cs:List AV}(h:a∈cs):∀r∈Zy a,r∈U3 cs:=by
 induction cs with
 |nil=>cases h
 |cons c cs ih=>
  intro r hr;rcases AC.1 h with rfl | h
  .exact BD _ hr
  .exact Bw _ (ih h r hr)
theorem Xt(a:AV):∀r∈Wt a,r∈Wu a:=by cases a<;>simp[Wt,Wu]
theorem Sb{h h2:Nat->HO}(e:∀r∈Wt a,h2 r=h r):str0 h2 a=str0 h a:=by
 cases a<;>simp only[str0]
 .rw[e _ (by simp[Wt])]
 .rw[e _ (by simp[Wt])]
theorem XZ{h h2:Nat->HO}(e:∀r∈Wu a,h2 r=h r):str h2 a=str h a:=by
 cases a with
 |agg cs=>simp only[str];exact Aa _ (Bi fun c hc=>Sb fun r hr=>e r (bl hc r hr))
 |clo f cs=>simp only[str];exact Aa _ (Bi fun c hc=>Sb fun r hr=>e r (bl hc r hr))
 |_=>exact Sb (fun r hr=>e r (Xt _ r hr))
theorem mO(a:AV):∀r∈Wu a,r∈Zy a:=by
 cases a with
 |agg cs=>
  intro r hr;simp only[Zy,Wu]at *
  induction cs with
  |nil=>exact hr
  |cons c cs ih=>
   rcases AP.1 hr with h | h
   .exact BD _ (Xt c r h)
   .exact Bw _ (ih h)
 |_=>exact fun r hr=>hr
theorem LV{h h2:Nat->HO}(e:∀r∈Zy a,h2 r=h r):str h2 a=str h a:=XZ fun r hr=>e r (mO a r hr)
theorem Sc{h h2:Nat->HO}{l:List AV}(e:∀r∈U3 l,h2 r=h r):l.map (str h2)=l.map (str h):=
 Bi fun _ ha=>LV fun r hr=>e r (bj ha r hr)
theorem oe{h h2:Nat->HO}(e:∀r∈Zy a,h2 r=h r):rsv h2 a=rsv h a:=by
 cases a<;>simp only[rsv]
 .rw[e _ (by simp[Zy,Wu,Wt])]
 .rw[e _ (by simp[Zy,Wu,Wt])]
theorem OS{n:Nat}{K:List AV->Prop}(hk:HJ n a K):∃cs,K cs/\(∀K' : List AV->Prop,K' cs->HJ n a K')/\∀h h2:Nat->HO,(∀r∈Zy a,h2 r=h r)->cs.map (str h2)=cs.map (str h):=by
 have single:K [a]->(∀K' : List AV->Prop,K' [a]->HJ n a K')->∃cs,K cs/\(∀K' : List AV->Prop,K' cs->HJ n a K')/\∀h h2:Nat->HO,(∀r∈Zy a,h2 r=h r)->cs.map (str h2)=cs.map (str h):=
  fun h1 h2=>⟨[a],h1,h2,fun h h2 e=>by simp[LV e]⟩
 unfold HJ at hk;split at hk
 .rename_i cs;split at hk
  .rename_i hn;refine⟨cs,hk,fun K' h=>by unfold HJ;simp only[hn];exact h,fun h h2 e=>Bi fun c hc=>XZ fun r hr=>e r (m9 hc r hr)⟩
  .exact hk.elim
 .rename_i uN;split at hk
  .rename_i h1;split at hk
   .refine single hk fun K' h=>?_;unfold HJ;split
    .rename_i cs;exact absurd rfl (uN cs)
    .rw[h1];exact h
   .exact hk.elim
  .exact hk.elim
theorem UH{n sz:Nat}{t:Nat->AV}:∀{ps:List (Nat×Operand)} {es:List (List AV)} {h:Nat->HO} {K:List (List AV)->Prop},Sy n sz h es t ps K ->
  ∃F0,K F0/\∀(t2:Nat->AV) (h2:Nat->HO),(∀r∈U3 (ps.map fun p=>ev t p.2),h2 r=h r)->(∀p∈ps,ev t2 p.2=ev t p.2)->∀K' : List (List AV)->Prop,K' F0->Sy n sz h2 es t2 ps K'
 | [],es,h,K,hk=>⟨es,hk,fun _ _ _ _ _ h=>h⟩
 |(i,x)::r,es,h,K,hk=>by
  unfold Sy at hk;split at hk
  .rename_i hb;obtain⟨cs,c1,c2,c3⟩:=OS hk;obtain⟨F0,e1,e2⟩:=UH c1;refine⟨F0,e1,fun t2 h2 hh ht K' hk'=>?_⟩;unfold Sy;rw[hb,ht (i,x) (Ab ..)];refine c2 _ ?_;rw[c3 h h2 (fun r hr=>hh r (BD _ hr))];exact e2 t2 h2 (fun r hr=>hh r (Bw _ hr)) (fun p hp=>ht p (Ah _ hp)) K' hk'
  .exact hk.elim
theorem I6{d:Option Nat}{h:Nat->HO}{sz:Nat}{es:List (List AV)}(hk:E0 cx d h sz es K) :
  ∃d',d.map (KC cx)=some d'/\∃v x,K v (A2 h d' x)/\∀h2:Nat->HO,h2 d'=h d'->∀K' : HK,K' v (A2 h2 d' x)->E0 cx d h2 sz es K':=by
 unfold E0 at hk;split at hk
 .exact hk.elim
 .rename_i d;split at hk
  .rename_i hd;split at hk
   .rename_i e;exact⟨KC cx d,rfl,_,_,hk,fun h2 hh K' h'=>by unfold E0;simp only[hh,hd,e];exact h'⟩
   .rename_i e;exact⟨KC cx d,rfl,_,_,hk,fun h2 hh K' h'=>by unfold E0;simp only[hh,hd,e];exact h'⟩
  .exact hk.elim
theorem cW{h:Nat->HO}{x:AV}{K:List (List AV)->Prop}(hk:Md h x K):∃es,K es/\∀h2:Nat->HO,(∀r n,x=.msl r n->h2 r=h r)->∀K' : List (List AV)->Prop,K' es->Md h2 x K':=by
 unfold Md at hk;split at hk
 .exact⟨_,hk,fun _ _ K' h=>h⟩
 .exact⟨_,hk,fun _ _ K' h=>h⟩
 .rename_i r n;split at hk
  .rename_i sz es e;exact⟨_,hk.2,fun h2 hh K' h=>by unfold Md;simp only[hh r n rfl,e];exact⟨hk.1,h⟩⟩
  .exact hk.elim
 .exact hk.elim
end
section
variable {cx:Cx}{dst:Option Nat}{ty:Nat}{pos:String}{after:Array Edge}{gd:Option (Nat×Bool)}{st:St}{R:List Nat}{w:Option Nat}{K:HK}
theorem Ji{d:Option Nat}{l:List Nat}{f:FU}(h:Jh d l=some f):∃d',d=some d'/\f=(d' :: l,some d'):=by
 unfold Jh at h;cases d with
 |none=>cases h
 |some d=>cases h;exact⟨d,rfl,rfl⟩
theorem aB{e:Nat}(hk:Gf cx true ⟨dst,.alloc e,ty,pos,after,gd⟩ st K)(hf:FG cx ⟨dst,.alloc e,ty,pos,after,gd⟩ st=some (R,w)):EB cx ⟨dst,.alloc e,ty,pos,after,gd⟩ st R w K:=by
 simp only[Gf]at hk;obtain⟨d,rfl,e0⟩:=Ji hf;cases e0;unfold Ug at hk;simp only at hk;split at hk
 .rename_i hd;split at hk
  .exact hk.elim
  .rename_i DD;split at hk
   .rename_i ha;refine⟨_,some (d,_),hk,fun r o' e=>(by cases e;exact⟨rfl,Ab ..⟩),fun st2 HF K' h'=>?_⟩;simp only[Gf,Ug];rw[HF.h d (Ab ..),hd];simp only[ha];exact h'
   .exact hk.elim
 .exact hk.elim
theorem iW{e:Nat}(hk:Gf cx true ⟨dst,.box e x,ty,pos,after,gd⟩ st K)(hf:FG cx ⟨dst,.box e x,ty,pos,after,gd⟩ st=some (R,w)):EB cx ⟨dst,.box e x,ty,pos,after,gd⟩ st R w K:=by
 simp only[Gf]at hk;obtain⟨d,rfl,e0⟩:=Ji hf;cases e0;unfold iz at hk;simp only at hk;split at hk
 .rename_i hd;split at hk
  .exact hk.elim
  .rename_i DD;obtain⟨cs,c1,c2,c3⟩:=OS hk;split at c1
   .rename_i hm;refine⟨_,some (d,_),c1,fun r o' e=>(by cases e;exact⟨rfl,Ab ..⟩),fun st2 HF K' h'=>?_⟩;have hx:ev st2.t x=ev st.t x:=HF.t x (by simp[Op.operands]);simp only[Gf,iz];rw[HF.h d (Ab ..),hd,hx];simp only[hm];refine c2 _ ?_;rw[c3 st.h st2.h (fun r hr=>HF.h r (Ah _ hr))];exact h'
   .rename_i hm;refine⟨_,some (d,_),c1,fun r o' e=>(by cases e;exact⟨rfl,Ab ..⟩),fun st2 HF K' h'=>?_⟩;have hx:ev st2.t x=ev st.t x:=HF.t x (by simp[Op.operands]);simp only[Gf,iz];rw[HF.h d (Ab ..),hd,hx];simp only[hm];exact c2 _ h'
 .exact hk.elim
theorem Rx{t n:Nat}{ps:Array (Nat×Operand)}(hk:Gf cx true ⟨dst,.buildSlice t n ps,ty,pos,after,gd⟩ st K)(hf:FG cx ⟨dst,.buildSlice t n ps,ty,pos,after,gd⟩ st=some (R,w)) :
  EB cx ⟨dst,.buildSlice t n ps,ty,pos,after,gd⟩ st R w K:=by
 simp only[Gf]at hk;obtain⟨d,jb,e0⟩:=Ji hf;cases e0;unfold Je at hk;split at hk
 .rename_i e he;split at hk
  .rename_i h1 h2;split at hk
   .exact hk.elim
   .rename_i k ET;split at hk
    .rename_i hb;obtain⟨es,q1,q2⟩:=UH hk;obtain⟨d',hd,v,x,q3,q4⟩:=I6 q1;have hd:dst.map (KC cx)=some d':=hd;have jb:dst.map (KC cx)=some d:=jb;rw[jb]at hd;cases hd;refine⟨v,some (d,x),q3,fun r o' e=>(by cases e;exact⟨rfl,Ab ..⟩),fun st2 HF K' h'=>?_⟩;have hx:∀p∈ps.toList,ev st2.t p.2=ev st.t p.2:=fun p hp=>HF.t p.2 (by
      simp only[Op.operands,List.mem_toArray];exact Ai.2 ⟨p,hp,rfl⟩)
     simp only[Gf,Je,he,h1,h2];split
     .rename_i e0;rw[ET]at e0;cases e0
     .rw[hb];exact q2 st2.t st2.h (fun r hr=>HF.h r (Ah _ hr)) hx _ (q4 st2.h (HF.h d (Ab ..)) K' h')
    .exact hk.elim
  .exact hk.elim
 .exact hk.elim
theorem To{t:Nat}{n c:Operand}(hk:Gf cx true ⟨dst,.makeSlice t n c,ty,pos,after,gd⟩ st K)(hf:FG cx ⟨dst,.makeSlice t n c,ty,pos,after,gd⟩ st=some (R,w)) :
  EB cx ⟨dst,.makeSlice t n c,ty,pos,after,gd⟩ st R w K:=by
 simp only[Gf]at hk;obtain⟨d,jb,e0⟩:=Ji hf;cases e0;have hn:∀st2,JA ⟨dst,.makeSlice t n c,ty,pos,after,gd⟩ (d::[]) st st2->ev st2.t n=ev st.t n/\ev st2.t c=ev st.t c:=fun st2 ha=>⟨ha.t n (by simp[Op.operands]),ha.t c (by simp[Op.operands])⟩;unfold Kl at hk;split at hk
 .rename_i e a b h1 h2 h3;split at hk
  .rename_i h4;split at hk
   .rename_i h5;split at hk
    .exact hk.elim
    .rename_i k ET;obtain⟨d',hd,v,x,q3,q4⟩:=I6 hk.2;have hd:dst.map (KC cx)=some d':=hd;have jb:dst.map (KC cx)=some d:=jb;rw[jb]at hd;cases hd;refine⟨v,some (d,x),q3,fun r o' e=>(by cases e;exact⟨rfl,Ab ..⟩),fun st2 HF K' h'=>?_⟩;simp only[Gf,Kl,(hn st2 HF).1,(hn st2 HF).2,h1,h2,h3,h4,h5];split
     .rename_i e0;rw[ET]at e0;cases e0
     .exact⟨hk.1,q4 st2.h (HF.h d (Ab ..)) K' h'⟩
   .exact hk.elim
  .exact hk.elim
 .exact hk.elim
theorem Wo{t:Nat}{r:Option Operand}(hk:Gf cx true ⟨dst,.makeMap t r,ty,pos,after,gd⟩ st K)(hf:FG cx ⟨dst,.makeMap t r,ty,pos,after,gd⟩ st=some (R,w)) :
  EB cx ⟨dst,.makeMap t r,ty,pos,after,gd⟩ st R w K:=by
 cases r with
 |some r=>exact hk.elim
 |none=>
  simp only[Gf]at hk;obtain⟨d,rfl,e0⟩:=Ji hf;cases e0;unfold LI at hk;simp only at hk;split at hk
  .rename_i hd;split at hk
   .rename_i h1;split at hk
    .rename_i h2;split at hk
     .rename_i h3;refine⟨_,some (d,_),hk,fun r o' e=>(by cases e;exact⟨rfl,Ab ..⟩),fun st2 HF K' h'=>?_⟩;simp only[Gf,LI];rw[HF.h d (Ab ..),hd];simp only[h1,h2,h3];exact h'
     .rename_i h3;refine⟨_,some (d,_),hk,fun r o' e=>(by cases e;exact⟨rfl,Ab ..⟩),fun st2 HF K' h'=>?_⟩;simp only[Gf,LI];rw[HF.h d (Ab ..),hd];simp only[h1,h2,h3];exact h'
    .exact hk.elim
   .exact hk.elim
  .exact hk.elim
theorem aC{t:Nat}(hk:Gf cx true ⟨dst,.store t p x,ty,pos,after,gd⟩ st K)(hf:FG cx ⟨dst,.store t p x,ty,pos,after,gd⟩ st=some (R,w)) :
  EB cx ⟨dst,.store t p x,ty,pos,after,gd⟩ st R w K:=by
 simp only[Gf]at hk;have hn:∀st2,JA ⟨dst,.store t p x,ty,pos,after,gd⟩ R st st2->ev st2.t p=ev st.t p/\ev st2.t x=ev st.t x:=fun st2 ha=>⟨ha.t p (by simp[Op.operands]),ha.t x (by simp[Op.operands])⟩;unfold Pn at hk;split at hk
 .exact hk.elim
 .rename_i DD;obtain⟨cs,c1,c2,c3⟩:=OS hk;simp only[FG]at hf;split at hf
  .rename_i r off hp;split at hf
   .cases hf
   .rename_i hm;cases hf;rw[hp]at c1;simp only at c1;split at c1
    .rename_i EI hr;obtain⟨Ib,hk'⟩:=c1;rw[hm]at hk';refine⟨_,some (r,_),hk',fun r o' e=>(by cases e;exact⟨rfl,Ab ..⟩),fun st2 HF K' h'=>?_⟩;simp only[Gf,Pn,(hn st2 HF).1,(hn st2 HF).2];refine c2 _ ?_;rw[hp];simp only[HF.h r (Ab ..),hr,hm];exact⟨Ib,h'⟩
    .exact c1.elim
  .rename_i r n sz i off hp;cases hf;rw[hp]at c1;simp only at c1;split at c1
   .rename_i G3 es hr;split at c1
    .rename_i hs;obtain⟨Ib,cell,e1,e2,hk'⟩:=c1;split at hk'
     .rename_i j m;refine⟨_,some (r,_),hk',fun r o' e=>(by cases e;exact⟨rfl,Ab ..⟩),fun st2 HF K' h'=>?_⟩;simp only[Gf,Pn,(hn st2 HF).1,(hn st2 HF).2];refine c2 _ ?_;rw[hp];simp only[HF.h r (Ab ..),hr,hs];exact⟨Ib,cell,e1,e2,h'⟩
     .rename_i Ob;refine⟨_,some (r,_),hk',fun r o' e=>(by cases e;exact⟨rfl,Ab ..⟩),fun st2 HF K' h'=>?_⟩;simp only[Gf,Pn,(hn st2 HF).1,(hn st2 HF).2];refine c2 _ ?_;rw[hp];simp only[HF.h r (Ab ..),hr,hs];refine⟨Ib,cell,e1,e2,?_⟩;rw[c3 st.h st2.h (fun r hr=>HF.h r (Ah _ hr))];exact h'
    .exact c1.elim
   .exact c1.elim
  .cases hf
theorem Tp{t:Nat}{m k:Operand}(hk:Gf cx true ⟨dst,.mapUpdate t m k x,ty,pos,after,gd⟩ st K)(hf:FG cx ⟨dst,.mapUpdate t m k x,ty,pos,after,gd⟩ st=some (R,w)) :
  EB cx ⟨dst,.mapUpdate t m k x,ty,pos,after,gd⟩ st R w K:=by
 simp only[Gf]at hk;have hn:∀st2,JA ⟨dst,.mapUpdate t m k x,ty,pos,after,gd⟩ R st st2->ev st2.t m=ev st.t m/\ev st2.t k=ev st.t k/\ev st2.t x=ev st.t x:=fun st2 ha=>⟨ha.t m (by simp[Op.operands]),ha.t k (by simp[Op.operands]),ha.t x (by simp[Op.operands])⟩;simp only[FG]at hf;split at hf
 .rename_i r hm;cases hf;unfold HP at hk;rw[hm]at hk;simp only at hk;split at hk
  .rename_i sh Cc hr;unfold Lg at hk;split at hk
   .rename_i kt e h1;split at hk
    .rename_i sh' h2;split at hk
     .rename_i h3;split at hk
      .rename_i kx h4;split at hk
       .rename_i h5;refine⟨_,some (r,_),hk,fun r o' e=>(by cases e;exact⟨rfl,Ab ..⟩),fun st2 HF K' h'=>?_⟩;obtain⟨n1,n2,n3⟩:=hn st2 HF;simp only[Gf,HP,n1,n2,n3,hm,HF.h r (Ab ..),hr,Lg,h1,h2,h3,h4,h5];rw[LV (h:=st.h) (h2:=st2.h) (fun r hr=>HF.h r (Ah _ hr))];exact h'
       .exact hk.elim
      .exact hk.elim
     .exact hk.elim
    .exact hk.elim
   .exact hk.elim
  .rename_i sh Cc hr;unfold Lg at hk;split at hk
   .rename_i kt e h1;split at hk
    .rename_i sh' h2;split at hk
     .rename_i h3;split at hk
      .rename_i kx h4;split at hk
       .rename_i h5;refine⟨_,some (r,_),hk,fun r o' e=>(by cases e;exact⟨rfl,Ab ..⟩),fun st2 HF K' h'=>?_⟩;obtain⟨n1,n2,n3⟩:=hn st2 HF;simp only[Gf,HP,n1,n2,n3,hm,HF.h r (Ab ..),hr,Lg,h1,h2,h3,h4,h5];exact h'
       .exact hk.elim
      .exact hk.elim
     .exact hk.elim
    .exact hk.elim
   .exact hk.elim
  .exact hk.elim
 .cases hf
theorem gD{A B:(AV->Prop)->Prop}(ha:GC A)(hb:GC B):GC fun K=>A K\/B K:=by
 intro K hk;rcases hk with hk | hk
 .obtain⟨v,h1,h2⟩:=ha K hk;exact⟨v,h1,fun K' h=>.inl (h2 K' h)⟩
 .obtain⟨v,h1,h2⟩:=hb K hk;exact⟨v,h1,fun K' h=>.inr (h2 K' h)⟩
theorem UO{fn:Fn}{first cap:Array Operand}(hk:Gf cx true ⟨dst,.makeFunc fn first cap,ty,pos,after,gd⟩ st K)(hf:FG cx ⟨dst,.makeFunc fn first cap,ty,pos,after,gd⟩ st=some (R,w)) :
  EB cx ⟨dst,.makeFunc fn first cap,ty,pos,after,gd⟩ st R w K:=by
 simp only[Gf]at hk;simp only[FG]at hf;cases hf;unfold LH at hk;split at hk
 .rename_i f h1;refine⟨_,none,hk,fun r o' e=>(by cases e),fun st2 HF K' h'=>?_⟩;simp only[Gf,h1,LH]
  have:cap.toList.map (fun x=>rsv st2.h (ev st2.t x))=cap.toList.map (fun x=>rsv st.h (ev st.t x)):=Bi fun x hx=>by
   rw[HF.t x (by simp only[Op.operands,T1];exact .inr (by simpa using hx))];exact oe fun r hr=>HF.h r (bj (Ai.2 ⟨x,hx,rfl⟩) r hr)
  rw[this];exact h'
 .exact hk.elim
end
section
variable {cx:Cx}{dst:Option Nat}{ty:Nat}{pos:String}{after:Array Edge}{gd:Option (Nat×Bool)}{st:St}{R:List Nat}{w:Option Nat}{K:HK}
theorem de{t:Nat}(hk:Gf cx true ⟨dst,.load t p,ty,pos,after,gd⟩ st K)(hf:FG cx ⟨dst,.load t p,ty,pos,after,gd⟩ st=some (R,w)):EB cx ⟨dst,.load t p,ty,pos,after,gd⟩ st R w K:=by
 simp only[Gf]at hk;have hn:∀st2,JA ⟨dst,.load t p,ty,pos,after,gd⟩ R st st2->ev st2.t p=ev st.t p:=fun st2 ha=>ha.t p (by simp[Op.operands]);simp only[FG]at hf;unfold IX at hk;split at hf
 .rename_i cs hp;cases hf;rw[hp]at hk;simp only at hk;exact .pick (I1 _ _ _) hk fun st2 ha K' h=>by simp only[Gf,IX,hn st2 ha,hp];exact h
 .rename_i r off hp;cases hf;rw[hp]at hk;simp only at hk;split at hk
  .rename_i cs hr;exact .pick (I1 _ _ _) hk fun st2 ha K' h=>by simp only[Gf,IX,hn st2 ha,hp,ha.h r (Ab ..),hr];exact h
  .rename_i cs hr;exact .pick (I1 _ _ _) hk fun st2 ha K' h=>by simp only[Gf,IX,hn st2 ha,hp,ha.h r (Ab ..),hr];exact h
  .exact hk.elim
 .rename_i r n sz i off hp;cases hf;rw[hp]at hk;simp only at hk;split at hk
  .rename_i G3 es hr;split at hk
   .rename_i hs;exact .pick (DG (N4 fun _=>DG (I1 _ _ _))) hk fun st2 ha K' h=>by simp only[Gf,IX,hn st2 ha,hp,ha.h r (Ab ..),hr,hs];exact h
   .exact hk.elim
  .rename_i G3 es i' c av hr;split at hk
   .rename_i hs;exact .pick (DG (I1 _ _ _)) hk fun st2 ha K' h=>by simp only[Gf,IX,hn st2 ha,hp,ha.h r (Ab ..),hr,hs];exact h
   .exact hk.elim
  .exact hk.elim
 .cases hf
theorem YO(hk:Gf cx true ⟨dst,.assign x,ty,pos,after,gd⟩ st K)(hf:FG cx ⟨dst,.assign x,ty,pos,after,gd⟩ st=some (R,w)):EB cx ⟨dst,.assign x,ty,pos,after,gd⟩ st R w K:=by
 simp only[Gf]at hk;have hn:∀st2,JA ⟨dst,.assign x,ty,pos,after,gd⟩ R st st2->ev st2.t x=ev st.t x:=fun st2 ha=>ha.t x (by simp[Op.operands]);simp only[FG]at hf;split at hf
 .cases hf
 .rename_i hx;cases hf;have same:∃y,∀(h:Nat->HO) (K:HK),PJ cx dst h (ev st.t x) K↔K y h:=by
   unfold PJ;cases dst with
   |none=>exact⟨_,fun _ _=>Sm⟩
   |some d=>
    simp only;cases He cx.pl.tok d with
    |some sz=>
     simp only;cases Nat.beq sz 0 with
     |true=>exact⟨_,fun _ _=>Sm⟩
     |false=>
      refine⟨ev st.t x,fun h K=>?_⟩;simp only;split
      .rename_i e;exact absurd e (hx _ _ _)
      .exact Sm
    |none=>
     simp only;cases He cx.pl.arr d with
     |some sz=>
      refine⟨ev st.t x,fun h K=>?_⟩;simp only;split
      .rename_i e;exact absurd e (hx _ _ _)
      .exact Sm
     |none=>exact⟨_,fun _ _=>Sm⟩
  obtain⟨y,same⟩:=same;exact .pick (Dq y) ((same _ _).1 hk) fun st2 ha K' h=>by simp only[Gf];rw[hn st2 ha];exact(same _ _).2 h
theorem SA{t:Nat}{lo hi mx:Option Operand}(hp:OM cx.pl.tok dst=none)(hk:Gf cx true ⟨dst,.slice t x lo hi mx,ty,pos,after,gd⟩ st K)(hf:FG cx ⟨dst,.slice t x lo hi mx,ty,pos,after,gd⟩ st=some (R,w)) :
  EB cx ⟨dst,.slice t x lo hi mx,ty,pos,after,gd⟩ st R w K:=by
 simp only[Gf,hp]at hk;have hn:∀st2,JA ⟨dst,.slice t x lo hi mx,ty,pos,after,gd⟩ R st st2->ev st2.t x=ev st.t x/\Co st2.t lo=Co st.t lo/\Co st2.t hi=Co st.t hi/\Co st2.t mx=Co st.t mx:=by
  intro st2 ha;have opt:∀y:Option Operand,(∀z,y=some z->ev st2.t z=ev st.t z)->Co st2.t y=Co st.t y:=by
   intro y hy;cases y with
   |none=>rfl
   |some z=>simp only[Co];rw[hy z rfl]
  exact⟨ha.t x (by simp[Op.operands]),opt lo (fun z e=>ha.t z (by simp[Op.operands,e])),opt hi (fun z e=>ha.t z (by simp[Op.operands,e])),opt mx (fun z e=>ha.t z (by simp[Op.operands,e]))⟩
 simp only[FG,hp]at hf;split at hf
 .cases hf
 .rename_i hx;cases hf;have e3:Co st.t none=some none:=rfl
  have IT:GC (fun K1=>GZ cx dst st.h t (ev st.t x) (Co st.t lo) (Co st.t hi) (some none) fun v _=>K1 v) /\
    ∀(h:Nat->HO) (K:HK),GZ cx dst h t (ev st.t x) (Co st.t lo) (Co st.t hi) (some none) K↔GZ cx dst st.h t (ev st.t x) (Co st.t lo) (Co st.t hi) (some none) (fun v _=>K v h):=by
   generalize ev st.t x=X at hx;unfold GZ;constructor
   .repeat' split
    all_goals first | exact CQ | exact DG (Dq _) | exact DG (DG (Dq _)) | skip
    all_goals first | (rename_i e;cases e;done) | skip
    all_goals (exfalso;exact hx _ _ rfl)
   .intro h K
    repeat' split
    all_goals first | exact Sm | skip
    all_goals exfalso
    all_goals first | exact hx _ _ rfl | (rename some none=some (some _)=>e4;cases e4)
  rw[e3]at hk;exact .pick IT.1 ((IT.2 _ _).1 hk) fun st2 ha K' h=>by
   obtain⟨n1,n2,n3,n4⟩:=hn st2 ha;simp only[Gf,hp];rw[n1,n2,n3,n4,e3];exact(IT.2 _ _).2 h
 .rename_i y tk es hx;obtain⟨d,rfl,e0⟩:=Ji hf;cases e0;rw[hx]at hk;unfold GZ at hk;split at hk
  .rename_i Iu MR s9 e1 e2 e3;split at hk
   .split at hk<;>first | exact hk.elim | (rename_i e;cases e)
   .rename_i e he;split at hk
    .exact hk.elim
    .rename_i k ET;simp only at hk;split at hk
     .exfalso
      rename_i e4;simp only[Co]at e3;split at e3<;>cases e3
     .rename_i m;split at hk
      .rename some d=some _=>e5
       cases e5
       split at hk
       .rename_i uz;refine⟨_,none,hk.2.2,fun r o' e=>(by cases e),fun st2 HF K' h'=>?_⟩;obtain⟨n1,n2,n3,n4⟩:=hn st2 HF;simp only[Gf,hp];rw[n1,n2,n3,n4,hx,e1,e2,e3];unfold GZ;simp only[he];split
        .rename_i e0;rw[ET]at e0;cases e0
        .simp only[uz];exact⟨hk.1,hk.2.1,h'⟩
       rename_i uz;split at hk
       .rename_i hd;refine⟨_,some (d,_),hk.2.2,fun r o' e=>(by cases e;exact⟨rfl,Ab ..⟩),fun st2 HF K' h'=>?_⟩;obtain⟨n1,n2,n3,n4⟩:=hn st2 HF;simp only[Gf,hp];rw[n1,n2,n3,n4,hx,e1,e2,e3];unfold GZ;simp only[he];split
        .rename_i e0;rw[ET]at e0;cases e0
        .simp only[uz];rw[HF.h d (Ab ..),hd];exact⟨hk.1,hk.2.1,h'⟩
       .exact hk.elim
      .exact hk.elim
   .exact hk.elim
  .exact hk.elim
 .cases hf
theorem iY{t:Nat}{lo hi mx:Option Operand}{p:Nat}(hp:OM cx.pl.tok dst=some p)(hk:Gf cx true ⟨dst,.slice t x lo hi mx,ty,pos,after,gd⟩ st K)(hf:FG cx ⟨dst,.slice t x lo hi mx,ty,pos,after,gd⟩ st=some (R,w)) :
  TB cx ⟨dst,.slice t x lo hi mx,ty,pos,after,gd⟩ st R w K:=by
 simp only[Gf,hp]at hk;simp only[FG,hp]at hf;obtain⟨d',r,n,hd,hx,e0⟩:=da hf;cases e0;cases dst with
 |none=>cases hd
 |some d=>
 cases hd
 unfold QL at hk;split at hk
 .rw[hx]at hk;unfold nU at hk;split at hk
  .rename_i d0 MR e1 e2;cases e1;split at hk
   .rename_i e he;split at hk
    .exact hk.elim
    .rename_i k ET;simp only at hk;split at hk
     .rename_i sz es hr;split at hk
      .rename_i hd;split at hk
       .rename_i q1 q3;obtain⟨h1,hk⟩:=hk;have hr8:r<10000000/\0<KC cx d:=by simpa using q3
        obtain⟨hr7,hz⟩:=hr8;refine⟨_,[(r,.dead),(KC cx d,_)],hk,fun r' o' e=>?_,fun st2 ha K' h'=>?_⟩
        .rcases AC.1 e with e | e
         .cases e
          refine⟨.inr (.inl ⟨by omega,.inl ?_⟩),Ab ..⟩;rw[Nat.add_mul_mod_self_left,Nat.mod_eq_of_lt hr7]
         .obtain e:=Aq.1 e;cases e;refine⟨.inr (.inl ⟨by omega,.inr ?_⟩),Ah _ (Ab ..)⟩;rw[Nat.add_mul_div_left _ _ Cl,Nat.div_eq_of_lt hr7,Bf]
        .have o1:Co st2.t hi=Co st.t hi:=by
          cases hi with
          |none=>rfl
          |some z=>simp only[Co];rw[ha.t z (by simp[Op.operands])]
         simp only[Gf,hp];unfold QL;rw[ha.t x (by simp[Op.operands]),o1,hx,e2];unfold nU;simp only[he];split
         .rename_i e0;rw[ET]at e0;cases e0
         .simp only[ha.h r (Ab ..),hr,ha.h (KC cx d) (Ah _ (Ab ..)),hd,q1,q3];exact⟨h1,h'⟩
       .exact hk.elim
      .exact hk.elim
     .exact hk.elim
   .exact hk.elim
  .exact hk.elim
 .exact hk.elim
theorem YN{s:Operand}{Hp:Array TypeId}(hk:Gf cx true ⟨dst,.call ⟨.builtin .append,#[s,x],Hp⟩,ty,pos,after,gd⟩ st K)(hf:FG cx ⟨dst,.call ⟨.builtin .append,#[s,x],Hp⟩,ty,pos,after,gd⟩ st=some (R,w)) :
  EB cx ⟨dst,.call ⟨.builtin .append,#[s,x],Hp⟩,ty,pos,after,gd⟩ st R w K:=by
 have hk:Gs cx dst st.h .append Hp.toList [ev st.t s,ev st.t x] K:=hk;have hf:YM cx dst (ev st.t s) (ev st.t x)=some (R,w):=hf;have hn:∀st2,JA ⟨dst,.call ⟨.builtin .append,#[s,x],Hp⟩,ty,pos,after,gd⟩ R st st2->ev st2.t s=ev st.t s/\ev st2.t x=ev st.t x:=fun st2 ha=>
  ⟨ha.t s (by simp[Op.operands,Call.operands]),ha.t x (by simp[Op.operands,Call.operands])⟩
 have Lc:∀st2,JA ⟨dst,.call ⟨.builtin .append,#[s,x],Hp⟩,ty,pos,after,gd⟩ R st st2->∀K' : HK,Gs cx dst st2.h .append Hp.toList [ev st.t s,ev st.t x] K'->Gf cx true ⟨dst,.call ⟨.builtin .append,#[s,x],Hp⟩,ty,pos,after,gd⟩ st2 K':=by
  intro st2 ha K' h;rw[<-(hn st2 ha).1,<-(hn st2 ha).2]at h;exact h
 generalize Hp.toList=l at hk Lc
 match l,hk,Lc with
 | [t,t'],hk,Lc=>
  simp only[Gs]at hk Lc;split at hk
  .rename_i ht;simp only[ht]at Lc;unfold I3 at hk Lc;split at hk
   .rename_i e he;simp only[he]at Lc;split at hk
    .exact hk.elim
    .rename_i hz;simp only[hz]at Lc;split at hk
     .exact hk.elim
     .rename_i k ET;obtain⟨es2,q1,q2⟩:=cW hk;have w7:∀d,R=d::jw (ev st.t x)->∀st2,JA ⟨dst,.call ⟨.builtin .append,#[s,x],Hp⟩,ty,pos,after,gd⟩ R st st2->∀r n,ev st.t x=.msl r n->st2.h r=st.h r:=fun d hR st2 ha r n e=>ha.h r (by rw[hR,e];simp[jw]);unfold YM at hf;split at hf
      .rename_i hs;obtain⟨d,jb,e0⟩:=Ji hf;cases e0;rw[hs]at q1 Lc;simp only at q1 Lc;obtain⟨d',hd,v,y,q3,q4⟩:=I6 q1.2;rw[jb]at hd;cases hd;refine⟨v,some (d,y),q3,fun r o' e=>(by cases e;exact⟨rfl,Ab ..⟩),fun st2 HF K' h'=>Lc st2 HF K' ?_⟩;split
       .rename_i e0;rw[ET]at e0;cases e0
       .exact q2 st2.h (w7 d rfl st2 HF) _ ⟨q1.1,q4 st2.h (HF.h d (Ab ..)) K' h'⟩
      .rename_i G3 es hs;obtain⟨d,jb,e0⟩:=Ji hf;cases e0;rw[hs]at q1 Lc;simp only at q1 Lc;split at q1
       .rename_i h1;obtain⟨d',hd,v,y,q3,q4⟩:=I6 q1.2;rw[jb]at hd;cases hd;refine⟨v,some (d,y),q3,fun r o' e=>(by cases e;exact⟨rfl,Ab ..⟩),fun st2 HF K' h'=>Lc st2 HF K' ?_⟩;split
        .rename_i e0;rw[ET]at e0;cases e0
        .refine q2 st2.h (w7 d rfl st2 HF) _ ?_;simp only[h1];exact⟨q1.1,q4 st2.h (HF.h d (Ab ..)) K' h'⟩
       .exact q1.elim
      .rename_i r G3 es hs;cases hf;rw[hs]at q1 Lc;simp only at q1 Lc;split at q1
       .rename_i sz n hr;split at q1
        .rename_i h1 h2;refine⟨_,some (r,_),q1.2,fun r o' e=>(by cases e;exact⟨rfl,Ab ..⟩),fun st2 HF K' h'=>Lc st2 HF K' ?_⟩;split
         .rename_i e0;rw[ET]at e0;cases e0
         .refine q2 st2.h (w7 r rfl st2 HF) _ ?_;simp only[HF.h r (Ab ..),hr,h1,h2];exact⟨q1.1,h'⟩
        .exact q1.elim
       .exact q1.elim
      .rename_i r n hs;cases hf;rw[hs]at q1 Lc;simp only at q1 Lc;split at q1
       .rename_i sz es hr;split at q1
        .rename_i h1;refine⟨_,some (r,_),q1.2,fun r o' e=>(by cases e;exact⟨rfl,Ab ..⟩),fun st2 HF K' h'=>Lc st2 HF K' ?_⟩;split
         .rename_i e0;rw[ET]at e0;cases e0
         .refine q2 st2.h (w7 r rfl st2 HF) _ ?_;simp only[HF.h r (Ab ..),hr,h1];exact⟨q1.1,h'⟩
        .exact q1.elim
       .exact q1.elim
      .cases hf
   .exact hk.elim
  .exact hk.elim
 | [],hk,_=>exact hk.elim
 | [_],hk,_=>exact hk.elim
 |_::_::_::_,hk,_=>exact hk.elim
theorem XK(t:Nat):GC (Lo T t):=by
 unfold Lo
 repeat' split
 all_goals first | exact CQ | exact Dq _
theorem VA(ty:Nat)(ok:Bool)(Cc:List (Value×AV))(kx:Value):GC (M9 T ty ok Cc kx):=by
 unfold M9
 repeat' split
 .refine gD (N4 fun a=>DG (Dq _)) (DG ?_);intro K hk;obtain⟨v,h1,h2⟩:=XK T _ _ hk;exact⟨_,h1,fun K' h=>h2 _ h⟩
 .exact gD (N4 fun a=>DG (Dq _)) (DG (XK T _))
 .exact CQ
theorem bM(ty:Nat)(sh:E9)(k:AV){F:Value->(AV->Prop)->Prop}(h:∀x,GC (F x)):GC fun K=>Lg T ty sh k fun kx=>F kx K:=by
 unfold Lg
 repeat' split
 all_goals first | exact CQ | exact h _
theorem YP{t:Nat}{m k:Operand}{ok:Bool}(hk:Gf cx true ⟨dst,.lookup t m k ok,ty,pos,after,gd⟩ st K)(hf:FG cx ⟨dst,.lookup t m k ok,ty,pos,after,gd⟩ st=some (R,w)) :
  EB cx ⟨dst,.lookup t m k ok,ty,pos,after,gd⟩ st R w K:=by
 simp only[Gf]at hk;have hn:∀st2,JA ⟨dst,.lookup t m k ok,ty,pos,after,gd⟩ R st st2->ev st2.t m=ev st.t m/\ev st2.t k=ev st.t k:=fun st2 ha=>⟨ha.t m (by simp[Op.operands]),ha.t k (by simp[Op.operands])⟩;simp only[FG]at hf;unfold NV at hk;split at hf
 .rename_i sh Cc hm;cases hf;rw[hm]at hk;simp only at hk;exact .pick (bM _ _ _ _ fun _=>VA _ _ _ _ _) hk fun st2 ha K' h=>by simp only[Gf,NV,hn st2 ha,hm];exact h
 .rename_i r hm;cases hf;rw[hm]at hk;simp only at hk;split at hk
  all_goals first | exact hk.elim | (rename_i e;exact .pick (bM _ _ _ _ fun _=>VA _ _ _ _ _) hk fun st2 ha K' h=>by simp only[Gf,NV,hn st2 ha,hm,ha.h r (Ab ..),e];exact h)
 .cases hf
theorem nR(t:Nat)(h:Nat->HO)(x:AV):GC (SN T t h x):=by
 unfold SN
 repeat' split
 all_goals first | exact CQ | exact Dq _
theorem vh{T:G2}{t:Nat}{h h2:Nat->HO}{x:AV}(e:∀r,x=.mref r->h2 r=h r){K:AV->Prop}:SN T t h2 x K=SN T t h x K:=by
 cases x<;>first | rfl | skip
 rename_i r;unfold SN;simp only[e r rfl]
theorem iX{Hp:Array TypeId}(hk:Gf cx true ⟨dst,.call ⟨.builtin .len,#[x],Hp⟩,ty,pos,after,gd⟩ st K)(hf:FG cx ⟨dst,.call ⟨.builtin .len,#[x],Hp⟩,ty,pos,after,gd⟩ st=some (R,w)) :
  EB cx ⟨dst,.call ⟨.builtin .len,#[x],Hp⟩,ty,pos,after,gd⟩ st R w K:=by
 have hk:Gs cx dst st.h .len Hp.toList [ev st.t x] K:=hk;have hf:HA cx dst (.builtin .len) st.t [ev st.t x]=some (R,w):=hf;have hn:∀st2,JA ⟨dst,.call ⟨.builtin .len,#[x],Hp⟩,ty,pos,after,gd⟩ R st st2->ev st2.t x=ev st.t x:=fun st2 ha=>ha.t x (by simp[Op.operands,Call.operands]);have Lc:∀st2,JA ⟨dst,.call ⟨.builtin .len,#[x],Hp⟩,ty,pos,after,gd⟩ R st st2->∀K' : HK,Gs cx dst st2.h .len Hp.toList [ev st.t x] K'->Gf cx true ⟨dst,.call ⟨.builtin .len,#[x],Hp⟩,ty,pos,after,gd⟩ st2 K':=by
  intro st2 ha K' h;rw[<-hn st2 ha]at h;exact h
 generalize Hp.toList=l at hk Lc
 match l,hk,Lc with
 | [t],hk,Lc=>
  have hR:∀r,ev st.t x=.mref r->r∈R:=fun r e=>by
   rw[e]at hf;cases hf;exact Ab ..
  have hw:w=none:=by
   unfold HA at hf;split at hf<;>first | (cases hf;rfl) | (rename_i e;cases e) | (rename_i e _;cases e) | skip
   all_goals (cases hf)
  subst hw;exact .pick (nR _ _ _ _) hk fun st2 ha K' h=>Lc st2 ha K' (by
   simp only[Gs];rw[vh fun r e=>ha.h r (hR r e)];exact h)
 | [],hk,_=>exact hk.elim
 |_::_::_,hk,_=>exact hk.elim
end
theorem qP{l:List Nat}{n:Nat}(h:Jx l n=true):n∈l:=by
 induction l with
 |nil=>cases h
 |cons a l ih=>
  unfold Jx at h
  by_cases e:a=n
  .exact e▸Ab ..
  .rw[Dc e]at h;exact Ah _ (ih h)
theorem ab(G:Nat->HO):∀(σ:JN) (h:Nat->HO),EJ σ=true->(fun i=>match CH σ i with | some j=>G j | none=>h i)=IS h (σ.map fun p=>(p.1,G p.2))
 | [],h,_=>rfl
 |(i,j)::r,h,hσ=>by
  unfold EJ at hσ;simp only[Ag]at hσ;have ih:=ab G r (A2 h i (G j)) hσ.2;show _=IS (A2 h i (G j)) (r.map fun p=>(p.1,G p.2));rw[<-ih]
  funext i'
  have hn:CH r i=none:=by
   have:=hσ.1.1.1
   cases e:CH r i with
   |none=>rfl
   |some k=>rw[e]at this;simp at this
  by_cases e:i'=i
  .subst e;have e1:CH ((i',j)::r) i'=some j:=by unfold CH;rw[Dp];rfl
   rw[e1,hn];show G j=A2 h i' (G j) i';unfold A2;rw[Dp];rfl
  .have e1:CH ((i,j)::r) i'=CH r i':=by
    show(bif Nat.beq i i' then some j else CH r i')=_;rw[Dc (Ne.symm e)];rfl
   rw[e1];cases CH r i' with
   |some k=>rfl
   |none=>show h i'=A2 h i (G j) i';unfold A2;rw[Dc e];rfl
theorem WV{σ:JN}{d:Nat}(hσ:EJ σ=true){h h' : Nat->HO}:Eu σ d 0 h h'=IS h (σ.map fun p=>(p.1,(h' p.2).ren (Fw σ d 0) h')):=by
 rw[<-ab (fun j=>(h' j).ren (Fw σ d 0) h') σ h hσ]
 funext i
 unfold Eu;cases CH σ i with
 |some j=>rfl
 |none=>
  have:(Nat.ble (BE d 0) i&&Nat.blt i (BE d 0))=false:=by
   rw[AN];simp only[XE,Ag,Dt,Cw];omega
  simp only[this]
section
variable {cx:Cx}{op:Op}{dst:Option Nat}{ty:Nat}{pos:String}{after:Array Edge}{gd:Option (Nat×Bool)}{st:St}{R:List Nat}{w:Option Nat}{K:HK}
theorem EB.toL(h:EB cx ⟨dst,op,ty,pos,after,gd⟩ st R w K):TB cx ⟨dst,op,ty,pos,after,gd⟩ st R w K:=by
 obtain⟨v,e,h1,h2,h3⟩:=h;cases e with
 |none=>exact⟨v,[],h1,fun r o' e=>(by cases e),h3⟩
 |some p=>exact⟨v,[p],h1,fun r o' e=>by
   obtain rfl:=Aq.1 e;obtain⟨a,b⟩:=h2 r o' rfl;exact⟨by rw[a];exact .inl rfl,b⟩,h3⟩
theorem db{c:Call}(hk:Gf cx true ⟨dst,.call c,ty,pos,after,gd⟩ st K)(hf:FG cx ⟨dst,.call c,ty,pos,after,gd⟩ st=some (R,w)):TB cx ⟨dst,.call c,ty,pos,after,gd⟩ st R w K:=by
 obtain⟨uj,args,Hp⟩:=c;have Jk:∀st2,JA ⟨dst,.call ⟨uj,args,Hp⟩,ty,pos,after,gd⟩ R st st2->args.toList.map (ev st2.t)=args.toList.map (ev st.t):=fun st2 ha=>
  Bi fun x hx=>ha.t x (by simp only[Op.operands,Call.operands,T1];exact .inr (by simpa using hx))
 cases uj with
 |invoke r m=>exact hk.elim
 |value f=>
  have hk:GO cx true dst st (ev st.t f) (args.toList.map (ev st.t)) K:=hk;have hf:HA cx dst (.value f) st.t (args.toList.map (ev st.t))=some (R,w):=hf;unfold HA at hf;unfold GO at hk;simp only at hf hk;have hn:=Jk;split at hf
  .rename_i fP;rw[fP]at hk;cases hf;obtain⟨res,h1,h2⟩:=hk;refine EB.toL ⟨res,none,h2,fun r o' e=>(by cases e),fun st2 ha K' h'=>?_⟩;show GO cx true dst st2 (ev st2.t f) (args.toList.map (ev st2.t)) K';rw[Jk st2 ha,ha.t f (by simp[Op.operands,Call.operands])];unfold GO;simp only[fP];refine⟨res,?_,h'⟩;rw[LV (h:=st.h) (fun r hr=>ha.h r (BD _ hr)),Sc (h:=st.h) (fun r hr=>ha.h r (Bw _ hr))];exact h1
  .rename_i fP;rw[fP]at hk;simp only at hk;cases dst with
   |none=>exact hk.elim
   |some d=>
    obtain⟨n,sz,es,h1,h2,h3⟩:=hk;have hf:some (BE d 0::(Zy (ev st.t f)++U3 (args.toList.map (ev st.t))),some (BE d 0))=some (R,w):=hf;cases hf;refine EB.toL ⟨_,some (BE d 0,_),h3,fun r o' e=>(by cases e;exact⟨rfl,Ab ..⟩),fun st2 ha K' h'=>?_⟩;show GO cx true (some d) st2 (ev st2.t f) (args.toList.map (ev st2.t)) K';rw[Jk st2 ha,ha.t f (by simp[Op.operands,Call.operands])];unfold GO;simp only[fP];refine⟨n,sz,es,?_,?_,h'⟩
    .have:DY st2.h d 1=DY st.h d 1:=by simp only[DY,ha.h (BE d 0) (Ab ..)]
     rw[this];exact h1
    .rw[LV (h:=st.h) (fun r hr=>ha.h r (Ah _ (BD _ hr))),Sc (h:=st.h) (fun r hr=>ha.h r (Ah _ (Bw _ hr)))];exact h2
  .rename_i fP;rw[fP]at hk;have hk:Te cx 0 dst st.h (ev st.t f) (args.toList.map (ev st.t)) K:=hk;split at hf
   .rename_i r n l hl;cases hf;have IT:=hk;unfold Te at IT;rw[hl]at IT;split at IT
    .rename_i d0 f0 r0 n0 l0 e1 e2 z1 z2;cases e2;split at IT
     .rename_i vs dw;split at IT
      .rename_i sz es hr;obtain⟨n',F0,h1,h2⟩:=IT;refine EB.toL ⟨_,some (r,_),h2,fun r o' e=>(by cases e;exact⟨rfl,Ab ..⟩),fun st2 ha K' h'=>?_⟩;show GO cx true _ st2 (ev st2.t f) (args.toList.map (ev st2.t)) K';rw[Jk st2 ha,ha.t f (by simp[Op.operands,Call.operands]),hl,e1];unfold GO;simp only[fP];unfold QP;simp only;unfold Te;simp only[dw,ha.h r (Ab ..),hr];exact⟨n',F0,h1,h'⟩
      .exact IT.elim
     .exact IT.elim
    .exact IT.elim
   .cases hf
  .rename_i k fP;rw[fP]at hk;cases hb:Nat.beq k 1 with
   |true=>
    have Ou:Nat.beq (k+1) 2=true:=hb;have hk:VW cx dst st (ev st.t f) (args.toList.map (ev st.t)) K:=by
     have IT:(match Nat.beq (k+1) 2 with | true=>VW cx dst st (ev st.t f) (args.toList.map (ev st.t)) K | false=>match Nat.beq (k+1) 3 with | true=>Si cx dst st (ev st.t f) (args.toList.map (ev st.t)) K | false=>QP cx (k+1) dst st (ev st.t f) (args.toList.map (ev st.t)) K):=hk;rw[Ou]at IT;exact IT
    rw[hb]at hf;cases dst with
    |none=>exact hk.elim
    |some d=>
     obtain⟨sz,es,h1,h2,h3⟩:=hk;have hf:some (BE d 0::(Zy (ev st.t f)++U3 (args.toList.map (ev st.t))),some (BE d 0))=some (R,w):=hf;cases hf;refine EB.toL ⟨_,some (BE d 0,_),h3,fun r o' e=>(by cases e;exact⟨rfl,Ab ..⟩),fun st2 ha K' h'=>?_⟩;show GO cx true (some d) st2 (ev st2.t f) (args.toList.map (ev st2.t)) K';rw[Jk st2 ha,ha.t f (by simp[Op.operands,Call.operands])];unfold GO;simp only[fP,Ou];refine⟨sz,es,?_,?_,h'⟩
     .have:DY st2.h d 1=DY st.h d 1:=by simp only[DY,ha.h (BE d 0) (Ab ..)]
      rw[this];exact h1
     .rw[LV (h:=st.h) (fun r hr=>ha.h r (Ah _ (BD _ hr))),Sc (h:=st.h) (fun r hr=>ha.h r (Ah _ (Bw _ hr)))];exact h2
   |false=>
    have Ou:Nat.beq (k+1) 2=false:=hb;rw[hb]at hf;have IT:(match Nat.beq (k+1) 2 with | true=>VW cx dst st (ev st.t f) (args.toList.map (ev st.t)) K | false=>match Nat.beq (k+1) 3 with | true=>Si cx dst st (ev st.t f) (args.toList.map (ev st.t)) K | false=>QP cx (k+1) dst st (ev st.t f) (args.toList.map (ev st.t)) K):=hk;rw[Ou]at IT;cases hc:Nat.beq k 2 with
    |true=>
     have wQ:Nat.beq (k+1) 3=true:=hc;rw[hc]at hf;simp only[wQ]at IT;have hf:l7 (args.toList.map (ev st.t))=some (R,w):=hf;unfold l7 at hf;unfold Si at IT;split at hf
     .rename_i vs dw;cases hf;split at IT
      .rename_i l kO e1 e2 z1 z2;rw[dw]at e2;cases e2;split at IT
       .rename_i r sz es gQ n e3 e4;obtain⟨⟨rfl,rfl⟩,v,F0,n',h1,h2⟩:=IT;refine⟨_,[(1001,_),(1000,_)],h2,fun r' o' e=>?_,fun st2 ha K' h'=>?_⟩
        .rcases AC.1 e with e | e
         .cases e
          exact⟨.inr (.inl ⟨by decide,.inr Cl⟩),by simp⟩
         .obtain e:=Aq.1 e;cases e;exact⟨.inr (.inl ⟨by decide,.inl Cl⟩),by simp⟩
        show GO cx true _ st2 (ev st2.t f) (args.toList.map (ev st2.t)) K';rw[Jk st2 ha,ha.t f (by simp[Op.operands,Call.operands]),e1];unfold GO;simp only[fP,Ou,wQ];unfold Si;simp only[dw,ha.h 1000 B0,ha.h 1001 B0,e3,e4];exact⟨⟨trivial,trivial⟩,v,F0,n',h1,h'⟩
       .exact IT.elim
      .exact IT.elim
     .cases hf
    |false=>
    have wQ:Nat.beq (k+1) 3=false:=hc;rw[hc]at hf;have dq:QP cx (k+1) dst st (ev st.t f) (args.toList.map (ev st.t)) K:=by
     simp only[wQ]at IT;exact IT
    have uC:l5 k dst (args.toList.map (ev st.t))=some (R,w):=hf;unfold l5 at uC;unfold QP at dq;cases he:Nat.beq k 3 with
    |true=>
     have pm:Nat.beq (k+1) 4=true:=he;rw[he]at uC;rw[pm]at dq;have uC:some (qi,some Yk)=some (R,w):=uC;have dq:aE cx dst st (ev st.t f) (args.toList.map (ev st.t)) K:=dq;cases uC;unfold aE at dq;split at dq
     .rename_i d f' e2 _ _ _;obtain⟨σ,H0,Hn,args',res,g1,g2,g3,g4⟩:=dq;simp only[Ag]at g2;refine⟨_,σ.map fun p=>(p.1,(Ap Hn Af p.2).ren (Fw σ d 0) (Ap Hn Af)),(WV (h:=st.h) (h':=Ap Hn Af) (d:=d) g2.1.1)▸g4,fun r' o' e=>?_,fun st2 ha K' h'=>?_⟩
      .obtain⟨p,hp,e⟩:=Ai.1 e;cases e;exact⟨.inr (.inr rfl),qP (AZ.1 g2.2 p hp)⟩
      .show GO cx true _ st2 (ev st2.t f) (args.toList.map (ev st2.t)) K';rw[Jk st2 ha,ha.t f (by simp[Op.operands,Call.operands])];unfold GO;simp only[fP,Ou,wQ];unfold QP;simp only[pm];unfold aE;rw[e2];refine⟨σ,H0,Hn,args',res,fun h2 hh=>g1 h2 fun r hr=>(hh r hr).trans (ha.h r hr),by simp only[Ag];exact g2,g3,?_⟩;rw[WV (h:=st2.h) (h':=Ap Hn Af) (d:=d) g2.1.1];exact h'
     .exact dq.elim
    |false=>
    have pm:Nat.beq (k+1) 4=false:=he;rw[he]at uC;rw[pm]at dq;have hf:fE dst (args.toList.map (ev st.t))=some (R,w):=uC;have hk:Te cx (k+1) dst st.h (ev st.t f) (args.toList.map (ev st.t)) K:=dq;obtain⟨d,r,n,l,rfl,hl,e0⟩:=c9 hf;cases e0;unfold Te at hk;rw[hl]at hk;split at hk
    .rename_i d0 f0 r0 n0 l0 e9 e1 e2;cases e9;cases e2;split at hk
     .rename_i vs dw;split at hk
      .rename_i sz es hr;obtain⟨n',F0,h0,h1,h2⟩:=hk;have h00:=h0;simp only[Ag,Cw]at h00;refine⟨_,[(r,.dead),(BE d 0,_)],h2,fun r' o' e=>?_,fun st2 ha K' h'=>?_⟩
       .rcases AC.1 e with e | e
        .cases e
         refine⟨.inr (.inl ⟨by unfold BE;omega,.inl ?_⟩),Ab ..⟩;rw[Nat.add_mul_mod_self_left,Nat.mod_eq_of_lt h00.1.2]
        .obtain e:=Aq.1 e;cases e;refine⟨.inr (.inl ⟨by unfold BE;omega,.inr ?_⟩),Ah _ (Ab ..)⟩;rw[Nat.add_mul_div_left _ _ Cl,Nat.div_eq_of_lt h00.1.2,Bf]
       show GO cx true _ st2 (ev st2.t f) (args.toList.map (ev st2.t)) K';rw[Jk st2 ha,ha.t f (by simp[Op.operands,Call.operands]),hl,e1];unfold GO;simp only[fP,Ou,wQ];unfold QP;simp only[pm];unfold Te;simp only[dw,ha.h r (Ab ..),hr]
       have:DY st2.h d 1=DY st.h d 1:=by simp only[DY,ha.h (BE d 0) (Ah _ (Ab ..))]
       exact⟨n',F0,by rw[this];exact h0,h1,h'⟩
      .exact hk.elim
     .exact hk.elim
    .exact hk.elim
 |builtin b=>
  refine EB.toL ?_;have mm:∀f:Int->Int->Int,(∀(d:Option Nat) (h:Nat->HO) (Hp:List Nat) (args:List AV) (K:HK),Gs cx d h b Hp args K=(match args with | [x,y]=>qR f x y fun v=>K v h | _=>False))->R=[]/\w=none->EB cx ⟨dst,.call ⟨.builtin b,args,Hp⟩,ty,pos,after,gd⟩ st R w K:=by
   rintro f hb ⟨rfl,rfl⟩
   have hk:Gs cx dst st.h b Hp.toList (args.toList.map (ev st.t)) K:=hk;rw[hb]at hk;split at hk
   .rename_i x y e;refine .pick (rk f x y) hk fun st2 ha K' h=>?_;show Gs cx dst st2.h b Hp.toList (args.toList.map (ev st2.t)) K';rw[hb,Jk st2 ha,e];exact h
   .exact hk.elim
  cases b
  case max=>exact mm max (fun d h Hp args K=>by cases args with | nil=>rfl | cons x l=>cases l with | nil=>rfl | cons y l=>cases l<;>rfl) (by
   have hf:HA cx dst (.builtin .max) st.t (args.toList.map (ev st.t))=some (R,w):=hf;simp only[HA]at hf;cases hf;exact⟨rfl,rfl⟩)
  case min=>exact mm min (fun d h Hp args K=>by cases args with | nil=>rfl | cons x l=>cases l with | nil=>rfl | cons y l=>cases l<;>rfl) (by
   have hf:HA cx dst (.builtin .min) st.t (args.toList.map (ev st.t))=some (R,w):=hf;simp only[HA]at hf;cases hf;exact⟨rfl,rfl⟩)
  case append=>
   obtain⟨l⟩:=args
   match l,hk,hf with
   | [s,x],hk,hf=>exact YN hk hf
   | [],hk,hf=>cases Hp;exact hk.elim
   | [_],hk,hf=>exact hk.elim
   |_::_::_::_,hk,hf=>exact hk.elim
  case len=>
   obtain⟨l⟩:=args
   match l,hk,hf with
   | [x],hk,hf=>exact iX hk hf
   | [],hk,hf=>exact hk.elim
   |_::_::_,hk,hf=>exact hk.elim
  all_goals exact hk.elim
theorem cB{o:Oper}(hc:∀c,o.op≠.call c)(hs:(∃t x lo hi mx,o.op=.slice t x lo hi mx)->OM cx.pl.tok o.dst=none)(hk:Gf cx true o st K)(hf:FG cx o st=some (R,w)):EB cx o st R w K:=by
 obtain⟨dst,op,ty,pos,after,gd⟩:=o;cases op with
 |call c=>exact absurd rfl (hc c)
 |alloc e=>exact aB hk hf
 |box e x=>exact iW hk hf
 |buildSlice t n ps=>exact Rx hk hf
 |makeSlice t n c=>exact To hk hf
 |makeMap t r=>exact Wo hk hf
 |store t p x=>exact aC hk hf
 |mapUpdate t m k x=>exact Tp hk hf
 |makeFunc fn first cap=>exact UO hk hf
 |load t p=>exact de hk hf
 |assign x=>exact YO hk hf
 |slice t x lo hi mx=>exact SA (hs ⟨t,x,lo,hi,mx,rfl⟩) hk hf
 |lookup t x i ok=>exact YP hk hf
 |move x=>
  cases hf
  exact .pick (Dq _) hk fun st2 ha K' h=>by simp only[Gf,ha.t x (by simp[Op.operands])];exact h
 |pick c a b=>
  cases hf
  exact .pick (jY _ _ _) hk fun st2 ha K' h=>by simp only[Gf,ha.t c (by simp[Op.operands]),ha.t a (by simp[Op.operands]),ha.t b (by simp[Op.operands])];exact h
 |nilCheck x=>
  cases hf
  exact .pick (nS _) hk fun st2 ha K' h=>by simp only[Gf,ha.t x (by simp[Op.operands])];exact h
 |binOp op t x y u=>
  simp only[FG]at hf;split at hf
  .cases hf
  .rename_i hx;cases hf;exact .pick (jW _ _ _ _ _ _ hx) hk fun st2 ha K' h=>by simp only[Gf,ha.t x (by simp[Op.operands]),ha.t y (by simp[Op.operands])];exact h
 |unOp op t x=>
  cases hf
  exact .pick (jZ _ _) hk fun st2 ha K' h=>by simp only[Gf,ha.t x (by simp[Op.operands])];exact h
 |convert s t x=>
  cases hf
  exact .pick (jX _ _ _ _) hk fun st2 ha K' h=>by simp only[Gf,ha.t x (by simp[Op.operands])];exact h
 |fieldAddr s x f=>
  cases hf
  exact .pick (dT _ _ _ _) hk fun st2 ha K' h=>by simp only[Gf,ha.t x (by simp[Op.operands])];exact h
 |field s x f=>
  cases hf
  exact .pick (bL _ _ _ _) hk fun st2 ha K' h=>by simp only[Gf,ha.t x (by simp[Op.operands])];exact h
 |indexAddr t x i=>
  cases hf
  exact .pick (VB _ _ _ _) hk fun st2 ha K' h=>by simp only[Gf,ha.t x (by simp[Op.operands]),ha.t i (by simp[Op.operands])];exact h
 |index t x i=>
  cases hf
  exact .pick (dU _ _ _ _) hk fun st2 ha K' h=>by simp only[Gf,ha.t x (by simp[Op.operands]),ha.t i (by simp[Op.operands])];exact h
 |extract x i=>
  cases hf
  exact .pick (Za _ _) hk fun st2 ha K' h=>by simp only[Gf,ha.t x (by simp[Op.operands])];exact h
 |build t ps=>
  cases hf
  refine .pick (dS _ _ _ _) hk fun st2 ha K' h=>?_;have hx:∀p∈ps.toList,ev st2.t p.2=ev st.t p.2:=fun p hp=>ha.t p.2 (by
   simp only[Op.operands,List.mem_toArray];exact Ai.2 ⟨p,hp,rfl⟩)
  simp only[Gf];have fill:∀(pl:Nat->Option (Nat×Nat)) (l:List (Nat×Operand)) (cs:List AV) (K:List AV->Prop),(∀p∈l,ev st2.t p.2=ev st.t p.2)->LD pl cs st2.t l K=LD pl cs st.t l K:=by
   intro pl l
   induction l with
   |nil=>intro cs K _;rfl
   |cons p l ih=>
    intro cs K hp;obtain⟨i,x⟩:=p;have h1:ev st2.t x=ev st.t x:=hp (i,x) (Ab ..);have h2:∀cs,LD pl cs st2.t l K=LD pl cs st.t l K:=fun cs=>ih cs K (fun p uQ=>hp p (Ah _ uQ));simp only[LD,h1,h2]
  unfold Rk at h⊢;simp only[fill _ _ _ _ hx];exact h
 |_=>cases hf
theorem ip{o:Oper}(hk:Gf cx true o st K)(hf:FG cx o st=some (R,w)):TB cx o st R w K:=by
 obtain⟨dst,op,ty,pos,after,gd⟩:=o
 by_cases h:∃c,op=.call c
 .obtain⟨c,rfl⟩:=h;exact db hk hf
 .by_cases h2:∃t x lo hi mx,op=.slice t x lo hi mx
  .obtain⟨t,x,lo,hi,mx,rfl⟩:=h2;cases hp:OM cx.pl.tok dst with
   |none=>exact EB.toL (SA hp hk hf)
   |some p=>exact iY hp hk hf
  .exact EB.toL (cB (fun c e=>h ⟨c,e⟩) (fun e=>absurd e h2) hk hf)
end
end Go.Eng
