/- Lemmas 8. -/
import Derived.Test.YtjhkbdgingfbaaaGreatDoorGA07
namespace Go.Eng
variable {x:Operand}{F:(AV->Prop)->Prop}{a:AV}{p:Operand}{α:Type}(cx:Cx)(T:EU)(o:Oper)(st:St)(op:BinOp)(s:Nat)(R:List Nat)(k:IntKind)(f:Nat)(w:Option Nat)(K:HK)
def Ez(F:(AV->Prop)->Prop):Prop:=∀K,F K->∃v,K v/\∀K',K' v->F K'
theorem Ci(v:AV):Ez (fun K=>K v):=fun _ h=>⟨v,h,fun _ h=>h⟩
theorem Ct{p:Prop}(h:Ez F):Ez (fun K=>p/\F K):=fun K ⟨hp,hk⟩=>
 let ⟨v,h1,h2⟩:=h K hk
 ⟨v,h1,fun K' h'=>⟨hp,h2 K' h'⟩⟩
theorem BZ:Ez (fun _=>False):=fun _ h=>h.elim
theorem Qj(p:Prop):Ez (GB p):=fun K h=>by
 by_cases hp:p
 .exact⟨_,h.1 hp,fun K' h'=>⟨fun _=>h',fun hn=>absurd hp hn⟩⟩
 .exact⟨_,h.2 hp,fun K' h'=>⟨fun q=>absurd q hp,fun _=>h'⟩⟩
theorem Ty(h:Ez F):Ez (fun K=>F (WS K)):=fun K hk=>by
 obtain⟨v,h1,h2⟩:=h _ hk;unfold WS at h1;split at h1
 .exact⟨_,h1,fun K' h'=>h2 _ h'⟩
 .exact⟨_,h1,fun K' h'=>h2 _ h'⟩
 .exact h1.elim
theorem JC{F:α->(AV->Prop)->Prop}(h:∀x,Ez (F x)):Ez (fun K=>∃x,F x K):=fun K ⟨x,hk⟩=>
 let ⟨v,h1,h2⟩:=h x K hk
 ⟨v,h1,fun K' h'=>⟨x,h2 K' h'⟩⟩
theorem F5(t:Nat)(cs:List AV):Ez (IC T t cs):=by
 have head:Ez (HQ cs):=by unfold HQ;cases cs with | nil=>exact BZ | cons a _=>exact Ci a
 unfold IC;split
 .exact Ct (Ci _)
 .exact Ct (Ci _)
 .cases cs with
  |nil=>exact BZ
  |cons a _=>
   intro K h;simp only[HQ]at h⊢;split at h
   .rename_i b;cases b with
    |true=>exact⟨_,h.1 rfl,fun K' h'=>⟨fun _=>h',fun e=>by cases e⟩⟩
    |false=>exact⟨_,h.2 rfl,fun K' h'=>⟨fun e=>(by cases e),fun _=>h'⟩⟩
   .exact h.elim
 .exact BZ
 .exact head
theorem Vy(t:Nat)(x y:AV)(hx:∀tk es,x≠.slice tk es):Ez (iB T t x y):=by
 unfold iB
 repeat' split
 all_goals first | exact BZ | exact Ci _ | exact Qj _ | exact Ct (Ci _) | exact absurd rfl (hx _ _)
theorem Ox(a b:Int):Ez (OJ op k a b):=by
 unfold OJ;split<;>first | exact BZ | exact Ct (Ci _)
theorem UD(a b:Int):Ez (Ns op k a b):=by
 unfold Ns
 repeat' split
 all_goals first | exact BZ | exact Ct (Ci _) | (unfold QN;split<;>first | exact Ci _ | exact Ct (Ci _) | exact Ox _ _ _ _)
theorem ab(t:Nat)(x y:AV)(hx:∀tk es,x≠.slice tk es):Ez (Nt T op t x y):=by
 unfold Nt
 repeat' split
 all_goals first | exact BZ | exact Qj _ | exact UD _ _ _ _ | exact Ox _ _ _ _ | exact Ct (Ci _) | exact Vy _ _ _ _ hx | exact Ty (Vy _ _ _ _ hx)
theorem Xe(t:Nat)(Y:Operand)(x y:AV)(hx:∀tk es,x≠.slice tk es):Ez (Sa T op t Y x y):=by
 unfold Sa
 repeat' split
 all_goals first | exact BZ | exact Ci _ | exact ab _ _ _ _ _ hx
theorem Xf(t:Nat)(x:AV):Ez (PK T s t x):=by
 unfold PK
 repeat' split
 all_goals first | exact BZ | exact Ci _ | exact Ct (Ci _) | exact JC fun _=>Ct (Ci _)
theorem UF(x:AV):Ez (NM T s f x):=by
 unfold NM
 repeat' split
 all_goals first | exact BZ | exact Ci _
theorem Tw(x:AV):Ez (KY T s f x):=by
 unfold KY
 repeat' split
 all_goals first | exact BZ | exact F5 _ _ _
theorem Ow(t:Nat)(x ix:AV):Ez (G2 T t x ix):=by
 unfold G2
 repeat' split
 all_goals first | exact BZ | exact Ct (Ci _) | exact JC fun _=>Ct (Ct (Ci _))
theorem UG(t:Nat)(x ix:AV):Ez (N8 T t x ix):=by
 unfold N8
 repeat' split
 all_goals first | exact BZ | exact Ct (F5 _ _ _) | exact JC fun _=>Ct (Ci _)
theorem Rz(x:AV)(i:Nat):Ez (IZ x i):=by
 unfold IZ
 repeat' split
 all_goals first | exact BZ | exact Ci _
theorem ae(x:AV):Ez (HZ x):=by
 unfold HZ
 repeat' split
 all_goals first | exact BZ | exact Ci _
theorem Xg(c a b:AV):Ez (Tt c a b):=by
 unfold Tt
 repeat' split
 all_goals first | exact BZ | exact Ci _
theorem cZ(f:Int->Int->Int)(x y:AV):Ez (cM f x y):=by
 unfold cM
 repeat' split
 all_goals first | exact BZ | exact Ci _
theorem Xh(op:UnOp)(x:AV):Ez (TG op x):=by
 unfold TG
 repeat' split
 all_goals first | exact BZ | exact Ci _ | exact Ty (Ci _) | exact Ct (Ci _)
def dB(F:(α->Prop)->Prop):Prop:=∀K,F K->∃v,K v/\∀K',K' v->F K'
theorem Tu(n:Nat)(a:AV):dB (Fe n a):=by
 intro K h;unfold Fe at h⊢
 repeat' split at h
 all_goals first | exact h.elim | skip
 all_goals exact⟨_,h,fun K' h'=>h'⟩
theorem Ou(pl:Nat->Option (Nat×Nat))(t:Nat->AV):∀(ps:List (Nat×Operand)) (cs:List AV),dB (HP pl cs t ps)
 | [],cs=>fun K h=>⟨cs,h,fun _ h=>h⟩
 |(i,x)::r,cs=>by
  intro K h;unfold HP at h;split at h
  .exact h.elim
  .rename_i o n e;obtain⟨vs,h1,h2⟩:=Tu _ _ _ h;split at h1
   .rename_i hb;obtain⟨c,h3,h4⟩:=Ou pl t r _ _ h1;refine⟨c,h3,fun K' h'=>?_⟩;unfold HP;simp only[e];refine h2 _ ?_;simp only[hb];exact h4 K' h'
   .exact h1.elim
theorem UE(ty:Nat)(t:Nat->AV)(ps:List (Nat×Operand)):Ez (LC T ty t ps):=by
 unfold LC
 repeat' split
 all_goals first
  |exact BZ
  |exact fun K h=>let ⟨c,h1,h2⟩:=Ou _ _ _ _ _ h;⟨_,h1,fun K' h'=>h2 _ h'⟩
def pz(h:Nat->HO)(e:Option (Nat×HO)):Nat->HO:=match e with | none=>h | some (r,o)=>AH h r o
structure Alike(o:Oper)(R:List Nat)(st st2:St):Prop where
 t:∀x∈o.op.operands,ev st2.t x=ev st.t x
 h:∀r∈R,st2.h r=st.h r
def Dq:Prop:=
 ∃v e,K v (pz st.h e)/\(∀r o',e=some (r,o')->w=some r/\r∈R)/\∀st2,Alike o R st st2->∀K' : HK,K' v (pz st2.h e)->Ek cx true o st2 K'
def Ng(r:Nat):Prop:=match w with | none=>False | some x=>x=r\/(10000000<=x/\(x % 10000000=r\/x / 10000000=r))\/x=QL
def F2(h:Nat->HO):List (Nat×HO)->Nat->HO
 | []=>h
 |p::l=>F2 (AH h p.1 p.2) l
def MY:Prop:=
 ∃v e,K v (F2 st.h e)/\(∀r o',(r,o')∈e->Ng w r/\r∈R)/\∀st2,Alike o R st st2->∀K' : HK,K' v (F2 st2.h e)->Ek cx true o st2 K'
section
variable {cx:Cx}{o:Oper}{st:St}{R:List Nat}{w:Option Nat}{K:HK}
theorem Dq.pick(hF:Ez F)(h:F fun v=>K v st.h)(h2:∀st2,Alike o R st st2->∀K' : HK,F (fun v=>K' v st2.h)->Ek cx true o st2 K'):Dq cx o st R w K:=
 let ⟨v,h1,h3⟩:=hF _ h
 ⟨v,none,h1,fun _ _ e=>(by cases e),fun st2 ha K' hk=>h2 st2 ha K' (h3 _ hk)⟩
theorem S9{cs:List AV}(h:a∈cs):∀r∈Ph a,r∈cz cs:=by
 induction cs with
 |nil=>cases h
 |cons c cs ih=>
  intro r hr;rcases AS.1 h with rfl | h
  .exact BS _ hr
  .exact Ch _ (ih h r hr)
theorem ZD{cs:List AV}(h:a∈cs):∀r∈Pi a,r∈gv cs:=by
 induction cs with
 |nil=>cases h
 |cons c cs ih=>
  intro r hr;rcases AS.1 h with rfl | h
  .exact BS _ hr
  .exact Ch _ (ih h r hr)
theorem S7{cs:List AV}(h:a∈cs):∀r∈RL a,r∈N3 cs:=by
 induction cs with
 |nil=>cases h
 |cons c cs ih=>
  intro r hr;rcases AS.1 h with rfl | h
  .exact BS _ hr
  .exact Ch _ (ih h r hr)
theorem PS(a:AV):∀r∈Ph a,r∈Pi a:=by cases a<;>simp[Ph,Pi]
theorem Md{h h2:Nat->HO}(e:∀r∈Ph a,h2 r=h r):str0 h2 a=str0 h a:=by
 cases a<;>simp only[str0]
 .rw[e _ (by simp[Ph])]
 .rw[e _ (by simp[Ph])]
theorem Qv{h h2:Nat->HO}(e:∀r∈Pi a,h2 r=h r):str h2 a=str h a:=by
 cases a with
 |agg cs=>simp only[str];exact Aa _ (BH fun c hc=>Md fun r hr=>e r (S9 hc r hr))
 |clo f cs=>simp only[str];exact Aa _ (BH fun c hc=>Md fun r hr=>e r (S9 hc r hr))
 |_=>exact Md (fun r hr=>e r (PS _ r hr))
theorem Zj(a:AV):∀r∈Pi a,r∈RL a:=by
 cases a with
 |agg cs=>
  intro r hr;simp only[RL,Pi]at *
  induction cs with
  |nil=>exact hr
  |cons c cs ih=>
   rcases By.1 hr with h | h
   .exact BS _ (PS c r h)
   .exact Ch _ (ih h)
 |_=>exact fun r hr=>hr
theorem If{h h2:Nat->HO}(e:∀r∈RL a,h2 r=h r):str h2 a=str h a:=Qv fun r hr=>e r (Zj a r hr)
theorem Me{h h2:Nat->HO}{l:List AV}(e:∀r∈N3 l,h2 r=h r):l.map (str h2)=l.map (str h):=
 BH fun _ ha=>If fun r hr=>e r (S7 ha r hr)
theorem aw{h h2:Nat->HO}(e:∀r∈RL a,h2 r=h r):rsv h2 a=rsv h a:=by
 cases a<;>simp only[rsv]
 .rw[e _ (by simp[RL,Pi,Ph])]
 .rw[e _ (by simp[RL,Pi,Ph])]
theorem Kh{n:Nat}{K:List AV->Prop}(hk:Fe n a K):∃cs,K cs/\(∀K' : List AV->Prop,K' cs->Fe n a K')/\∀h h2:Nat->HO,(∀r∈RL a,h2 r=h r)->cs.map (str h2)=cs.map (str h):=by
 have single:K [a]->(∀K' : List AV->Prop,K' [a]->Fe n a K')->∃cs,K cs/\(∀K' : List AV->Prop,K' cs->Fe n a K')/\∀h h2:Nat->HO,(∀r∈RL a,h2 r=h r)->cs.map (str h2)=cs.map (str h):=
  fun h1 h2=>⟨[a],h1,h2,fun h h2 e=>by simp[If e]⟩
 unfold Fe at hk;split at hk
 .rename_i cs;split at hk
  .rename_i hn;refine⟨cs,hk,fun K' h=>by unfold Fe;simp only[hn];exact h,fun h h2 e=>BH fun c hc=>Qv fun r hr=>e r (ZD hc r hr)⟩
  .exact hk.elim
 .rename_i gc;split at hk
  .rename_i h1;split at hk
   .refine single hk fun K' h=>?_;unfold Fe;split
    .rename_i cs;exact absurd rfl (gc cs)
    .rw[h1];exact h
   .exact hk.elim
  .exact hk.elim
theorem NN{n sz:Nat}{t:Nat->AV}:∀{ps:List (Nat×Operand)} {es:List (List AV)} {h:Nat->HO} {K:List (List AV)->Prop},Mo n sz h es t ps K ->
  ∃EA,K EA/\∀(t2:Nat->AV) (h2:Nat->HO),(∀r∈N3 (ps.map fun p=>ev t p.2),h2 r=h r)->(∀p∈ps,ev t2 p.2=ev t p.2)->∀K' : List (List AV)->Prop,K' EA->Mo n sz h2 es t2 ps K'
 | [],es,h,K,hk=>⟨es,hk,fun _ _ _ _ _ h=>h⟩
 |(i,x)::r,es,h,K,hk=>by
  unfold Mo at hk;split at hk
  .rename_i hb;obtain⟨cs,c1,c2,c3⟩:=Kh hk;obtain⟨EA,e1,e2⟩:=NN c1;refine⟨EA,e1,fun t2 h2 hh ht K' hk'=>?_⟩;unfold Mo;rw[hb,ht (i,x) (Ab ..)];refine c2 _ ?_;rw[c3 h h2 (fun r hr=>hh r (BS _ hr))];exact e2 t2 h2 (fun r hr=>hh r (Ch _ hr)) (fun p hp=>ht p (Ai _ hp)) K' hk'
  .exact hk.elim
theorem F7{d:Option Nat}{h:Nat->HO}{sz:Nat}{es:List (List AV)}(hk:Dv cx d h sz es K) :
  ∃d',d.map (He cx)=some d'/\∃v x,K v (AH h d' x)/\∀h2:Nat->HO,h2 d'=h d'->∀K' : HK,K' v (AH h2 d' x)->Dv cx d h2 sz es K':=by
 unfold Dv at hk;split at hk
 .exact hk.elim
 .rename_i d;split at hk
  .rename_i hd;split at hk
   .rename_i e;exact⟨He cx d,rfl,_,_,hk,fun h2 hh K' h'=>by unfold Dv;simp only[hh,hd,e];exact h'⟩
   .rename_i e;exact⟨He cx d,rfl,_,_,hk,fun h2 hh K' h'=>by unfold Dv;simp only[hh,hd,e];exact h'⟩
  .exact hk.elim
theorem Uc{h:Nat->HO}{x:AV}{K:List (List AV)->Prop}(hk:Il h x K):∃es,K es/\∀h2:Nat->HO,(∀r n,x=.msl r n->h2 r=h r)->∀K' : List (List AV)->Prop,K' es->Il h2 x K':=by
 unfold Il at hk;split at hk
 .exact⟨_,hk,fun _ _ K' h=>h⟩
 .exact⟨_,hk,fun _ _ K' h=>h⟩
 .rename_i r n;split at hk
  .rename_i sz es e;exact⟨_,hk.2,fun h2 hh K' h=>by unfold Il;simp only[hh r n rfl,e];exact⟨hk.1,h⟩⟩
  .exact hk.elim
 .exact hk.elim
end
section
variable {cx:Cx}{dst:Option Nat}{ty:Nat}{pos:String}{after:Array Edge}{gd:Option (Nat×Bool)}{st:St}{R:List Nat}{w:Option Nat}{K:HK}
theorem Gi{d:Option Nat}{l:List Nat}{f:D9}(h:Gg d l=some f):∃d',d=some d'/\f=(d' :: l,some d'):=by
 unfold Gg at h;cases d with
 |none=>cases h
 |some d=>cases h;exact⟨d,rfl,rfl⟩
theorem Sq{e:Nat}(hk:Ek cx true ⟨dst,.alloc e,ty,pos,after,gd⟩ st K)(hf:DV cx ⟨dst,.alloc e,ty,pos,after,gd⟩ st=some (R,w)):Dq cx ⟨dst,.alloc e,ty,pos,after,gd⟩ st R w K:=by
 simp only[Ek]at hk;have hb:Nat.beq e QT=false:=by
  cases hb:Nat.beq e QT with
  |false=>rfl
  |true=>simp only[DV,hb]at hf;cases hf
 simp only[DV,hb]at hf;obtain⟨d,rfl,e0⟩:=Gi hf;cases e0;unfold Nq at hk;simp only[hb]at hk;split at hk
 .rename_i hd;split at hk
  .exact hk.elim
  .rename_i Dn;split at hk
   .rename_i ha;refine⟨_,some (d,_),hk,fun r o' e=>(by cases e;exact⟨rfl,Ab ..⟩),fun st2 Fb K' h'=>?_⟩;simp only[Ek,Nq];rw[Fb.h d (Ab ..),hd];simp only[ha,hb];exact h'
   .exact hk.elim
 .exact hk.elim
theorem Wm{e:Nat}(hk:Ek cx true ⟨dst,.box e x,ty,pos,after,gd⟩ st K)(hf:DV cx ⟨dst,.box e x,ty,pos,after,gd⟩ st=some (R,w)):Dq cx ⟨dst,.box e x,ty,pos,after,gd⟩ st R w K:=by
 simp only[Ek]at hk;obtain⟨d,rfl,e0⟩:=Gi hf;cases e0;unfold V1 at hk;simp only at hk;split at hk
 .rename_i hd;split at hk
  .exact hk.elim
  .rename_i Dn;obtain⟨cs,c1,c2,c3⟩:=Kh hk;split at c1
   .rename_i hm;refine⟨_,some (d,_),c1,fun r o' e=>(by cases e;exact⟨rfl,Ab ..⟩),fun st2 Fb K' h'=>?_⟩;have hx:ev st2.t x=ev st.t x:=Fb.t x (by simp[Op.operands]);simp only[Ek,V1];rw[Fb.h d (Ab ..),hd,hx];simp only[hm];refine c2 _ ?_;rw[c3 st.h st2.h (fun r hr=>Fb.h r (Ai _ hr))];exact h'
   .rename_i hm;refine⟨_,some (d,_),c1,fun r o' e=>(by cases e;exact⟨rfl,Ab ..⟩),fun st2 Fb K' h'=>?_⟩;have hx:ev st2.t x=ev st.t x:=Fb.t x (by simp[Op.operands]);simp only[Ek,V1];rw[Fb.h d (Ab ..),hd,hx];simp only[hm];exact c2 _ h'
 .exact hk.elim
theorem LM{t n:Nat}{ps:Array (Nat×Operand)}(hk:Ek cx true ⟨dst,.buildSlice t n ps,ty,pos,after,gd⟩ st K)(hf:DV cx ⟨dst,.buildSlice t n ps,ty,pos,after,gd⟩ st=some (R,w)) :
  Dq cx ⟨dst,.buildSlice t n ps,ty,pos,after,gd⟩ st R w K:=by
 simp only[Ek]at hk;obtain⟨d,Y3,e0⟩:=Gi hf;cases e0;unfold Gf at hk;split at hk
 .rename_i e he;split at hk
  .rename_i h1 h2;split at hk
   .exact hk.elim
   .rename_i k Dm;split at hk
    .rename_i hb;obtain⟨es,q1,q2⟩:=NN hk;obtain⟨d',hd,v,x,q3,q4⟩:=F7 q1;have hd:dst.map (He cx)=some d':=hd;have Y3:dst.map (He cx)=some d:=Y3;rw[Y3]at hd;cases hd;refine⟨v,some (d,x),q3,fun r o' e=>(by cases e;exact⟨rfl,Ab ..⟩),fun st2 Fb K' h'=>?_⟩;have hx:∀p∈ps.toList,ev st2.t p.2=ev st.t p.2:=fun p hp=>Fb.t p.2 (by
      simp only[Op.operands,List.mem_toArray];exact AA.2 ⟨p,hp,rfl⟩)
     simp only[Ek,Gf,he,h1,h2];split
     .rename_i e0;rw[Dm]at e0;cases e0
     .rw[hb];exact q2 st2.t st2.h (fun r hr=>Fb.h r (Ai _ hr)) hx _ (q4 st2.h (Fb.h d (Ab ..)) K' h')
    .exact hk.elim
  .exact hk.elim
 .exact hk.elim
theorem ML{t:Nat}{n c:Operand}(hk:Ek cx true ⟨dst,.makeSlice t n c,ty,pos,after,gd⟩ st K)(hf:DV cx ⟨dst,.makeSlice t n c,ty,pos,after,gd⟩ st=some (R,w)) :
  Dq cx ⟨dst,.makeSlice t n c,ty,pos,after,gd⟩ st R w K:=by
 simp only[Ek]at hk;obtain⟨d,Y3,e0⟩:=Gi hf;cases e0;have hn:∀st2,Alike ⟨dst,.makeSlice t n c,ty,pos,after,gd⟩ (d::[]) st st2->ev st2.t n=ev st.t n/\ev st2.t c=ev st.t c:=fun st2 ha=>⟨ha.t n (by simp[Op.operands]),ha.t c (by simp[Op.operands])⟩;unfold G3 at hk;split at hk
 .rename_i e a b h1 h2 h3;split at hk
  .rename_i h4;split at hk
   .rename_i h5;split at hk
    .exact hk.elim
    .rename_i k Dm;obtain⟨d',hd,v,x,q3,q4⟩:=F7 hk.2;have hd:dst.map (He cx)=some d':=hd;have Y3:dst.map (He cx)=some d:=Y3;rw[Y3]at hd;cases hd;refine⟨v,some (d,x),q3,fun r o' e=>(by cases e;exact⟨rfl,Ab ..⟩),fun st2 Fb K' h'=>?_⟩;simp only[Ek,G3,(hn st2 Fb).1,(hn st2 Fb).2,h1,h2,h3,h4,h5];split
     .rename_i e0;rw[Dm]at e0;cases e0
     .exact⟨hk.1,q4 st2.h (Fb.h d (Ab ..)) K' h'⟩
   .exact hk.elim
  .exact hk.elim
 .exact hk.elim
theorem Pc{t:Nat}{r:Option Operand}(hk:Ek cx true ⟨dst,.makeMap t r,ty,pos,after,gd⟩ st K)(hf:DV cx ⟨dst,.makeMap t r,ty,pos,after,gd⟩ st=some (R,w)) :
  Dq cx ⟨dst,.makeMap t r,ty,pos,after,gd⟩ st R w K:=by
 cases r with
 |some r=>exact hk.elim
 |none=>
  simp only[Ek]at hk;obtain⟨d,rfl,e0⟩:=Gi hf;cases e0;unfold HX at hk;simp only at hk;split at hk
  .rename_i hd;split at hk
   .rename_i h1;split at hk
    .rename_i h2;split at hk
     .rename_i h3;refine⟨_,some (d,_),hk,fun r o' e=>(by cases e;exact⟨rfl,Ab ..⟩),fun st2 Fb K' h'=>?_⟩;simp only[Ek,HX];rw[Fb.h d (Ab ..),hd];simp only[h1,h2,h3];exact h'
     .rename_i h3;refine⟨_,some (d,_),hk,fun r o' e=>(by cases e;exact⟨rfl,Ab ..⟩),fun st2 Fb K' h'=>?_⟩;simp only[Ek,HX];rw[Fb.h d (Ab ..),hd];simp only[h1,h2,h3];exact h'
    .exact hk.elim
   .exact hk.elim
  .exact hk.elim
theorem Sr{t:Nat}(hk:Ek cx true ⟨dst,.store t p x,ty,pos,after,gd⟩ st K)(hf:DV cx ⟨dst,.store t p x,ty,pos,after,gd⟩ st=some (R,w)) :
  Dq cx ⟨dst,.store t p x,ty,pos,after,gd⟩ st R w K:=by
 simp only[Ek]at hk;have hn:∀st2,Alike ⟨dst,.store t p x,ty,pos,after,gd⟩ R st st2->ev st2.t p=ev st.t p/\ev st2.t x=ev st.t x:=fun st2 ha=>⟨ha.t p (by simp[Op.operands]),ha.t x (by simp[Op.operands])⟩;unfold Ky at hk;split at hk
 .exact hk.elim
 .rename_i Dn;obtain⟨cs,c1,c2,c3⟩:=Kh hk;simp only[DV]at hf;split at hf
  .rename_i r off hp;split at hf
   .cases hf
   .rename_i hm;cases hf;rw[hp]at c1;simp only at c1;split at c1
    .rename_i Cl hr;obtain⟨Fc,hk'⟩:=c1;rw[hm]at hk';refine⟨_,some (r,_),hk',fun r o' e=>(by cases e;exact⟨rfl,Ab ..⟩),fun st2 Fb K' h'=>?_⟩;simp only[Ek,Ky,(hn st2 Fb).1,(hn st2 Fb).2];refine c2 _ ?_;rw[hp];simp only[Fb.h r (Ab ..),hr,hm];exact⟨Fc,h'⟩
    .exact c1.elim
  .rename_i r n sz i off hp;cases hf;rw[hp]at c1;simp only at c1;split at c1
   .rename_i ES es hr;split at c1
    .rename_i hs;obtain⟨Fc,cell,e1,e2,hk'⟩:=c1;split at hk'
     .rename_i j m;refine⟨_,some (r,_),hk',fun r o' e=>(by cases e;exact⟨rfl,Ab ..⟩),fun st2 Fb K' h'=>?_⟩;simp only[Ek,Ky,(hn st2 Fb).1,(hn st2 Fb).2];refine c2 _ ?_;rw[hp];simp only[Fb.h r (Ab ..),hr,hs];exact⟨Fc,cell,e1,e2,h'⟩
     .rename_i MR;refine⟨_,some (r,_),hk',fun r o' e=>(by cases e;exact⟨rfl,Ab ..⟩),fun st2 Fb K' h'=>?_⟩;simp only[Ek,Ky,(hn st2 Fb).1,(hn st2 Fb).2];refine c2 _ ?_;rw[hp];simp only[Fb.h r (Ab ..),hr,hs];refine⟨Fc,cell,e1,e2,?_⟩;rw[c3 st.h st2.h (fun r hr=>Fb.h r (Ai _ hr))];exact h'
    .exact c1.elim
   .exact c1.elim
  .cases hf
theorem MM{t:Nat}{m k:Operand}(hk:Ek cx true ⟨dst,.mapUpdate t m k x,ty,pos,after,gd⟩ st K)(hf:DV cx ⟨dst,.mapUpdate t m k x,ty,pos,after,gd⟩ st=some (R,w)) :
  Dq cx ⟨dst,.mapUpdate t m k x,ty,pos,after,gd⟩ st R w K:=by
 simp only[Ek]at hk;have hn:∀st2,Alike ⟨dst,.mapUpdate t m k x,ty,pos,after,gd⟩ R st st2->ev st2.t m=ev st.t m/\ev st2.t k=ev st.t k/\ev st2.t x=ev st.t x:=fun st2 ha=>⟨ha.t m (by simp[Op.operands]),ha.t k (by simp[Op.operands]),ha.t x (by simp[Op.operands])⟩;simp only[DV]at hf;split at hf
 .rename_i r hm;cases hf;unfold Fi at hk;rw[hm]at hk;simp only at hk;split at hk
  .rename_i sh BK hr;unfold Hs at hk;split at hk
   .rename_i kt e h1;split at hk
    .rename_i mq h2;split at hk
     .rename_i h3;split at hk
      .rename_i kx h4;split at hk
       .rename_i h5;refine⟨_,some (r,_),hk,fun r o' e=>(by cases e;exact⟨rfl,Ab ..⟩),fun st2 Fb K' h'=>?_⟩;obtain⟨n1,n2,n3⟩:=hn st2 Fb;simp only[Ek,Fi,n1,n2,n3,hm,Fb.h r (Ab ..),hr,Hs,h1,h2,h3,h4,h5];rw[If (h:=st.h) (h2:=st2.h) (fun r hr=>Fb.h r (Ai _ hr))];exact h'
       .exact hk.elim
      .exact hk.elim
     .exact hk.elim
    .exact hk.elim
   .exact hk.elim
  .rename_i sh BK hr;unfold Hs at hk;split at hk
   .rename_i kt e h1;split at hk
    .rename_i mq h2;split at hk
     .rename_i h3;split at hk
      .rename_i kx h4;split at hk
       .rename_i h5;refine⟨_,some (r,_),hk,fun r o' e=>(by cases e;exact⟨rfl,Ab ..⟩),fun st2 Fb K' h'=>?_⟩;obtain⟨n1,n2,n3⟩:=hn st2 Fb;simp only[Ek,Fi,n1,n2,n3,hm,Fb.h r (Ab ..),hr,Hs,h1,h2,h3,h4,h5];exact h'
       .exact hk.elim
      .exact hk.elim
     .exact hk.elim
    .exact hk.elim
   .exact hk.elim
  .exact hk.elim
 .cases hf
theorem Vz{A B:(AV->Prop)->Prop}(ha:Ez A)(hb:Ez B):Ez fun K=>A K\/B K:=by
 intro K hk;rcases hk with hk | hk
 .obtain⟨v,h1,h2⟩:=ha K hk;exact⟨v,h1,fun K' h=>.inl (h2 K' h)⟩
 .obtain⟨v,h1,h2⟩:=hb K hk;exact⟨v,h1,fun K' h=>.inr (h2 K' h)⟩
theorem NT{fn:Fn}{first cap:Array Operand}(hk:Ek cx true ⟨dst,.makeFunc fn first cap,ty,pos,after,gd⟩ st K)(hf:DV cx ⟨dst,.makeFunc fn first cap,ty,pos,after,gd⟩ st=some (R,w)) :
  Dq cx ⟨dst,.makeFunc fn first cap,ty,pos,after,gd⟩ st R w K:=by
 simp only[Ek]at hk;simp only[DV]at hf;cases hf;unfold HU at hk;split at hk
 .rename_i f h1;refine⟨_,none,hk,fun r o' e=>(by cases e),fun st2 Fb K' h'=>?_⟩;simp only[Ek,h1,HU]
  have:cap.toList.map (fun x=>rsv st2.h (ev st2.t x))=cap.toList.map (fun x=>rsv st.h (ev st.t x)):=BH fun x hx=>by
   rw[Fb.t x (by simp only[Op.operands,Nb];exact .inr (by simpa using hx))];exact aw fun r hr=>Fb.h r (S7 (AA.2 ⟨x,hx,rfl⟩) r hr)
  rw[this];exact h'
 .exact hk.elim
end
section
variable {cx:Cx}{dst:Option Nat}{ty:Nat}{pos:String}{after:Array Edge}{gd:Option (Nat×Bool)}{st:St}{R:List Nat}{w:Option Nat}{K:HK}
theorem Ui{t:Nat}(hk:Ek cx true ⟨dst,.load t p,ty,pos,after,gd⟩ st K)(hf:DV cx ⟨dst,.load t p,ty,pos,after,gd⟩ st=some (R,w)):Dq cx ⟨dst,.load t p,ty,pos,after,gd⟩ st R w K:=by
 simp only[Ek]at hk;have hn:∀st2,Alike ⟨dst,.load t p,ty,pos,after,gd⟩ R st st2->ev st2.t p=ev st.t p:=fun st2 ha=>ha.t p (by simp[Op.operands]);simp only[DV]at hf;unfold F4 at hk;split at hf
 .rename_i cs hp;cases hf;rw[hp]at hk;simp only at hk;exact .pick (F5 _ _ _) hk fun st2 ha K' h=>by simp only[Ek,F4,hn st2 ha,hp];exact h
 .rename_i r off hp;cases hf;rw[hp]at hk;simp only at hk;split at hk
  .rename_i cs hr;exact .pick (F5 _ _ _) hk fun st2 ha K' h=>by simp only[Ek,F4,hn st2 ha,hp,ha.h r (Ab ..),hr];exact h
  .rename_i cs hr;exact .pick (F5 _ _ _) hk fun st2 ha K' h=>by simp only[Ek,F4,hn st2 ha,hp,ha.h r (Ab ..),hr];exact h
  .exact hk.elim
 .rename_i r n sz i off hp;cases hf;rw[hp]at hk;simp only at hk;split at hk
  .rename_i ES es hr;split at hk
   .rename_i hs;exact .pick (Ct (JC fun _=>Ct (F5 _ _ _))) hk fun st2 ha K' h=>by simp only[Ek,F4,hn st2 ha,hp,ha.h r (Ab ..),hr,hs];exact h
   .exact hk.elim
  .rename_i ES es i' c av hr;split at hk
   .rename_i hs;exact .pick (Ct (F5 _ _ _)) hk fun st2 ha K' h=>by simp only[Ek,F4,hn st2 ha,hp,ha.h r (Ab ..),hr,hs];exact h
   .exact hk.elim
  .exact hk.elim
 .cases hf
theorem Ra(hk:Ek cx true ⟨dst,.assign x,ty,pos,after,gd⟩ st K)(hf:DV cx ⟨dst,.assign x,ty,pos,after,gd⟩ st=some (R,w)):Dq cx ⟨dst,.assign x,ty,pos,after,gd⟩ st R w K:=by
 simp only[Ek]at hk;have hn:∀st2,Alike ⟨dst,.assign x,ty,pos,after,gd⟩ R st st2->ev st2.t x=ev st.t x:=fun st2 ha=>ha.t x (by simp[Op.operands]);simp only[DV]at hf;split at hf
 .cases hf
 .rename_i hx;cases hf;have same:∃y,∀(h:Nat->HO) (K:HK),KQ cx dst h (ev st.t x) K↔K y h:=by
   unfold KQ;cases dst with
   |none=>exact⟨_,fun _ _=>Mj⟩
   |some d=>
    simp only;cases M0 cx.pl.tok d with
    |some sz=>
     simp only;cases Nat.beq sz 0 with
     |true=>exact⟨_,fun _ _=>Mj⟩
     |false=>
      refine⟨ev st.t x,fun h K=>?_⟩;simp only;split
      .rename_i e;exact absurd e (hx _ _ _)
      .exact Mj
    |none=>
     simp only;cases M0 cx.pl.arr d with
     |some sz=>
      refine⟨ev st.t x,fun h K=>?_⟩;simp only;split
      .rename_i e;exact absurd e (hx _ _ _)
      .exact Mj
     |none=>exact⟨_,fun _ _=>Mj⟩
  obtain⟨y,same⟩:=same;exact .pick (Ci y) ((same _ _).1 hk) fun st2 ha K' h=>by simp only[Ek];rw[hn st2 ha];exact(same _ _).2 h
theorem Mp{t:Nat}{lo hi mx:Option Operand}(hp:Ke cx.pl.tok dst=none)(hk:Ek cx true ⟨dst,.slice t x lo hi mx,ty,pos,after,gd⟩ st K)(hf:DV cx ⟨dst,.slice t x lo hi mx,ty,pos,after,gd⟩ st=some (R,w)) :
  Dq cx ⟨dst,.slice t x lo hi mx,ty,pos,after,gd⟩ st R w K:=by
 simp only[Ek,hp]at hk;have hn:∀st2,Alike ⟨dst,.slice t x lo hi mx,ty,pos,after,gd⟩ R st st2->ev st2.t x=ev st.t x/\BJ st2.t lo=BJ st.t lo/\BJ st2.t hi=BJ st.t hi/\BJ st2.t mx=BJ st.t mx:=by
  intro st2 ha;have oY:∀y:Option Operand,(∀z,y=some z->ev st2.t z=ev st.t z)->BJ st2.t y=BJ st.t y:=by
   intro y hy;cases y with
   |none=>rfl
   |some z=>simp only[BJ];rw[hy z rfl]
  exact⟨ha.t x (by simp[Op.operands]),oY lo (fun z e=>ha.t z (by simp[Op.operands,e])),oY hi (fun z e=>ha.t z (by simp[Op.operands,e])),oY mx (fun z e=>ha.t z (by simp[Op.operands,e]))⟩
 simp only[DV,hp]at hf;split at hf
 .cases hf
 .rename_i hx;cases hf;have e3:BJ st.t none=some none:=rfl
  have Gp:Ez (fun K1=>ER cx dst st.h t (ev st.t x) (BJ st.t lo) (BJ st.t hi) (some none) fun v _=>K1 v) /\
    ∀(h:Nat->HO) (K:HK),ER cx dst h t (ev st.t x) (BJ st.t lo) (BJ st.t hi) (some none) K↔ER cx dst st.h t (ev st.t x) (BJ st.t lo) (BJ st.t hi) (some none) (fun v _=>K v h):=by
   generalize ev st.t x=X at hx;unfold ER;constructor
   .repeat' split
    all_goals first | exact BZ | exact Ct (Ci _) | exact Ct (Ct (Ci _)) | skip
    all_goals first | (rename_i e;cases e;done) | skip
    all_goals (exfalso;exact hx _ _ rfl)
   .intro h K
    repeat' split
    all_goals first | exact Mj | skip
    all_goals exfalso
    all_goals first | exact hx _ _ rfl | (rename some none=some (some _)=>e4;cases e4)
  rw[e3]at hk;exact .pick Gp.1 ((Gp.2 _ _).1 hk) fun st2 ha K' h=>by
   obtain⟨n1,n2,n3,n4⟩:=hn st2 ha;simp only[Ek,hp];rw[n1,n2,n3,n4,e3];exact(Gp.2 _ _).2 h
 .rename_i y tk es hx;obtain⟨d,rfl,e0⟩:=Gi hf;cases e0;rw[hx]at hk;unfold ER at hk;split at hk
  .rename_i FM IN d7 e1 e2 e3;split at hk
   .split at hk<;>first | exact hk.elim | (rename_i e;cases e)
   .rename_i e he;split at hk
    .exact hk.elim
    .rename_i k Dm;simp only at hk;split at hk
     .exfalso
      rename_i e4;simp only[BJ]at e3;split at e3<;>cases e3
     .rename_i m;split at hk
      .rename some d=some _=>e5
       cases e5
       split at hk
       .rename_i fJ;refine⟨_,none,hk.2.2,fun r o' e=>(by cases e),fun st2 Fb K' h'=>?_⟩;obtain⟨n1,n2,n3,n4⟩:=hn st2 Fb;simp only[Ek,hp];rw[n1,n2,n3,n4,hx,e1,e2,e3];unfold ER;simp only[he];split
        .rename_i e0;rw[Dm]at e0;cases e0
        .simp only[fJ];exact⟨hk.1,hk.2.1,h'⟩
       rename_i fJ;split at hk
       .rename_i hd;refine⟨_,some (d,_),hk.2.2,fun r o' e=>(by cases e;exact⟨rfl,Ab ..⟩),fun st2 Fb K' h'=>?_⟩;obtain⟨n1,n2,n3,n4⟩:=hn st2 Fb;simp only[Ek,hp];rw[n1,n2,n3,n4,hx,e1,e2,e3];unfold ER;simp only[he];split
        .rename_i e0;rw[Dm]at e0;cases e0
        .simp only[fJ];rw[Fb.h d (Ab ..),hd];exact⟨hk.1,hk.2.1,h'⟩
       .exact hk.elim
      .exact hk.elim
   .exact hk.elim
  .exact hk.elim
 .cases hf
theorem Wo{t:Nat}{lo hi mx:Option Operand}{p:Nat}(hp:Ke cx.pl.tok dst=some p)(hk:Ek cx true ⟨dst,.slice t x lo hi mx,ty,pos,after,gd⟩ st K)(hf:DV cx ⟨dst,.slice t x lo hi mx,ty,pos,after,gd⟩ st=some (R,w)) :
  MY cx ⟨dst,.slice t x lo hi mx,ty,pos,after,gd⟩ st R w K:=by
 simp only[Ek,hp]at hk;simp only[DV,hp]at hf;obtain⟨d',r,n,hd,hx,e0⟩:=Ug hf;cases e0;cases dst with
 |none=>cases hd
 |some d=>
 cases hd
 unfold Ln at hk;split at hk
 .rw[hx]at hk;unfold af at hk;split at hk
  .rename_i d0 IN e1 e2;cases e1;split at hk
   .rename_i e he;split at hk
    .exact hk.elim
    .rename_i k Dm;simp only at hk;split at hk
     .rename_i sz es hr;split at hk
      .rename_i hd;split at hk
       .rename_i q1 q3;obtain⟨h1,hk⟩:=hk;have rJ:r<10000000/\0<He cx d:=by simpa using q3
        obtain⟨qf,hz⟩:=rJ;refine⟨_,[(r,.dead),(He cx d,_)],hk,fun r' o' e=>?_,fun st2 ha K' h'=>?_⟩
        .rcases AS.1 e with e | e
         .cases e
          refine⟨.inr (.inl ⟨by omega,.inl ?_⟩),Ab ..⟩;rw[Nat.add_mul_mod_self_left,Nl qf]
         .obtain e:=Bh.1 e;cases e;refine⟨.inr (.inl ⟨by omega,.inr ?_⟩),Ai _ (Ab ..)⟩;rw[Nat.add_mul_div_left _ _ sR,Nat.div_eq_of_lt qf,Bf]
        .have o1:BJ st2.t hi=BJ st.t hi:=by
          cases hi with
          |none=>rfl
          |some z=>simp only[BJ];rw[ha.t z (by simp[Op.operands])]
         simp only[Ek,hp];unfold Ln;rw[ha.t x (by simp[Op.operands]),o1,hx,e2];unfold af;simp only[he];split
         .rename_i e0;rw[Dm]at e0;cases e0
         .simp only[ha.h r (Ab ..),hr,ha.h (He cx d) (Ai _ (Ab ..)),hd,q1,q3];exact⟨h1,h'⟩
       .exact hk.elim
      .exact hk.elim
     .exact hk.elim
   .exact hk.elim
  .exact hk.elim
 .exact hk.elim
theorem Q9{s:Operand}{E2:Array TypeId}(hk:Ek cx true ⟨dst,.call ⟨.builtin .append,#[s,x],E2⟩,ty,pos,after,gd⟩ st K)(hf:DV cx ⟨dst,.call ⟨.builtin .append,#[s,x],E2⟩,ty,pos,after,gd⟩ st=some (R,w)) :
  Dq cx ⟨dst,.call ⟨.builtin .append,#[s,x],E2⟩,ty,pos,after,gd⟩ st R w K:=by
 have hk:Es cx dst st.h .append E2.toList [ev st.t s,ev st.t x] K:=hk;have hf:Q8 cx dst (ev st.t s) (ev st.t x)=some (R,w):=hf;have hn:∀st2,Alike ⟨dst,.call ⟨.builtin .append,#[s,x],E2⟩,ty,pos,after,gd⟩ R st st2->ev st2.t s=ev st.t s/\ev st2.t x=ev st.t x:=fun st2 ha=>
  ⟨ha.t s (by simp[Op.operands,Call.operands]),ha.t x (by simp[Op.operands,Call.operands])⟩
 have FD:∀st2,Alike ⟨dst,.call ⟨.builtin .append,#[s,x],E2⟩,ty,pos,after,gd⟩ R st st2->∀K' : HK,Es cx dst st2.h .append E2.toList [ev st.t s,ev st.t x] K'->Ek cx true ⟨dst,.call ⟨.builtin .append,#[s,x],E2⟩,ty,pos,after,gd⟩ st2 K':=by
  intro st2 ha K' h;rw[<-(hn st2 ha).1,<-(hn st2 ha).2]at h;exact h
 generalize E2.toList=l at hk FD
 match l,hk,FD with
 | [t,t'],hk,FD=>
  simp only[Es]at hk FD;split at hk
  .rename_i ht;simp only[ht]at FD;unfold GH at hk FD;split at hk
   .rename_i e he;simp only[he]at FD;split at hk
    .exact hk.elim
    .rename_i hz;simp only[hz]at FD;split at hk
     .exact hk.elim
     .rename_i k Dm;obtain⟨es2,q1,q2⟩:=Uc hk;have iO:∀d,R=d::WQ (ev st.t x)->∀st2,Alike ⟨dst,.call ⟨.builtin .append,#[s,x],E2⟩,ty,pos,after,gd⟩ R st st2->∀r n,ev st.t x=.msl r n->st2.h r=st.h r:=fun d hR st2 ha r n e=>ha.h r (by rw[hR,e];simp[WQ]);unfold Q8 at hf;split at hf
      .rename_i hs;obtain⟨d,Y3,e0⟩:=Gi hf;cases e0;rw[hs]at q1 FD;simp only at q1 FD;obtain⟨d',hd,v,y,q3,q4⟩:=F7 q1.2;rw[Y3]at hd;cases hd;refine⟨v,some (d,y),q3,fun r o' e=>(by cases e;exact⟨rfl,Ab ..⟩),fun st2 Fb K' h'=>FD st2 Fb K' ?_⟩;split
       .rename_i e0;rw[Dm]at e0;cases e0
       .exact q2 st2.h (iO d rfl st2 Fb) _ ⟨q1.1,q4 st2.h (Fb.h d (Ab ..)) K' h'⟩
      .rename_i ES es hs;obtain⟨d,Y3,e0⟩:=Gi hf;cases e0;rw[hs]at q1 FD;simp only at q1 FD;split at q1
       .rename_i h1;obtain⟨d',hd,v,y,q3,q4⟩:=F7 q1.2;rw[Y3]at hd;cases hd;refine⟨v,some (d,y),q3,fun r o' e=>(by cases e;exact⟨rfl,Ab ..⟩),fun st2 Fb K' h'=>FD st2 Fb K' ?_⟩;split
        .rename_i e0;rw[Dm]at e0;cases e0
        .refine q2 st2.h (iO d rfl st2 Fb) _ ?_;simp only[h1];exact⟨q1.1,q4 st2.h (Fb.h d (Ab ..)) K' h'⟩
       .exact q1.elim
      .rename_i r ES es hs;cases hf;rw[hs]at q1 FD;simp only at q1 FD;split at q1
       .rename_i sz n hr;split at q1
        .rename_i h1 h2;refine⟨_,some (r,_),q1.2,fun r o' e=>(by cases e;exact⟨rfl,Ab ..⟩),fun st2 Fb K' h'=>FD st2 Fb K' ?_⟩;split
         .rename_i e0;rw[Dm]at e0;cases e0
         .refine q2 st2.h (iO r rfl st2 Fb) _ ?_;simp only[Fb.h r (Ab ..),hr,h1,h2];exact⟨q1.1,h'⟩
        .exact q1.elim
       .exact q1.elim
      .rename_i r n hs;cases hf;rw[hs]at q1 FD;simp only at q1 FD;split at q1
       .rename_i sz es hr;split at q1
        .rename_i h1;refine⟨_,some (r,_),q1.2,fun r o' e=>(by cases e;exact⟨rfl,Ab ..⟩),fun st2 Fb K' h'=>FD st2 Fb K' ?_⟩;split
         .rename_i e0;rw[Dm]at e0;cases e0
         .refine q2 st2.h (iO r rfl st2 Fb) _ ?_;simp only[Fb.h r (Ab ..),hr,h1];exact⟨q1.1,h'⟩
        .exact q1.elim
       .exact q1.elim
      .cases hf
   .exact hk.elim
  .exact hk.elim
 | [],hk,_=>exact hk.elim
 | [_],hk,_=>exact hk.elim
 |_::_::_::_,hk,_=>exact hk.elim
theorem Qk(t:Nat):Ez (Jk T t):=by
 unfold Jk
 repeat' split
 all_goals first | exact BZ | exact Ci _
theorem Ov(ty:Nat)(ok:Bool)(BK:List (Value×AV))(kx:Value):Ez (I2 T ty ok BK kx):=by
 unfold I2
 repeat' split
 .refine Vz (JC fun a=>Ct (Ci _)) (Ct ?_);intro K hk;obtain⟨v,h1,h2⟩:=Qk T _ _ hk;exact⟨_,h1,fun K' h=>h2 _ h⟩
 .exact Vz (JC fun a=>Ct (Ci _)) (Ct (Qk T _))
 .exact BZ
theorem Tx(ty:Nat)(sh:DG)(k:AV){F:Value->(AV->Prop)->Prop}(h:∀x,Ez (F x)):Ez fun K=>Hs T ty sh k fun kx=>F kx K:=by
 unfold Hs
 repeat' split
 all_goals first | exact BZ | exact h _
theorem Rb{t:Nat}{m k:Operand}{ok:Bool}(hk:Ek cx true ⟨dst,.lookup t m k ok,ty,pos,after,gd⟩ st K)(hf:DV cx ⟨dst,.lookup t m k ok,ty,pos,after,gd⟩ st=some (R,w)) :
  Dq cx ⟨dst,.lookup t m k ok,ty,pos,after,gd⟩ st R w K:=by
 simp only[Ek]at hk;have hn:∀st2,Alike ⟨dst,.lookup t m k ok,ty,pos,after,gd⟩ R st st2->ev st2.t m=ev st.t m/\ev st2.t k=ev st.t k:=fun st2 ha=>⟨ha.t m (by simp[Op.operands]),ha.t k (by simp[Op.operands])⟩;simp only[DV]at hf;unfold Jw at hk;split at hf
 .rename_i sh BK hm;cases hf;rw[hm]at hk;simp only at hk;exact .pick (Tx _ _ _ _ fun _=>Ov _ _ _ _ _) hk fun st2 ha K' h=>by simp only[Ek,Jw,hn st2 ha,hm];exact h
 .rename_i r hm;cases hf;rw[hm]at hk;simp only at hk;split at hk
  all_goals first | exact hk.elim | (rename_i e;exact .pick (Tx _ _ _ _ fun _=>Ov _ _ _ _ _) hk fun st2 ha K' h=>by simp only[Ek,Jw,hn st2 ha,hm,ha.h r (Ab ..),e];exact h)
 .cases hf
theorem ac(t:Nat)(h:Nat->HO)(x:AV):Ez (Mu T t h x):=by
 unfold Mu
 repeat' split
 all_goals first | exact BZ | exact Ci _
theorem gH{T:EU}{t:Nat}{h h2:Nat->HO}{x:AV}(e:∀r,x=.mref r->h2 r=h r){K:AV->Prop}:Mu T t h2 x K=Mu T t h x K:=by
 cases x<;>first | rfl | skip
 rename_i r;unfold Mu;simp only[e r rfl]
theorem Wn{E2:Array TypeId}(hk:Ek cx true ⟨dst,.call ⟨.builtin .len,#[x],E2⟩,ty,pos,after,gd⟩ st K)(hf:DV cx ⟨dst,.call ⟨.builtin .len,#[x],E2⟩,ty,pos,after,gd⟩ st=some (R,w)) :
  Dq cx ⟨dst,.call ⟨.builtin .len,#[x],E2⟩,ty,pos,after,gd⟩ st R w K:=by
 have hk:Es cx dst st.h .len E2.toList [ev st.t x] K:=hk;have hf:E5 cx dst (.builtin .len) st.t [ev st.t x]=some (R,w):=hf;have hn:∀st2,Alike ⟨dst,.call ⟨.builtin .len,#[x],E2⟩,ty,pos,after,gd⟩ R st st2->ev st2.t x=ev st.t x:=fun st2 ha=>ha.t x (by simp[Op.operands,Call.operands]);have FD:∀st2,Alike ⟨dst,.call ⟨.builtin .len,#[x],E2⟩,ty,pos,after,gd⟩ R st st2->∀K' : HK,Es cx dst st2.h .len E2.toList [ev st.t x] K'->Ek cx true ⟨dst,.call ⟨.builtin .len,#[x],E2⟩,ty,pos,after,gd⟩ st2 K':=by
  intro st2 ha K' h;rw[<-hn st2 ha]at h;exact h
 generalize E2.toList=l at hk FD
 match l,hk,FD with
 | [t],hk,FD=>
  have hR:∀r,ev st.t x=.mref r->r∈R:=fun r e=>by
   rw[e]at hf;cases hf;exact Ab ..
  have hw:w=none:=by
   unfold E5 at hf;split at hf<;>first | (cases hf;rfl) | (rename_i e;cases e) | (rename_i e _;cases e) | skip
   all_goals (cases hf)
  subst hw;exact .pick (ac _ _ _ _) hk fun st2 ha K' h=>FD st2 ha K' (by
   simp only[Es];rw[gH fun r e=>ha.h r (hR r e)];exact h)
 | [],hk,_=>exact hk.elim
 |_::_::_,hk,_=>exact hk.elim
end
theorem cJ{l:List Nat}{n:Nat}(h:Gw l n=true):n∈l:=by
 induction l with
 |nil=>cases h
 |cons a l ih=>
  unfold Gw at h
  by_cases e:a=n
  .exact e▸Ab ..
  .rw[B4 e]at h;exact Ai _ (ih h)
theorem Sj(G:Nat->HO):∀(σ:Ren) (h:Nat->HO),DI σ=true->(fun i=>match B5 σ i with | some j=>G j | none=>h i)=F2 h (σ.map fun p=>(p.1,G p.2))
 | [],h,_=>rfl
 |(i,j)::r,h,hσ=>by
  unfold DI at hσ;simp only[Ak]at hσ;have ih:=Sj G r (AH h i (G j)) hσ.2;show _=F2 (AH h i (G j)) (r.map fun p=>(p.1,G p.2));rw[<-ih]
  funext i'
  have hn:B5 r i=none:=by
   have:=hσ.1.1.1
   cases e:B5 r i with
   |none=>rfl
   |some k=>rw[e]at this;simp at this
  by_cases e:i'=i
  .subst e;have e1:B5 ((i',j)::r) i'=some j:=by unfold B5;rw[CK];rfl
   rw[e1,hn];show G j=AH h i' (G j) i';unfold AH;rw[CK];rfl
  .have e1:B5 ((i,j)::r) i'=B5 r i':=by
    show(bif Nat.beq i i' then some j else B5 r i')=_;rw[B4 (OZ e)];rfl
   rw[e1];cases B5 r i' with
   |some k=>rfl
   |none=>show h i'=AH h i (G j) i';unfold AH;rw[B4 e];rfl
theorem PE{σ:Ren}{d:Nat}(hσ:DI σ=true){h h' : Nat->HO}:DH σ d 0 h h'=F2 h (σ.map fun p=>(p.1,(h' p.2).ren (Eo σ d 0) h')):=by
 rw[<-Sj (fun j=>(h' j).ren (Eo σ d 0) h') σ h hσ]
 funext i
 unfold DH;cases B5 σ i with
 |some j=>rfl
 |none=>
  have:(Nat.ble (Bd d 0) i&&Nat.blt i (Bd d 0))=false:=by
   rw[A8];simp only[ne_eq,Ak,Cz,B1];omega
  simp only[this]
section
variable {cx:Cx}{op:Op}{dst:Option Nat}{ty:Nat}{pos:String}{after:Array Edge}{gd:Option (Nat×Bool)}{st:St}{R:List Nat}{w:Option Nat}{K:HK}
theorem Dq.toL(h:Dq cx ⟨dst,op,ty,pos,after,gd⟩ st R w K):MY cx ⟨dst,op,ty,pos,after,gd⟩ st R w K:=by
 obtain⟨v,e,h1,h2,h3⟩:=h;cases e with
 |none=>exact⟨v,[],h1,fun r o' e=>(by cases e),h3⟩
 |some p=>exact⟨v,[p],h1,fun r o' e=>by
   obtain rfl:=Bh.1 e;obtain⟨a,b⟩:=h2 r o' rfl;exact⟨by rw[a];exact .inl rfl,b⟩,h3⟩
theorem Uh{c:Call}(hk:Ek cx true ⟨dst,.call c,ty,pos,after,gd⟩ st K)(hf:DV cx ⟨dst,.call c,ty,pos,after,gd⟩ st=some (R,w)):MY cx ⟨dst,.call c,ty,pos,after,gd⟩ st R w K:=by
 obtain⟨fp,args,E2⟩:=c;have EN:∀st2,Alike ⟨dst,.call ⟨fp,args,E2⟩,ty,pos,after,gd⟩ R st st2->args.toList.map (ev st2.t)=args.toList.map (ev st.t):=fun st2 ha=>
  BH fun x hx=>ha.t x (by simp only[Op.operands,Call.operands,Nb];exact .inr (by simpa using hx))
 cases fp with
 |invoke r m=>exact hk.elim
 |value f=>
  have hk:EL cx true dst st (ev st.t f) (args.toList.map (ev st.t)) K:=hk;have hf:E5 cx dst (.value f) st.t (args.toList.map (ev st.t))=some (R,w):=hf;unfold E5 at hf;unfold EL at hk;simp only at hf hk;have hn:=EN;split at hf
  .rename_i Ve;rw[Ve]at hk;cases hf;obtain⟨res,h1,h2⟩:=hk;refine Dq.toL ⟨res,none,h2,fun r o' e=>(by cases e),fun st2 ha K' h'=>?_⟩;show EL cx true dst st2 (ev st2.t f) (args.toList.map (ev st2.t)) K';rw[EN st2 ha,ha.t f (by simp[Op.operands,Call.operands])];unfold EL;simp only[Ve];refine⟨res,?_,h'⟩;rw[If (h:=st.h) (fun r hr=>ha.h r (BS _ hr)),Me (h:=st.h) (fun r hr=>ha.h r (Ch _ hr))];exact h1
  .rename_i Ve;rw[Ve]at hk;simp only at hk;cases dst with
   |none=>exact hk.elim
   |some d=>
    obtain⟨n,sz,es,h1,h2,h3⟩:=hk;have hf:some (Bd d 0::(RL (ev st.t f)++N3 (args.toList.map (ev st.t))),some (Bd d 0))=some (R,w):=hf;cases hf;refine Dq.toL ⟨_,some (Bd d 0,_),h3,fun r o' e=>(by cases e;exact⟨rfl,Ab ..⟩),fun st2 ha K' h'=>?_⟩;show EL cx true (some d) st2 (ev st2.t f) (args.toList.map (ev st2.t)) K';rw[EN st2 ha,ha.t f (by simp[Op.operands,Call.operands])];unfold EL;simp only[Ve];refine⟨n,sz,es,?_,?_,h'⟩
    .have:CX st2.h d 1=CX st.h d 1:=by simp only[CX,ha.h (Bd d 0) (Ab ..)]
     rw[this];exact h1
    .rw[If (h:=st.h) (fun r hr=>ha.h r (Ai _ (BS _ hr))),Me (h:=st.h) (fun r hr=>ha.h r (Ai _ (Ch _ hr)))];exact h2
  .rename_i Ve;rw[Ve]at hk;have hk:MF cx 0 dst st.h (ev st.t f) (args.toList.map (ev st.t)) K:=hk;split at hf
   .rename_i r n l hl;cases hf;have Gp:=hk;unfold MF at Gp;rw[hl]at Gp;split at Gp
    .rename_i d0 f0 r0 n0 l0 e1 e2 z1 z2;cases e2;split at Gp
     .rename_i vs Uq;split at Gp
      .rename_i sz es hr;obtain⟨n',EA,h1,h2⟩:=Gp;refine Dq.toL ⟨_,some (r,_),h2,fun r o' e=>(by cases e;exact⟨rfl,Ab ..⟩),fun st2 ha K' h'=>?_⟩;show EL cx true _ st2 (ev st2.t f) (args.toList.map (ev st2.t)) K';rw[EN st2 ha,ha.t f (by simp[Op.operands,Call.operands]),hl,e1];unfold EL;simp only[Ve];unfold Lp;simp only;unfold MF;simp only[Uq,ha.h r (Ab ..),hr];exact⟨n',EA,h1,h'⟩
      .exact Gp.elim
     .exact Gp.elim
    .exact Gp.elim
   .cases hf
  .rename_i k Ve;rw[Ve]at hk;cases hb:Nat.beq k 1 with
   |true=>
    have Wq:Nat.beq (k+1) 2=true:=hb;have hk:OQ cx dst st (ev st.t f) (args.toList.map (ev st.t)) K:=by
     have Gp:(match Nat.beq (k+1) 2 with | true=>OQ cx dst st (ev st.t f) (args.toList.map (ev st.t)) K | false=>match Nat.beq (k+1) 3 with | true=>Mh cx dst st (ev st.t f) (args.toList.map (ev st.t)) K | false=>Lp cx (k+1) dst st (ev st.t f) (args.toList.map (ev st.t)) K):=hk;rw[Wq]at Gp;exact Gp
    rw[hb]at hf;cases dst with
    |none=>exact hk.elim
    |some d=>
     obtain⟨sz,es,h1,h2,h3⟩:=hk;have hf:some (Bd d 0::(RL (ev st.t f)++N3 (args.toList.map (ev st.t))),some (Bd d 0))=some (R,w):=hf;cases hf;refine Dq.toL ⟨_,some (Bd d 0,_),h3,fun r o' e=>(by cases e;exact⟨rfl,Ab ..⟩),fun st2 ha K' h'=>?_⟩;show EL cx true (some d) st2 (ev st2.t f) (args.toList.map (ev st2.t)) K';rw[EN st2 ha,ha.t f (by simp[Op.operands,Call.operands])];unfold EL;simp only[Ve,Wq];refine⟨sz,es,?_,?_,h'⟩
     .have:CX st2.h d 1=CX st.h d 1:=by simp only[CX,ha.h (Bd d 0) (Ab ..)]
      rw[this];exact h1
     .rw[If (h:=st.h) (fun r hr=>ha.h r (Ai _ (BS _ hr))),Me (h:=st.h) (fun r hr=>ha.h r (Ai _ (Ch _ hr)))];exact h2
   |false=>
    have Wq:Nat.beq (k+1) 2=false:=hb;rw[hb]at hf;have Gp:(match Nat.beq (k+1) 2 with | true=>OQ cx dst st (ev st.t f) (args.toList.map (ev st.t)) K | false=>match Nat.beq (k+1) 3 with | true=>Mh cx dst st (ev st.t f) (args.toList.map (ev st.t)) K | false=>Lp cx (k+1) dst st (ev st.t f) (args.toList.map (ev st.t)) K):=hk;rw[Wq]at Gp;cases hc:Nat.beq k 2 with
    |true=>
     have iG:Nat.beq (k+1) 3=true:=hc;rw[hc]at hf;simp only[iG]at Gp;have hf:YO (args.toList.map (ev st.t))=some (R,w):=hf;unfold YO at hf;unfold Mh at Gp;split at hf
     .rename_i vs Uq;cases hf;split at Gp
      .rename_i l XK e1 e2 z1 z2;rw[Uq]at e2;cases e2;split at Gp
       .rename_i r sz es VH n e3 e4;obtain⟨⟨rfl,rfl⟩,v,EA,n',h1,h2⟩:=Gp;refine⟨_,[(1001,_),(1000,_)],h2,fun r' o' e=>?_,fun st2 ha K' h'=>?_⟩
        .rcases AS.1 e with e | e
         .cases e
          exact⟨.inr (.inl ⟨by decide,.inr sR⟩),by simp⟩
         .obtain e:=Bh.1 e;cases e;exact⟨.inr (.inl ⟨by decide,.inl sR⟩),by simp⟩
        show EL cx true _ st2 (ev st2.t f) (args.toList.map (ev st2.t)) K';rw[EN st2 ha,ha.t f (by simp[Op.operands,Call.operands]),e1];unfold EL;simp only[Ve,Wq,iG];unfold Mh;simp only[Uq,ha.h 1000 sS,ha.h 1001 sS,e3,e4];exact⟨⟨trivial,trivial⟩,v,EA,n',h1,h'⟩
       .exact Gp.elim
      .exact Gp.elim
     .cases hf
    |false=>
    have iG:Nat.beq (k+1) 3=false:=hc;rw[hc]at hf;have aY:Lp cx (k+1) dst st (ev st.t f) (args.toList.map (ev st.t)) K:=by
     simp only[iG]at Gp;exact Gp
    have fO:YM k dst (args.toList.map (ev st.t))=some (R,w):=hf;unfold YM at fO;unfold Lp at aY;cases he:Nat.beq k 3 with
    |true=>
     have aX:Nat.beq (k+1) 4=true:=he;rw[he]at fO;rw[aX]at aY;have fO:some (bW,some QL)=some (R,w):=fO;have aY:Ss cx dst st (ev st.t f) (args.toList.map (ev st.t)) K:=aY;cases fO;unfold Ss at aY;split at aY
     .rename_i d f' Cs e2 _ _ _;obtain⟨σ,H0,Hn,args',res,g1,g2,g3,g4⟩:=aY;simp only[Ak]at g2;refine⟨_,σ.map fun p=>(p.1,(AC Hn Ao p.2).ren (Eo σ d 0) (AC Hn Ao)),(PE (h:=st.h) (h':=AC Hn Ao) (d:=d) g2.1.1)▸g4,fun r' o' e=>?_,fun st2 ha K' h'=>?_⟩
      .obtain⟨p,hp,e⟩:=AA.1 e;cases e;exact⟨.inr (.inr rfl),cJ (AJ.1 g2.2 p hp)⟩
      .show EL cx true _ st2 (ev st2.t f) (args.toList.map (ev st2.t)) K';rw[EN st2 ha,ha.t f (by simp[Op.operands,Call.operands])];unfold EL;simp only[Ve,Wq,iG];unfold Lp;simp only[aX];unfold Ss;rw[e2];refine⟨σ,H0,Hn,args',res,fun h2 hh=>g1 h2 fun r hr=>(hh r hr).trans (ha.h r hr),by simp only[Ak];exact g2,g3,?_⟩;rw[PE (h:=st2.h) (h':=AC Hn Ao) (d:=d) g2.1.1];exact h'
     .exact aY.elim
    |false=>
    have aX:Nat.beq (k+1) 4=false:=he;rw[he]at fO;rw[aX]at aY;have hf:U6 dst (args.toList.map (ev st.t))=some (R,w):=fO;have hk:MF cx (k+1) dst st.h (ev st.t f) (args.toList.map (ev st.t)) K:=aY;obtain⟨d,r,n,l,rfl,hl,e0⟩:=Uf hf;cases e0;unfold MF at hk;rw[hl]at hk;split at hk
    .rename_i d0 f0 r0 n0 l0 e9 e1 e2;cases e9;cases e2;split at hk
     .rename_i vs Uq;split at hk
      .rename_i sz es hr;obtain⟨n',EA,h0,h1,h2⟩:=hk;have nF:=h0;simp only[Ak,B1]at nF;refine⟨_,[(r,.dead),(Bd d 0,_)],h2,fun r' o' e=>?_,fun st2 ha K' h'=>?_⟩
       .rcases AS.1 e with e | e
        .cases e
         refine⟨.inr (.inl ⟨by unfold Bd;omega,.inl ?_⟩),Ab ..⟩;rw[Nat.add_mul_mod_self_left,Nl nF.1.2]
        .obtain e:=Bh.1 e;cases e;refine⟨.inr (.inl ⟨by unfold Bd;omega,.inr ?_⟩),Ai _ (Ab ..)⟩;rw[Nat.add_mul_div_left _ _ sR,Nat.div_eq_of_lt nF.1.2,Bf]
       show EL cx true _ st2 (ev st2.t f) (args.toList.map (ev st2.t)) K';rw[EN st2 ha,ha.t f (by simp[Op.operands,Call.operands]),hl,e1];unfold EL;simp only[Ve,Wq,iG];unfold Lp;simp only[aX];unfold MF;simp only[Uq,ha.h r (Ab ..),hr]
       have:CX st2.h d 1=CX st.h d 1:=by simp only[CX,ha.h (Bd d 0) (Ai _ (Ab ..))]
       exact⟨n',EA,by rw[this];exact h0,h1,h'⟩
      .exact hk.elim
     .exact hk.elim
    .exact hk.elim
 |builtin b=>
  refine Dq.toL ?_;have mm:∀f:Int->Int->Int,(∀(d:Option Nat) (h:Nat->HO) (E2:List Nat) (args:List AV) (K:HK),Es cx d h b E2 args K=(match args with | [x,y]=>cM f x y fun v=>K v h | _=>False))->R=[]/\w=none->Dq cx ⟨dst,.call ⟨.builtin b,args,E2⟩,ty,pos,after,gd⟩ st R w K:=by
   rintro f hb ⟨rfl,rfl⟩
   have hk:Es cx dst st.h b E2.toList (args.toList.map (ev st.t)) K:=hk;rw[hb]at hk;split at hk
   .rename_i x y e;refine .pick (cZ f x y) hk fun st2 ha K' h=>?_;show Es cx dst st2.h b E2.toList (args.toList.map (ev st2.t)) K';rw[hb,EN st2 ha,e];exact h
   .exact hk.elim
  cases b
  case max=>exact mm max (fun d h E2 args K=>by cases args with | nil=>rfl | cons x l=>cases l with | nil=>rfl | cons y l=>cases l<;>rfl) (by
   have hf:E5 cx dst (.builtin .max) st.t (args.toList.map (ev st.t))=some (R,w):=hf;simp only[E5]at hf;cases hf;exact⟨rfl,rfl⟩)
  case min=>exact mm min (fun d h E2 args K=>by cases args with | nil=>rfl | cons x l=>cases l with | nil=>rfl | cons y l=>cases l<;>rfl) (by
   have hf:E5 cx dst (.builtin .min) st.t (args.toList.map (ev st.t))=some (R,w):=hf;simp only[E5]at hf;cases hf;exact⟨rfl,rfl⟩)
  case append=>
   obtain⟨l⟩:=args
   match l,hk,hf with
   | [s,x],hk,hf=>exact Q9 hk hf
   | [],hk,hf=>cases E2;exact hk.elim
   | [_],hk,hf=>exact hk.elim
   |_::_::_::_,hk,hf=>exact hk.elim
  case len=>
   obtain⟨l⟩:=args
   match l,hk,hf with
   | [x],hk,hf=>exact Wn hk hf
   | [],hk,hf=>exact hk.elim
   |_::_::_,hk,hf=>exact hk.elim
  all_goals exact hk.elim
theorem TV{o:Oper}(hc:∀c,o.op≠.call c)(hs:(∃t x lo hi mx,o.op=.slice t x lo hi mx)->Ke cx.pl.tok o.dst=none)(hk:Ek cx true o st K)(hf:DV cx o st=some (R,w)):Dq cx o st R w K:=by
 obtain⟨dst,op,ty,pos,after,gd⟩:=o;cases op with
 |call c=>exact absurd rfl (hc c)
 |alloc e=>exact Sq hk hf
 |box e x=>exact Wm hk hf
 |buildSlice t n ps=>exact LM hk hf
 |makeSlice t n c=>exact ML hk hf
 |makeMap t r=>exact Pc hk hf
 |store t p x=>exact Sr hk hf
 |mapUpdate t m k x=>exact MM hk hf
 |makeFunc fn first cap=>exact NT hk hf
 |load t p=>exact Ui hk hf
 |assign x=>exact Ra hk hf
 |slice t x lo hi mx=>exact Mp (hs ⟨t,x,lo,hi,mx,rfl⟩) hk hf
 |lookup t x i ok=>exact Rb hk hf
 |move x=>
  cases hf
  exact .pick (Ci _) hk fun st2 ha K' h=>by simp only[Ek,ha.t x (by simp[Op.operands])];exact h
 |pick c a b=>
  cases hf
  exact .pick (Xg _ _ _) hk fun st2 ha K' h=>by simp only[Ek,ha.t c (by simp[Op.operands]),ha.t a (by simp[Op.operands]),ha.t b (by simp[Op.operands])];exact h
 |nilCheck x=>
  cases hf
  exact .pick (ae _) hk fun st2 ha K' h=>by simp only[Ek,ha.t x (by simp[Op.operands])];exact h
 |binOp op t x y u=>
  simp only[DV]at hf;split at hf
  .cases hf
  .rename_i hx;cases hf;exact .pick (Xe _ _ _ _ _ _ hx) hk fun st2 ha K' h=>by simp only[Ek,ha.t x (by simp[Op.operands]),ha.t y (by simp[Op.operands])];exact h
 |unOp op t x=>
  cases hf
  exact .pick (Xh _ _) hk fun st2 ha K' h=>by simp only[Ek,ha.t x (by simp[Op.operands])];exact h
 |convert s t x=>
  cases hf
  exact .pick (Xf _ _ _ _) hk fun st2 ha K' h=>by simp only[Ek,ha.t x (by simp[Op.operands])];exact h
 |fieldAddr s x f=>
  cases hf
  exact .pick (UF _ _ _ _) hk fun st2 ha K' h=>by simp only[Ek,ha.t x (by simp[Op.operands])];exact h
 |field s x f=>
  cases hf
  exact .pick (Tw _ _ _ _) hk fun st2 ha K' h=>by simp only[Ek,ha.t x (by simp[Op.operands])];exact h
 |indexAddr t x i=>
  cases hf
  exact .pick (Ow _ _ _ _) hk fun st2 ha K' h=>by simp only[Ek,ha.t x (by simp[Op.operands]),ha.t i (by simp[Op.operands])];exact h
 |index t x i=>
  cases hf
  exact .pick (UG _ _ _ _) hk fun st2 ha K' h=>by simp only[Ek,ha.t x (by simp[Op.operands]),ha.t i (by simp[Op.operands])];exact h
 |extract x i=>
  cases hf
  exact .pick (Rz _ _) hk fun st2 ha K' h=>by simp only[Ek,ha.t x (by simp[Op.operands])];exact h
 |build t ps=>
  cases hf
  refine .pick (UE _ _ _ _) hk fun st2 ha K' h=>?_;have hx:∀p∈ps.toList,ev st2.t p.2=ev st.t p.2:=fun p hp=>ha.t p.2 (by
   simp only[Op.operands,List.mem_toArray];exact AA.2 ⟨p,hp,rfl⟩)
  simp only[Ek];have fill:∀(pl:Nat->Option (Nat×Nat)) (l:List (Nat×Operand)) (cs:List AV) (K:List AV->Prop),(∀p∈l,ev st2.t p.2=ev st.t p.2)->HP pl cs st2.t l K=HP pl cs st.t l K:=by
   intro pl l
   induction l with
   |nil=>intro cs K _;rfl
   |cons p l ih=>
    intro cs K hp;obtain⟨i,x⟩:=p;have h1:ev st2.t x=ev st.t x:=hp (i,x) (Ab ..);have h2:∀cs,HP pl cs st2.t l K=HP pl cs st.t l K:=fun cs=>ih cs K (fun p gp=>hp p (Ai _ gp));simp only[HP,h1,h2]
  unfold LC at h⊢;simp only[fill _ _ _ _ hx];exact h
 |_=>cases hf
theorem VS{o:Oper}(hk:Ek cx true o st K)(hf:DV cx o st=some (R,w)):MY cx o st R w K:=by
 obtain⟨dst,op,ty,pos,after,gd⟩:=o
 by_cases h:∃c,op=.call c
 .obtain⟨c,rfl⟩:=h;exact Uh hk hf
 .by_cases h2:∃t x lo hi mx,op=.slice t x lo hi mx
  .obtain⟨t,x,lo,hi,mx,rfl⟩:=h2;cases hp:Ke cx.pl.tok dst with
   |none=>exact Dq.toL (Mp hp hk hf)
   |some p=>exact Wo hp hk hf
  .exact Dq.toL (TV (fun c e=>h ⟨c,e⟩) (fun e=>absurd e h2) hk hf)
end
end Go.Eng
