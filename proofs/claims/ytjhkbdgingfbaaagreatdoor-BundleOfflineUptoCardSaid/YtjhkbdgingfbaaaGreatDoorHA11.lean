/- Lemmas 11. -/
import Derived.Test.YtjhkbdgingfbaaaGreatDoorHA10
namespace Go.Eng
variable {x:Operand}{F:(AV->Prop)->Prop}{a:AV}{p:Operand}{α:Type}(cx:Cx)(T:GV)(o:Oper)(st:St)(op:BinOp)(s:Nat)(R:List Nat)(k:IntKind)(f:Nat)(w:Option Nat)(K:HK)
def Gy(F:(AV->Prop)->Prop):Prop:=∀K,F K->∃v,K v/\∀K',K' v->F K'
theorem Dc(v:AV):Gy (fun K=>K v):=fun _ h=>⟨v,h,fun _ h=>h⟩
theorem Dt{p:Prop}(h:Gy F):Gy (fun K=>p/\F K):=fun K ⟨hp,hk⟩=>
 let ⟨v,h1,h2⟩:=h K hk
 ⟨v,h1,fun K' h'=>⟨hp,h2 K' h'⟩⟩
theorem CH:Gy (fun _=>False):=fun _ h=>h.elim
theorem WV(p:Prop):Gy (Jr p):=fun K h=>by
 by_cases hp:p
 .exact⟨_,h.1 hp,fun K' h'=>⟨fun _=>h',fun hn=>absurd hp hn⟩⟩
 .exact⟨_,h.2 hp,fun K' h'=>⟨fun q=>absurd q hp,fun _=>h'⟩⟩
theorem br(h:Gy F):Gy (fun K=>F (jb K)):=fun K hk=>by
 obtain⟨v,h1,h2⟩:=h _ hk;unfold jb at h1;split at h1
 .exact⟨_,h1,fun K' h'=>h2 _ h'⟩
 .exact⟨_,h1,fun K' h'=>h2 _ h'⟩
 .exact h1.elim
theorem NM{F:α->(AV->Prop)->Prop}(h:∀x,Gy (F x)):Gy (fun K=>∃x,F x K):=fun K ⟨x,hk⟩=>
 let ⟨v,h1,h2⟩:=h x K hk
 ⟨v,h1,fun K' h'=>⟨x,h2 K' h'⟩⟩
theorem IG(t:Nat)(cs:List AV):Gy (Mw T t cs):=by
 have head:Gy (Ls cs):=by unfold Ls;cases cs with | nil=>exact CH | cons a _=>exact Dc a
 unfold Mw;split
 .exact Dt (Dc _)
 .exact Dt (Dc _)
 .cases cs with
  |nil=>exact CH
  |cons a _=>
   intro K h;simp only[Ls]at h⊢;split at h
   .rename_i b;cases b with
    |true=>exact⟨_,h.1 rfl,fun K' h'=>⟨fun _=>h',fun e=>by cases e⟩⟩
    |false=>exact⟨_,h.2 rfl,fun K' h'=>⟨fun e=>(by cases e),fun _=>h'⟩⟩
   .exact h.elim
 .exact CH
 .exact head
theorem fw(t:Nat)(x y:AV)(hx:∀tk es,x≠.slice tk es):Gy (vw T t x y):=by
 unfold vw
 repeat' split
 all_goals first | exact CH | exact Dc _ | exact WV _ | exact Dt (Dc _) | exact absurd rfl (hx _ _)
theorem UY(a b:Int):Gy (Ve op k a b):=by
 unfold Ve;split<;>first | exact CH | exact Dt (Dc _)
theorem du(a b:Int):Gy (Ty op k a b):=by
 unfold Ty
 repeat' split
 all_goals first | exact CH | exact Dt (Dc _) | (unfold XJ;split<;>first | exact Dc _ | exact Dt (Dc _) | exact UY _ _ _ _)
theorem nD(t:Nat)(x y:AV)(hx:∀tk es,x≠.slice tk es):Gy (TC T op t x y):=by
 unfold TC
 repeat' split
 all_goals first | exact CH | exact WV _ | exact du _ _ _ _ | exact UY _ _ _ _ | exact Dt (Dc _) | exact fw _ _ _ _ hx | exact br (fw _ _ _ _ hx)
theorem jv(t:Nat)(Y:Operand)(x y:AV)(hx:∀tk es,x≠.slice tk es):Gy (Zi T op t Y x y):=by
 unfold Zi
 repeat' split
 all_goals first | exact CH | exact Dc _ | exact nD _ _ _ _ _ hx
theorem jw(t:Nat)(x:AV):Gy (Wn T s t x):=by
 unfold Wn
 repeat' split
 all_goals first | exact CH | exact Dc _ | exact Dt (Dc _) | exact NM fun _=>Dt (Dc _)
theorem dw(x:AV):Gy (T1 T s f x):=by
 unfold T1
 repeat' split
 all_goals first | exact CH | exact Dc _
theorem bp(x:AV):Gy (Pt T s f x):=by
 unfold Pt
 repeat' split
 all_goals first | exact CH | exact IG _ _ _
theorem UX(t:Nat)(x ix:AV):Gy (JY T t x ix):=by
 unfold JY
 repeat' split
 all_goals first | exact CH | exact Dt (Dc _) | exact NM fun _=>Dt (Dt (Dc _))
theorem dx(t:Nat)(x ix:AV):Gy (Uq T t x ix):=by
 unfold Uq
 repeat' split
 all_goals first | exact CH | exact Dt (IG _ _ _) | exact NM fun _=>Dt (Dc _)
theorem YI(x:AV)(i:Nat):Gy (MV x i):=by
 unfold MV
 repeat' split
 all_goals first | exact CH | exact Dc _
theorem nF(x:AV):Gy (LA x):=by
 unfold LA
 repeat' split
 all_goals first | exact CH | exact Dc _
theorem jx(c a b:AV):Gy (bn c a b):=by
 unfold bn
 repeat' split
 all_goals first | exact CH | exact Dc _
theorem qX(f:Int->Int->Int)(x y:AV):Gy (qG f x y):=by
 unfold qG
 repeat' split
 all_goals first | exact CH | exact Dc _
theorem jy(op:UnOp)(x:AV):Gy (bA op x):=by
 unfold bA
 repeat' split
 all_goals first | exact CH | exact Dc _ | exact br (Dc _) | exact Dt (Dc _)
def rF(F:(α->Prop)->Prop):Prop:=∀K,F K->∃v,K v/\∀K',K' v->F K'
theorem bo(n:Nat)(a:AV):rF (Hz n a):=by
 intro K h;unfold Hz at h⊢
 repeat' split at h
 all_goals first | exact h.elim | skip
 all_goals exact⟨_,h,fun K' h'=>h'⟩
theorem UV(pl:Nat->Option (Nat×Nat))(t:Nat->AV):∀(ps:List (Nat×Operand)) (cs:List AV),rF (Lr pl cs t ps)
 | [],cs=>fun K h=>⟨cs,h,fun _ h=>h⟩
 |(i,x)::r,cs=>by
  intro K h;unfold Lr at h;split at h
  .exact h.elim
  .rename_i o n e;obtain⟨vs,h1,h2⟩:=bo _ _ _ h;split at h1
   .rename_i hb;obtain⟨c,h3,h4⟩:=UV pl t r _ _ h1;refine⟨c,h3,fun K' h'=>?_⟩;unfold Lr;simp only[e];refine h2 _ ?_;simp only[hb];exact h4 K' h'
   .exact h1.elim
theorem dv(ty:Nat)(t:Nat->AV)(ps:List (Nat×Operand)):Gy (Qz T ty t ps):=by
 unfold Qz
 repeat' split
 all_goals first
  |exact CH
  |exact fun K h=>let ⟨c,h1,h2⟩:=UV _ _ _ _ _ h;⟨_,h1,fun K' h'=>h2 _ h'⟩
def eff(h:Nat->HO)(e:Option (Nat×HO)):Nat->HO:=match e with | none=>h | some (r,o)=>AR h r o
structure Alike(o:Oper)(R:List Nat)(st st2:St):Prop where
 t:∀x∈o.op.operands,ev st2.t x=ev st.t x
 h:∀r∈R,st2.h r=st.h r
def Et:Prop:=
 ∃v e,K v (eff st.h e)/\(∀r o',e=some (r,o')->w=some r/\r∈R)/\∀st2,Alike o R st st2->∀K' : HK,K' v (eff st2.h e)->F9 cx true o st2 K'
def Tq(r:Nat):Prop:=match w with | none=>False | some x=>x=r\/(10000000<=x/\(x % 10000000=r\/x / 10000000=r))\/x=XH
def Iz(h:Nat->HO):List (Nat×HO)->Nat->HO
 | []=>h
 |p::l=>Iz (AR h p.1 p.2) l
def SV:Prop:=
 ∃v e,K v (Iz st.h e)/\(∀r o',(r,o')∈e->Tq w r/\r∈R)/\∀st2,Alike o R st st2->∀K' : HK,K' v (Iz st2.h e)->F9 cx true o st2 K'
section
variable {cx:Cx}{o:Oper}{st:St}{R:List Nat}{w:Option Nat}{K:HK}
theorem Et.pick(hF:Gy F)(h:F fun v=>K v st.h)(h2:∀st2,Alike o R st st2->∀K' : HK,F (fun v=>K' v st2.h)->F9 cx true o st2 K'):Et cx o st R w K:=
 let ⟨v,h1,h3⟩:=hF _ h
 ⟨v,none,h1,fun _ _ e=>(by cases e),fun st2 ha K' hk=>h2 st2 ha K' (h3 _ hk)⟩
theorem aL{cs:List AV}(h:a∈cs):∀r∈VN a,r∈qr cs:=by
 induction cs with
 |nil=>cases h
 |cons c cs ih=>
  intro r hr;rcases Ay.1 h with rfl | h
  .exact Bn _ hr
  .exact Bg _ (ih h r hr)
theorem mP{cs:List AV}(h:a∈cs):∀r∈VO a,r∈ug cs:=by
 induction cs with
 |nil=>cases h
 |cons c cs ih=>
  intro r hr;rcases Ay.1 h with rfl | h
  .exact Bn _ hr
  .exact Bg _ (ih h r hr)
theorem aK{cs:List AV}(h:a∈cs):∀r∈Y3 a,r∈Um cs:=by
 induction cs with
 |nil=>cases h
 |cons c cs ih=>
  intro r hr;rcases Ay.1 h with rfl | h
  .exact Bn _ hr
  .exact Bg _ (ih h r hr)
theorem Wy(a:AV):∀r∈VN a,r∈VO a:=by cases a<;>simp[VN,VO]
theorem Rz{h h2:Nat->HO}(e:∀r∈VN a,h2 r=h r):str0 h2 a=str0 h a:=by
 cases a<;>simp only[str0]
 .rw[e _ (by simp[VN])]
 .rw[e _ (by simp[VN])]
theorem Xl{h h2:Nat->HO}(e:∀r∈VO a,h2 r=h r):str h2 a=str h a:=by
 cases a with
 |agg cs=>simp only[str];exact Aa _ (Ba fun c hc=>Rz fun r hr=>e r (aL hc r hr))
 |clo f cs=>simp only[str];exact Aa _ (Ba fun c hc=>Rz fun r hr=>e r (aL hc r hr))
 |_=>exact Rz (fun r hr=>e r (Wy _ r hr))
theorem mA(a:AV):∀r∈VO a,r∈Y3 a:=by
 cases a with
 |agg cs=>
  intro r hr;simp only[Y3,VO]at *
  induction cs with
  |nil=>exact hr
  |cons c cs ih=>
   rcases AT.1 hr with h | h
   .exact Bn _ (Wy c r h)
   .exact Bg _ (ih h)
 |_=>exact fun r hr=>hr
theorem LL{h h2:Nat->HO}(e:∀r∈Y3 a,h2 r=h r):str h2 a=str h a:=Xl fun r hr=>e r (mA a r hr)
theorem RA{h h2:Nat->HO}{l:List AV}(e:∀r∈Um l,h2 r=h r):l.map (str h2)=l.map (str h):=
 Ba fun _ ha=>LL fun r hr=>e r (aK ha r hr)
theorem nR{h h2:Nat->HO}(e:∀r∈Y3 a,h2 r=h r):rsv h2 a=rsv h a:=by
 cases a<;>simp only[rsv]
 .rw[e _ (by simp[Y3,VO,VN])]
 .rw[e _ (by simp[Y3,VO,VN])]
theorem Ot{n:Nat}{K:List AV->Prop}(hk:Hz n a K):∃cs,K cs/\(∀K' : List AV->Prop,K' cs->Hz n a K')/\∀h h2:Nat->HO,(∀r∈Y3 a,h2 r=h r)->cs.map (str h2)=cs.map (str h):=by
 have single:K [a]->(∀K' : List AV->Prop,K' [a]->Hz n a K')->∃cs,K cs/\(∀K' : List AV->Prop,K' cs->Hz n a K')/\∀h h2:Nat->HO,(∀r∈Y3 a,h2 r=h r)->cs.map (str h2)=cs.map (str h):=
  fun h1 h2=>⟨[a],h1,h2,fun h h2 e=>by simp[LL e]⟩
 unfold Hz at hk;split at hk
 .rename_i cs;split at hk
  .rename_i hn;refine⟨cs,hk,fun K' h=>by unfold Hz;simp only[hn];exact h,fun h h2 e=>Ba fun c hc=>Xl fun r hr=>e r (mP hc r hr)⟩
  .exact hk.elim
 .rename_i tW;split at hk
  .rename_i h1;split at hk
   .refine single hk fun K' h=>?_;unfold Hz;split
    .rename_i cs;exact absurd rfl (tW cs)
    .rw[h1];exact h
   .exact hk.elim
  .exact hk.elim
theorem T2{n sz:Nat}{t:Nat->AV}:∀{ps:List (Nat×Operand)} {es:List (List AV)} {h:Nat->HO} {K:List (List AV)->Prop},RW n sz h es t ps K ->
  ∃Gm,K Gm/\∀(t2:Nat->AV) (h2:Nat->HO),(∀r∈Um (ps.map fun p=>ev t p.2),h2 r=h r)->(∀p∈ps,ev t2 p.2=ev t p.2)->∀K' : List (List AV)->Prop,K' Gm->RW n sz h2 es t2 ps K'
 | [],es,h,K,hk=>⟨es,hk,fun _ _ _ _ _ h=>h⟩
 |(i,x)::r,es,h,K,hk=>by
  unfold RW at hk;split at hk
  .rename_i hb;obtain⟨cs,c1,c2,c3⟩:=Ot hk;obtain⟨Gm,e1,e2⟩:=T2 c1;refine⟨Gm,e1,fun t2 h2 hh ht K' hk'=>?_⟩;unfold RW;rw[hb,ht (i,x) (Ab ..)];refine c2 _ ?_;rw[c3 h h2 (fun r hr=>hh r (Bn _ hr))];exact e2 t2 h2 (fun r hr=>hh r (Bg _ hr)) (fun p hp=>ht p (Ae _ hp)) K' hk'
  .exact hk.elim
theorem IR{d:Option Nat}{h:Nat->HO}{sz:Nat}{es:List (List AV)}(hk:EO cx d h sz es K) :
  ∃d',d.map (Ki cx)=some d'/\∃v x,K v (AR h d' x)/\∀h2:Nat->HO,h2 d'=h d'->∀K' : HK,K' v (AR h2 d' x)->EO cx d h2 sz es K':=by
 unfold EO at hk;split at hk
 .exact hk.elim
 .rename_i d;split at hk
  .rename_i hd;split at hk
   .rename_i e;exact⟨Ki cx d,rfl,_,_,hk,fun h2 hh K' h'=>by unfold EO;simp only[hh,hd,e];exact h'⟩
   .rename_i e;exact⟨Ki cx d,rfl,_,_,hk,fun h2 hh K' h'=>by unfold EO;simp only[hh,hd,e];exact h'⟩
  .exact hk.elim
theorem cr{h:Nat->HO}{x:AV}{K:List (List AV)->Prop}(hk:L3 h x K):∃es,K es/\∀h2:Nat->HO,(∀r n,x=.msl r n->h2 r=h r)->∀K' : List (List AV)->Prop,K' es->L3 h2 x K':=by
 unfold L3 at hk;split at hk
 .exact⟨_,hk,fun _ _ K' h=>h⟩
 .exact⟨_,hk,fun _ _ K' h=>h⟩
 .rename_i r n;split at hk
  .rename_i sz es e;exact⟨_,hk.2,fun h2 hh K' h=>by unfold L3;simp only[hh r n rfl,e];exact⟨hk.1,h⟩⟩
  .exact hk.elim
 .exact hk.elim
end
section
variable {cx:Cx}{dst:Option Nat}{ty:Nat}{pos:String}{after:Array Edge}{gd:Option (Nat×Bool)}{st:St}{R:List Nat}{w:Option Nat}{K:HK}
theorem I3{d:Option Nat}{l:List Nat}{f:FJ}(h:I2 d l=some f):∃d',d=some d'/\f=(d' :: l,some d'):=by
 unfold I2 at h;cases d with
 |none=>cases h
 |some d=>cases h;exact⟨d,rfl,rfl⟩
theorem ZK{e:Nat}(hk:F9 cx true ⟨dst,.alloc e,ty,pos,after,gd⟩ st K)(hf:Fr cx ⟨dst,.alloc e,ty,pos,after,gd⟩ st=some (R,w)):Et cx ⟨dst,.alloc e,ty,pos,after,gd⟩ st R w K:=by
 simp only[F9]at hk;have hb:Nat.beq e XP=false:=by
  cases hb:Nat.beq e XP with
  |false=>rfl
  |true=>simp only[Fr,hb]at hf;cases hf
 simp only[Fr,hb]at hf;obtain⟨d,rfl,e0⟩:=I3 hf;cases e0;unfold Tu at hk;simp only[hb]at hk;split at hk
 .rename_i hd;split at hk
  .exact hk.elim
  .rename_i Dv;split at hk
   .rename_i ha;refine⟨_,some (d,_),hk,fun r o' e=>(by cases e;exact⟨rfl,Ab ..⟩),fun st2 Hw K' h'=>?_⟩;simp only[F9,Tu];rw[Hw.h d (Ab ..),hd];simp only[ha,hb];exact h'
   .exact hk.elim
 .exact hk.elim
theorem gZ{e:Nat}(hk:F9 cx true ⟨dst,.box e x,ty,pos,after,gd⟩ st K)(hf:Fr cx ⟨dst,.box e x,ty,pos,after,gd⟩ st=some (R,w)):Et cx ⟨dst,.box e x,ty,pos,after,gd⟩ st R w K:=by
 simp only[F9]at hk;obtain⟨d,rfl,e0⟩:=I3 hf;cases e0;unfold gE at hk;simp only at hk;split at hk
 .rename_i hd;split at hk
  .exact hk.elim
  .rename_i Dv;obtain⟨cs,c1,c2,c3⟩:=Ot hk;split at c1
   .rename_i hm;refine⟨_,some (d,_),c1,fun r o' e=>(by cases e;exact⟨rfl,Ab ..⟩),fun st2 Hw K' h'=>?_⟩;have hx:ev st2.t x=ev st.t x:=Hw.t x (by simp[Op.operands]);simp only[F9,gE];rw[Hw.h d (Ab ..),hd,hx];simp only[hm];refine c2 _ ?_;rw[c3 st.h st2.h (fun r hr=>Hw.h r (Ae _ hr))];exact h'
   .rename_i hm;refine⟨_,some (d,_),c1,fun r o' e=>(by cases e;exact⟨rfl,Ab ..⟩),fun st2 Hw K' h'=>?_⟩;have hx:ev st2.t x=ev st.t x:=Hw.t x (by simp[Op.operands]);simp only[F9,gE];rw[Hw.h d (Ab ..),hd,hx];simp only[hm];exact c2 _ h'
 .exact hk.elim
theorem QK{t n:Nat}{ps:Array (Nat×Operand)}(hk:F9 cx true ⟨dst,.buildSlice t n ps,ty,pos,after,gd⟩ st K)(hf:Fr cx ⟨dst,.buildSlice t n ps,ty,pos,after,gd⟩ st=some (R,w)) :
  Et cx ⟨dst,.buildSlice t n ps,ty,pos,after,gd⟩ st R w K:=by
 simp only[F9]at hk;obtain⟨d,il,e0⟩:=I3 hf;cases e0;unfold I0 at hk;split at hk
 .rename_i e he;split at hk
  .rename_i h1 h2;split at hk
   .exact hk.elim
   .rename_i k D5;split at hk
    .rename_i hb;obtain⟨es,q1,q2⟩:=T2 hk;obtain⟨d',hd,v,x,q3,q4⟩:=IR q1;have hd:dst.map (Ki cx)=some d':=hd;have il:dst.map (Ki cx)=some d:=il;rw[il]at hd;cases hd;refine⟨v,some (d,x),q3,fun r o' e=>(by cases e;exact⟨rfl,Ab ..⟩),fun st2 Hw K' h'=>?_⟩;have hx:∀p∈ps.toList,ev st2.t p.2=ev st.t p.2:=fun p hp=>Hw.t p.2 (by
      simp only[Op.operands,List.mem_toArray];exact Ak.2 ⟨p,hp,rfl⟩)
     simp only[F9,I0,he,h1,h2];split
     .rename_i e0;rw[D5]at e0;cases e0
     .rw[hb];exact q2 st2.t st2.h (fun r hr=>Hw.h r (Ae _ hr)) hx _ (q4 st2.h (Hw.h d (Ab ..)) K' h')
    .exact hk.elim
  .exact hk.elim
 .exact hk.elim
theorem SF{t:Nat}{n c:Operand}(hk:F9 cx true ⟨dst,.makeSlice t n c,ty,pos,after,gd⟩ st K)(hf:Fr cx ⟨dst,.makeSlice t n c,ty,pos,after,gd⟩ st=some (R,w)) :
  Et cx ⟨dst,.makeSlice t n c,ty,pos,after,gd⟩ st R w K:=by
 simp only[F9]at hk;obtain⟨d,il,e0⟩:=I3 hf;cases e0;have hn:∀st2,Alike ⟨dst,.makeSlice t n c,ty,pos,after,gd⟩ (d::[]) st st2->ev st2.t n=ev st.t n/\ev st2.t c=ev st.t c:=fun st2 ha=>⟨ha.t n (by simp[Op.operands]),ha.t c (by simp[Op.operands])⟩;unfold J0 at hk;split at hk
 .rename_i e a b h1 h2 h3;split at hk
  .rename_i h4;split at hk
   .rename_i h5;split at hk
    .exact hk.elim
    .rename_i k D5;obtain⟨d',hd,v,x,q3,q4⟩:=IR hk.2;have hd:dst.map (Ki cx)=some d':=hd;have il:dst.map (Ki cx)=some d:=il;rw[il]at hd;cases hd;refine⟨v,some (d,x),q3,fun r o' e=>(by cases e;exact⟨rfl,Ab ..⟩),fun st2 Hw K' h'=>?_⟩;simp only[F9,J0,(hn st2 Hw).1,(hn st2 Hw).2,h1,h2,h3,h4,h5];split
     .rename_i e0;rw[D5]at e0;cases e0
     .exact⟨hk.1,q4 st2.h (Hw.h d (Ab ..)) K' h'⟩
   .exact hk.elim
  .exact hk.elim
 .exact hk.elim
theorem VJ{t:Nat}{r:Option Operand}(hk:F9 cx true ⟨dst,.makeMap t r,ty,pos,after,gd⟩ st K)(hf:Fr cx ⟨dst,.makeMap t r,ty,pos,after,gd⟩ st=some (R,w)) :
  Et cx ⟨dst,.makeMap t r,ty,pos,after,gd⟩ st R w K:=by
 cases r with
 |some r=>exact hk.elim
 |none=>
  simp only[F9]at hk;obtain⟨d,rfl,e0⟩:=I3 hf;cases e0;unfold Lw at hk;simp only at hk;split at hk
  .rename_i hd;split at hk
   .rename_i h1;split at hk
    .rename_i h2;split at hk
     .rename_i h3;refine⟨_,some (d,_),hk,fun r o' e=>(by cases e;exact⟨rfl,Ab ..⟩),fun st2 Hw K' h'=>?_⟩;simp only[F9,Lw];rw[Hw.h d (Ab ..),hd];simp only[h1,h2,h3];exact h'
     .rename_i h3;refine⟨_,some (d,_),hk,fun r o' e=>(by cases e;exact⟨rfl,Ab ..⟩),fun st2 Hw K' h'=>?_⟩;simp only[F9,Lw];rw[Hw.h d (Ab ..),hd];simp only[h1,h2,h3];exact h'
    .exact hk.elim
   .exact hk.elim
  .exact hk.elim
theorem ZL{t:Nat}(hk:F9 cx true ⟨dst,.store t p x,ty,pos,after,gd⟩ st K)(hf:Fr cx ⟨dst,.store t p x,ty,pos,after,gd⟩ st=some (R,w)) :
  Et cx ⟨dst,.store t p x,ty,pos,after,gd⟩ st R w K:=by
 simp only[F9]at hk;have hn:∀st2,Alike ⟨dst,.store t p x,ty,pos,after,gd⟩ R st st2->ev st2.t p=ev st.t p/\ev st2.t x=ev st.t x:=fun st2 ha=>⟨ha.t p (by simp[Op.operands]),ha.t x (by simp[Op.operands])⟩;unfold OT at hk;split at hk
 .exact hk.elim
 .rename_i Dv;obtain⟨cs,c1,c2,c3⟩:=Ot hk;simp only[Fr]at hf;split at hf
  .rename_i r off hp;split at hf
   .cases hf
   .rename_i hm;cases hf;rw[hp]at c1;simp only at c1;split at c1
    .rename_i Db hr;obtain⟨Hp,hk'⟩:=c1;rw[hm]at hk';refine⟨_,some (r,_),hk',fun r o' e=>(by cases e;exact⟨rfl,Ab ..⟩),fun st2 Hw K' h'=>?_⟩;simp only[F9,OT,(hn st2 Hw).1,(hn st2 Hw).2];refine c2 _ ?_;rw[hp];simp only[Hw.h r (Ab ..),hr,hm];exact⟨Hp,h'⟩
    .exact c1.elim
  .rename_i r n sz i off hp;cases hf;rw[hp]at c1;simp only at c1;split at c1
   .rename_i GW es hr;split at c1
    .rename_i hs;obtain⟨Hp,cell,e1,e2,hk'⟩:=c1;split at hk'
     .rename_i j m;refine⟨_,some (r,_),hk',fun r o' e=>(by cases e;exact⟨rfl,Ab ..⟩),fun st2 Hw K' h'=>?_⟩;simp only[F9,OT,(hn st2 Hw).1,(hn st2 Hw).2];refine c2 _ ?_;rw[hp];simp only[Hw.h r (Ab ..),hr,hs];exact⟨Hp,cell,e1,e2,h'⟩
     .rename_i JH;refine⟨_,some (r,_),hk',fun r o' e=>(by cases e;exact⟨rfl,Ab ..⟩),fun st2 Hw K' h'=>?_⟩;simp only[F9,OT,(hn st2 Hw).1,(hn st2 Hw).2];refine c2 _ ?_;rw[hp];simp only[Hw.h r (Ab ..),hr,hs];refine⟨Hp,cell,e1,e2,?_⟩;rw[c3 st.h st2.h (fun r hr=>Hw.h r (Ae _ hr))];exact h'
    .exact c1.elim
   .exact c1.elim
  .cases hf
theorem SG{t:Nat}{m k:Operand}(hk:F9 cx true ⟨dst,.mapUpdate t m k x,ty,pos,after,gd⟩ st K)(hf:Fr cx ⟨dst,.mapUpdate t m k x,ty,pos,after,gd⟩ st=some (R,w)) :
  Et cx ⟨dst,.mapUpdate t m k x,ty,pos,after,gd⟩ st R w K:=by
 simp only[F9]at hk;have hn:∀st2,Alike ⟨dst,.mapUpdate t m k x,ty,pos,after,gd⟩ R st st2->ev st2.t m=ev st.t m/\ev st2.t k=ev st.t k/\ev st2.t x=ev st.t x:=fun st2 ha=>⟨ha.t m (by simp[Op.operands]),ha.t k (by simp[Op.operands]),ha.t x (by simp[Op.operands])⟩;simp only[Fr]at hf;split at hf
 .rename_i r hm;cases hf;unfold HB at hk;rw[hm]at hk;simp only at hk;split at hk
  .rename_i sh B7 hr;unfold KR at hk;split at hk
   .rename_i kt e h1;split at hk
    .rename_i sh' h2;split at hk
     .rename_i h3;split at hk
      .rename_i kx h4;split at hk
       .rename_i h5;refine⟨_,some (r,_),hk,fun r o' e=>(by cases e;exact⟨rfl,Ab ..⟩),fun st2 Hw K' h'=>?_⟩;obtain⟨n1,n2,n3⟩:=hn st2 Hw;simp only[F9,HB,n1,n2,n3,hm,Hw.h r (Ab ..),hr,KR,h1,h2,h3,h4,h5];rw[LL (h:=st.h) (h2:=st2.h) (fun r hr=>Hw.h r (Ae _ hr))];exact h'
       .exact hk.elim
      .exact hk.elim
     .exact hk.elim
    .exact hk.elim
   .exact hk.elim
  .rename_i sh B7 hr;unfold KR at hk;split at hk
   .rename_i kt e h1;split at hk
    .rename_i sh' h2;split at hk
     .rename_i h3;split at hk
      .rename_i kx h4;split at hk
       .rename_i h5;refine⟨_,some (r,_),hk,fun r o' e=>(by cases e;exact⟨rfl,Ab ..⟩),fun st2 Hw K' h'=>?_⟩;obtain⟨n1,n2,n3⟩:=hn st2 Hw;simp only[F9,HB,n1,n2,n3,hm,Hw.h r (Ab ..),hr,KR,h1,h2,h3,h4,h5];exact h'
       .exact hk.elim
      .exact hk.elim
     .exact hk.elim
    .exact hk.elim
   .exact hk.elim
  .exact hk.elim
 .cases hf
theorem fy{A B:(AV->Prop)->Prop}(ha:Gy A)(hb:Gy B):Gy fun K=>A K\/B K:=by
 intro K hk;rcases hk with hk | hk
 .obtain⟨v,h1,h2⟩:=ha K hk;exact⟨v,h1,fun K' h=>.inl (h2 K' h)⟩
 .obtain⟨v,h1,h2⟩:=hb K hk;exact⟨v,h1,fun K' h=>.inr (h2 K' h)⟩
theorem Ua{fn:Fn}{first cap:Array Operand}(hk:F9 cx true ⟨dst,.makeFunc fn first cap,ty,pos,after,gd⟩ st K)(hf:Fr cx ⟨dst,.makeFunc fn first cap,ty,pos,after,gd⟩ st=some (R,w)) :
  Et cx ⟨dst,.makeFunc fn first cap,ty,pos,after,gd⟩ st R w K:=by
 simp only[F9]at hk;simp only[Fr]at hf;cases hf;unfold Lv at hk;split at hk
 .rename_i f h1;refine⟨_,none,hk,fun r o' e=>(by cases e),fun st2 Hw K' h'=>?_⟩;simp only[F9,h1,Lv]
  have:cap.toList.map (fun x=>rsv st2.h (ev st2.t x))=cap.toList.map (fun x=>rsv st.h (ev st.t x)):=Ba fun x hx=>by
   rw[Hw.t x (by simp only[Op.operands,To];exact .inr (by simpa using hx))];exact nR fun r hr=>Hw.h r (aK (Ak.2 ⟨x,hx,rfl⟩) r hr)
  rw[this];exact h'
 .exact hk.elim
end
section
variable {cx:Cx}{dst:Option Nat}{ty:Nat}{pos:String}{after:Array Edge}{gd:Option (Nat×Bool)}{st:St}{R:List Nat}{w:Option Nat}{K:HK}
theorem cD{t:Nat}(hk:F9 cx true ⟨dst,.load t p,ty,pos,after,gd⟩ st K)(hf:Fr cx ⟨dst,.load t p,ty,pos,after,gd⟩ st=some (R,w)):Et cx ⟨dst,.load t p,ty,pos,after,gd⟩ st R w K:=by
 simp only[F9]at hk;have hn:∀st2,Alike ⟨dst,.load t p,ty,pos,after,gd⟩ R st st2->ev st2.t p=ev st.t p:=fun st2 ha=>ha.t p (by simp[Op.operands]);simp only[Fr]at hf;unfold ID at hk;split at hf
 .rename_i cs hp;cases hf;rw[hp]at hk;simp only at hk;exact .pick (IG _ _ _) hk fun st2 ha K' h=>by simp only[F9,ID,hn st2 ha,hp];exact h
 .rename_i r off hp;cases hf;rw[hp]at hk;simp only at hk;split at hk
  .rename_i cs hr;exact .pick (IG _ _ _) hk fun st2 ha K' h=>by simp only[F9,ID,hn st2 ha,hp,ha.h r (Ab ..),hr];exact h
  .rename_i cs hr;exact .pick (IG _ _ _) hk fun st2 ha K' h=>by simp only[F9,ID,hn st2 ha,hp,ha.h r (Ab ..),hr];exact h
  .exact hk.elim
 .rename_i r n sz i off hp;cases hf;rw[hp]at hk;simp only at hk;split at hk
  .rename_i GW es hr;split at hk
   .rename_i hs;exact .pick (Dt (NM fun _=>Dt (IG _ _ _))) hk fun st2 ha K' h=>by simp only[F9,ID,hn st2 ha,hp,ha.h r (Ab ..),hr,hs];exact h
   .exact hk.elim
  .rename_i GW es i' c av hr;split at hk
   .rename_i hs;exact .pick (Dt (IG _ _ _)) hk fun st2 ha K' h=>by simp only[F9,ID,hn st2 ha,hp,ha.h r (Ab ..),hr,hs];exact h
   .exact hk.elim
  .exact hk.elim
 .cases hf
theorem Yg(hk:F9 cx true ⟨dst,.assign x,ty,pos,after,gd⟩ st K)(hf:Fr cx ⟨dst,.assign x,ty,pos,after,gd⟩ st=some (R,w)):Et cx ⟨dst,.assign x,ty,pos,after,gd⟩ st R w K:=by
 simp only[F9]at hk;have hn:∀st2,Alike ⟨dst,.assign x,ty,pos,after,gd⟩ R st st2->ev st2.t x=ev st.t x:=fun st2 ha=>ha.t x (by simp[Op.operands]);simp only[Fr]at hf;split at hf
 .cases hf
 .rename_i hx;cases hf;have same:∃y,∀(h:Nat->HO) (K:HK),Ph cx dst h (ev st.t x) K↔K y h:=by
   unfold Ph;cases dst with
   |none=>exact⟨_,fun _ _=>RL⟩
   |some d=>
    simp only;cases Ew cx.pl.tok d with
    |some sz=>
     simp only;cases Nat.beq sz 0 with
     |true=>exact⟨_,fun _ _=>RL⟩
     |false=>
      refine⟨ev st.t x,fun h K=>?_⟩;simp only;split
      .rename_i e;exact absurd e (hx _ _ _)
      .exact RL
    |none=>
     simp only;cases Ew cx.pl.arr d with
     |some sz=>
      refine⟨ev st.t x,fun h K=>?_⟩;simp only;split
      .rename_i e;exact absurd e (hx _ _ _)
      .exact RL
     |none=>exact⟨_,fun _ _=>RL⟩
  obtain⟨y,same⟩:=same;exact .pick (Dc y) ((same _ _).1 hk) fun st2 ha K' h=>by simp only[F9];rw[hn st2 ha];exact(same _ _).2 h
theorem RY{t:Nat}{lo hi mx:Option Operand}(hp:Om cx.pl.tok dst=none)(hk:F9 cx true ⟨dst,.slice t x lo hi mx,ty,pos,after,gd⟩ st K)(hf:Fr cx ⟨dst,.slice t x lo hi mx,ty,pos,after,gd⟩ st=some (R,w)) :
  Et cx ⟨dst,.slice t x lo hi mx,ty,pos,after,gd⟩ st R w K:=by
 simp only[F9,hp]at hk;have hn:∀st2,Alike ⟨dst,.slice t x lo hi mx,ty,pos,after,gd⟩ R st st2->ev st2.t x=ev st.t x/\Cf st2.t lo=Cf st.t lo/\Cf st2.t hi=Cf st.t hi/\Cf st2.t mx=Cf st.t mx:=by
  intro st2 ha;have opt:∀y:Option Operand,(∀z,y=some z->ev st2.t z=ev st.t z)->Cf st2.t y=Cf st.t y:=by
   intro y hy;cases y with
   |none=>rfl
   |some z=>simp only[Cf];rw[hy z rfl]
  exact⟨ha.t x (by simp[Op.operands]),opt lo (fun z e=>ha.t z (by simp[Op.operands,e])),opt hi (fun z e=>ha.t z (by simp[Op.operands,e])),opt mx (fun z e=>ha.t z (by simp[Op.operands,e]))⟩
 simp only[Fr,hp]at hf;split at hf
 .cases hf
 .rename_i hx;cases hf;have e3:Cf st.t none=some none:=rfl
  have IA:Gy (fun K1=>GT cx dst st.h t (ev st.t x) (Cf st.t lo) (Cf st.t hi) (some none) fun v _=>K1 v) /\
    ∀(h:Nat->HO) (K:HK),GT cx dst h t (ev st.t x) (Cf st.t lo) (Cf st.t hi) (some none) K↔GT cx dst st.h t (ev st.t x) (Cf st.t lo) (Cf st.t hi) (some none) (fun v _=>K v h):=by
   generalize ev st.t x=X at hx;unfold GT;constructor
   .repeat' split
    all_goals first | exact CH | exact Dt (Dc _) | exact Dt (Dt (Dc _)) | skip
    all_goals first | (rename_i e;cases e;done) | skip
    all_goals (exfalso;exact hx _ _ rfl)
   .intro h K
    repeat' split
    all_goals first | exact RL | skip
    all_goals exfalso
    all_goals first | exact hx _ _ rfl | (rename some none=some (some _)=>e4;cases e4)
  rw[e3]at hk;exact .pick IA.1 ((IA.2 _ _).1 hk) fun st2 ha K' h=>by
   obtain⟨n1,n2,n3,n4⟩:=hn st2 ha;simp only[F9,hp];rw[n1,n2,n3,n4,e3];exact(IA.2 _ _).2 h
 .rename_i y tk es hx;obtain⟨d,rfl,e0⟩:=I3 hf;cases e0;rw[hx]at hk;unfold GT at hk;split at hk
  .rename_i Ia MJ r9 e1 e2 e3;split at hk
   .split at hk<;>first | exact hk.elim | (rename_i e;cases e)
   .rename_i e he;split at hk
    .exact hk.elim
    .rename_i k D5;simp only at hk;split at hk
     .exfalso
      rename_i e4;simp only[Cf]at e3;split at e3<;>cases e3
     .rename_i m;split at hk
      .rename some d=some _=>e5
       cases e5
       split at hk
       .rename_i tA;refine⟨_,none,hk.2.2,fun r o' e=>(by cases e),fun st2 Hw K' h'=>?_⟩;obtain⟨n1,n2,n3,n4⟩:=hn st2 Hw;simp only[F9,hp];rw[n1,n2,n3,n4,hx,e1,e2,e3];unfold GT;simp only[he];split
        .rename_i e0;rw[D5]at e0;cases e0
        .simp only[tA];exact⟨hk.1,hk.2.1,h'⟩
       rename_i tA;split at hk
       .rename_i hd;refine⟨_,some (d,_),hk.2.2,fun r o' e=>(by cases e;exact⟨rfl,Ab ..⟩),fun st2 Hw K' h'=>?_⟩;obtain⟨n1,n2,n3,n4⟩:=hn st2 Hw;simp only[F9,hp];rw[n1,n2,n3,n4,hx,e1,e2,e3];unfold GT;simp only[he];split
        .rename_i e0;rw[D5]at e0;cases e0
        .simp only[tA];rw[Hw.h d (Ab ..),hd];exact⟨hk.1,hk.2.1,h'⟩
       .exact hk.elim
      .exact hk.elim
   .exact hk.elim
  .exact hk.elim
 .cases hf
theorem hJ{t:Nat}{lo hi mx:Option Operand}{p:Nat}(hp:Om cx.pl.tok dst=some p)(hk:F9 cx true ⟨dst,.slice t x lo hi mx,ty,pos,after,gd⟩ st K)(hf:Fr cx ⟨dst,.slice t x lo hi mx,ty,pos,after,gd⟩ st=some (R,w)) :
  SV cx ⟨dst,.slice t x lo hi mx,ty,pos,after,gd⟩ st R w K:=by
 simp only[F9,hp]at hk;simp only[Fr,hp]at hf;obtain⟨d',r,n,hd,hx,e0⟩:=cB hf;cases e0;cases dst with
 |none=>cases hd
 |some d=>
 cases hd
 unfold PZ at hk;split at hk
 .rw[hx]at hk;unfold nG at hk;split at hk
  .rename_i d0 MJ e1 e2;cases e1;split at hk
   .rename_i e he;split at hk
    .exact hk.elim
    .rename_i k D5;simp only at hk;split at hk
     .rename_i sz es hr;split at hk
      .rename_i hd;split at hk
       .rename_i q1 q3;obtain⟨h1,hk⟩:=hk;have hr8:r<10000000/\0<Ki cx d:=by simpa using q3
        obtain⟨hr7,hz⟩:=hr8;refine⟨_,[(r,.dead),(Ki cx d,_)],hk,fun r' o' e=>?_,fun st2 ha K' h'=>?_⟩
        .rcases Ay.1 e with e | e
         .cases e
          refine⟨.inr (.inl ⟨by omega,.inl ?_⟩),Ab ..⟩;rw[Nat.add_mul_mod_self_left,Nat.mod_eq_of_lt hr7]
         .obtain e:=Aj.1 e;cases e;refine⟨.inr (.inl ⟨by omega,.inr ?_⟩),Ae _ (Ab ..)⟩;rw[Nat.add_mul_div_left _ _ Cl,Nat.div_eq_of_lt hr7,A7]
        .have o1:Cf st2.t hi=Cf st.t hi:=by
          cases hi with
          |none=>rfl
          |some z=>simp only[Cf];rw[ha.t z (by simp[Op.operands])]
         simp only[F9,hp];unfold PZ;rw[ha.t x (by simp[Op.operands]),o1,hx,e2];unfold nG;simp only[he];split
         .rename_i e0;rw[D5]at e0;cases e0
         .simp only[ha.h r (Ab ..),hr,ha.h (Ki cx d) (Ae _ (Ab ..)),hd,q1,q3];exact⟨h1,h'⟩
       .exact hk.elim
      .exact hk.elim
     .exact hk.elim
   .exact hk.elim
  .exact hk.elim
 .exact hk.elim
theorem Yf{s:Operand}{Hd:Array TypeId}(hk:F9 cx true ⟨dst,.call ⟨.builtin .append,#[s,x],Hd⟩,ty,pos,after,gd⟩ st K)(hf:Fr cx ⟨dst,.call ⟨.builtin .append,#[s,x],Hd⟩,ty,pos,after,gd⟩ st=some (R,w)) :
  Et cx ⟨dst,.call ⟨.builtin .append,#[s,x],Hd⟩,ty,pos,after,gd⟩ st R w K:=by
 have hk:Gp cx dst st.h .append Hd.toList [ev st.t s,ev st.t x] K:=hk;have hf:Ye cx dst (ev st.t s) (ev st.t x)=some (R,w):=hf;have hn:∀st2,Alike ⟨dst,.call ⟨.builtin .append,#[s,x],Hd⟩,ty,pos,after,gd⟩ R st st2->ev st2.t s=ev st.t s/\ev st2.t x=ev st.t x:=fun st2 ha=>
  ⟨ha.t s (by simp[Op.operands,Call.operands]),ha.t x (by simp[Op.operands,Call.operands])⟩
 have KP:∀st2,Alike ⟨dst,.call ⟨.builtin .append,#[s,x],Hd⟩,ty,pos,after,gd⟩ R st st2->∀K' : HK,Gp cx dst st2.h .append Hd.toList [ev st.t s,ev st.t x] K'->F9 cx true ⟨dst,.call ⟨.builtin .append,#[s,x],Hd⟩,ty,pos,after,gd⟩ st2 K':=by
  intro st2 ha K' h;rw[<-(hn st2 ha).1,<-(hn st2 ha).2]at h;exact h
 generalize Hd.toList=l at hk KP
 match l,hk,KP with
 | [t,t'],hk,KP=>
  simp only[Gp]at hk KP;split at hk
  .rename_i ht;simp only[ht]at KP;unfold IK at hk KP;split at hk
   .rename_i e he;simp only[he]at KP;split at hk
    .exact hk.elim
    .rename_i hz;simp only[hz]at KP;split at hk
     .exact hk.elim
     .rename_i k D5;obtain⟨es2,q1,q2⟩:=cr hk;have vR:∀d,R=d::iV (ev st.t x)->∀st2,Alike ⟨dst,.call ⟨.builtin .append,#[s,x],Hd⟩,ty,pos,after,gd⟩ R st st2->∀r n,ev st.t x=.msl r n->st2.h r=st.h r:=fun d hR st2 ha r n e=>ha.h r (by rw[hR,e];simp[iV]);unfold Ye at hf;split at hf
      .rename_i hs;obtain⟨d,il,e0⟩:=I3 hf;cases e0;rw[hs]at q1 KP;simp only at q1 KP;obtain⟨d',hd,v,y,q3,q4⟩:=IR q1.2;rw[il]at hd;cases hd;refine⟨v,some (d,y),q3,fun r o' e=>(by cases e;exact⟨rfl,Ab ..⟩),fun st2 Hw K' h'=>KP st2 Hw K' ?_⟩;split
       .rename_i e0;rw[D5]at e0;cases e0
       .exact q2 st2.h (vR d rfl st2 Hw) _ ⟨q1.1,q4 st2.h (Hw.h d (Ab ..)) K' h'⟩
      .rename_i GW es hs;obtain⟨d,il,e0⟩:=I3 hf;cases e0;rw[hs]at q1 KP;simp only at q1 KP;split at q1
       .rename_i h1;obtain⟨d',hd,v,y,q3,q4⟩:=IR q1.2;rw[il]at hd;cases hd;refine⟨v,some (d,y),q3,fun r o' e=>(by cases e;exact⟨rfl,Ab ..⟩),fun st2 Hw K' h'=>KP st2 Hw K' ?_⟩;split
        .rename_i e0;rw[D5]at e0;cases e0
        .refine q2 st2.h (vR d rfl st2 Hw) _ ?_;simp only[h1];exact⟨q1.1,q4 st2.h (Hw.h d (Ab ..)) K' h'⟩
       .exact q1.elim
      .rename_i r GW es hs;cases hf;rw[hs]at q1 KP;simp only at q1 KP;split at q1
       .rename_i sz n hr;split at q1
        .rename_i h1 h2;refine⟨_,some (r,_),q1.2,fun r o' e=>(by cases e;exact⟨rfl,Ab ..⟩),fun st2 Hw K' h'=>KP st2 Hw K' ?_⟩;split
         .rename_i e0;rw[D5]at e0;cases e0
         .refine q2 st2.h (vR r rfl st2 Hw) _ ?_;simp only[Hw.h r (Ab ..),hr,h1,h2];exact⟨q1.1,h'⟩
        .exact q1.elim
       .exact q1.elim
      .rename_i r n hs;cases hf;rw[hs]at q1 KP;simp only at q1 KP;split at q1
       .rename_i sz es hr;split at q1
        .rename_i h1;refine⟨_,some (r,_),q1.2,fun r o' e=>(by cases e;exact⟨rfl,Ab ..⟩),fun st2 Hw K' h'=>KP st2 Hw K' ?_⟩;split
         .rename_i e0;rw[D5]at e0;cases e0
         .refine q2 st2.h (vR r rfl st2 Hw) _ ?_;simp only[Hw.h r (Ab ..),hr,h1];exact⟨q1.1,h'⟩
        .exact q1.elim
       .exact q1.elim
      .cases hf
   .exact hk.elim
  .exact hk.elim
 | [],hk,_=>exact hk.elim
 | [_],hk,_=>exact hk.elim
 |_::_::_::_,hk,_=>exact hk.elim
theorem WW(t:Nat):Gy (K3 T t):=by
 unfold K3
 repeat' split
 all_goals first | exact CH | exact Dc _
theorem UW(ty:Nat)(ok:Bool)(B7:List (Value×AV))(kx:Value):Gy (MZ T ty ok B7 kx):=by
 unfold MZ
 repeat' split
 .refine fy (NM fun a=>Dt (Dc _)) (Dt ?_);intro K hk;obtain⟨v,h1,h2⟩:=WW T _ _ hk;exact⟨_,h1,fun K' h=>h2 _ h⟩
 .exact fy (NM fun a=>Dt (Dc _)) (Dt (WW T _))
 .exact CH
theorem bq(ty:Nat)(sh:EN)(k:AV){F:Value->(AV->Prop)->Prop}(h:∀x,Gy (F x)):Gy fun K=>KR T ty sh k fun kx=>F kx K:=by
 unfold KR
 repeat' split
 all_goals first | exact CH | exact h _
theorem Yh{t:Nat}{m k:Operand}{ok:Bool}(hk:F9 cx true ⟨dst,.lookup t m k ok,ty,pos,after,gd⟩ st K)(hf:Fr cx ⟨dst,.lookup t m k ok,ty,pos,after,gd⟩ st=some (R,w)) :
  Et cx ⟨dst,.lookup t m k ok,ty,pos,after,gd⟩ st R w K:=by
 simp only[F9]at hk;have hn:∀st2,Alike ⟨dst,.lookup t m k ok,ty,pos,after,gd⟩ R st st2->ev st2.t m=ev st.t m/\ev st2.t k=ev st.t k:=fun st2 ha=>⟨ha.t m (by simp[Op.operands]),ha.t k (by simp[Op.operands])⟩;simp only[Fr]at hf;unfold ND at hk;split at hf
 .rename_i sh B7 hm;cases hf;rw[hm]at hk;simp only at hk;exact .pick (bq _ _ _ _ fun _=>UW _ _ _ _ _) hk fun st2 ha K' h=>by simp only[F9,ND,hn st2 ha,hm];exact h
 .rename_i r hm;cases hf;rw[hm]at hk;simp only at hk;split at hk
  all_goals first | exact hk.elim | (rename_i e;exact .pick (bq _ _ _ _ fun _=>UW _ _ _ _ _) hk fun st2 ha K' h=>by simp only[F9,ND,hn st2 ha,hm,ha.h r (Ab ..),e];exact h)
 .cases hf
theorem nE(t:Nat)(h:Nat->HO)(x:AV):Gy (Sg T t h x):=by
 unfold Sg
 repeat' split
 all_goals first | exact CH | exact Dc _
theorem ux{T:GV}{t:Nat}{h h2:Nat->HO}{x:AV}(e:∀r,x=.mref r->h2 r=h r){K:AV->Prop}:Sg T t h2 x K=Sg T t h x K:=by
 cases x<;>first | rfl | skip
 rename_i r;unfold Sg;simp only[e r rfl]
theorem g8{Hd:Array TypeId}(hk:F9 cx true ⟨dst,.call ⟨.builtin .len,#[x],Hd⟩,ty,pos,after,gd⟩ st K)(hf:Fr cx ⟨dst,.call ⟨.builtin .len,#[x],Hd⟩,ty,pos,after,gd⟩ st=some (R,w)) :
  Et cx ⟨dst,.call ⟨.builtin .len,#[x],Hd⟩,ty,pos,after,gd⟩ st R w K:=by
 have hk:Gp cx dst st.h .len Hd.toList [ev st.t x] K:=hk;have hf:Hl cx dst (.builtin .len) st.t [ev st.t x]=some (R,w):=hf;have hn:∀st2,Alike ⟨dst,.call ⟨.builtin .len,#[x],Hd⟩,ty,pos,after,gd⟩ R st st2->ev st2.t x=ev st.t x:=fun st2 ha=>ha.t x (by simp[Op.operands,Call.operands]);have KP:∀st2,Alike ⟨dst,.call ⟨.builtin .len,#[x],Hd⟩,ty,pos,after,gd⟩ R st st2->∀K' : HK,Gp cx dst st2.h .len Hd.toList [ev st.t x] K'->F9 cx true ⟨dst,.call ⟨.builtin .len,#[x],Hd⟩,ty,pos,after,gd⟩ st2 K':=by
  intro st2 ha K' h;rw[<-hn st2 ha]at h;exact h
 generalize Hd.toList=l at hk KP
 match l,hk,KP with
 | [t],hk,KP=>
  have hR:∀r,ev st.t x=.mref r->r∈R:=fun r e=>by
   rw[e]at hf;cases hf;exact Ab ..
  have hw:w=none:=by
   unfold Hl at hf;split at hf<;>first | (cases hf;rfl) | (rename_i e;cases e) | (rename_i e _;cases e) | skip
   all_goals (cases hf)
  subst hw;exact .pick (nE _ _ _ _) hk fun st2 ha K' h=>KP st2 ha K' (by
   simp only[Gp];rw[ux fun r e=>ha.h r (hR r e)];exact h)
 | [],hk,_=>exact hk.elim
 |_::_::_,hk,_=>exact hk.elim
end
theorem qE{l:List Nat}{n:Nat}(h:Jl l n=true):n∈l:=by
 induction l with
 |nil=>cases h
 |cons a l ih=>
  unfold Jl at h
  by_cases e:a=n
  .exact e▸Ab ..
  .rw[B9 e]at h;exact Ae _ (ih h)
theorem Zx(G:Nat->HO):∀(σ:HU) (h:Nat->HO),Ef σ=true->(fun i=>match Cc σ i with | some j=>G j | none=>h i)=Iz h (σ.map fun p=>(p.1,G p.2))
 | [],h,_=>rfl
 |(i,j)::r,h,hσ=>by
  unfold Ef at hσ;simp only[Af]at hσ;have ih:=Zx G r (AR h i (G j)) hσ.2;show _=Iz (AR h i (G j)) (r.map fun p=>(p.1,G p.2));rw[<-ih]
  funext i'
  have hn:Cc r i=none:=by
   have:=hσ.1.1.1
   cases e:Cc r i with
   |none=>rfl
   |some k=>rw[e]at this;simp at this
  by_cases e:i'=i
  .subst e;have e1:Cc ((i',j)::r) i'=some j:=by unfold Cc;rw[CU];rfl
   rw[e1,hn];show G j=AR h i' (G j) i';unfold AR;rw[CU];rfl
  .have e1:Cc ((i,j)::r) i'=Cc r i':=by
    show(bif Nat.beq i i' then some j else Cc r i')=_;rw[B9 (RP e)];rfl
   rw[e1];cases Cc r i' with
   |some k=>rfl
   |none=>show h i'=AR h i (G j) i';unfold AR;rw[B9 e];rfl
theorem Wd{σ:HU}{d:Nat}(hσ:Ef σ=true){h h' : Nat->HO}:Ei σ d 0 h h'=Iz h (σ.map fun p=>(p.1,(h' p.2).ren (Fv σ d 0) h')):=by
 rw[<-Zx (fun j=>(h' j).ren (Fv σ d 0) h') σ h hσ]
 funext i
 unfold Ei;cases Cc σ i with
 |some j=>rfl
 |none=>
  have:(Nat.ble (Bp d 0) i&&Nat.blt i (Bp d 0))=false:=by
   rw[AH];simp only[WN,Af,Df,Cr];omega
  simp only[this]
section
variable {cx:Cx}{op:Op}{dst:Option Nat}{ty:Nat}{pos:String}{after:Array Edge}{gd:Option (Nat×Bool)}{st:St}{R:List Nat}{w:Option Nat}{K:HK}
theorem Et.toL(h:Et cx ⟨dst,op,ty,pos,after,gd⟩ st R w K):SV cx ⟨dst,op,ty,pos,after,gd⟩ st R w K:=by
 obtain⟨v,e,h1,h2,h3⟩:=h;cases e with
 |none=>exact⟨v,[],h1,fun r o' e=>(by cases e),h3⟩
 |some p=>exact⟨v,[p],h1,fun r o' e=>by
   obtain rfl:=Aj.1 e;obtain⟨a,b⟩:=h2 r o' rfl;exact⟨by rw[a];exact .inl rfl,b⟩,h3⟩
theorem cC{c:Call}(hk:F9 cx true ⟨dst,.call c,ty,pos,after,gd⟩ st K)(hf:Fr cx ⟨dst,.call c,ty,pos,after,gd⟩ st=some (R,w)):SV cx ⟨dst,.call c,ty,pos,after,gd⟩ st R w K:=by
 obtain⟨te,args,Hd⟩:=c;have JU:∀st2,Alike ⟨dst,.call ⟨te,args,Hd⟩,ty,pos,after,gd⟩ R st st2->args.toList.map (ev st2.t)=args.toList.map (ev st.t):=fun st2 ha=>
  Ba fun x hx=>ha.t x (by simp only[Op.operands,Call.operands,To];exact .inr (by simpa using hx))
 cases te with
 |invoke r m=>exact hk.elim
 |value f=>
  have hk:GL cx true dst st (ev st.t f) (args.toList.map (ev st.t)) K:=hk;have hf:Hl cx dst (.value f) st.t (args.toList.map (ev st.t))=some (R,w):=hf;unfold Hl at hf;unfold GL at hk;simp only at hf hk;have hn:=JU;split at hf
  .rename_i eH;rw[eH]at hk;cases hf;obtain⟨res,h1,h2⟩:=hk;refine Et.toL ⟨res,none,h2,fun r o' e=>(by cases e),fun st2 ha K' h'=>?_⟩;show GL cx true dst st2 (ev st2.t f) (args.toList.map (ev st2.t)) K';rw[JU st2 ha,ha.t f (by simp[Op.operands,Call.operands])];unfold GL;simp only[eH];refine⟨res,?_,h'⟩;rw[LL (h:=st.h) (fun r hr=>ha.h r (Bn _ hr)),RA (h:=st.h) (fun r hr=>ha.h r (Bg _ hr))];exact h1
  .rename_i eH;rw[eH]at hk;simp only at hk;cases dst with
   |none=>exact hk.elim
   |some d=>
    obtain⟨n,sz,es,h1,h2,h3⟩:=hk;have hf:some (Bp d 0::(Y3 (ev st.t f)++Um (args.toList.map (ev st.t))),some (Bp d 0))=some (R,w):=hf;cases hf;refine Et.toL ⟨_,some (Bp d 0,_),h3,fun r o' e=>(by cases e;exact⟨rfl,Ab ..⟩),fun st2 ha K' h'=>?_⟩;show GL cx true (some d) st2 (ev st2.t f) (args.toList.map (ev st2.t)) K';rw[JU st2 ha,ha.t f (by simp[Op.operands,Call.operands])];unfold GL;simp only[eH];refine⟨n,sz,es,?_,?_,h'⟩
    .have:DC st2.h d 1=DC st.h d 1:=by simp only[DC,ha.h (Bp d 0) (Ab ..)]
     rw[this];exact h1
    .rw[LL (h:=st.h) (fun r hr=>ha.h r (Ae _ (Bn _ hr))),RA (h:=st.h) (fun r hr=>ha.h r (Ae _ (Bg _ hr)))];exact h2
  .rename_i eH;rw[eH]at hk;have hk:Sx cx 0 dst st.h (ev st.t f) (args.toList.map (ev st.t)) K:=hk;split at hf
   .rename_i r n l hl;cases hf;have IA:=hk;unfold Sx at IA;rw[hl]at IA;split at IA
    .rename_i d0 f0 r0 n0 l0 e1 e2 z1 z2;cases e2;split at IA
     .rename_i vs cN;split at IA
      .rename_i sz es hr;obtain⟨n',Gm,h1,h2⟩:=IA;refine Et.toL ⟨_,some (r,_),h2,fun r o' e=>(by cases e;exact⟨rfl,Ab ..⟩),fun st2 ha K' h'=>?_⟩;show GL cx true _ st2 (ev st2.t f) (args.toList.map (ev st2.t)) K';rw[JU st2 ha,ha.t f (by simp[Op.operands,Call.operands]),hl,e1];unfold GL;simp only[eH];unfold Qc;simp only;unfold Sx;simp only[cN,ha.h r (Ab ..),hr];exact⟨n',Gm,h1,h'⟩
      .exact IA.elim
     .exact IA.elim
    .exact IA.elim
   .cases hf
  .rename_i k eH;rw[eH]at hk;cases hb:Nat.beq k 1 with
   |true=>
    have RZ:Nat.beq (k+1) 2=true:=hb;have hk:Vo cx dst st (ev st.t f) (args.toList.map (ev st.t)) K:=by
     have IA:(match Nat.beq (k+1) 2 with | true=>Vo cx dst st (ev st.t f) (args.toList.map (ev st.t)) K | false=>match Nat.beq (k+1) 3 with | true=>RI cx dst st (ev st.t f) (args.toList.map (ev st.t)) K | false=>Qc cx (k+1) dst st (ev st.t f) (args.toList.map (ev st.t)) K):=hk;rw[RZ]at IA;exact IA
    rw[hb]at hf;cases dst with
    |none=>exact hk.elim
    |some d=>
     obtain⟨sz,es,h1,h2,h3⟩:=hk;have hf:some (Bp d 0::(Y3 (ev st.t f)++Um (args.toList.map (ev st.t))),some (Bp d 0))=some (R,w):=hf;cases hf;refine Et.toL ⟨_,some (Bp d 0,_),h3,fun r o' e=>(by cases e;exact⟨rfl,Ab ..⟩),fun st2 ha K' h'=>?_⟩;show GL cx true (some d) st2 (ev st2.t f) (args.toList.map (ev st2.t)) K';rw[JU st2 ha,ha.t f (by simp[Op.operands,Call.operands])];unfold GL;simp only[eH,RZ];refine⟨sz,es,?_,?_,h'⟩
     .have:DC st2.h d 1=DC st.h d 1:=by simp only[DC,ha.h (Bp d 0) (Ab ..)]
      rw[this];exact h1
     .rw[LL (h:=st.h) (fun r hr=>ha.h r (Ae _ (Bn _ hr))),RA (h:=st.h) (fun r hr=>ha.h r (Ae _ (Bg _ hr)))];exact h2
   |false=>
    have RZ:Nat.beq (k+1) 2=false:=hb;rw[hb]at hf;have IA:(match Nat.beq (k+1) 2 with | true=>Vo cx dst st (ev st.t f) (args.toList.map (ev st.t)) K | false=>match Nat.beq (k+1) 3 with | true=>RI cx dst st (ev st.t f) (args.toList.map (ev st.t)) K | false=>Qc cx (k+1) dst st (ev st.t f) (args.toList.map (ev st.t)) K):=hk;rw[RZ]at IA;cases hc:Nat.beq k 2 with
    |true=>
     have kg:Nat.beq (k+1) 3=true:=hc;rw[hc]at hf;simp only[kg]at IA;have hf:lP (args.toList.map (ev st.t))=some (R,w):=hf;unfold lP at hf;unfold RI at IA;split at hf
     .rename_i vs cN;cases hf;split at IA
      .rename_i l kr e1 e2 z1 z2;rw[cN]at e2;cases e2;split at IA
       .rename_i r sz es fO n e3 e4;obtain⟨⟨rfl,rfl⟩,v,Gm,n',h1,h2⟩:=IA;refine⟨_,[(1001,_),(1000,_)],h2,fun r' o' e=>?_,fun st2 ha K' h'=>?_⟩
        .rcases Ay.1 e with e | e
         .cases e
          exact⟨.inr (.inl ⟨by decide,.inr Cl⟩),by simp⟩
         .obtain e:=Aj.1 e;cases e;exact⟨.inr (.inl ⟨by decide,.inl Cl⟩),by simp⟩
        show GL cx true _ st2 (ev st2.t f) (args.toList.map (ev st2.t)) K';rw[JU st2 ha,ha.t f (by simp[Op.operands,Call.operands]),e1];unfold GL;simp only[eH,RZ,kg];unfold RI;simp only[cN,ha.h 1000 B0,ha.h 1001 B0,e3,e4];exact⟨⟨trivial,trivial⟩,v,Gm,n',h1,h'⟩
       .exact IA.elim
      .exact IA.elim
     .cases hf
    |false=>
    have kg:Nat.beq (k+1) 3=false:=hc;rw[hc]at hf;have cI:Qc cx (k+1) dst st (ev st.t f) (args.toList.map (ev st.t)) K:=by
     simp only[kg]at IA;exact IA
    have tG:lN k dst (args.toList.map (ev st.t))=some (R,w):=hf;unfold lN at tG;unfold Qc at cI;cases he:Nat.beq k 3 with
    |true=>
     have oT:Nat.beq (k+1) 4=true:=he;rw[he]at tG;rw[oT]at cI;have tG:some (pP,some XH)=some (R,w):=tG;have cI:ZO cx dst st (ev st.t f) (args.toList.map (ev st.t)) K:=cI;cases tG;unfold ZO at cI;split at cI
     .rename_i d f' caps e2 _ _ _;obtain⟨σ,H0,Hn,args',res,g1,g2,g3,g4⟩:=cI;simp only[Af]at g2;refine⟨_,σ.map fun p=>(p.1,(Ag Hn Ad p.2).ren (Fv σ d 0) (Ag Hn Ad)),(Wd (h:=st.h) (h':=Ag Hn Ad) (d:=d) g2.1.1)▸g4,fun r' o' e=>?_,fun st2 ha K' h'=>?_⟩
      .obtain⟨p,hp,e⟩:=Ak.1 e;cases e;exact⟨.inr (.inr rfl),qE (AP.1 g2.2 p hp)⟩
      .show GL cx true _ st2 (ev st2.t f) (args.toList.map (ev st2.t)) K';rw[JU st2 ha,ha.t f (by simp[Op.operands,Call.operands])];unfold GL;simp only[eH,RZ,kg];unfold Qc;simp only[oT];unfold ZO;rw[e2];refine⟨σ,H0,Hn,args',res,fun h2 hh=>g1 h2 fun r hr=>(hh r hr).trans (ha.h r hr),by simp only[Af];exact g2,g3,?_⟩;rw[Wd (h:=st2.h) (h':=Ag Hn Ad) (d:=d) g2.1.1];exact h'
     .exact cI.elim
    |false=>
    have oT:Nat.beq (k+1) 4=false:=he;rw[he]at tG;rw[oT]at cI;have hf:ee dst (args.toList.map (ev st.t))=some (R,w):=tG;have hk:Sx cx (k+1) dst st.h (ev st.t f) (args.toList.map (ev st.t)) K:=cI;obtain⟨d,r,n,l,rfl,hl,e0⟩:=cA hf;cases e0;unfold Sx at hk;rw[hl]at hk;split at hk
    .rename_i d0 f0 r0 n0 l0 e9 e1 e2;cases e9;cases e2;split at hk
     .rename_i vs cN;split at hk
      .rename_i sz es hr;obtain⟨n',Gm,h0,h1,h2⟩:=hk;have h00:=h0;simp only[Af,Cr]at h00;refine⟨_,[(r,.dead),(Bp d 0,_)],h2,fun r' o' e=>?_,fun st2 ha K' h'=>?_⟩
       .rcases Ay.1 e with e | e
        .cases e
         refine⟨.inr (.inl ⟨by unfold Bp;omega,.inl ?_⟩),Ab ..⟩;rw[Nat.add_mul_mod_self_left,Nat.mod_eq_of_lt h00.1.2]
        .obtain e:=Aj.1 e;cases e;refine⟨.inr (.inl ⟨by unfold Bp;omega,.inr ?_⟩),Ae _ (Ab ..)⟩;rw[Nat.add_mul_div_left _ _ Cl,Nat.div_eq_of_lt h00.1.2,A7]
       show GL cx true _ st2 (ev st2.t f) (args.toList.map (ev st2.t)) K';rw[JU st2 ha,ha.t f (by simp[Op.operands,Call.operands]),hl,e1];unfold GL;simp only[eH,RZ,kg];unfold Qc;simp only[oT];unfold Sx;simp only[cN,ha.h r (Ab ..),hr]
       have:DC st2.h d 1=DC st.h d 1:=by simp only[DC,ha.h (Bp d 0) (Ae _ (Ab ..))]
       exact⟨n',Gm,by rw[this];exact h0,h1,h'⟩
      .exact hk.elim
     .exact hk.elim
    .exact hk.elim
 |builtin b=>
  refine Et.toL ?_;have mm:∀f:Int->Int->Int,(∀(d:Option Nat) (h:Nat->HO) (Hd:List Nat) (args:List AV) (K:HK),Gp cx d h b Hd args K=(match args with | [x,y]=>qG f x y fun v=>K v h | _=>False))->R=[]/\w=none->Et cx ⟨dst,.call ⟨.builtin b,args,Hd⟩,ty,pos,after,gd⟩ st R w K:=by
   rintro f hb ⟨rfl,rfl⟩
   have hk:Gp cx dst st.h b Hd.toList (args.toList.map (ev st.t)) K:=hk;rw[hb]at hk;split at hk
   .rename_i x y e;refine .pick (qX f x y) hk fun st2 ha K' h=>?_;show Gp cx dst st2.h b Hd.toList (args.toList.map (ev st2.t)) K';rw[hb,JU st2 ha,e];exact h
   .exact hk.elim
  cases b
  case max=>exact mm max (fun d h Hd args K=>by cases args with | nil=>rfl | cons x l=>cases l with | nil=>rfl | cons y l=>cases l<;>rfl) (by
   have hf:Hl cx dst (.builtin .max) st.t (args.toList.map (ev st.t))=some (R,w):=hf;simp only[Hl]at hf;cases hf;exact⟨rfl,rfl⟩)
  case min=>exact mm min (fun d h Hd args K=>by cases args with | nil=>rfl | cons x l=>cases l with | nil=>rfl | cons y l=>cases l<;>rfl) (by
   have hf:Hl cx dst (.builtin .min) st.t (args.toList.map (ev st.t))=some (R,w):=hf;simp only[Hl]at hf;cases hf;exact⟨rfl,rfl⟩)
  case append=>
   obtain⟨l⟩:=args
   match l,hk,hf with
   | [s,x],hk,hf=>exact Yf hk hf
   | [],hk,hf=>cases Hd;exact hk.elim
   | [_],hk,hf=>exact hk.elim
   |_::_::_::_,hk,hf=>exact hk.elim
  case len=>
   obtain⟨l⟩:=args
   match l,hk,hf with
   | [x],hk,hf=>exact g8 hk hf
   | [],hk,hf=>exact hk.elim
   |_::_::_,hk,hf=>exact hk.elim
  all_goals exact hk.elim
theorem bS{o:Oper}(hc:∀c,o.op≠.call c)(hs:(∃t x lo hi mx,o.op=.slice t x lo hi mx)->Om cx.pl.tok o.dst=none)(hk:F9 cx true o st K)(hf:Fr cx o st=some (R,w)):Et cx o st R w K:=by
 obtain⟨dst,op,ty,pos,after,gd⟩:=o;cases op with
 |call c=>exact absurd rfl (hc c)
 |alloc e=>exact ZK hk hf
 |box e x=>exact gZ hk hf
 |buildSlice t n ps=>exact QK hk hf
 |makeSlice t n c=>exact SF hk hf
 |makeMap t r=>exact VJ hk hf
 |store t p x=>exact ZL hk hf
 |mapUpdate t m k x=>exact SG hk hf
 |makeFunc fn first cap=>exact Ua hk hf
 |load t p=>exact cD hk hf
 |assign x=>exact Yg hk hf
 |slice t x lo hi mx=>exact RY (hs ⟨t,x,lo,hi,mx,rfl⟩) hk hf
 |lookup t x i ok=>exact Yh hk hf
 |move x=>
  cases hf
  exact .pick (Dc _) hk fun st2 ha K' h=>by simp only[F9,ha.t x (by simp[Op.operands])];exact h
 |pick c a b=>
  cases hf
  exact .pick (jx _ _ _) hk fun st2 ha K' h=>by simp only[F9,ha.t c (by simp[Op.operands]),ha.t a (by simp[Op.operands]),ha.t b (by simp[Op.operands])];exact h
 |nilCheck x=>
  cases hf
  exact .pick (nF _) hk fun st2 ha K' h=>by simp only[F9,ha.t x (by simp[Op.operands])];exact h
 |binOp op t x y u=>
  simp only[Fr]at hf;split at hf
  .cases hf
  .rename_i hx;cases hf;exact .pick (jv _ _ _ _ _ _ hx) hk fun st2 ha K' h=>by simp only[F9,ha.t x (by simp[Op.operands]),ha.t y (by simp[Op.operands])];exact h
 |unOp op t x=>
  cases hf
  exact .pick (jy _ _) hk fun st2 ha K' h=>by simp only[F9,ha.t x (by simp[Op.operands])];exact h
 |convert s t x=>
  cases hf
  exact .pick (jw _ _ _ _) hk fun st2 ha K' h=>by simp only[F9,ha.t x (by simp[Op.operands])];exact h
 |fieldAddr s x f=>
  cases hf
  exact .pick (dw _ _ _ _) hk fun st2 ha K' h=>by simp only[F9,ha.t x (by simp[Op.operands])];exact h
 |field s x f=>
  cases hf
  exact .pick (bp _ _ _ _) hk fun st2 ha K' h=>by simp only[F9,ha.t x (by simp[Op.operands])];exact h
 |indexAddr t x i=>
  cases hf
  exact .pick (UX _ _ _ _) hk fun st2 ha K' h=>by simp only[F9,ha.t x (by simp[Op.operands]),ha.t i (by simp[Op.operands])];exact h
 |index t x i=>
  cases hf
  exact .pick (dx _ _ _ _) hk fun st2 ha K' h=>by simp only[F9,ha.t x (by simp[Op.operands]),ha.t i (by simp[Op.operands])];exact h
 |extract x i=>
  cases hf
  exact .pick (YI _ _) hk fun st2 ha K' h=>by simp only[F9,ha.t x (by simp[Op.operands])];exact h
 |build t ps=>
  cases hf
  refine .pick (dv _ _ _ _) hk fun st2 ha K' h=>?_;have hx:∀p∈ps.toList,ev st2.t p.2=ev st.t p.2:=fun p hp=>ha.t p.2 (by
   simp only[Op.operands,List.mem_toArray];exact Ak.2 ⟨p,hp,rfl⟩)
  simp only[F9];have fill:∀(pl:Nat->Option (Nat×Nat)) (l:List (Nat×Operand)) (cs:List AV) (K:List AV->Prop),(∀p∈l,ev st2.t p.2=ev st.t p.2)->Lr pl cs st2.t l K=Lr pl cs st.t l K:=by
   intro pl l
   induction l with
   |nil=>intro cs K _;rfl
   |cons p l ih=>
    intro cs K hp;obtain⟨i,x⟩:=p;have h1:ev st2.t x=ev st.t x:=hp (i,x) (Ab ..);have h2:∀cs,Lr pl cs st2.t l K=Lr pl cs st.t l K:=fun cs=>ih cs K (fun p t7=>hp p (Ae _ t7));simp only[Lr,h1,h2]
  unfold Qz at h⊢;simp only[fill _ _ _ _ hx];exact h
 |_=>cases hf
theorem gn{o:Oper}(hk:F9 cx true o st K)(hf:Fr cx o st=some (R,w)):SV cx o st R w K:=by
 obtain⟨dst,op,ty,pos,after,gd⟩:=o
 by_cases h:∃c,op=.call c
 .obtain⟨c,rfl⟩:=h;exact cC hk hf
 .by_cases h2:∃t x lo hi mx,op=.slice t x lo hi mx
  .obtain⟨t,x,lo,hi,mx,rfl⟩:=h2;cases hp:Om cx.pl.tok dst with
   |none=>exact Et.toL (RY hp hk hf)
   |some p=>exact hJ hp hk hf
  .exact Et.toL (bS (fun c e=>h ⟨c,e⟩) (fun e=>absurd e h2) hk hf)
end
end Go.Eng
