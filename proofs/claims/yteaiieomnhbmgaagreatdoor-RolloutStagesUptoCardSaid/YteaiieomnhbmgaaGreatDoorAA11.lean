/- Lemmas 11. -/
import Derived.Test.YteaiieomnhbmgaaGreatDoorAA10
namespace Go.Eng
variable {x:Operand}{F:(AV->Prop)->Prop}{a:AV}{p:Operand}{α:Type}(cx:Cx)(T:Ha)(o:Oper)(st:St)(op:BinOp)(s:Nat)(R:List Nat)(k:IntKind)(f:Nat)(w:Option Nat)(K:HK)
def GJ(F:(AV->Prop)->Prop):Prop:=∀K,F K->∃v,K v/\∀K',K' v->F K'
theorem Dr(v:AV):GJ (fun K=>K v):=fun _ h=>⟨v,h,fun _ h=>h⟩
theorem DJ{p:Prop}(h:GJ F):GJ (fun K=>p/\F K):=fun K ⟨hp,hk⟩=>
 let ⟨v,h1,h2⟩:=h K hk
 ⟨v,h1,fun K' h'=>⟨hp,h2 K' h'⟩⟩
theorem CR:GJ (fun _=>False):=fun _ h=>h.elim
theorem XS(p:Prop):GJ (JG p):=fun K h=>by
 by_cases hp:p
 .exact⟨_,h.1 hp,fun K' h'=>⟨fun _=>h',fun hn=>absurd hp hn⟩⟩
 .exact⟨_,h.2 hp,fun K' h'=>⟨fun q=>absurd q hp,fun _=>h'⟩⟩
theorem bR(h:GJ F):GJ (fun K=>F (jD K)):=fun K hk=>by
 obtain⟨v,h1,h2⟩:=h _ hk;unfold jD at h1;split at h1
 .exact⟨_,h1,fun K' h'=>h2 _ h'⟩
 .exact⟨_,h1,fun K' h'=>h2 _ h'⟩
 .exact h1.elim
theorem N6{F:α->(AV->Prop)->Prop}(h:∀x,GJ (F x)):GJ (fun K=>∃x,F x K):=fun K ⟨x,hk⟩=>
 let ⟨v,h1,h2⟩:=h x K hk
 ⟨v,h1,fun K' h'=>⟨x,h2 K' h'⟩⟩
theorem I4(t:Nat)(cs:List AV):GJ (MN T t cs):=by
 have head:GJ (MJ cs):=by unfold MJ;cases cs with | nil=>exact CR | cons a _=>exact Dr a
 unfold MN;split
 .exact DJ (Dr _)
 .exact DJ (Dr _)
 .cases cs with
  |nil=>exact CR
  |cons a _=>
   intro K h;simp only[MJ]at h⊢;split at h
   .rename_i b;cases b with
    |true=>exact⟨_,h.1 rfl,fun K' h'=>⟨fun _=>h',fun e=>by cases e⟩⟩
    |false=>exact⟨_,h.2 rfl,fun K' h'=>⟨fun e=>(by cases e),fun _=>h'⟩⟩
   .exact h.elim
 .exact CR
 .exact head
theorem gA(t:Nat)(x y:AV)(hx:∀tk es,x≠.slice tk es):GJ (wN T t x y):=by
 unfold wN
 repeat' split
 all_goals first | exact CR | exact Dr _ | exact XS _ | exact DJ (Dr _) | exact absurd rfl (hx _ _)
theorem VK(a b:Int):GJ (VT op k a b):=by
 unfold VT;split<;>first | exact CR | exact DJ (Dr _)
theorem d7(a b:Int):GJ (Uj op k a b):=by
 unfold Uj
 repeat' split
 all_goals first | exact CR | exact DJ (Dr _) | (unfold Yu;split<;>first | exact Dr _ | exact DJ (Dr _) | exact VK _ _ _ _)
theorem nT(t:Nat)(x y:AV)(hx:∀tk es,x≠.slice tk es):GJ (Uo T op t x y):=by
 unfold Uo
 repeat' split
 all_goals first | exact CR | exact XS _ | exact d7 _ _ _ _ | exact VK _ _ _ _ | exact DJ (Dr _) | exact gA _ _ _ _ hx | exact bR (gA _ _ _ _ hx)
theorem jV(t:Nat)(Y:Operand)(x y:AV)(hx:∀tk es,x≠.slice tk es):GJ (ZV T op t Y x y):=by
 unfold ZV
 repeat' split
 all_goals first | exact CR | exact Dr _ | exact nT _ _ _ _ _ hx
theorem jW(t:Nat)(x:AV):GJ (Xq T s t x):=by
 unfold Xq
 repeat' split
 all_goals first | exact CR | exact Dr _ | exact DJ (Dr _) | exact N6 fun _=>DJ (Dr _)
theorem d9(x:AV):GJ (UI T s f x):=by
 unfold UI
 repeat' split
 all_goals first | exact CR | exact Dr _
theorem bP(x:AV):GJ (Qf T s f x):=by
 unfold Qf
 repeat' split
 all_goals first | exact CR | exact I4 _ _ _
theorem VJ(t:Nat)(x ix:AV):GJ (Kp T t x ix):=by
 unfold Kp
 repeat' split
 all_goals first | exact CR | exact DJ (Dr _) | exact N6 fun _=>DJ (DJ (Dr _))
theorem eh(t:Nat)(x ix:AV):GJ (Va T t x ix):=by
 unfold Va
 repeat' split
 all_goals first | exact CR | exact DJ (I4 _ _ _) | exact N6 fun _=>DJ (Dr _)
theorem Zg(x:AV)(i:Nat):GJ (Na x i):=by
 unfold Na
 repeat' split
 all_goals first | exact CR | exact Dr _
theorem nV(x:AV):GJ (LR x):=by
 unfold LR
 repeat' split
 all_goals first | exact CR | exact Dr _
theorem jX(c a b:AV):GJ (bN c a b):=by
 unfold bN
 repeat' split
 all_goals first | exact CR | exact Dr _
theorem rr(f:Int->Int->Int)(x y:AV):GJ (qV f x y):=by
 unfold qV
 repeat' split
 all_goals first | exact CR | exact Dr _
theorem jY(op:UnOp)(x:AV):GJ (ce op x):=by
 unfold ce
 repeat' split
 all_goals first | exact CR | exact Dr _ | exact bR (Dr _) | exact DJ (Dr _)
def so(F:(α->Prop)->Prop):Prop:=∀K,F K->∃v,K v/\∀K',K' v->F K'
theorem bO(n:Nat)(a:AV):so (HQ n a):=by
 intro K h;unfold HQ at h⊢
 repeat' split at h
 all_goals first | exact h.elim | skip
 all_goals exact⟨_,h,fun K' h'=>h'⟩
theorem VH(pl:Nat->Option (Nat×Nat))(t:Nat->AV):∀(ps:List (Nat×Operand)) (cs:List AV),so (LJ pl cs t ps)
 | [],cs=>fun K h=>⟨cs,h,fun _ h=>h⟩
 |(i,x)::r,cs=>by
  intro K h;unfold LJ at h;split at h
  .exact h.elim
  .rename_i o n e;obtain⟨vs,h1,h2⟩:=bO _ _ _ h;split at h1
   .rename_i hb;obtain⟨c,h3,h4⟩:=VH pl t r _ _ h1;refine⟨c,h3,fun K' h'=>?_⟩;unfold LJ;simp only[e];refine h2 _ ?_;simp only[hb];exact h4 K' h'
   .exact h1.elim
theorem d8(ty:Nat)(t:Nat->AV)(ps:List (Nat×Operand)):GJ (Rs T ty t ps):=by
 unfold Rs
 repeat' split
 all_goals first
  |exact CR
  |exact fun K h=>let ⟨c,h1,h2⟩:=VH _ _ _ _ _ h;⟨_,h1,fun K' h'=>h2 _ h'⟩
def eff(h:Nat->HO)(e:Option (Nat×HO)):Nat->HO:=match e with | none=>h | some (r,o)=>A1 h r o
structure JD(o:Oper)(R:List Nat)(st st2:St):Prop where
 t:∀x∈o.op.operands,ev st2.t x=ev st.t x
 h:∀r∈R,st2.h r=st.h r
def EH:Prop:=
 ∃v e,K v (eff st.h e)/\(∀r o',e=some (r,o')->w=some r/\r∈R)/\∀st2,JD o R st st2->∀K' : HK,K' v (eff st2.h e)->Gm cx true o st2 K'
def T4(r:Nat):Prop:=match w with | none=>False | some x=>x=r\/(10000000<=x/\(x % 10000000=r\/x / 10000000=r))\/x=Ys
def IW(h:Nat->HO):List (Nat×HO)->Nat->HO
 | []=>h
 |p::l=>IW (A1 h p.1 p.2) l
def TE:Prop:=
 ∃v e,K v (IW st.h e)/\(∀r o',(r,o')∈e->T4 w r/\r∈R)/\∀st2,JD o R st st2->∀K' : HK,K' v (IW st2.h e)->Gm cx true o st2 K'
section
variable {cx:Cx}{o:Oper}{st:St}{R:List Nat}{w:Option Nat}{K:HK}
theorem EH.pick(hF:GJ F)(h:F fun v=>K v st.h)(h2:∀st2,JD o R st st2->∀K' : HK,F (fun v=>K' v st2.h)->Gm cx true o st2 K'):EH cx o st R w K:=
 let ⟨v,h1,h3⟩:=hF _ h
 ⟨v,none,h1,fun _ _ e=>(by cases e),fun st2 ha K' hk=>h2 st2 ha K' (h3 _ hk)⟩
theorem bt{cs:List AV}(h:a∈cs):∀r∈WF a,r∈qI cs:=by
 induction cs with
 |nil=>cases h
 |cons c cs ih=>
  intro r hr;rcases AA.1 h with rfl | h
  .exact BE _ hr
  .exact Bx _ (ih h r hr)
theorem nf{cs:List AV}(h:a∈cs):∀r∈WG a,r∈uU cs:=by
 induction cs with
 |nil=>cases h
 |cons c cs ih=>
  intro r hr;rcases AA.1 h with rfl | h
  .exact BE _ hr
  .exact Bx _ (ih h r hr)
theorem br{cs:List AV}(h:a∈cs):∀r∈ZF a,r∈U6 cs:=by
 induction cs with
 |nil=>cases h
 |cons c cs ih=>
  intro r hr;rcases AA.1 h with rfl | h
  .exact BE _ hr
  .exact Bx _ (ih h r hr)
theorem XB(a:AV):∀r∈WF a,r∈WG a:=by cases a<;>simp[WF,WG]
theorem Sf{h h2:Nat->HO}(e:∀r∈WF a,h2 r=h r):str0 h2 a=str0 h a:=by
 cases a<;>simp only[str0]
 .rw[e _ (by simp[WF])]
 .rw[e _ (by simp[WF])]
theorem X7{h h2:Nat->HO}(e:∀r∈WG a,h2 r=h r):str h2 a=str h a:=by
 cases a with
 |agg cs=>simp only[str];exact Aa _ (Bi fun c hc=>Sf fun r hr=>e r (bt hc r hr))
 |clo f cs=>simp only[str];exact Aa _ (Bi fun c hc=>Sf fun r hr=>e r (bt hc r hr))
 |_=>exact Sf (fun r hr=>e r (XB _ r hr))
theorem mQ(a:AV):∀r∈WG a,r∈ZF a:=by
 cases a with
 |agg cs=>
  intro r hr;simp only[ZF,WG]at *
  induction cs with
  |nil=>exact hr
  |cons c cs ih=>
   rcases AO.1 hr with h | h
   .exact BE _ (XB c r h)
   .exact Bx _ (ih h)
 |_=>exact fun r hr=>hr
theorem L1{h h2:Nat->HO}(e:∀r∈ZF a,h2 r=h r):str h2 a=str h a:=X7 fun r hr=>e r (mQ a r hr)
theorem Sg{h h2:Nat->HO}{l:List AV}(e:∀r∈U6 l,h2 r=h r):l.map (str h2)=l.map (str h):=
 Bi fun _ ha=>L1 fun r hr=>e r (br ha r hr)
theorem om{h h2:Nat->HO}(e:∀r∈ZF a,h2 r=h r):rsv h2 a=rsv h a:=by
 cases a<;>simp only[rsv]
 .rw[e _ (by simp[ZF,WG,WF])]
 .rw[e _ (by simp[ZF,WG,WF])]
theorem OU{n:Nat}{K:List AV->Prop}(hk:HQ n a K):∃cs,K cs/\(∀K' : List AV->Prop,K' cs->HQ n a K')/\∀h h2:Nat->HO,(∀r∈ZF a,h2 r=h r)->cs.map (str h2)=cs.map (str h):=by
 have single:K [a]->(∀K' : List AV->Prop,K' [a]->HQ n a K')->∃cs,K cs/\(∀K' : List AV->Prop,K' cs->HQ n a K')/\∀h h2:Nat->HO,(∀r∈ZF a,h2 r=h r)->cs.map (str h2)=cs.map (str h):=
  fun h1 h2=>⟨[a],h1,h2,fun h h2 e=>by simp[L1 e]⟩
 unfold HQ at hk;split at hk
 .rename_i cs;split at hk
  .rename_i hn;refine⟨cs,hk,fun K' h=>by unfold HQ;simp only[hn];exact h,fun h h2 e=>Bi fun c hc=>X7 fun r hr=>e r (nf hc r hr)⟩
  .exact hk.elim
 .rename_i uH;split at hk
  .rename_i h1;split at hk
   .refine single hk fun K' h=>?_;unfold HQ;split
    .rename_i cs;exact absurd rfl (uH cs)
    .rw[h1];exact h
   .exact hk.elim
  .exact hk.elim
theorem UJ{n sz:Nat}{t:Nat->AV}:∀{ps:List (Nat×Operand)} {es:List (List AV)} {h:Nat->HO} {K:List (List AV)->Prop},SE n sz h es t ps K ->
  ∃F5,K F5/\∀(t2:Nat->AV) (h2:Nat->HO),(∀r∈U6 (ps.map fun p=>ev t p.2),h2 r=h r)->(∀p∈ps,ev t2 p.2=ev t p.2)->∀K' : List (List AV)->Prop,K' F5->SE n sz h2 es t2 ps K'
 | [],es,h,K,hk=>⟨es,hk,fun _ _ _ _ _ h=>h⟩
 |(i,x)::r,es,h,K,hk=>by
  unfold SE at hk;split at hk
  .rename_i hb;obtain⟨cs,c1,c2,c3⟩:=OU hk;obtain⟨F5,e1,e2⟩:=UJ c1;refine⟨F5,e1,fun t2 h2 hh ht K' hk'=>?_⟩;unfold SE;rw[hb,ht (i,x) (Ab ..)];refine c2 _ ?_;rw[c3 h h2 (fun r hr=>hh r (BE _ hr))];exact e2 t2 h2 (fun r hr=>hh r (Bx _ hr)) (fun p hp=>ht p (Ah _ hp)) K' hk'
  .exact hk.elim
theorem I9{d:Option Nat}{h:Nat->HO}{sz:Nat}{es:List (List AV)}(hk:E7 cx d h sz es K) :
  ∃d',d.map (KJ cx)=some d'/\∃v x,K v (A1 h d' x)/\∀h2:Nat->HO,h2 d'=h d'->∀K' : HK,K' v (A1 h2 d' x)->E7 cx d h2 sz es K':=by
 unfold E7 at hk;split at hk
 .exact hk.elim
 .rename_i d;split at hk
  .rename_i hd;split at hk
   .rename_i e;exact⟨KJ cx d,rfl,_,_,hk,fun h2 hh K' h'=>by unfold E7;simp only[hh,hd,e];exact h'⟩
   .rename_i e;exact⟨KJ cx d,rfl,_,_,hk,fun h2 hh K' h'=>by unfold E7;simp only[hh,hd,e];exact h'⟩
  .exact hk.elim
theorem df{h:Nat->HO}{x:AV}{K:List (List AV)->Prop}(hk:Mi h x K):∃es,K es/\∀h2:Nat->HO,(∀r n,x=.msl r n->h2 r=h r)->∀K' : List (List AV)->Prop,K' es->Mi h2 x K':=by
 unfold Mi at hk;split at hk
 .exact⟨_,hk,fun _ _ K' h=>h⟩
 .exact⟨_,hk,fun _ _ K' h=>h⟩
 .rename_i r n;split at hk
  .rename_i sz es e;exact⟨_,hk.2,fun h2 hh K' h=>by unfold Mi;simp only[hh r n rfl,e];exact⟨hk.1,h⟩⟩
  .exact hk.elim
 .exact hk.elim
end
section
variable {cx:Cx}{dst:Option Nat}{ty:Nat}{pos:String}{after:Array Edge}{gd:Option (Nat×Bool)}{st:St}{R:List Nat}{w:Option Nat}{K:HK}
theorem Jl{d:Option Nat}{l:List Nat}{f:FZ}(h:Jk d l=some f):∃d',d=some d'/\f=(d' :: l,some d'):=by
 unfold Jk at h;cases d with
 |none=>cases h
 |some d=>cases h;exact⟨d,rfl,rfl⟩
theorem aJ{e:Nat}(hk:Gm cx true ⟨dst,.alloc e,ty,pos,after,gd⟩ st K)(hf:FM cx ⟨dst,.alloc e,ty,pos,after,gd⟩ st=some (R,w)):EH cx ⟨dst,.alloc e,ty,pos,after,gd⟩ st R w K:=by
 simp only[Gm]at hk;obtain⟨d,rfl,e0⟩:=Jl hf;cases e0;unfold Uh at hk;simp only at hk;split at hk
 .rename_i hd;split at hk
  .exact hk.elim
  .rename_i DH;split at hk
   .rename_i ha;refine⟨_,some (d,_),hk,fun r o' e=>(by cases e;exact⟨rfl,Ab ..⟩),fun st2 HM K' h'=>?_⟩;simp only[Gm,Uh];rw[HM.h d (Ab ..),hd];simp only[ha];exact h'
   .exact hk.elim
 .exact hk.elim
theorem iT{e:Nat}(hk:Gm cx true ⟨dst,.box e x,ty,pos,after,gd⟩ st K)(hf:FM cx ⟨dst,.box e x,ty,pos,after,gd⟩ st=some (R,w)):EH cx ⟨dst,.box e x,ty,pos,after,gd⟩ st R w K:=by
 simp only[Gm]at hk;obtain⟨d,rfl,e0⟩:=Jl hf;cases e0;unfold iw at hk;simp only at hk;split at hk
 .rename_i hd;split at hk
  .exact hk.elim
  .rename_i DH;obtain⟨cs,c1,c2,c3⟩:=OU hk;split at c1
   .rename_i hm;refine⟨_,some (d,_),c1,fun r o' e=>(by cases e;exact⟨rfl,Ab ..⟩),fun st2 HM K' h'=>?_⟩;have hx:ev st2.t x=ev st.t x:=HM.t x (by simp[Op.operands]);simp only[Gm,iw];rw[HM.h d (Ab ..),hd,hx];simp only[hm];refine c2 _ ?_;rw[c3 st.h st2.h (fun r hr=>HM.h r (Ah _ hr))];exact h'
   .rename_i hm;refine⟨_,some (d,_),c1,fun r o' e=>(by cases e;exact⟨rfl,Ab ..⟩),fun st2 HM K' h'=>?_⟩;have hx:ev st2.t x=ev st.t x:=HM.t x (by simp[Op.operands]);simp only[Gm,iw];rw[HM.h d (Ab ..),hd,hx];simp only[hm];exact c2 _ h'
 .exact hk.elim
theorem RC{t n:Nat}{ps:Array (Nat×Operand)}(hk:Gm cx true ⟨dst,.buildSlice t n ps,ty,pos,after,gd⟩ st K)(hf:FM cx ⟨dst,.buildSlice t n ps,ty,pos,after,gd⟩ st=some (R,w)) :
  EH cx ⟨dst,.buildSlice t n ps,ty,pos,after,gd⟩ st R w K:=by
 simp only[Gm]at hk;obtain⟨d,iZ,e0⟩:=Jl hf;cases e0;unfold Jg at hk;split at hk
 .rename_i e he;split at hk
  .rename_i h1 h2;split at hk
   .exact hk.elim
   .rename_i k EZ;split at hk
    .rename_i hb;obtain⟨es,q1,q2⟩:=UJ hk;obtain⟨d',hd,v,x,q3,q4⟩:=I9 q1;have hd:dst.map (KJ cx)=some d':=hd;have iZ:dst.map (KJ cx)=some d:=iZ;rw[iZ]at hd;cases hd;refine⟨v,some (d,x),q3,fun r o' e=>(by cases e;exact⟨rfl,Ab ..⟩),fun st2 HM K' h'=>?_⟩;have hx:∀p∈ps.toList,ev st2.t p.2=ev st.t p.2:=fun p hp=>HM.t p.2 (by
      simp only[Op.operands,List.mem_toArray];exact Ai.2 ⟨p,hp,rfl⟩)
     simp only[Gm,Jg,he,h1,h2];split
     .rename_i e0;rw[EZ]at e0;cases e0
     .rw[hb];exact q2 st2.t st2.h (fun r hr=>HM.h r (Ah _ hr)) hx _ (q4 st2.h (HM.h d (Ab ..)) K' h')
    .exact hk.elim
  .exact hk.elim
 .exact hk.elim
theorem Tr{t:Nat}{n c:Operand}(hk:Gm cx true ⟨dst,.makeSlice t n c,ty,pos,after,gd⟩ st K)(hf:FM cx ⟨dst,.makeSlice t n c,ty,pos,after,gd⟩ st=some (R,w)) :
  EH cx ⟨dst,.makeSlice t n c,ty,pos,after,gd⟩ st R w K:=by
 simp only[Gm]at hk;obtain⟨d,iZ,e0⟩:=Jl hf;cases e0;have hn:∀st2,JD ⟨dst,.makeSlice t n c,ty,pos,after,gd⟩ (d::[]) st st2->ev st2.t n=ev st.t n/\ev st2.t c=ev st.t c:=fun st2 ha=>⟨ha.t n (by simp[Op.operands]),ha.t c (by simp[Op.operands])⟩;unfold Kq at hk;split at hk
 .rename_i e a b h1 h2 h3;split at hk
  .rename_i h4;split at hk
   .rename_i h5;split at hk
    .exact hk.elim
    .rename_i k EZ;obtain⟨d',hd,v,x,q3,q4⟩:=I9 hk.2;have hd:dst.map (KJ cx)=some d':=hd;have iZ:dst.map (KJ cx)=some d:=iZ;rw[iZ]at hd;cases hd;refine⟨v,some (d,x),q3,fun r o' e=>(by cases e;exact⟨rfl,Ab ..⟩),fun st2 HM K' h'=>?_⟩;simp only[Gm,Kq,(hn st2 HM).1,(hn st2 HM).2,h1,h2,h3,h4,h5];split
     .rename_i e0;rw[EZ]at e0;cases e0
     .exact⟨hk.1,q4 st2.h (HM.h d (Ab ..)) K' h'⟩
   .exact hk.elim
  .exact hk.elim
 .exact hk.elim
theorem Wy{t:Nat}{r:Option Operand}(hk:Gm cx true ⟨dst,.makeMap t r,ty,pos,after,gd⟩ st K)(hf:FM cx ⟨dst,.makeMap t r,ty,pos,after,gd⟩ st=some (R,w)) :
  EH cx ⟨dst,.makeMap t r,ty,pos,after,gd⟩ st R w K:=by
 cases r with
 |some r=>exact hk.elim
 |none=>
  simp only[Gm]at hk;obtain⟨d,rfl,e0⟩:=Jl hf;cases e0;unfold LP at hk;simp only at hk;split at hk
  .rename_i hd;split at hk
   .rename_i h1;split at hk
    .rename_i h2;split at hk
     .rename_i h3;refine⟨_,some (d,_),hk,fun r o' e=>(by cases e;exact⟨rfl,Ab ..⟩),fun st2 HM K' h'=>?_⟩;simp only[Gm,LP];rw[HM.h d (Ab ..),hd];simp only[h1,h2,h3];exact h'
     .rename_i h3;refine⟨_,some (d,_),hk,fun r o' e=>(by cases e;exact⟨rfl,Ab ..⟩),fun st2 HM K' h'=>?_⟩;simp only[Gm,LP];rw[HM.h d (Ab ..),hd];simp only[h1,h2,h3];exact h'
    .exact hk.elim
   .exact hk.elim
  .exact hk.elim
theorem aK{t:Nat}(hk:Gm cx true ⟨dst,.store t p x,ty,pos,after,gd⟩ st K)(hf:FM cx ⟨dst,.store t p x,ty,pos,after,gd⟩ st=some (R,w)) :
  EH cx ⟨dst,.store t p x,ty,pos,after,gd⟩ st R w K:=by
 simp only[Gm]at hk;have hn:∀st2,JD ⟨dst,.store t p x,ty,pos,after,gd⟩ R st st2->ev st2.t p=ev st.t p/\ev st2.t x=ev st.t x:=fun st2 ha=>⟨ha.t p (by simp[Op.operands]),ha.t x (by simp[Op.operands])⟩;unfold Pr at hk;split at hk
 .exact hk.elim
 .rename_i DH;obtain⟨cs,c1,c2,c3⟩:=OU hk;simp only[FM]at hf;split at hf
  .rename_i r off hp;split at hf
   .cases hf
   .rename_i hm;cases hf;rw[hp]at c1;simp only at c1;split at c1
    .rename_i EN hr;obtain⟨Ij,hk'⟩:=c1;rw[hm]at hk';refine⟨_,some (r,_),hk',fun r o' e=>(by cases e;exact⟨rfl,Ab ..⟩),fun st2 HM K' h'=>?_⟩;simp only[Gm,Pr,(hn st2 HM).1,(hn st2 HM).2];refine c2 _ ?_;rw[hp];simp only[HM.h r (Ab ..),hr,hm];exact⟨Ij,h'⟩
    .exact c1.elim
  .rename_i r n sz i off hp;cases hf;rw[hp]at c1;simp only at c1;split at c1
   .rename_i Hb es hr;split at c1
    .rename_i hs;obtain⟨Ij,cell,e1,e2,hk'⟩:=c1;split at hk'
     .rename_i j m;refine⟨_,some (r,_),hk',fun r o' e=>(by cases e;exact⟨rfl,Ab ..⟩),fun st2 HM K' h'=>?_⟩;simp only[Gm,Pr,(hn st2 HM).1,(hn st2 HM).2];refine c2 _ ?_;rw[hp];simp only[HM.h r (Ab ..),hr,hs];exact⟨Ij,cell,e1,e2,h'⟩
     .rename_i Od;refine⟨_,some (r,_),hk',fun r o' e=>(by cases e;exact⟨rfl,Ab ..⟩),fun st2 HM K' h'=>?_⟩;simp only[Gm,Pr,(hn st2 HM).1,(hn st2 HM).2];refine c2 _ ?_;rw[hp];simp only[HM.h r (Ab ..),hr,hs];refine⟨Ij,cell,e1,e2,?_⟩;rw[c3 st.h st2.h (fun r hr=>HM.h r (Ah _ hr))];exact h'
    .exact c1.elim
   .exact c1.elim
  .cases hf
theorem Ts{t:Nat}{m k:Operand}(hk:Gm cx true ⟨dst,.mapUpdate t m k x,ty,pos,after,gd⟩ st K)(hf:FM cx ⟨dst,.mapUpdate t m k x,ty,pos,after,gd⟩ st=some (R,w)) :
  EH cx ⟨dst,.mapUpdate t m k x,ty,pos,after,gd⟩ st R w K:=by
 simp only[Gm]at hk;have hn:∀st2,JD ⟨dst,.mapUpdate t m k x,ty,pos,after,gd⟩ R st st2->ev st2.t m=ev st.t m/\ev st2.t k=ev st.t k/\ev st2.t x=ev st.t x:=fun st2 ha=>⟨ha.t m (by simp[Op.operands]),ha.t k (by simp[Op.operands]),ha.t x (by simp[Op.operands])⟩;simp only[FM]at hf;split at hf
 .rename_i r hm;cases hf;unfold HW at hk;rw[hm]at hk;simp only at hk;split at hk
  .rename_i sh Cc hr;unfold Lj at hk;split at hk
   .rename_i kt e h1;split at hk
    .rename_i sh' h2;split at hk
     .rename_i h3;split at hk
      .rename_i kx h4;split at hk
       .rename_i h5;refine⟨_,some (r,_),hk,fun r o' e=>(by cases e;exact⟨rfl,Ab ..⟩),fun st2 HM K' h'=>?_⟩;obtain⟨n1,n2,n3⟩:=hn st2 HM;simp only[Gm,HW,n1,n2,n3,hm,HM.h r (Ab ..),hr,Lj,h1,h2,h3,h4,h5];rw[L1 (h:=st.h) (h2:=st2.h) (fun r hr=>HM.h r (Ah _ hr))];exact h'
       .exact hk.elim
      .exact hk.elim
     .exact hk.elim
    .exact hk.elim
   .exact hk.elim
  .rename_i sh Cc hr;unfold Lj at hk;split at hk
   .rename_i kt e h1;split at hk
    .rename_i sh' h2;split at hk
     .rename_i h3;split at hk
      .rename_i kx h4;split at hk
       .rename_i h5;refine⟨_,some (r,_),hk,fun r o' e=>(by cases e;exact⟨rfl,Ab ..⟩),fun st2 HM K' h'=>?_⟩;obtain⟨n1,n2,n3⟩:=hn st2 HM;simp only[Gm,HW,n1,n2,n3,hm,HM.h r (Ab ..),hr,Lj,h1,h2,h3,h4,h5];exact h'
       .exact hk.elim
      .exact hk.elim
     .exact hk.elim
    .exact hk.elim
   .exact hk.elim
  .exact hk.elim
 .cases hf
theorem gC{A B:(AV->Prop)->Prop}(ha:GJ A)(hb:GJ B):GJ fun K=>A K\/B K:=by
 intro K hk;rcases hk with hk | hk
 .obtain⟨v,h1,h2⟩:=ha K hk;exact⟨v,h1,fun K' h=>.inl (h2 K' h)⟩
 .obtain⟨v,h1,h2⟩:=hb K hk;exact⟨v,h1,fun K' h=>.inr (h2 K' h)⟩
theorem UQ{fn:Fn}{first cap:Array Operand}(hk:Gm cx true ⟨dst,.makeFunc fn first cap,ty,pos,after,gd⟩ st K)(hf:FM cx ⟨dst,.makeFunc fn first cap,ty,pos,after,gd⟩ st=some (R,w)) :
  EH cx ⟨dst,.makeFunc fn first cap,ty,pos,after,gd⟩ st R w K:=by
 simp only[Gm]at hk;simp only[FM]at hf;cases hf;unfold LO at hk;split at hk
 .rename_i f h1;refine⟨_,none,hk,fun r o' e=>(by cases e),fun st2 HM K' h'=>?_⟩;simp only[Gm,h1,LO]
  have:cap.toList.map (fun x=>rsv st2.h (ev st2.t x))=cap.toList.map (fun x=>rsv st.h (ev st.t x)):=Bi fun x hx=>by
   rw[HM.t x (by simp only[Op.operands,T1];exact .inr (by simpa using hx))];exact om fun r hr=>HM.h r (br (Ai.2 ⟨x,hx,rfl⟩) r hr)
  rw[this];exact h'
 .exact hk.elim
end
section
variable {cx:Cx}{dst:Option Nat}{ty:Nat}{pos:String}{after:Array Edge}{gd:Option (Nat×Bool)}{st:St}{R:List Nat}{w:Option Nat}{K:HK}
theorem dt{t:Nat}(hk:Gm cx true ⟨dst,.load t p,ty,pos,after,gd⟩ st K)(hf:FM cx ⟨dst,.load t p,ty,pos,after,gd⟩ st=some (R,w)):EH cx ⟨dst,.load t p,ty,pos,after,gd⟩ st R w K:=by
 simp only[Gm]at hk;have hn:∀st2,JD ⟨dst,.load t p,ty,pos,after,gd⟩ R st st2->ev st2.t p=ev st.t p:=fun st2 ha=>ha.t p (by simp[Op.operands]);simp only[FM]at hf;unfold IZ at hk;split at hf
 .rename_i cs hp;cases hf;rw[hp]at hk;simp only at hk;exact .pick (I4 _ _ _) hk fun st2 ha K' h=>by simp only[Gm,IZ,hn st2 ha,hp];exact h
 .rename_i r off hp;cases hf;rw[hp]at hk;simp only at hk;split at hk
  .rename_i cs hr;exact .pick (I4 _ _ _) hk fun st2 ha K' h=>by simp only[Gm,IZ,hn st2 ha,hp,ha.h r (Ab ..),hr];exact h
  .rename_i cs hr;exact .pick (I4 _ _ _) hk fun st2 ha K' h=>by simp only[Gm,IZ,hn st2 ha,hp,ha.h r (Ab ..),hr];exact h
  .exact hk.elim
 .rename_i r n sz i off hp;cases hf;rw[hp]at hk;simp only at hk;split at hk
  .rename_i Hb es hr;split at hk
   .rename_i hs;exact .pick (DJ (N6 fun _=>DJ (I4 _ _ _))) hk fun st2 ha K' h=>by simp only[Gm,IZ,hn st2 ha,hp,ha.h r (Ab ..),hr,hs];exact h
   .exact hk.elim
  .rename_i Hb es i' c av hr;split at hk
   .rename_i hs;exact .pick (DJ (I4 _ _ _)) hk fun st2 ha K' h=>by simp only[Gm,IZ,hn st2 ha,hp,ha.h r (Ab ..),hr,hs];exact h
   .exact hk.elim
  .exact hk.elim
 .cases hf
theorem YU(hk:Gm cx true ⟨dst,.assign x,ty,pos,after,gd⟩ st K)(hf:FM cx ⟨dst,.assign x,ty,pos,after,gd⟩ st=some (R,w)):EH cx ⟨dst,.assign x,ty,pos,after,gd⟩ st R w K:=by
 simp only[Gm]at hk;have hn:∀st2,JD ⟨dst,.assign x,ty,pos,after,gd⟩ R st st2->ev st2.t x=ev st.t x:=fun st2 ha=>ha.t x (by simp[Op.operands]);simp only[FM]at hf;split at hf
 .cases hf
 .rename_i hx;cases hf;have same:∃y,∀(h:Nat->HO) (K:HK),PL cx dst h (ev st.t x) K↔K y h:=by
   unfold PL;cases dst with
   |none=>exact⟨_,fun _ _=>Sr⟩
   |some d=>
    simp only;cases Hl cx.pl.tok d with
    |some sz=>
     simp only;cases Nat.beq sz 0 with
     |true=>exact⟨_,fun _ _=>Sr⟩
     |false=>
      refine⟨ev st.t x,fun h K=>?_⟩;simp only;split
      .rename_i e;exact absurd e (hx _ _ _)
      .exact Sr
    |none=>
     simp only;cases Hl cx.pl.arr d with
     |some sz=>
      refine⟨ev st.t x,fun h K=>?_⟩;simp only;split
      .rename_i e;exact absurd e (hx _ _ _)
      .exact Sr
     |none=>exact⟨_,fun _ _=>Sr⟩
  obtain⟨y,same⟩:=same;exact .pick (Dr y) ((same _ _).1 hk) fun st2 ha K' h=>by simp only[Gm];rw[hn st2 ha];exact(same _ _).2 h
theorem SG{t:Nat}{lo hi mx:Option Operand}(hp:OQ cx.pl.tok dst=none)(hk:Gm cx true ⟨dst,.slice t x lo hi mx,ty,pos,after,gd⟩ st K)(hf:FM cx ⟨dst,.slice t x lo hi mx,ty,pos,after,gd⟩ st=some (R,w)) :
  EH cx ⟨dst,.slice t x lo hi mx,ty,pos,after,gd⟩ st R w K:=by
 simp only[Gm,hp]at hk;have hn:∀st2,JD ⟨dst,.slice t x lo hi mx,ty,pos,after,gd⟩ R st st2->ev st2.t x=ev st.t x/\Co st2.t lo=Co st.t lo/\Co st2.t hi=Co st.t hi/\Co st2.t mx=Co st.t mx:=by
  intro st2 ha;have opt:∀y:Option Operand,(∀z,y=some z->ev st2.t z=ev st.t z)->Co st2.t y=Co st.t y:=by
   intro y hy;cases y with
   |none=>rfl
   |some z=>simp only[Co];rw[hy z rfl]
  exact⟨ha.t x (by simp[Op.operands]),opt lo (fun z e=>ha.t z (by simp[Op.operands,e])),opt hi (fun z e=>ha.t z (by simp[Op.operands,e])),opt mx (fun z e=>ha.t z (by simp[Op.operands,e]))⟩
 simp only[FM,hp]at hf;split at hf
 .cases hf
 .rename_i hx;cases hf;have e3:Co st.t none=some none:=rfl
  have IQ:GJ (fun K1=>G8 cx dst st.h t (ev st.t x) (Co st.t lo) (Co st.t hi) (some none) fun v _=>K1 v) /\
    ∀(h:Nat->HO) (K:HK),G8 cx dst h t (ev st.t x) (Co st.t lo) (Co st.t hi) (some none) K↔G8 cx dst st.h t (ev st.t x) (Co st.t lo) (Co st.t hi) (some none) (fun v _=>K v h):=by
   generalize ev st.t x=X at hx;unfold G8;constructor
   .repeat' split
    all_goals first | exact CR | exact DJ (Dr _) | exact DJ (DJ (Dr _)) | skip
    all_goals first | (rename_i e;cases e;done) | skip
    all_goals (exfalso;exact hx _ _ rfl)
   .intro h K
    repeat' split
    all_goals first | exact Sr | skip
    all_goals exfalso
    all_goals first | exact hx _ _ rfl | (rename some none=some (some _)=>e4;cases e4)
  rw[e3]at hk;exact .pick IQ.1 ((IQ.2 _ _).1 hk) fun st2 ha K' h=>by
   obtain⟨n1,n2,n3,n4⟩:=hn st2 ha;simp only[Gm,hp];rw[n1,n2,n3,n4,e3];exact(IQ.2 _ _).2 h
 .rename_i y tk es hx;obtain⟨d,rfl,e0⟩:=Jl hf;cases e0;rw[hx]at hk;unfold G8 at hk;split at hk
  .rename_i Iz MZ sZ e1 e2 e3;split at hk
   .split at hk<;>first | exact hk.elim | (rename_i e;cases e)
   .rename_i e he;split at hk
    .exact hk.elim
    .rename_i k EZ;simp only at hk;split at hk
     .exfalso
      rename_i e4;simp only[Co]at e3;split at e3<;>cases e3
     .rename_i m;split at hk
      .rename some d=some _=>e5
       cases e5
       split at hk
       .rename_i uu;refine⟨_,none,hk.2.2,fun r o' e=>(by cases e),fun st2 HM K' h'=>?_⟩;obtain⟨n1,n2,n3,n4⟩:=hn st2 HM;simp only[Gm,hp];rw[n1,n2,n3,n4,hx,e1,e2,e3];unfold G8;simp only[he];split
        .rename_i e0;rw[EZ]at e0;cases e0
        .simp only[uu];exact⟨hk.1,hk.2.1,h'⟩
       rename_i uu;split at hk
       .rename_i hd;refine⟨_,some (d,_),hk.2.2,fun r o' e=>(by cases e;exact⟨rfl,Ab ..⟩),fun st2 HM K' h'=>?_⟩;obtain⟨n1,n2,n3,n4⟩:=hn st2 HM;simp only[Gm,hp];rw[n1,n2,n3,n4,hx,e1,e2,e3];unfold G8;simp only[he];split
        .rename_i e0;rw[EZ]at e0;cases e0
        .simp only[uu];rw[HM.h d (Ab ..),hd];exact⟨hk.1,hk.2.1,h'⟩
       .exact hk.elim
      .exact hk.elim
   .exact hk.elim
  .exact hk.elim
 .cases hf
theorem iV{t:Nat}{lo hi mx:Option Operand}{p:Nat}(hp:OQ cx.pl.tok dst=some p)(hk:Gm cx true ⟨dst,.slice t x lo hi mx,ty,pos,after,gd⟩ st K)(hf:FM cx ⟨dst,.slice t x lo hi mx,ty,pos,after,gd⟩ st=some (R,w)) :
  TE cx ⟨dst,.slice t x lo hi mx,ty,pos,after,gd⟩ st R w K:=by
 simp only[Gm,hp]at hk;simp only[FM,hp]at hf;obtain⟨d',r,n,hd,hx,e0⟩:=dp hf;cases e0;cases dst with
 |none=>cases hd
 |some d=>
 cases hd
 unfold QQ at hk;split at hk
 .rw[hx]at hk;unfold nX at hk;split at hk
  .rename_i d0 MZ e1 e2;cases e1;split at hk
   .rename_i e he;split at hk
    .exact hk.elim
    .rename_i k EZ;simp only at hk;split at hk
     .rename_i sz es hr;split at hk
      .rename_i hd;split at hk
       .rename_i q1 q3;obtain⟨h1,hk⟩:=hk;have hr8:r<10000000/\0<KJ cx d:=by simpa using q3
        obtain⟨hr7,hz⟩:=hr8;refine⟨_,[(r,.dead),(KJ cx d,_)],hk,fun r' o' e=>?_,fun st2 ha K' h'=>?_⟩
        .rcases AA.1 e with e | e
         .cases e
          refine⟨.inr (.inl ⟨by omega,.inl ?_⟩),Ab ..⟩;rw[Nat.add_mul_mod_self_left,Jy hr7]
         .obtain e:=Ar.1 e;cases e;refine⟨.inr (.inl ⟨by omega,.inr ?_⟩),Ah _ (Ab ..)⟩;rw[Nat.add_mul_div_left _ _ Cl,Nat.div_eq_of_lt hr7,Bg]
        .have o1:Co st2.t hi=Co st.t hi:=by
          cases hi with
          |none=>rfl
          |some z=>simp only[Co];rw[ha.t z (by simp[Op.operands])]
         simp only[Gm,hp];unfold QQ;rw[ha.t x (by simp[Op.operands]),o1,hx,e2];unfold nX;simp only[he];split
         .rename_i e0;rw[EZ]at e0;cases e0
         .simp only[ha.h r (Ab ..),hr,ha.h (KJ cx d) (Ah _ (Ab ..)),hd,q1,q3];exact⟨h1,h'⟩
       .exact hk.elim
      .exact hk.elim
     .exact hk.elim
   .exact hk.elim
  .exact hk.elim
 .exact hk.elim
theorem YT{s:Operand}{Hw:Array TypeId}(hk:Gm cx true ⟨dst,.call ⟨.builtin .append,#[s,x],Hw⟩,ty,pos,after,gd⟩ st K)(hf:FM cx ⟨dst,.call ⟨.builtin .append,#[s,x],Hw⟩,ty,pos,after,gd⟩ st=some (R,w)) :
  EH cx ⟨dst,.call ⟨.builtin .append,#[s,x],Hw⟩,ty,pos,after,gd⟩ st R w K:=by
 have hk:Gz cx dst st.h .append Hw.toList [ev st.t s,ev st.t x] K:=hk;have hf:YS cx dst (ev st.t s) (ev st.t x)=some (R,w):=hf;have hn:∀st2,JD ⟨dst,.call ⟨.builtin .append,#[s,x],Hw⟩,ty,pos,after,gd⟩ R st st2->ev st2.t s=ev st.t s/\ev st2.t x=ev st.t x:=fun st2 ha=>
  ⟨ha.t s (by simp[Op.operands,Call.operands]),ha.t x (by simp[Op.operands,Call.operands])⟩
 have Lh:∀st2,JD ⟨dst,.call ⟨.builtin .append,#[s,x],Hw⟩,ty,pos,after,gd⟩ R st st2->∀K' : HK,Gz cx dst st2.h .append Hw.toList [ev st.t s,ev st.t x] K'->Gm cx true ⟨dst,.call ⟨.builtin .append,#[s,x],Hw⟩,ty,pos,after,gd⟩ st2 K':=by
  intro st2 ha K' h;rw[<-(hn st2 ha).1,<-(hn st2 ha).2]at h;exact h
 generalize Hw.toList=l at hk Lh
 match l,hk,Lh with
 | [t,t'],hk,Lh=>
  simp only[Gz]at hk Lh;split at hk
  .rename_i ht;simp only[ht]at Lh;unfold I6 at hk Lh;split at hk
   .rename_i e he;simp only[he]at Lh;split at hk
    .exact hk.elim
    .rename_i hz;simp only[hz]at Lh;split at hk
     .exact hk.elim
     .rename_i k EZ;obtain⟨es2,q1,q2⟩:=df hk;have w8:∀d,R=d::ju (ev st.t x)->∀st2,JD ⟨dst,.call ⟨.builtin .append,#[s,x],Hw⟩,ty,pos,after,gd⟩ R st st2->∀r n,ev st.t x=.msl r n->st2.h r=st.h r:=fun d hR st2 ha r n e=>ha.h r (by rw[hR,e];simp[ju]);unfold YS at hf;split at hf
      .rename_i hs;obtain⟨d,iZ,e0⟩:=Jl hf;cases e0;rw[hs]at q1 Lh;simp only at q1 Lh;obtain⟨d',hd,v,y,q3,q4⟩:=I9 q1.2;rw[iZ]at hd;cases hd;refine⟨v,some (d,y),q3,fun r o' e=>(by cases e;exact⟨rfl,Ab ..⟩),fun st2 HM K' h'=>Lh st2 HM K' ?_⟩;split
       .rename_i e0;rw[EZ]at e0;cases e0
       .exact q2 st2.h (w8 d rfl st2 HM) _ ⟨q1.1,q4 st2.h (HM.h d (Ab ..)) K' h'⟩
      .rename_i Hb es hs;obtain⟨d,iZ,e0⟩:=Jl hf;cases e0;rw[hs]at q1 Lh;simp only at q1 Lh;split at q1
       .rename_i h1;obtain⟨d',hd,v,y,q3,q4⟩:=I9 q1.2;rw[iZ]at hd;cases hd;refine⟨v,some (d,y),q3,fun r o' e=>(by cases e;exact⟨rfl,Ab ..⟩),fun st2 HM K' h'=>Lh st2 HM K' ?_⟩;split
        .rename_i e0;rw[EZ]at e0;cases e0
        .refine q2 st2.h (w8 d rfl st2 HM) _ ?_;simp only[h1];exact⟨q1.1,q4 st2.h (HM.h d (Ab ..)) K' h'⟩
       .exact q1.elim
      .rename_i r Hb es hs;cases hf;rw[hs]at q1 Lh;simp only at q1 Lh;split at q1
       .rename_i sz n hr;split at q1
        .rename_i h1 h2;refine⟨_,some (r,_),q1.2,fun r o' e=>(by cases e;exact⟨rfl,Ab ..⟩),fun st2 HM K' h'=>Lh st2 HM K' ?_⟩;split
         .rename_i e0;rw[EZ]at e0;cases e0
         .refine q2 st2.h (w8 r rfl st2 HM) _ ?_;simp only[HM.h r (Ab ..),hr,h1,h2];exact⟨q1.1,h'⟩
        .exact q1.elim
       .exact q1.elim
      .rename_i r n hs;cases hf;rw[hs]at q1 Lh;simp only at q1 Lh;split at q1
       .rename_i sz es hr;split at q1
        .rename_i h1;refine⟨_,some (r,_),q1.2,fun r o' e=>(by cases e;exact⟨rfl,Ab ..⟩),fun st2 HM K' h'=>Lh st2 HM K' ?_⟩;split
         .rename_i e0;rw[EZ]at e0;cases e0
         .refine q2 st2.h (w8 r rfl st2 HM) _ ?_;simp only[HM.h r (Ab ..),hr,h1];exact⟨q1.1,h'⟩
        .exact q1.elim
       .exact q1.elim
      .cases hf
   .exact hk.elim
  .exact hk.elim
 | [],hk,_=>exact hk.elim
 | [_],hk,_=>exact hk.elim
 |_::_::_::_,hk,_=>exact hk.elim
theorem XT(t:Nat):GJ (Ls T t):=by
 unfold Ls
 repeat' split
 all_goals first | exact CR | exact Dr _
theorem VI(ty:Nat)(ok:Bool)(Cc:List (Value×AV))(kx:Value):GJ (Nh T ty ok Cc kx):=by
 unfold Nh
 repeat' split
 .refine gC (N6 fun a=>DJ (Dr _)) (DJ ?_);intro K hk;obtain⟨v,h1,h2⟩:=XT T _ _ hk;exact⟨_,h1,fun K' h=>h2 _ h⟩
 .exact gC (N6 fun a=>DJ (Dr _)) (DJ (XT T _))
 .exact CR
theorem bQ(ty:Nat)(sh:Fg)(k:AV){F:Value->(AV->Prop)->Prop}(h:∀x,GJ (F x)):GJ fun K=>Lj T ty sh k fun kx=>F kx K:=by
 unfold Lj
 repeat' split
 all_goals first | exact CR | exact h _
theorem YV{t:Nat}{m k:Operand}{ok:Bool}(hk:Gm cx true ⟨dst,.lookup t m k ok,ty,pos,after,gd⟩ st K)(hf:FM cx ⟨dst,.lookup t m k ok,ty,pos,after,gd⟩ st=some (R,w)) :
  EH cx ⟨dst,.lookup t m k ok,ty,pos,after,gd⟩ st R w K:=by
 simp only[Gm]at hk;have hn:∀st2,JD ⟨dst,.lookup t m k ok,ty,pos,after,gd⟩ R st st2->ev st2.t m=ev st.t m/\ev st2.t k=ev st.t k:=fun st2 ha=>⟨ha.t m (by simp[Op.operands]),ha.t k (by simp[Op.operands])⟩;simp only[FM]at hf;unfold NW at hk;split at hf
 .rename_i sh Cc hm;cases hf;rw[hm]at hk;simp only at hk;exact .pick (bQ _ _ _ _ fun _=>VI _ _ _ _ _) hk fun st2 ha K' h=>by simp only[Gm,NW,hn st2 ha,hm];exact h
 .rename_i r hm;cases hf;rw[hm]at hk;simp only at hk;split at hk
  all_goals first | exact hk.elim | (rename_i e;exact .pick (bQ _ _ _ _ fun _=>VI _ _ _ _ _) hk fun st2 ha K' h=>by simp only[Gm,NW,hn st2 ha,hm,ha.h r (Ab ..),e];exact h)
 .cases hf
theorem nU(t:Nat)(h:Nat->HO)(x:AV):GJ (SW T t h x):=by
 unfold SW
 repeat' split
 all_goals first | exact CR | exact Dr _
theorem u9{T:Ha}{t:Nat}{h h2:Nat->HO}{x:AV}(e:∀r,x=.mref r->h2 r=h r){K:AV->Prop}:SW T t h2 x K=SW T t h x K:=by
 cases x<;>first | rfl | skip
 rename_i r;unfold SW;simp only[e r rfl]
theorem iU{Hw:Array TypeId}(hk:Gm cx true ⟨dst,.call ⟨.builtin .len,#[x],Hw⟩,ty,pos,after,gd⟩ st K)(hf:FM cx ⟨dst,.call ⟨.builtin .len,#[x],Hw⟩,ty,pos,after,gd⟩ st=some (R,w)) :
  EH cx ⟨dst,.call ⟨.builtin .len,#[x],Hw⟩,ty,pos,after,gd⟩ st R w K:=by
 have hk:Gz cx dst st.h .len Hw.toList [ev st.t x] K:=hk;have hf:HG cx dst (.builtin .len) st.t [ev st.t x]=some (R,w):=hf;have hn:∀st2,JD ⟨dst,.call ⟨.builtin .len,#[x],Hw⟩,ty,pos,after,gd⟩ R st st2->ev st2.t x=ev st.t x:=fun st2 ha=>ha.t x (by simp[Op.operands,Call.operands]);have Lh:∀st2,JD ⟨dst,.call ⟨.builtin .len,#[x],Hw⟩,ty,pos,after,gd⟩ R st st2->∀K' : HK,Gz cx dst st2.h .len Hw.toList [ev st.t x] K'->Gm cx true ⟨dst,.call ⟨.builtin .len,#[x],Hw⟩,ty,pos,after,gd⟩ st2 K':=by
  intro st2 ha K' h;rw[<-hn st2 ha]at h;exact h
 generalize Hw.toList=l at hk Lh
 match l,hk,Lh with
 | [t],hk,Lh=>
  have hR:∀r,ev st.t x=.mref r->r∈R:=fun r e=>by
   rw[e]at hf;cases hf;exact Ab ..
  have hw:w=none:=by
   unfold HG at hf;split at hf<;>first | (cases hf;rfl) | (rename_i e;cases e) | (rename_i e _;cases e) | skip
   all_goals (cases hf)
  subst hw;exact .pick (nU _ _ _ _) hk fun st2 ha K' h=>Lh st2 ha K' (by
   simp only[Gz];rw[u9 fun r e=>ha.h r (hR r e)];exact h)
 | [],hk,_=>exact hk.elim
 |_::_::_,hk,_=>exact hk.elim
end
theorem qT{l:List Nat}{n:Nat}(h:JA l n=true):n∈l:=by
 induction l with
 |nil=>cases h
 |cons a l ih=>
  unfold JA at h
  by_cases e:a=n
  .exact e▸Ab ..
  .rw[Df e]at h;exact Ah _ (ih h)
theorem ao(G:Nat->HO):∀(σ:JR) (h:Nat->HO),EO σ=true->(fun i=>match CF σ i with | some j=>G j | none=>h i)=IW h (σ.map fun p=>(p.1,G p.2))
 | [],h,_=>rfl
 |(i,j)::r,h,hσ=>by
  unfold EO at hσ;simp only[Af]at hσ;have ih:=ao G r (A1 h i (G j)) hσ.2;show _=IW (A1 h i (G j)) (r.map fun p=>(p.1,G p.2));rw[<-ih]
  funext i'
  have hn:CF r i=none:=by
   have:=hσ.1.1.1
   cases e:CF r i with
   |none=>rfl
   |some k=>rw[e]at this;simp at this
  by_cases e:i'=i
  .subst e;have e1:CF ((i',j)::r) i'=some j:=by unfold CF;rw[Dq];rfl
   rw[e1,hn];show G j=A1 h i' (G j) i';unfold A1;rw[Dq];rfl
  .have e1:CF ((i,j)::r) i'=CF r i':=by
    show(bif Nat.beq i i' then some j else CF r i')=_;rw[Df (Ne.symm e)];rfl
   rw[e1];cases CF r i' with
   |some k=>rfl
   |none=>show h i'=A1 h i (G j) i';unfold A1;rw[Df e];rfl
theorem Xf{σ:JR}{d:Nat}(hσ:EO σ=true){h h' : Nat->HO}:EA σ d 0 h h'=IW h (σ.map fun p=>(p.1,(h' p.2).ren (FF σ d 0) h')):=by
 rw[<-ao (fun j=>(h' j).ren (FF σ d 0) h') σ h hσ]
 funext i
 unfold EA;cases CF σ i with
 |some j=>rfl
 |none=>
  have:(Nat.ble (BF d 0) i&&Nat.blt i (BF d 0))=false:=by
   rw[AM];simp only[XM,Af,Dt,Cv];omega
  simp only[this]
section
variable {cx:Cx}{op:Op}{dst:Option Nat}{ty:Nat}{pos:String}{after:Array Edge}{gd:Option (Nat×Bool)}{st:St}{R:List Nat}{w:Option Nat}{K:HK}
theorem EH.toL(h:EH cx ⟨dst,op,ty,pos,after,gd⟩ st R w K):TE cx ⟨dst,op,ty,pos,after,gd⟩ st R w K:=by
 obtain⟨v,e,h1,h2,h3⟩:=h;cases e with
 |none=>exact⟨v,[],h1,fun r o' e=>(by cases e),h3⟩
 |some p=>exact⟨v,[p],h1,fun r o' e=>by
   obtain rfl:=Ar.1 e;obtain⟨a,b⟩:=h2 r o' rfl;exact⟨by rw[a];exact .inl rfl,b⟩,h3⟩
theorem dq{c:Call}(hk:Gm cx true ⟨dst,.call c,ty,pos,after,gd⟩ st K)(hf:FM cx ⟨dst,.call c,ty,pos,after,gd⟩ st=some (R,w)):TE cx ⟨dst,.call c,ty,pos,after,gd⟩ st R w K:=by
 obtain⟨ug,args,Hw⟩:=c;have Kj:∀st2,JD ⟨dst,.call ⟨ug,args,Hw⟩,ty,pos,after,gd⟩ R st st2->args.toList.map (ev st2.t)=args.toList.map (ev st.t):=fun st2 ha=>
  Bi fun x hx=>ha.t x (by simp only[Op.operands,Call.operands,T1];exact .inr (by simpa using hx))
 cases ug with
 |invoke r m=>exact hk.elim
 |value f=>
  have hk:GW cx true dst st (ev st.t f) (args.toList.map (ev st.t)) K:=hk;have hf:HG cx dst (.value f) st.t (args.toList.map (ev st.t))=some (R,w):=hf;unfold HG at hf;unfold GW at hk;simp only at hf hk;have hn:=Kj;split at hf
  .rename_i fN;rw[fN]at hk;cases hf;obtain⟨res,h1,h2⟩:=hk;refine EH.toL ⟨res,none,h2,fun r o' e=>(by cases e),fun st2 ha K' h'=>?_⟩;show GW cx true dst st2 (ev st2.t f) (args.toList.map (ev st2.t)) K';rw[Kj st2 ha,ha.t f (by simp[Op.operands,Call.operands])];unfold GW;simp only[fN];refine⟨res,?_,h'⟩;rw[L1 (h:=st.h) (fun r hr=>ha.h r (BE _ hr)),Sg (h:=st.h) (fun r hr=>ha.h r (Bx _ hr))];exact h1
  .rename_i fN;rw[fN]at hk;simp only at hk;cases dst with
   |none=>exact hk.elim
   |some d=>
    obtain⟨n,sz,es,h1,h2,h3⟩:=hk;have hf:some (BF d 0::(ZF (ev st.t f)++U6 (args.toList.map (ev st.t))),some (BF d 0))=some (R,w):=hf;cases hf;refine EH.toL ⟨_,some (BF d 0,_),h3,fun r o' e=>(by cases e;exact⟨rfl,Ab ..⟩),fun st2 ha K' h'=>?_⟩;show GW cx true (some d) st2 (ev st2.t f) (args.toList.map (ev st2.t)) K';rw[Kj st2 ha,ha.t f (by simp[Op.operands,Call.operands])];unfold GW;simp only[fN];refine⟨n,sz,es,?_,?_,h'⟩
    .have:D4 st2.h d 1=D4 st.h d 1:=by simp only[D4,ha.h (BF d 0) (Ab ..)]
     rw[this];exact h1
    .rw[L1 (h:=st.h) (fun r hr=>ha.h r (Ah _ (BE _ hr))),Sg (h:=st.h) (fun r hr=>ha.h r (Ah _ (Bx _ hr)))];exact h2
  .rename_i fN;rw[fN]at hk;have hk:Tj cx 0 dst st.h (ev st.t f) (args.toList.map (ev st.t)) K:=hk;split at hf
   .rename_i r n l hl;cases hf;have IQ:=hk;unfold Tj at IQ;rw[hl]at IQ;split at IQ
    .rename_i d0 f0 r0 n0 l0 e1 e2 z1 z2;cases e2;split at IQ
     .rename_i vs dI;split at IQ
      .rename_i sz es hr;obtain⟨n',F5,h1,h2⟩:=IQ;refine EH.toL ⟨_,some (r,_),h2,fun r o' e=>(by cases e;exact⟨rfl,Ab ..⟩),fun st2 ha K' h'=>?_⟩;show GW cx true _ st2 (ev st2.t f) (args.toList.map (ev st2.t)) K';rw[Kj st2 ha,ha.t f (by simp[Op.operands,Call.operands]),hl,e1];unfold GW;simp only[fN];unfold QU;simp only;unfold Tj;simp only[dI,ha.h r (Ab ..),hr];exact⟨n',F5,h1,h'⟩
      .exact IQ.elim
     .exact IQ.elim
    .exact IQ.elim
   .cases hf
  .rename_i k fN;rw[fN]at hk;cases hb:Nat.beq k 1 with
   |true=>
    have Ri:Nat.beq (k+1) 2=true:=hb;have hk:Wc cx dst st (ev st.t f) (args.toList.map (ev st.t)) K:=by
     have IQ:(match Nat.beq (k+1) 2 with | true=>Wc cx dst st (ev st.t f) (args.toList.map (ev st.t)) K | false=>match Nat.beq (k+1) 3 with | true=>Sp cx dst st (ev st.t f) (args.toList.map (ev st.t)) K | false=>QU cx (k+1) dst st (ev st.t f) (args.toList.map (ev st.t)) K):=hk;rw[Ri]at IQ;exact IQ
    rw[hb]at hf;cases dst with
    |none=>exact hk.elim
    |some d=>
     obtain⟨sz,es,h1,h2,h3⟩:=hk;have hf:some (BF d 0::(ZF (ev st.t f)++U6 (args.toList.map (ev st.t))),some (BF d 0))=some (R,w):=hf;cases hf;refine EH.toL ⟨_,some (BF d 0,_),h3,fun r o' e=>(by cases e;exact⟨rfl,Ab ..⟩),fun st2 ha K' h'=>?_⟩;show GW cx true (some d) st2 (ev st2.t f) (args.toList.map (ev st2.t)) K';rw[Kj st2 ha,ha.t f (by simp[Op.operands,Call.operands])];unfold GW;simp only[fN,Ri];refine⟨sz,es,?_,?_,h'⟩
     .have:D4 st2.h d 1=D4 st.h d 1:=by simp only[D4,ha.h (BF d 0) (Ab ..)]
      rw[this];exact h1
     .rw[L1 (h:=st.h) (fun r hr=>ha.h r (Ah _ (BE _ hr))),Sg (h:=st.h) (fun r hr=>ha.h r (Ah _ (Bx _ hr)))];exact h2
   |false=>
    have Ri:Nat.beq (k+1) 2=false:=hb;rw[hb]at hf;have IQ:(match Nat.beq (k+1) 2 with | true=>Wc cx dst st (ev st.t f) (args.toList.map (ev st.t)) K | false=>match Nat.beq (k+1) 3 with | true=>Sp cx dst st (ev st.t f) (args.toList.map (ev st.t)) K | false=>QU cx (k+1) dst st (ev st.t f) (args.toList.map (ev st.t)) K):=hk;rw[Ri]at IQ;cases hc:Nat.beq k 2 with
    |true=>
     have wR:Nat.beq (k+1) 3=true:=hc;rw[hc]at hf;simp only[wR]at IQ;have hf:l8 (args.toList.map (ev st.t))=some (R,w):=hf;unfold l8 at hf;unfold Sp at IQ;split at hf
     .rename_i vs dI;cases hf;split at IQ
      .rename_i l kR e1 e2 z1 z2;rw[dI]at e2;cases e2;split at IQ
       .rename_i r sz es gN n e3 e4;obtain⟨⟨rfl,rfl⟩,v,F5,n',h1,h2⟩:=IQ;refine⟨_,[(1001,_),(1000,_)],h2,fun r' o' e=>?_,fun st2 ha K' h'=>?_⟩
        .rcases AA.1 e with e | e
         .cases e
          exact⟨.inr (.inl ⟨by decide,.inr Cl⟩),by simp⟩
         .obtain e:=Ar.1 e;cases e;exact⟨.inr (.inl ⟨by decide,.inl Cl⟩),by simp⟩
        show GW cx true _ st2 (ev st2.t f) (args.toList.map (ev st2.t)) K';rw[Kj st2 ha,ha.t f (by simp[Op.operands,Call.operands]),e1];unfold GW;simp only[fN,Ri,wR];unfold Sp;simp only[dI,ha.h 1000 B0,ha.h 1001 B0,e3,e4];exact⟨⟨trivial,trivial⟩,v,F5,n',h1,h'⟩
       .exact IQ.elim
      .exact IQ.elim
     .cases hf
    |false=>
    have wR:Nat.beq (k+1) 3=false:=hc;rw[hc]at hf;have dD:QU cx (k+1) dst st (ev st.t f) (args.toList.map (ev st.t)) K:=by
     simp only[wR]at IQ;exact IQ
    have ux:l6 k dst (args.toList.map (ev st.t))=some (R,w):=hf;unfold l6 at ux;unfold QU at dD;cases he:Nat.beq k 3 with
    |true=>
     have pv:Nat.beq (k+1) 4=true:=he;rw[he]at ux;rw[pv]at dD;have ux:some (qq,some Ys)=some (R,w):=ux;have dD:aM cx dst st (ev st.t f) (args.toList.map (ev st.t)) K:=dD;cases ux;unfold aM at dD;split at dD
     .rename_i d f' e2 _ _ _;obtain⟨σ,H0,Hn,args',res,g1,g2,g3,g4⟩:=dD;simp only[Af]at g2;refine⟨_,σ.map fun p=>(p.1,(Ap Hn Ae p.2).ren (FF σ d 0) (Ap Hn Ae)),(Xf (h:=st.h) (h':=Ap Hn Ae) (d:=d) g2.1.1)▸g4,fun r' o' e=>?_,fun st2 ha K' h'=>?_⟩
      .obtain⟨p,hp,e⟩:=Ai.1 e;cases e;exact⟨.inr (.inr rfl),qT (Bd.1 g2.2 p hp)⟩
      .show GW cx true _ st2 (ev st2.t f) (args.toList.map (ev st2.t)) K';rw[Kj st2 ha,ha.t f (by simp[Op.operands,Call.operands])];unfold GW;simp only[fN,Ri,wR];unfold QU;simp only[pv];unfold aM;rw[e2];refine⟨σ,H0,Hn,args',res,fun h2 hh=>g1 h2 fun r hr=>(hh r hr).trans (ha.h r hr),by simp only[Af];exact g2,g3,?_⟩;rw[Xf (h:=st2.h) (h':=Ap Hn Ae) (d:=d) g2.1.1];exact h'
     .exact dD.elim
    |false=>
    have pv:Nat.beq (k+1) 4=false:=he;rw[he]at ux;rw[pv]at dD;have hf:fE dst (args.toList.map (ev st.t))=some (R,w):=ux;have hk:Tj cx (k+1) dst st.h (ev st.t f) (args.toList.map (ev st.t)) K:=dD;obtain⟨d,r,n,l,rfl,hl,e0⟩:=dk hf;cases e0;unfold Tj at hk;rw[hl]at hk;split at hk
    .rename_i d0 f0 r0 n0 l0 e9 e1 e2;cases e9;cases e2;split at hk
     .rename_i vs dI;split at hk
      .rename_i sz es hr;obtain⟨n',F5,h0,h1,h2⟩:=hk;have h00:=h0;simp only[Af,Cv]at h00;refine⟨_,[(r,.dead),(BF d 0,_)],h2,fun r' o' e=>?_,fun st2 ha K' h'=>?_⟩
       .rcases AA.1 e with e | e
        .cases e
         refine⟨.inr (.inl ⟨by unfold BF;omega,.inl ?_⟩),Ab ..⟩;rw[Nat.add_mul_mod_self_left,Jy h00.1.2]
        .obtain e:=Ar.1 e;cases e;refine⟨.inr (.inl ⟨by unfold BF;omega,.inr ?_⟩),Ah _ (Ab ..)⟩;rw[Nat.add_mul_div_left _ _ Cl,Nat.div_eq_of_lt h00.1.2,Bg]
       show GW cx true _ st2 (ev st2.t f) (args.toList.map (ev st2.t)) K';rw[Kj st2 ha,ha.t f (by simp[Op.operands,Call.operands]),hl,e1];unfold GW;simp only[fN,Ri,wR];unfold QU;simp only[pv];unfold Tj;simp only[dI,ha.h r (Ab ..),hr]
       have:D4 st2.h d 1=D4 st.h d 1:=by simp only[D4,ha.h (BF d 0) (Ah _ (Ab ..))]
       exact⟨n',F5,by rw[this];exact h0,h1,h'⟩
      .exact hk.elim
     .exact hk.elim
    .exact hk.elim
 |builtin b=>
  refine EH.toL ?_;have mm:∀f:Int->Int->Int,(∀(d:Option Nat) (h:Nat->HO) (Hw:List Nat) (args:List AV) (K:HK),Gz cx d h b Hw args K=(match args with | [x,y]=>qV f x y fun v=>K v h | _=>False))->R=[]/\w=none->EH cx ⟨dst,.call ⟨.builtin b,args,Hw⟩,ty,pos,after,gd⟩ st R w K:=by
   rintro f hb ⟨rfl,rfl⟩
   have hk:Gz cx dst st.h b Hw.toList (args.toList.map (ev st.t)) K:=hk;rw[hb]at hk;split at hk
   .rename_i x y e;refine .pick (rr f x y) hk fun st2 ha K' h=>?_;show Gz cx dst st2.h b Hw.toList (args.toList.map (ev st2.t)) K';rw[hb,Kj st2 ha,e];exact h
   .exact hk.elim
  cases b
  case max=>exact mm max (fun d h Hw args K=>by cases args with | nil=>rfl | cons x l=>cases l with | nil=>rfl | cons y l=>cases l<;>rfl) (by
   have hf:HG cx dst (.builtin .max) st.t (args.toList.map (ev st.t))=some (R,w):=hf;simp only[HG]at hf;cases hf;exact⟨rfl,rfl⟩)
  case min=>exact mm min (fun d h Hw args K=>by cases args with | nil=>rfl | cons x l=>cases l with | nil=>rfl | cons y l=>cases l<;>rfl) (by
   have hf:HG cx dst (.builtin .min) st.t (args.toList.map (ev st.t))=some (R,w):=hf;simp only[HG]at hf;cases hf;exact⟨rfl,rfl⟩)
  case append=>
   obtain⟨l⟩:=args
   match l,hk,hf with
   | [s,x],hk,hf=>exact YT hk hf
   | [],hk,hf=>cases Hw;exact hk.elim
   | [_],hk,hf=>exact hk.elim
   |_::_::_::_,hk,hf=>exact hk.elim
  case len=>
   obtain⟨l⟩:=args
   match l,hk,hf with
   | [x],hk,hf=>exact iU hk hf
   | [],hk,hf=>exact hk.elim
   |_::_::_,hk,hf=>exact hk.elim
  all_goals exact hk.elim
theorem cK{o:Oper}(hc:∀c,o.op≠.call c)(hs:(∃t x lo hi mx,o.op=.slice t x lo hi mx)->OQ cx.pl.tok o.dst=none)(hk:Gm cx true o st K)(hf:FM cx o st=some (R,w)):EH cx o st R w K:=by
 obtain⟨dst,op,ty,pos,after,gd⟩:=o;cases op with
 |call c=>exact absurd rfl (hc c)
 |alloc e=>exact aJ hk hf
 |box e x=>exact iT hk hf
 |buildSlice t n ps=>exact RC hk hf
 |makeSlice t n c=>exact Tr hk hf
 |makeMap t r=>exact Wy hk hf
 |store t p x=>exact aK hk hf
 |mapUpdate t m k x=>exact Ts hk hf
 |makeFunc fn first cap=>exact UQ hk hf
 |load t p=>exact dt hk hf
 |assign x=>exact YU hk hf
 |slice t x lo hi mx=>exact SG (hs ⟨t,x,lo,hi,mx,rfl⟩) hk hf
 |lookup t x i ok=>exact YV hk hf
 |move x=>
  cases hf
  exact .pick (Dr _) hk fun st2 ha K' h=>by simp only[Gm,ha.t x (by simp[Op.operands])];exact h
 |pick c a b=>
  cases hf
  exact .pick (jX _ _ _) hk fun st2 ha K' h=>by simp only[Gm,ha.t c (by simp[Op.operands]),ha.t a (by simp[Op.operands]),ha.t b (by simp[Op.operands])];exact h
 |nilCheck x=>
  cases hf
  exact .pick (nV _) hk fun st2 ha K' h=>by simp only[Gm,ha.t x (by simp[Op.operands])];exact h
 |binOp op t x y u=>
  simp only[FM]at hf;split at hf
  .cases hf
  .rename_i hx;cases hf;exact .pick (jV _ _ _ _ _ _ hx) hk fun st2 ha K' h=>by simp only[Gm,ha.t x (by simp[Op.operands]),ha.t y (by simp[Op.operands])];exact h
 |unOp op t x=>
  cases hf
  exact .pick (jY _ _) hk fun st2 ha K' h=>by simp only[Gm,ha.t x (by simp[Op.operands])];exact h
 |convert s t x=>
  cases hf
  exact .pick (jW _ _ _ _) hk fun st2 ha K' h=>by simp only[Gm,ha.t x (by simp[Op.operands])];exact h
 |fieldAddr s x f=>
  cases hf
  exact .pick (d9 _ _ _ _) hk fun st2 ha K' h=>by simp only[Gm,ha.t x (by simp[Op.operands])];exact h
 |field s x f=>
  cases hf
  exact .pick (bP _ _ _ _) hk fun st2 ha K' h=>by simp only[Gm,ha.t x (by simp[Op.operands])];exact h
 |indexAddr t x i=>
  cases hf
  exact .pick (VJ _ _ _ _) hk fun st2 ha K' h=>by simp only[Gm,ha.t x (by simp[Op.operands]),ha.t i (by simp[Op.operands])];exact h
 |index t x i=>
  cases hf
  exact .pick (eh _ _ _ _) hk fun st2 ha K' h=>by simp only[Gm,ha.t x (by simp[Op.operands]),ha.t i (by simp[Op.operands])];exact h
 |extract x i=>
  cases hf
  exact .pick (Zg _ _) hk fun st2 ha K' h=>by simp only[Gm,ha.t x (by simp[Op.operands])];exact h
 |build t ps=>
  cases hf
  refine .pick (d8 _ _ _ _) hk fun st2 ha K' h=>?_;have hx:∀p∈ps.toList,ev st2.t p.2=ev st.t p.2:=fun p hp=>ha.t p.2 (by
   simp only[Op.operands,List.mem_toArray];exact Ai.2 ⟨p,hp,rfl⟩)
  simp only[Gm];have fill:∀(pl:Nat->Option (Nat×Nat)) (l:List (Nat×Operand)) (cs:List AV) (K:List AV->Prop),(∀p∈l,ev st2.t p.2=ev st.t p.2)->LJ pl cs st2.t l K=LJ pl cs st.t l K:=by
   intro pl l
   induction l with
   |nil=>intro cs K _;rfl
   |cons p l ih=>
    intro cs K hp;obtain⟨i,x⟩:=p;have h1:ev st2.t x=ev st.t x:=hp (i,x) (Ab ..);have h2:∀cs,LJ pl cs st2.t l K=LJ pl cs st.t l K:=fun cs=>ih cs K (fun p uK=>hp p (Ah _ uK));simp only[LJ,h1,h2]
  unfold Rs at h⊢;simp only[fill _ _ _ _ hx];exact h
 |_=>cases hf
theorem ii{o:Oper}(hk:Gm cx true o st K)(hf:FM cx o st=some (R,w)):TE cx o st R w K:=by
 obtain⟨dst,op,ty,pos,after,gd⟩:=o
 by_cases h:∃c,op=.call c
 .obtain⟨c,rfl⟩:=h;exact dq hk hf
 .by_cases h2:∃t x lo hi mx,op=.slice t x lo hi mx
  .obtain⟨t,x,lo,hi,mx,rfl⟩:=h2;cases hp:OQ cx.pl.tok dst with
   |none=>exact EH.toL (SG hp hk hf)
   |some p=>exact iV hp hk hf
  .exact EH.toL (cK (fun c e=>h ⟨c,e⟩) (fun e=>absurd e h2) hk hf)
end
end Go.Eng
