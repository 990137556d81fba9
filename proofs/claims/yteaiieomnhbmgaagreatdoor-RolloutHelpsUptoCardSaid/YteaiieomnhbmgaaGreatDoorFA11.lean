/- Lemmas 11. -/
import Derived.Test.YteaiieomnhbmgaaGreatDoorFA10
namespace Go.Eng
variable {x:Operand}{F:(AV->Prop)->Prop}{a:AV}{p:Operand}{α:Type}(cx:Cx)(T:Ha)(o:Oper)(st:St)(op:BinOp)(s:Nat)(R:List Nat)(k:IntKind)(f:Nat)(w:Option Nat)(K:HK)
def GG(F:(AV->Prop)->Prop):Prop:=∀K,F K->∃v,K v/\∀K',K' v->F K'
theorem Du(v:AV):GG (fun K=>K v):=fun _ h=>⟨v,h,fun _ h=>h⟩
theorem DL{p:Prop}(h:GG F):GG (fun K=>p/\F K):=fun K ⟨hp,hk⟩=>
 let ⟨v,h1,h2⟩:=h K hk
 ⟨v,h1,fun K' h'=>⟨hp,h2 K' h'⟩⟩
theorem CT:GG (fun _=>False):=fun _ h=>h.elim
theorem X3(p:Prop):GG (JW p):=fun K h=>by
 by_cases hp:p
 .exact⟨_,h.1 hp,fun K' h'=>⟨fun _=>h',fun hn=>absurd hp hn⟩⟩
 .exact⟨_,h.2 hp,fun K' h'=>⟨fun q=>absurd q hp,fun _=>h'⟩⟩
theorem cz(h:GG F):GG (fun K=>F (kc K)):=fun K hk=>by
 obtain⟨v,h1,h2⟩:=h _ hk;unfold kc at h1;split at h1
 .exact⟨_,h1,fun K' h'=>h2 _ h'⟩
 .exact⟨_,h1,fun K' h'=>h2 _ h'⟩
 .exact h1.elim
theorem Oe{F:α->(AV->Prop)->Prop}(h:∀x,GG (F x)):GG (fun K=>∃x,F x K):=fun K ⟨x,hk⟩=>
 let ⟨v,h1,h2⟩:=h x K hk
 ⟨v,h1,fun K' h'=>⟨x,h2 K' h'⟩⟩
theorem Jf(t:Nat)(cs:List AV):GG (M0 T t cs):=by
 have head:GG (MW cs):=by unfold MW;cases cs with|nil=>exact CT|cons a _=>exact Du a
 unfold M0;split
 .exact DL (Du _)
 .exact DL (Du _)
 .cases cs with
  |nil=>exact CT
  |cons a _=>
   intro K h;simp only[MW]at h⊢;split at h
   .rename_i b;cases b with
    |true=>exact⟨_,h.1 rfl,fun K' h'=>⟨fun _=>h',fun e=>by cases e⟩⟩
    |false=>exact⟨_,h.2 rfl,fun K' h'=>⟨fun e=>(by cases e),fun _=>h'⟩⟩
   .exact h.elim
 .exact CT
 .exact head
theorem g9(t:Nat)(x y:AV)(hx:∀tk es,x≠.slice tk es):GG (xq T t x y):=by
 unfold xq
 repeat' split
 all_goals first|exact CT|exact Du _|exact X3 _|exact DL (Du _)|exact absurd rfl (hx _ _)
theorem VN(a b:Int):GG (VY op k a b):=by
 unfold VY;split<;>first|exact CT|exact DL (Du _)
theorem fg(a b:Int):GG (Uo op k a b):=by
 unfold Uo
 repeat' split
 all_goals first|exact CT|exact DL (Du _)|(unfold YE;split<;>first|exact Du _|exact DL (Du _)|exact VN _ _ _ _)
theorem oE(t:Nat)(x y:AV)(hx:∀tk es,x≠.slice tk es):GG (Ut T op t x y):=by
 unfold Ut
 repeat' split
 all_goals first|exact CT|exact X3 _|exact fg _ _ _ _|exact VN _ _ _ _|exact DL (Du _)|exact g9 _ _ _ _ hx|exact cz (g9 _ _ _ _ hx)
theorem ky(t:Nat)(Y:Operand)(x y:AV)(hx:∀tk es,x≠.slice tk es):GG (ar T op t Y x y):=by
 unfold ar
 repeat' split
 all_goals first|exact CT|exact Du _|exact oE _ _ _ _ _ hx
theorem kz(t:Nat)(x:AV):GG (Xz T s t x):=by
 unfold Xz
 repeat' split
 all_goals first|exact CT|exact Du _|exact DL (Du _)|exact Oe fun _=>DL (Du _)
theorem fj(x:AV):GG (UP T s f x):=by
 unfold UP
 repeat' split
 all_goals first|exact CT|exact Du _
theorem cw(x:AV):GG (Qn T s f x):=by
 unfold Qn
 repeat' split
 all_goals first|exact CT|exact Jf _ _ _
theorem VM(t:Nat)(x ix:AV):GG (KF T t x ix):=by
 unfold KF
 repeat' split
 all_goals first|exact CT|exact DL (Du _)|exact Oe fun _=>DL (DL (Du _))
theorem fo(t:Nat)(x ix:AV):GG (Vg T t x ix):=by
 unfold Vg
 repeat' split
 all_goals first|exact CT|exact DL (Jf _ _ _)|exact Oe fun _=>DL (Du _)
theorem Zy(x:AV)(i:Nat):GG (Nq x i):=by
 unfold Nq
 repeat' split
 all_goals first|exact CT|exact Du _
theorem oG(x:AV):GG (L1 x):=by
 unfold L1
 repeat' split
 all_goals first|exact CT|exact Du _
theorem kB(c a b:AV):GG (ct c a b):=by
 unfold ct
 repeat' split
 all_goals first|exact CT|exact Du _
theorem rU(f:Int->Int->Int)(x y:AV):GG (rC f x y):=by
 unfold rC
 repeat' split
 all_goals first|exact CT|exact Du _
theorem kD(op:UnOp)(x:AV):GG (cQ op x):=by
 unfold cQ
 repeat' split
 all_goals first|exact CT|exact Du _|exact cz (Du _)|exact DL (Du _)
def sU(F:(α->Prop)->Prop):Prop:=∀K,F K->∃v,K v/\∀K',K' v->F K'
theorem cu(n:Nat)(a:AV):sU (HY n a):=by
 intro K h;unfold HY at h⊢
 repeat' split at h
 all_goals first|exact h.elim|skip
 all_goals exact⟨_,h,fun K' h'=>h'⟩
theorem VK(pl:Nat->Option (Nat×Nat))(t:Nat->AV):∀(ps:List (Nat×Operand)) (cs:List AV),sU (LV pl cs t ps)
 | [],cs=>fun K h=>⟨cs,h,fun _ h=>h⟩
 |(i,x)::r,cs=>by
  intro K h;unfold LV at h;split at h
  .exact h.elim
  .rename_i o n e;obtain⟨vs,h1,h2⟩:=cu _ _ _ h;split at h1
   .rename_i hb;obtain⟨c,h3,h4⟩:=VK pl t r _ _ h1;refine⟨c,h3,fun K' h'=>?_⟩;unfold LV;simp only[e];refine h2 _ ?_;simp only[hb];exact h4 K' h'
   .exact h1.elim
theorem fh(ty:Nat)(t:Nat->AV)(ps:List (Nat×Operand)):GG (Ry T ty t ps):=by
 unfold Ry
 repeat' split
 all_goals first
  |exact CT
  |exact fun K h=>let ⟨c,h1,h2⟩:=VK _ _ _ _ _ h;⟨_,h1,fun K' h'=>h2 _ h'⟩
def eff(h:Nat->HO)(e:Option (Nat×HO)):Nat->HO:=match e with|none=>h|some (r,o)=>A3 h r o
structure JS(o:Oper)(R:List Nat)(st st2:St):Prop where
 t:∀x∈o.op.operands,ev st2.t x=ev st.t x
 h:∀r∈R,st2.h r=st.h r
def EE:Prop:=
 ∃v e,K v (eff st.h e)/\(∀r o',e=some (r,o')->w=some r/\r∈R)/\∀st2,JS o R st st2->∀K' : HK,K' v (eff st2.h e)->Gl cx true o st2 K'
def Ub(r:Nat):Prop:=match w with|none=>False|some x=>x=r\/(10000000<=x/\(x % 10000000=r\/x / 10000000=r))\/x=YC
def I5(h:Nat->HO):List (Nat×HO)->Nat->HO
 | []=>h
 |p::l=>I5 (A3 h p.1 p.2) l
def TM:Prop:=
 ∃v e,K v (I5 st.h e)/\(∀r o',(r,o')∈e->Ub w r/\r∈R)/\∀st2,JS o R st st2->∀K' : HK,K' v (I5 st2.h e)->Gl cx true o st2 K'
section
variable {cx:Cx}{o:Oper}{st:St}{R:List Nat}{w:Option Nat}{K:HK}
theorem EE.pick(hF:GG F)(h:F fun v=>K v st.h)(h2:∀st2,JS o R st st2->∀K' : HK,F (fun v=>K' v st2.h)->Gl cx true o st2 K'):EE cx o st R w K:=
 let ⟨v,h1,h3⟩:=hF _ h
 ⟨v,none,h1,fun _ _ e=>(by cases e),fun st2 ha K' hk=>h2 st2 ha K' (h3 _ hk)⟩
theorem bP{cs:List AV}(h:a∈cs):∀r∈WN a,r∈rh cs:=by
 induction cs with
 |nil=>cases h
 |cons c cs ih=>
  intro r hr;rcases Ay.1 h with rfl|h
  .exact By _ hr
  .exact Bo _ (ih h r hr)
theorem nO{cs:List AV}(h:a∈cs):∀r∈WO a,r∈vL cs:=by
 induction cs with
 |nil=>cases h
 |cons c cs ih=>
  intro r hr;rcases Ay.1 h with rfl|h
  .exact By _ hr
  .exact Bo _ (ih h r hr)
theorem bO{cs:List AV}(h:a∈cs):∀r∈ZV a,r∈Vc cs:=by
 induction cs with
 |nil=>cases h
 |cons c cs ih=>
  intro r hr;rcases Ay.1 h with rfl|h
  .exact By _ hr
  .exact Bo _ (ih h r hr)
theorem XL(a:AV):∀r∈WN a,r∈WO a:=by cases a<;>simp[WN,WO]
theorem Sm{h h2:Nat->HO}(e:∀r∈WN a,h2 r=h r):str0 h2 a=str0 h a:=by
 cases a<;>simp only[str0]
 .rw[e _ (by simp[WN])]
 .rw[e _ (by simp[WN])]
theorem Yj{h h2:Nat->HO}(e:∀r∈WO a,h2 r=h r):str h2 a=str h a:=by
 cases a with
 |agg cs=>simp only[str];exact Aa _ (Bg fun c hc=>Sm fun r hr=>e r (bP hc r hr))
 |clo f cs=>simp only[str];exact Aa _ (Bg fun c hc=>Sm fun r hr=>e r (bP hc r hr))
 |_=>exact Sm (fun r hr=>e r (XL _ r hr))
theorem nw(a:AV):∀r∈WO a,r∈ZV a:=by
 cases a with
 |agg cs=>
  intro r hr;simp only[ZV,WO]at *
  induction cs with
  |nil=>exact hr
  |cons c cs ih=>
   rcases AN.1 hr with h|h
   .exact By _ (XL c r h)
   .exact Bo _ (ih h)
 |_=>exact fun r hr=>hr
theorem Mb{h h2:Nat->HO}(e:∀r∈ZV a,h2 r=h r):str h2 a=str h a:=Yj fun r hr=>e r (nw a r hr)
theorem Sn{h h2:Nat->HO}{l:List AV}(e:∀r∈Vc l,h2 r=h r):l.map (str h2)=l.map (str h):=
 Bg fun _ ha=>Mb fun r hr=>e r (bO ha r hr)
theorem oW{h h2:Nat->HO}(e:∀r∈ZV a,h2 r=h r):rsv h2 a=rsv h a:=by
 cases a<;>simp only[rsv]
 .rw[e _ (by simp[ZV,WO,WN])]
 .rw[e _ (by simp[ZV,WO,WN])]
theorem O0{n:Nat}{K:List AV->Prop}(hk:HY n a K):∃cs,K cs/\(∀K' : List AV->Prop,K' cs->HY n a K')/\∀h h2:Nat->HO,(∀r∈ZV a,h2 r=h r)->cs.map (str h2)=cs.map (str h):=by
 have single:K [a]->(∀K' : List AV->Prop,K' [a]->HY n a K')->∃cs,K cs/\(∀K' : List AV->Prop,K' cs->HY n a K')/\∀h h2:Nat->HO,(∀r∈ZV a,h2 r=h r)->cs.map (str h2)=cs.map (str h):=
  fun h1 h2=>⟨[a],h1,h2,fun h h2 e=>by simp[Mb e]⟩
 unfold HY at hk;split at hk
 .rename_i cs;split at hk
  .rename_i hn;refine⟨cs,hk,fun K' h=>by unfold HY;simp only[hn];exact h,fun h h2 e=>Bg fun c hc=>Yj fun r hr=>e r (nO hc r hr)⟩
  .exact hk.elim
 .rename_i vt;split at hk
  .rename_i h1;split at hk
   .refine single hk fun K' h=>?_;unfold HY;split
    .rename_i cs;exact absurd rfl (vt cs)
    .rw[h1];exact h
   .exact hk.elim
  .exact hk.elim
theorem UQ{n sz:Nat}{t:Nat->AV}:∀{ps:List (Nat×Operand)} {es:List (List AV)} {h:Nat->HO} {K:List (List AV)->Prop},SJ n sz h es t ps K ->
  ∃F2,K F2/\∀(t2:Nat->AV) (h2:Nat->HO),(∀r∈Vc (ps.map fun p=>ev t p.2),h2 r=h r)->(∀p∈ps,ev t2 p.2=ev t p.2)->∀K' : List (List AV)->Prop,K' F2->SJ n sz h2 es t2 ps K'
 | [],es,h,K,hk=>⟨es,hk,fun _ _ _ _ _ h=>h⟩
 |(i,x)::r,es,h,K,hk=>by
  unfold SJ at hk;split at hk
  .rename_i hb;obtain⟨cs,c1,c2,c3⟩:=O0 hk;obtain⟨F2,e1,e2⟩:=UQ c1;refine⟨F2,e1,fun t2 h2 hh ht K' hk'=>?_⟩;unfold SJ;rw[hb,ht (i,x) (Ab ..)];refine c2 _ ?_;rw[c3 h h2 (fun r hr=>hh r (By _ hr))];exact e2 t2 h2 (fun r hr=>hh r (Bo _ hr)) (fun p hp=>ht p (Ah _ hp)) K' hk'
  .exact hk.elim
theorem Jk{d:Option Nat}{h:Nat->HO}{sz:Nat}{es:List (List AV)}(hk:EY cx d h sz es K) :
  ∃d',d.map (KZ cx)=some d'/\∃v x,K v (A3 h d' x)/\∀h2:Nat->HO,h2 d'=h d'->∀K' : HK,K' v (A3 h2 d' x)->EY cx d h2 sz es K':=by
 unfold EY at hk;split at hk
 .exact hk.elim
 .rename_i d;split at hk
  .rename_i hd;split at hk
   .rename_i e;exact⟨KZ cx d,rfl,_,_,hk,fun h2 hh K' h'=>by unfold EY;simp only[hh,hd,e];exact h'⟩
   .rename_i e;exact⟨KZ cx d,rfl,_,_,hk,fun h2 hh K' h'=>by unfold EY;simp only[hh,hd,e];exact h'⟩
  .exact hk.elim
theorem dK{h:Nat->HO}{x:AV}{K:List (List AV)->Prop}(hk:Mr h x K):∃es,K es/\∀h2:Nat->HO,(∀r n,x=.msl r n->h2 r=h r)->∀K' : List (List AV)->Prop,K' es->Mr h2 x K':=by
 unfold Mr at hk;split at hk
 .exact⟨_,hk,fun _ _ K' h=>h⟩
 .exact⟨_,hk,fun _ _ K' h=>h⟩
 .rename_i r n;split at hk
  .rename_i sz es e;exact⟨_,hk.2,fun h2 hh K' h=>by unfold Mr;simp only[hh r n rfl,e];exact⟨hk.1,h⟩⟩
  .exact hk.elim
 .exact hk.elim
end
section
variable {cx:Cx}{dst:Option Nat}{ty:Nat}{pos:String}{after:Array Edge}{gd:Option (Nat×Bool)}{st:St}{R:List Nat}{w:Option Nat}{K:HK}
theorem Jy{d:Option Nat}{l:List Nat}{f:FV}(h:Jx d l=some f):∃d',d=some d'/\f=(d' :: l,some d'):=by
 unfold Jx at h;cases d with
 |none=>cases h
 |some d=>cases h;exact⟨d,rfl,rfl⟩
theorem bc{e:Nat}(hk:Gl cx true ⟨dst,.alloc e,ty,pos,after,gd⟩ st K)(hf:FH cx ⟨dst,.alloc e,ty,pos,after,gd⟩ st=some (R,w)):EE cx ⟨dst,.alloc e,ty,pos,after,gd⟩ st R w K:=by
 simp only[Gl]at hk;obtain⟨d,rfl,e0⟩:=Jy hf;cases e0;unfold Um at hk;simp only at hk;split at hk
 .rename_i hd;split at hk
  .exact hk.elim
  .rename_i DJ;split at hk
   .rename_i ha;refine⟨_,some (d,_),hk,fun r o' e=>(by cases e;exact⟨rfl,Ab ..⟩),fun st2 HU K' h'=>?_⟩;simp only[Gl,Um];rw[HU.h d (Ab ..),hd];simp only[ha];exact h'
   .exact hk.elim
 .exact hk.elim
theorem jx{e:Nat}(hk:Gl cx true ⟨dst,.box e x,ty,pos,after,gd⟩ st K)(hf:FH cx ⟨dst,.box e x,ty,pos,after,gd⟩ st=some (R,w)):EE cx ⟨dst,.box e x,ty,pos,after,gd⟩ st R w K:=by
 simp only[Gl]at hk;obtain⟨d,rfl,e0⟩:=Jy hf;cases e0;unfold jb at hk;simp only at hk;split at hk
 .rename_i hd;split at hk
  .exact hk.elim
  .rename_i DJ;obtain⟨cs,c1,c2,c3⟩:=O0 hk;split at c1
   .rename_i hm;refine⟨_,some (d,_),c1,fun r o' e=>(by cases e;exact⟨rfl,Ab ..⟩),fun st2 HU K' h'=>?_⟩;have hx:ev st2.t x=ev st.t x:=HU.t x (by simp[Op.operands]);simp only[Gl,jb];rw[HU.h d (Ab ..),hd,hx];simp only[hm];refine c2 _ ?_;rw[c3 st.h st2.h (fun r hr=>HU.h r (Ah _ hr))];exact h'
   .rename_i hm;refine⟨_,some (d,_),c1,fun r o' e=>(by cases e;exact⟨rfl,Ab ..⟩),fun st2 HU K' h'=>?_⟩;have hx:ev st2.t x=ev st.t x:=HU.t x (by simp[Op.operands]);simp only[Gl,jb];rw[HU.h d (Ab ..),hd,hx];simp only[hm];exact c2 _ h'
 .exact hk.elim
theorem RH{t n:Nat}{ps:Array (Nat×Operand)}(hk:Gl cx true ⟨dst,.buildSlice t n ps,ty,pos,after,gd⟩ st K)(hf:FH cx ⟨dst,.buildSlice t n ps,ty,pos,after,gd⟩ st=some (R,w)) :
  EE cx ⟨dst,.buildSlice t n ps,ty,pos,after,gd⟩ st R w K:=by
 simp only[Gl]at hk;obtain⟨d,jE,e0⟩:=Jy hf;cases e0;unfold Js at hk;split at hk
 .rename_i e he;split at hk
  .rename_i h1 h2;split at hk
   .exact hk.elim
   .rename_i k ES;split at hk
    .rename_i hb;obtain⟨es,q1,q2⟩:=UQ hk;obtain⟨d',hd,v,x,q3,q4⟩:=Jk q1;have hd:dst.map (KZ cx)=some d':=hd;have jE:dst.map (KZ cx)=some d:=jE;rw[jE]at hd;cases hd;refine⟨v,some (d,x),q3,fun r o' e=>(by cases e;exact⟨rfl,Ab ..⟩),fun st2 HU K' h'=>?_⟩;have hx:∀p∈ps.toList,ev st2.t p.2=ev st.t p.2:=fun p hp=>HU.t p.2 (by
      simp only[Op.operands,List.mem_toArray];exact Ai.2 ⟨p,hp,rfl⟩)
     simp only[Gl,Js,he,h1,h2];split
     .rename_i e0;rw[ES]at e0;cases e0
     .rw[hb];exact q2 st2.t st2.h (fun r hr=>HU.h r (Ah _ hr)) hx _ (q4 st2.h (HU.h d (Ab ..)) K' h')
    .exact hk.elim
  .exact hk.elim
 .exact hk.elim
theorem Tz{t:Nat}{n c:Operand}(hk:Gl cx true ⟨dst,.makeSlice t n c,ty,pos,after,gd⟩ st K)(hf:FH cx ⟨dst,.makeSlice t n c,ty,pos,after,gd⟩ st=some (R,w)) :
  EE cx ⟨dst,.makeSlice t n c,ty,pos,after,gd⟩ st R w K:=by
 simp only[Gl]at hk;obtain⟨d,jE,e0⟩:=Jy hf;cases e0;have hn:∀st2,JS ⟨dst,.makeSlice t n c,ty,pos,after,gd⟩ (d::[]) st st2->ev st2.t n=ev st.t n/\ev st2.t c=ev st.t c:=fun st2 ha=>⟨ha.t n (by simp[Op.operands]),ha.t c (by simp[Op.operands])⟩;unfold KH at hk;split at hk
 .rename_i e a b h1 h2 h3;split at hk
  .rename_i h4;split at hk
   .rename_i h5;split at hk
    .exact hk.elim
    .rename_i k ES;obtain⟨d',hd,v,x,q3,q4⟩:=Jk hk.2;have hd:dst.map (KZ cx)=some d':=hd;have jE:dst.map (KZ cx)=some d:=jE;rw[jE]at hd;cases hd;refine⟨v,some (d,x),q3,fun r o' e=>(by cases e;exact⟨rfl,Ab ..⟩),fun st2 HU K' h'=>?_⟩;simp only[Gl,KH,(hn st2 HU).1,(hn st2 HU).2,h1,h2,h3,h4,h5];split
     .rename_i e0;rw[ES]at e0;cases e0
     .exact⟨hk.1,q4 st2.h (HU.h d (Ab ..)) K' h'⟩
   .exact hk.elim
  .exact hk.elim
 .exact hk.elim
theorem WH{t:Nat}{r:Option Operand}(hk:Gl cx true ⟨dst,.makeMap t r,ty,pos,after,gd⟩ st K)(hf:FH cx ⟨dst,.makeMap t r,ty,pos,after,gd⟩ st=some (R,w)) :
  EE cx ⟨dst,.makeMap t r,ty,pos,after,gd⟩ st R w K:=by
 cases r with
 |some r=>exact hk.elim
 |none=>
  simp only[Gl]at hk;obtain⟨d,rfl,e0⟩:=Jy hf;cases e0;unfold LZ at hk;simp only at hk;split at hk
  .rename_i hd;split at hk
   .rename_i h1;split at hk
    .rename_i h2;split at hk
     .rename_i h3;refine⟨_,some (d,_),hk,fun r o' e=>(by cases e;exact⟨rfl,Ab ..⟩),fun st2 HU K' h'=>?_⟩;simp only[Gl,LZ];rw[HU.h d (Ab ..),hd];simp only[h1,h2,h3];exact h'
     .rename_i h3;refine⟨_,some (d,_),hk,fun r o' e=>(by cases e;exact⟨rfl,Ab ..⟩),fun st2 HU K' h'=>?_⟩;simp only[Gl,LZ];rw[HU.h d (Ab ..),hd];simp only[h1,h2,h3];exact h'
    .exact hk.elim
   .exact hk.elim
  .exact hk.elim
theorem bf{t:Nat}(hk:Gl cx true ⟨dst,.store t p x,ty,pos,after,gd⟩ st K)(hf:FH cx ⟨dst,.store t p x,ty,pos,after,gd⟩ st=some (R,w)) :
  EE cx ⟨dst,.store t p x,ty,pos,after,gd⟩ st R w K:=by
 simp only[Gl]at hk;have hn:∀st2,JS ⟨dst,.store t p x,ty,pos,after,gd⟩ R st st2->ev st2.t p=ev st.t p/\ev st2.t x=ev st.t x:=fun st2 ha=>⟨ha.t p (by simp[Op.operands]),ha.t x (by simp[Op.operands])⟩;unfold PA at hk;split at hk
 .exact hk.elim
 .rename_i DJ;obtain⟨cs,c1,c2,c3⟩:=O0 hk;simp only[FH]at hf;split at hf
  .rename_i r off hp;split at hf
   .cases hf
   .rename_i hm;cases hf;rw[hp]at c1;simp only at c1;split at c1
    .rename_i EJ hr;obtain⟨Is,hk'⟩:=c1;rw[hm]at hk';refine⟨_,some (r,_),hk',fun r o' e=>(by cases e;exact⟨rfl,Ab ..⟩),fun st2 HU K' h'=>?_⟩;simp only[Gl,PA,(hn st2 HU).1,(hn st2 HU).2];refine c2 _ ?_;rw[hp];simp only[HU.h r (Ab ..),hr,hm];exact⟨Is,h'⟩
    .exact c1.elim
  .rename_i r n sz i off hp;cases hf;rw[hp]at c1;simp only at c1;split at c1
   .rename_i Hb es hr;split at c1
    .rename_i hs;obtain⟨Is,cell,e1,e2,hk'⟩:=c1;split at hk'
     .rename_i j m;refine⟨_,some (r,_),hk',fun r o' e=>(by cases e;exact⟨rfl,Ab ..⟩),fun st2 HU K' h'=>?_⟩;simp only[Gl,PA,(hn st2 HU).1,(hn st2 HU).2];refine c2 _ ?_;rw[hp];simp only[HU.h r (Ab ..),hr,hs];exact⟨Is,cell,e1,e2,h'⟩
     .rename_i Ok;refine⟨_,some (r,_),hk',fun r o' e=>(by cases e;exact⟨rfl,Ab ..⟩),fun st2 HU K' h'=>?_⟩;simp only[Gl,PA,(hn st2 HU).1,(hn st2 HU).2];refine c2 _ ?_;rw[hp];simp only[HU.h r (Ab ..),hr,hs];refine⟨Is,cell,e1,e2,?_⟩;rw[c3 st.h st2.h (fun r hr=>HU.h r (Ah _ hr))];exact h'
    .exact c1.elim
   .exact c1.elim
  .cases hf
theorem TA{t:Nat}{m k:Operand}(hk:Gl cx true ⟨dst,.mapUpdate t m k x,ty,pos,after,gd⟩ st K)(hf:FH cx ⟨dst,.mapUpdate t m k x,ty,pos,after,gd⟩ st=some (R,w)) :
  EE cx ⟨dst,.mapUpdate t m k x,ty,pos,after,gd⟩ st R w K:=by
 simp only[Gl]at hk;have hn:∀st2,JS ⟨dst,.mapUpdate t m k x,ty,pos,after,gd⟩ R st st2->ev st2.t m=ev st.t m/\ev st2.t k=ev st.t k/\ev st2.t x=ev st.t x:=fun st2 ha=>⟨ha.t m (by simp[Op.operands]),ha.t k (by simp[Op.operands]),ha.t x (by simp[Op.operands])⟩;simp only[FH]at hf;split at hf
 .rename_i r hm;cases hf;unfold H3 at hk;rw[hm]at hk;simp only at hk;split at hk
  .rename_i sh Ch hr;unfold Lw at hk;split at hk
   .rename_i kt e h1;split at hk
    .rename_i sh' h2;split at hk
     .rename_i h3;split at hk
      .rename_i kx h4;split at hk
       .rename_i h5;refine⟨_,some (r,_),hk,fun r o' e=>(by cases e;exact⟨rfl,Ab ..⟩),fun st2 HU K' h'=>?_⟩;obtain⟨n1,n2,n3⟩:=hn st2 HU;simp only[Gl,H3,n1,n2,n3,hm,HU.h r (Ab ..),hr,Lw,h1,h2,h3,h4,h5];rw[Mb (h:=st.h) (h2:=st2.h) (fun r hr=>HU.h r (Ah _ hr))];exact h'
       .exact hk.elim
      .exact hk.elim
     .exact hk.elim
    .exact hk.elim
   .exact hk.elim
  .rename_i sh Ch hr;unfold Lw at hk;split at hk
   .rename_i kt e h1;split at hk
    .rename_i sh' h2;split at hk
     .rename_i h3;split at hk
      .rename_i kx h4;split at hk
       .rename_i h5;refine⟨_,some (r,_),hk,fun r o' e=>(by cases e;exact⟨rfl,Ab ..⟩),fun st2 HU K' h'=>?_⟩;obtain⟨n1,n2,n3⟩:=hn st2 HU;simp only[Gl,H3,n1,n2,n3,hm,HU.h r (Ab ..),hr,Lw,h1,h2,h3,h4,h5];exact h'
       .exact hk.elim
      .exact hk.elim
     .exact hk.elim
    .exact hk.elim
   .exact hk.elim
  .exact hk.elim
 .cases hf
theorem hJ{A B:(AV->Prop)->Prop}(ha:GG A)(hb:GG B):GG fun K=>A K\/B K:=by
 intro K hk;rcases hk with hk|hk
 .obtain⟨v,h1,h2⟩:=ha K hk;exact⟨v,h1,fun K' h=>.inl (h2 K' h)⟩
 .obtain⟨v,h1,h2⟩:=hb K hk;exact⟨v,h1,fun K' h=>.inr (h2 K' h)⟩
theorem UX{fn:Fn}{first cap:Array Operand}(hk:Gl cx true ⟨dst,.makeFunc fn first cap,ty,pos,after,gd⟩ st K)(hf:FH cx ⟨dst,.makeFunc fn first cap,ty,pos,after,gd⟩ st=some (R,w)) :
  EE cx ⟨dst,.makeFunc fn first cap,ty,pos,after,gd⟩ st R w K:=by
 simp only[Gl]at hk;simp only[FH]at hf;cases hf;unfold LY at hk;split at hk
 .rename_i f h1;refine⟨_,none,hk,fun r o' e=>(by cases e),fun st2 HU K' h'=>?_⟩;simp only[Gl,h1,LY]
  have:cap.toList.map (fun x=>rsv st2.h (ev st2.t x))=cap.toList.map (fun x=>rsv st.h (ev st.t x)):=Bg fun x hx=>by
   rw[HU.t x (by simp only[Op.operands,T8];exact .inr (by simpa using hx))];exact oW fun r hr=>HU.h r (bO (Ai.2 ⟨x,hx,rfl⟩) r hr)
  rw[this];exact h'
 .exact hk.elim
end
section
variable {cx:Cx}{dst:Option Nat}{ty:Nat}{pos:String}{after:Array Edge}{gd:Option (Nat×Bool)}{st:St}{R:List Nat}{w:Option Nat}{K:HK}
theorem dT{t:Nat}(hk:Gl cx true ⟨dst,.load t p,ty,pos,after,gd⟩ st K)(hf:FH cx ⟨dst,.load t p,ty,pos,after,gd⟩ st=some (R,w)):EE cx ⟨dst,.load t p,ty,pos,after,gd⟩ st R w K:=by
 simp only[Gl]at hk;have hn:∀st2,JS ⟨dst,.load t p,ty,pos,after,gd⟩ R st st2->ev st2.t p=ev st.t p:=fun st2 ha=>ha.t p (by simp[Op.operands]);simp only[FH]at hf;unfold Jb at hk;split at hf
 .rename_i cs hp;cases hf;rw[hp]at hk;simp only at hk;exact .pick (Jf _ _ _) hk fun st2 ha K' h=>by simp only[Gl,Jb,hn st2 ha,hp];exact h
 .rename_i r off hp;cases hf;rw[hp]at hk;simp only at hk;split at hk
  .rename_i cs hr;exact .pick (Jf _ _ _) hk fun st2 ha K' h=>by simp only[Gl,Jb,hn st2 ha,hp,ha.h r (Ab ..),hr];exact h
  .rename_i cs hr;exact .pick (Jf _ _ _) hk fun st2 ha K' h=>by simp only[Gl,Jb,hn st2 ha,hp,ha.h r (Ab ..),hr];exact h
  .exact hk.elim
 .rename_i r n sz i off hp;cases hf;rw[hp]at hk;simp only at hk;split at hk
  .rename_i Hb es hr;split at hk
   .rename_i hs;exact .pick (DL (Oe fun _=>DL (Jf _ _ _))) hk fun st2 ha K' h=>by simp only[Gl,Jb,hn st2 ha,hp,ha.h r (Ab ..),hr,hs];exact h
   .exact hk.elim
  .rename_i Hb es i' c av hr;split at hk
   .rename_i hs;exact .pick (DL (Jf _ _ _)) hk fun st2 ha K' h=>by simp only[Gl,Jb,hn st2 ha,hp,ha.h r (Ab ..),hr,hs];exact h
   .exact hk.elim
  .exact hk.elim
 .cases hf
theorem Y7(hk:Gl cx true ⟨dst,.assign x,ty,pos,after,gd⟩ st K)(hf:FH cx ⟨dst,.assign x,ty,pos,after,gd⟩ st=some (R,w)):EE cx ⟨dst,.assign x,ty,pos,after,gd⟩ st R w K:=by
 simp only[Gl]at hk;have hn:∀st2,JS ⟨dst,.assign x,ty,pos,after,gd⟩ R st st2->ev st2.t x=ev st.t x:=fun st2 ha=>ha.t x (by simp[Op.operands]);simp only[FH]at hf;split at hf
 .cases hf
 .rename_i hx;cases hf;have same:∃y,∀(h:Nat->HO) (K:HK),PT cx dst h (ev st.t x) K↔K y h:=by
   unfold PT;cases dst with
   |none=>exact⟨_,fun _ _=>Sx⟩
   |some d=>
    simp only;cases Hl cx.pl.tok d with
    |some sz=>
     simp only;cases Nat.beq sz 0 with
     |true=>exact⟨_,fun _ _=>Sx⟩
     |false=>
      refine⟨ev st.t x,fun h K=>?_⟩;simp only;split
      .rename_i e;exact absurd e (hx _ _ _)
      .exact Sx
    |none=>
     simp only;cases Hl cx.pl.arr d with
     |some sz=>
      refine⟨ev st.t x,fun h K=>?_⟩;simp only;split
      .rename_i e;exact absurd e (hx _ _ _)
      .exact Sx
     |none=>exact⟨_,fun _ _=>Sx⟩
  obtain⟨y,same⟩:=same;exact .pick (Du y) ((same _ _).1 hk) fun st2 ha K' h=>by simp only[Gl];rw[hn st2 ha];exact(same _ _).2 h
theorem SL{t:Nat}{lo hi mx:Option Operand}(hp:OV cx.pl.tok dst=none)(hk:Gl cx true ⟨dst,.slice t x lo hi mx,ty,pos,after,gd⟩ st K)(hf:FH cx ⟨dst,.slice t x lo hi mx,ty,pos,after,gd⟩ st=some (R,w)) :
  EE cx ⟨dst,.slice t x lo hi mx,ty,pos,after,gd⟩ st R w K:=by
 simp only[Gl,hp]at hk;have hn:∀st2,JS ⟨dst,.slice t x lo hi mx,ty,pos,after,gd⟩ R st st2->ev st2.t x=ev st.t x/\Cs st2.t lo=Cs st.t lo/\Cs st2.t hi=Cs st.t hi/\Cs st2.t mx=Cs st.t mx:=by
  intro st2 ha;have opt:∀y:Option Operand,(∀z,y=some z->ev st2.t z=ev st.t z)->Cs st2.t y=Cs st.t y:=by
   intro y hy;cases y with
   |none=>rfl
   |some z=>simp only[Cs];rw[hy z rfl]
  exact⟨ha.t x (by simp[Op.operands]),opt lo (fun z e=>ha.t z (by simp[Op.operands,e])),opt hi (fun z e=>ha.t z (by simp[Op.operands,e])),opt mx (fun z e=>ha.t z (by simp[Op.operands,e]))⟩
 simp only[FH,hp]at hf;split at hf
 .cases hf
 .rename_i hx;cases hf;have e3:Cs st.t none=some none:=rfl
  have I7:GG (fun K1=>G8 cx dst st.h t (ev st.t x) (Cs st.t lo) (Cs st.t hi) (some none) fun v _=>K1 v) /\
    ∀(h:Nat->HO) (K:HK),G8 cx dst h t (ev st.t x) (Cs st.t lo) (Cs st.t hi) (some none) K↔G8 cx dst st.h t (ev st.t x) (Cs st.t lo) (Cs st.t hi) (some none) (fun v _=>K v h):=by
   generalize ev st.t x=X at hx;unfold G8;constructor
   .repeat' split
    all_goals first|exact CT|exact DL (Du _)|exact DL (DL (Du _))|skip
    all_goals first|(rename_i e;cases e;done)|skip
    all_goals (exfalso;exact hx _ _ rfl)
   .intro h K
    repeat' split
    all_goals first|exact Sx|skip
    all_goals exfalso
    all_goals first|exact hx _ _ rfl|(rename some none=some (some _)=>e4;cases e4)
  rw[e3]at hk;exact .pick I7.1 ((I7.2 _ _).1 hk) fun st2 ha K' h=>by
   obtain⟨n1,n2,n3,n4⟩:=hn st2 ha;simp only[Gl,hp];rw[n1,n2,n3,n4,e3];exact(I7.2 _ _).2 h
 .rename_i y tk es hx;obtain⟨d,rfl,e0⟩:=Jy hf;cases e0;rw[hx]at hk;unfold G8 at hk;split at hk
  .rename_i IJ Nb tC e1 e2 e3;split at hk
   .split at hk<;>first|exact hk.elim|(rename_i e;cases e)
   .rename_i e he;split at hk
    .exact hk.elim
    .rename_i k ES;simp only at hk;split at hk
     .exfalso
      rename_i e4;simp only[Cs]at e3;split at e3<;>cases e3
     .rename_i m;split at hk
      .rename some d=some _=>e5
       cases e5
       split at hk
       .rename_i uY;refine⟨_,none,hk.2.2,fun r o' e=>(by cases e),fun st2 HU K' h'=>?_⟩;obtain⟨n1,n2,n3,n4⟩:=hn st2 HU;simp only[Gl,hp];rw[n1,n2,n3,n4,hx,e1,e2,e3];unfold G8;simp only[he];split
        .rename_i e0;rw[ES]at e0;cases e0
        .simp only[uY];exact⟨hk.1,hk.2.1,h'⟩
       rename_i uY;split at hk
       .rename_i hd;refine⟨_,some (d,_),hk.2.2,fun r o' e=>(by cases e;exact⟨rfl,Ab ..⟩),fun st2 HU K' h'=>?_⟩;obtain⟨n1,n2,n3,n4⟩:=hn st2 HU;simp only[Gl,hp];rw[n1,n2,n3,n4,hx,e1,e2,e3];unfold G8;simp only[he];split
        .rename_i e0;rw[ES]at e0;cases e0
        .simp only[uY];rw[HU.h d (Ab ..),hd];exact⟨hk.1,hk.2.1,h'⟩
       .exact hk.elim
      .exact hk.elim
   .exact hk.elim
  .exact hk.elim
 .cases hf
theorem jz{t:Nat}{lo hi mx:Option Operand}{p:Nat}(hp:OV cx.pl.tok dst=some p)(hk:Gl cx true ⟨dst,.slice t x lo hi mx,ty,pos,after,gd⟩ st K)(hf:FH cx ⟨dst,.slice t x lo hi mx,ty,pos,after,gd⟩ st=some (R,w)) :
  TM cx ⟨dst,.slice t x lo hi mx,ty,pos,after,gd⟩ st R w K:=by
 simp only[Gl,hp]at hk;simp only[FH,hp]at hf;obtain⟨d',r,n,hd,hx,e0⟩:=dR hf;cases e0;cases dst with
 |none=>cases hd
 |some d=>
 cases hd
 unfold QX at hk;split at hk
 .rw[hx]at hk;unfold oJ at hk;split at hk
  .rename_i d0 Nb e1 e2;cases e1;split at hk
   .rename_i e he;split at hk
    .exact hk.elim
    .rename_i k ES;simp only at hk;split at hk
     .rename_i sz es hr;split at hk
      .rename_i hd;split at hk
       .rename_i q1 q3;obtain⟨h1,hk⟩:=hk;have hr8:r<10000000/\0<KZ cx d:=by simpa using q3
        obtain⟨hr7,hz⟩:=hr8;refine⟨_,[(r,.dead),(KZ cx d,_)],hk,fun r' o' e=>?_,fun st2 ha K' h'=>?_⟩
        .rcases Ay.1 e with e|e
         .cases e
          refine⟨.inr (.inl ⟨by omega,.inl ?_⟩),Ab ..⟩;rw[Nat.add_mul_mod_self_left,Nat.mod_eq_of_lt hr7]
         .obtain e:=Ar.1 e;cases e;refine⟨.inr (.inl ⟨by omega,.inr ?_⟩),Ah _ (Ab ..)⟩;rw[Nat.add_mul_div_left _ _ Cl,Nat.div_eq_of_lt hr7,Bb]
        .have o1:Cs st2.t hi=Cs st.t hi:=by
          cases hi with
          |none=>rfl
          |some z=>simp only[Cs];rw[ha.t z (by simp[Op.operands])]
         simp only[Gl,hp];unfold QX;rw[ha.t x (by simp[Op.operands]),o1,hx,e2];unfold oJ;simp only[he];split
         .rename_i e0;rw[ES]at e0;cases e0
         .simp only[ha.h r (Ab ..),hr,ha.h (KZ cx d) (Ah _ (Ab ..)),hd,q1,q3];exact⟨h1,h'⟩
       .exact hk.elim
      .exact hk.elim
     .exact hk.elim
   .exact hk.elim
  .exact hk.elim
 .exact hk.elim
theorem Y6{s:Operand}{Hz:Array TypeId}(hk:Gl cx true ⟨dst,.call ⟨.builtin .append,#[s,x],Hz⟩,ty,pos,after,gd⟩ st K)(hf:FH cx ⟨dst,.call ⟨.builtin .append,#[s,x],Hz⟩,ty,pos,after,gd⟩ st=some (R,w)) :
  EE cx ⟨dst,.call ⟨.builtin .append,#[s,x],Hz⟩,ty,pos,after,gd⟩ st R w K:=by
 have hk:Gy cx dst st.h .append Hz.toList [ev st.t s,ev st.t x] K:=hk;have hf:Y5 cx dst (ev st.t s) (ev st.t x)=some (R,w):=hf;have hn:∀st2,JS ⟨dst,.call ⟨.builtin .append,#[s,x],Hz⟩,ty,pos,after,gd⟩ R st st2->ev st2.t s=ev st.t s/\ev st2.t x=ev st.t x:=fun st2 ha=>
  ⟨ha.t s (by simp[Op.operands,Call.operands]),ha.t x (by simp[Op.operands,Call.operands])⟩
 have Lt:∀st2,JS ⟨dst,.call ⟨.builtin .append,#[s,x],Hz⟩,ty,pos,after,gd⟩ R st st2->∀K' : HK,Gy cx dst st2.h .append Hz.toList [ev st.t s,ev st.t x] K'->Gl cx true ⟨dst,.call ⟨.builtin .append,#[s,x],Hz⟩,ty,pos,after,gd⟩ st2 K':=by
  intro st2 ha K' h;rw[<-(hn st2 ha).1,<-(hn st2 ha).2]at h;exact h
 generalize Hz.toList=l at hk Lt
 match l,hk,Lt with
 | [t,t'],hk,Lt=>
  simp only[Gy]at hk Lt;split at hk
  .rename_i ht;simp only[ht]at Lt;unfold Jh at hk Lt;split at hk
   .rename_i e he;simp only[he]at Lt;split at hk
    .exact hk.elim
    .rename_i hz;simp only[hz]at Lt;split at hk
     .exact hk.elim
     .rename_i k ES;obtain⟨es2,q1,q2⟩:=dK hk;have xL:∀d,R=d::jW (ev st.t x)->∀st2,JS ⟨dst,.call ⟨.builtin .append,#[s,x],Hz⟩,ty,pos,after,gd⟩ R st st2->∀r n,ev st.t x=.msl r n->st2.h r=st.h r:=fun d hR st2 ha r n e=>ha.h r (by rw[hR,e];simp[jW]);unfold Y5 at hf;split at hf
      .rename_i hs;obtain⟨d,jE,e0⟩:=Jy hf;cases e0;rw[hs]at q1 Lt;simp only at q1 Lt;obtain⟨d',hd,v,y,q3,q4⟩:=Jk q1.2;rw[jE]at hd;cases hd;refine⟨v,some (d,y),q3,fun r o' e=>(by cases e;exact⟨rfl,Ab ..⟩),fun st2 HU K' h'=>Lt st2 HU K' ?_⟩;split
       .rename_i e0;rw[ES]at e0;cases e0
       .exact q2 st2.h (xL d rfl st2 HU) _ ⟨q1.1,q4 st2.h (HU.h d (Ab ..)) K' h'⟩
      .rename_i Hb es hs;obtain⟨d,jE,e0⟩:=Jy hf;cases e0;rw[hs]at q1 Lt;simp only at q1 Lt;split at q1
       .rename_i h1;obtain⟨d',hd,v,y,q3,q4⟩:=Jk q1.2;rw[jE]at hd;cases hd;refine⟨v,some (d,y),q3,fun r o' e=>(by cases e;exact⟨rfl,Ab ..⟩),fun st2 HU K' h'=>Lt st2 HU K' ?_⟩;split
        .rename_i e0;rw[ES]at e0;cases e0
        .refine q2 st2.h (xL d rfl st2 HU) _ ?_;simp only[h1];exact⟨q1.1,q4 st2.h (HU.h d (Ab ..)) K' h'⟩
       .exact q1.elim
      .rename_i r Hb es hs;cases hf;rw[hs]at q1 Lt;simp only at q1 Lt;split at q1
       .rename_i sz n hr;split at q1
        .rename_i h1 h2;refine⟨_,some (r,_),q1.2,fun r o' e=>(by cases e;exact⟨rfl,Ab ..⟩),fun st2 HU K' h'=>Lt st2 HU K' ?_⟩;split
         .rename_i e0;rw[ES]at e0;cases e0
         .refine q2 st2.h (xL r rfl st2 HU) _ ?_;simp only[HU.h r (Ab ..),hr,h1,h2];exact⟨q1.1,h'⟩
        .exact q1.elim
       .exact q1.elim
      .rename_i r n hs;cases hf;rw[hs]at q1 Lt;simp only at q1 Lt;split at q1
       .rename_i sz es hr;split at q1
        .rename_i h1;refine⟨_,some (r,_),q1.2,fun r o' e=>(by cases e;exact⟨rfl,Ab ..⟩),fun st2 HU K' h'=>Lt st2 HU K' ?_⟩;split
         .rename_i e0;rw[ES]at e0;cases e0
         .refine q2 st2.h (xL r rfl st2 HU) _ ?_;simp only[HU.h r (Ab ..),hr,h1];exact⟨q1.1,h'⟩
        .exact q1.elim
       .exact q1.elim
      .cases hf
   .exact hk.elim
  .exact hk.elim
 | [],hk,_=>exact hk.elim
 | [_],hk,_=>exact hk.elim
 |_::_::_::_,hk,_=>exact hk.elim
theorem X4(t:Nat):GG (LD T t):=by
 unfold LD
 repeat' split
 all_goals first|exact CT|exact Du _
theorem VL(ty:Nat)(ok:Bool)(Ch:List (Value×AV))(kx:Value):GG (Nv T ty ok Ch kx):=by
 unfold Nv
 repeat' split
 .refine hJ (Oe fun a=>DL (Du _)) (DL ?_);intro K hk;obtain⟨v,h1,h2⟩:=X4 T _ _ hk;exact⟨_,h1,fun K' h=>h2 _ h⟩
 .exact hJ (Oe fun a=>DL (Du _)) (DL (X4 T _))
 .exact CT
theorem cy(ty:Nat)(sh:E8)(k:AV){F:Value->(AV->Prop)->Prop}(h:∀x,GG (F x)):GG fun K=>Lw T ty sh k fun kx=>F kx K:=by
 unfold Lw
 repeat' split
 all_goals first|exact CT|exact h _
theorem Y8{t:Nat}{m k:Operand}{ok:Bool}(hk:Gl cx true ⟨dst,.lookup t m k ok,ty,pos,after,gd⟩ st K)(hf:FH cx ⟨dst,.lookup t m k ok,ty,pos,after,gd⟩ st=some (R,w)) :
  EE cx ⟨dst,.lookup t m k ok,ty,pos,after,gd⟩ st R w K:=by
 simp only[Gl]at hk;have hn:∀st2,JS ⟨dst,.lookup t m k ok,ty,pos,after,gd⟩ R st st2->ev st2.t m=ev st.t m/\ev st2.t k=ev st.t k:=fun st2 ha=>⟨ha.t m (by simp[Op.operands]),ha.t k (by simp[Op.operands])⟩;simp only[FH]at hf;unfold N4 at hk;split at hf
 .rename_i sh Ch hm;cases hf;rw[hm]at hk;simp only at hk;exact .pick (cy _ _ _ _ fun _=>VL _ _ _ _ _) hk fun st2 ha K' h=>by simp only[Gl,N4,hn st2 ha,hm];exact h
 .rename_i r hm;cases hf;rw[hm]at hk;simp only at hk;split at hk
  all_goals first|exact hk.elim|(rename_i e;exact .pick (cy _ _ _ _ fun _=>VL _ _ _ _ _) hk fun st2 ha K' h=>by simp only[Gl,N4,hn st2 ha,hm,ha.h r (Ab ..),e];exact h)
 .cases hf
theorem oF(t:Nat)(h:Nat->HO)(x:AV):GG (SZ T t h x):=by
 unfold SZ
 repeat' split
 all_goals first|exact CT|exact Du _
theorem vU{T:Ha}{t:Nat}{h h2:Nat->HO}{x:AV}(e:∀r,x=.mref r->h2 r=h r){K:AV->Prop}:SZ T t h2 x K=SZ T t h x K:=by
 cases x<;>first|rfl|skip
 rename_i r;unfold SZ;simp only[e r rfl]
theorem jy{Hz:Array TypeId}(hk:Gl cx true ⟨dst,.call ⟨.builtin .len,#[x],Hz⟩,ty,pos,after,gd⟩ st K)(hf:FH cx ⟨dst,.call ⟨.builtin .len,#[x],Hz⟩,ty,pos,after,gd⟩ st=some (R,w)) :
  EE cx ⟨dst,.call ⟨.builtin .len,#[x],Hz⟩,ty,pos,after,gd⟩ st R w K:=by
 have hk:Gy cx dst st.h .len Hz.toList [ev st.t x] K:=hk;have hf:HL cx dst (.builtin .len) st.t [ev st.t x]=some (R,w):=hf;have hn:∀st2,JS ⟨dst,.call ⟨.builtin .len,#[x],Hz⟩,ty,pos,after,gd⟩ R st st2->ev st2.t x=ev st.t x:=fun st2 ha=>ha.t x (by simp[Op.operands,Call.operands]);have Lt:∀st2,JS ⟨dst,.call ⟨.builtin .len,#[x],Hz⟩,ty,pos,after,gd⟩ R st st2->∀K' : HK,Gy cx dst st2.h .len Hz.toList [ev st.t x] K'->Gl cx true ⟨dst,.call ⟨.builtin .len,#[x],Hz⟩,ty,pos,after,gd⟩ st2 K':=by
  intro st2 ha K' h;rw[<-hn st2 ha]at h;exact h
 generalize Hz.toList=l at hk Lt
 match l,hk,Lt with
 | [t],hk,Lt=>
  have hR:∀r,ev st.t x=.mref r->r∈R:=fun r e=>by
   rw[e]at hf;cases hf;exact Ab ..
  have hw:w=none:=by
   unfold HL at hf;split at hf<;>first|(cases hf;rfl)|(rename_i e;cases e)|(rename_i e _;cases e)|skip
   all_goals (cases hf)
  subst hw;exact .pick (oF _ _ _ _) hk fun st2 ha K' h=>Lt st2 ha K' (by
   simp only[Gy];rw[vU fun r e=>ha.h r (hR r e)];exact h)
 | [],hk,_=>exact hk.elim
 |_::_::_,hk,_=>exact hk.elim
end
theorem rz{l:List Nat}{n:Nat}(h:JO l n=true):n∈l:=by
 induction l with
 |nil=>cases h
 |cons a l ih=>
  unfold JO at h
  by_cases e:a=n
  .exact e▸Ab ..
  .rw[Dd e]at h;exact Ah _ (ih h)
theorem aJ(G:Nat->HO):∀(σ:J6) (h:Nat->HO),EK σ=true->(fun i=>match CI σ i with|some j=>G j|none=>h i)=I5 h (σ.map fun p=>(p.1,G p.2))
 | [],h,_=>rfl
 |(i,j)::r,h,hσ=>by
  unfold EK at hσ;simp only[Af]at hσ;have ih:=aJ G r (A3 h i (G j)) hσ.2;show _=I5 (A3 h i (G j)) (r.map fun p=>(p.1,G p.2));rw[<-ih]
  funext i'
  have hn:CI r i=none:=by
   have:=hσ.1.1.1
   cases e:CI r i with
   |none=>rfl
   |some k=>rw[e]at this;simp at this
  by_cases e:i'=i
  .subst e;have e1:CI ((i',j)::r) i'=some j:=by unfold CI;rw[Ds];rfl
   rw[e1,hn];show G j=A3 h i' (G j) i';unfold A3;rw[Ds];rfl
  .have e1:CI ((i,j)::r) i'=CI r i':=by
    show(bif Nat.beq i i' then some j else CI r i')=_;rw[Dd (Wz e)];rfl
   rw[e1];cases CI r i' with
   |some k=>rfl
   |none=>show h i'=A3 h i (G j) i';unfold A3;rw[Dd e];rfl
theorem Xp{σ:J6}{d:Nat}(hσ:EK σ=true){h h' : Nat->HO}:Eu σ d 0 h h'=I5 h (σ.map fun p=>(p.1,(h' p.2).ren (FA σ d 0) h')):=by
 rw[<-aJ (fun j=>(h' j).ren (FA σ d 0) h') σ h hσ]
 funext i
 unfold Eu;cases CI σ i with
 |some j=>rfl
 |none=>
  have:(Nat.ble (BG d 0) i&&Nat.blt i (BG d 0))=false:=by
   rw[AM];simp only[XX,Af,Dw,CB];omega
  simp only[this]
section
variable {cx:Cx}{op:Op}{dst:Option Nat}{ty:Nat}{pos:String}{after:Array Edge}{gd:Option (Nat×Bool)}{st:St}{R:List Nat}{w:Option Nat}{K:HK}
theorem EE.toL(h:EE cx ⟨dst,op,ty,pos,after,gd⟩ st R w K):TM cx ⟨dst,op,ty,pos,after,gd⟩ st R w K:=by
 obtain⟨v,e,h1,h2,h3⟩:=h;cases e with
 |none=>exact⟨v,[],h1,fun r o' e=>(by cases e),h3⟩
 |some p=>exact⟨v,[p],h1,fun r o' e=>by
   obtain rfl:=Ar.1 e;obtain⟨a,b⟩:=h2 r o' rfl;exact⟨by rw[a];exact .inl rfl,b⟩,h3⟩
theorem dS{c:Call}(hk:Gl cx true ⟨dst,.call c,ty,pos,after,gd⟩ st K)(hf:FH cx ⟨dst,.call c,ty,pos,after,gd⟩ st=some (R,w)):TM cx ⟨dst,.call c,ty,pos,after,gd⟩ st R w K:=by
 obtain⟨uJ,args,Hz⟩:=c;have KA:∀st2,JS ⟨dst,.call ⟨uJ,args,Hz⟩,ty,pos,after,gd⟩ R st st2->args.toList.map (ev st2.t)=args.toList.map (ev st.t):=fun st2 ha=>
  Bg fun x hx=>ha.t x (by simp only[Op.operands,Call.operands,T8];exact .inr (by simpa using hx))
 cases uJ with
 |invoke r m=>exact hk.elim
 |value f=>
  have hk:GV cx true dst st (ev st.t f) (args.toList.map (ev st.t)) K:=hk;have hf:HL cx dst (.value f) st.t (args.toList.map (ev st.t))=some (R,w):=hf;unfold HL at hf;unfold GV at hk;simp only at hf hk;have hn:=KA;split at hf
  .rename_i gC;rw[gC]at hk;cases hf;obtain⟨res,h1,h2⟩:=hk;refine EE.toL ⟨res,none,h2,fun r o' e=>(by cases e),fun st2 ha K' h'=>?_⟩;show GV cx true dst st2 (ev st2.t f) (args.toList.map (ev st2.t)) K';rw[KA st2 ha,ha.t f (by simp[Op.operands,Call.operands])];unfold GV;simp only[gC];refine⟨res,?_,h'⟩;rw[Mb (h:=st.h) (fun r hr=>ha.h r (By _ hr)),Sn (h:=st.h) (fun r hr=>ha.h r (Bo _ hr))];exact h1
  .rename_i gC;rw[gC]at hk;simp only at hk;cases dst with
   |none=>exact hk.elim
   |some d=>
    obtain⟨n,sz,es,h1,h2,h3⟩:=hk;have hf:some (BG d 0::(ZV (ev st.t f)++Vc (args.toList.map (ev st.t))),some (BG d 0))=some (R,w):=hf;cases hf;refine EE.toL ⟨_,some (BG d 0,_),h3,fun r o' e=>(by cases e;exact⟨rfl,Ab ..⟩),fun st2 ha K' h'=>?_⟩;show GV cx true (some d) st2 (ev st2.t f) (args.toList.map (ev st2.t)) K';rw[KA st2 ha,ha.t f (by simp[Op.operands,Call.operands])];unfold GV;simp only[gC];refine⟨n,sz,es,?_,?_,h'⟩
    .have:D0 st2.h d 1=D0 st.h d 1:=by simp only[D0,ha.h (BG d 0) (Ab ..)]
     rw[this];exact h1
    .rw[Mb (h:=st.h) (fun r hr=>ha.h r (Ah _ (By _ hr))),Sn (h:=st.h) (fun r hr=>ha.h r (Ah _ (Bo _ hr)))];exact h2
  .rename_i gC;rw[gC]at hk;have hk:Tq cx 0 dst st.h (ev st.t f) (args.toList.map (ev st.t)) K:=hk;split at hf
   .rename_i r n l hl;cases hf;have I7:=hk;unfold Tq at I7;rw[hl]at I7;split at I7
    .rename_i d0 f0 r0 n0 l0 e1 e2 z1 z2;cases e2;split at I7
     .rename_i vs d9;split at I7
      .rename_i sz es hr;obtain⟨n',F2,h1,h2⟩:=I7;refine EE.toL ⟨_,some (r,_),h2,fun r o' e=>(by cases e;exact⟨rfl,Ab ..⟩),fun st2 ha K' h'=>?_⟩;show GV cx true _ st2 (ev st2.t f) (args.toList.map (ev st2.t)) K';rw[KA st2 ha,ha.t f (by simp[Op.operands,Call.operands]),hl,e1];unfold GV;simp only[gC];unfold Ra;simp only;unfold Tq;simp only[d9,ha.h r (Ab ..),hr];exact⟨n',F2,h1,h'⟩
      .exact I7.elim
     .exact I7.elim
    .exact I7.elim
   .cases hf
  .rename_i k gC;rw[gC]at hk;cases hb:Nat.beq k 1 with
   |true=>
    have Rr:Nat.beq (k+1) 2=true:=hb;have hk:Wl cx dst st (ev st.t f) (args.toList.map (ev st.t)) K:=by
     have I7:(match Nat.beq (k+1) 2 with|true=>Wl cx dst st (ev st.t f) (args.toList.map (ev st.t)) K|false=>match Nat.beq (k+1) 3 with|true=>Sv cx dst st (ev st.t f) (args.toList.map (ev st.t)) K|false=>Ra cx (k+1) dst st (ev st.t f) (args.toList.map (ev st.t)) K):=hk;rw[Rr]at I7;exact I7
    rw[hb]at hf;cases dst with
    |none=>exact hk.elim
    |some d=>
     obtain⟨sz,es,h1,h2,h3⟩:=hk;have hf:some (BG d 0::(ZV (ev st.t f)++Vc (args.toList.map (ev st.t))),some (BG d 0))=some (R,w):=hf;cases hf;refine EE.toL ⟨_,some (BG d 0,_),h3,fun r o' e=>(by cases e;exact⟨rfl,Ab ..⟩),fun st2 ha K' h'=>?_⟩;show GV cx true (some d) st2 (ev st2.t f) (args.toList.map (ev st2.t)) K';rw[KA st2 ha,ha.t f (by simp[Op.operands,Call.operands])];unfold GV;simp only[gC,Rr];refine⟨sz,es,?_,?_,h'⟩
     .have:D0 st2.h d 1=D0 st.h d 1:=by simp only[D0,ha.h (BG d 0) (Ab ..)]
      rw[this];exact h1
     .rw[Mb (h:=st.h) (fun r hr=>ha.h r (Ah _ (By _ hr))),Sn (h:=st.h) (fun r hr=>ha.h r (Ah _ (Bo _ hr)))];exact h2
   |false=>
    have Rr:Nat.beq (k+1) 2=false:=hb;rw[hb]at hf;have I7:(match Nat.beq (k+1) 2 with|true=>Wl cx dst st (ev st.t f) (args.toList.map (ev st.t)) K|false=>match Nat.beq (k+1) 3 with|true=>Sv cx dst st (ev st.t f) (args.toList.map (ev st.t)) K|false=>Ra cx (k+1) dst st (ev st.t f) (args.toList.map (ev st.t)) K):=hk;rw[Rr]at I7;cases hc:Nat.beq k 2 with
    |true=>
     have xA:Nat.beq (k+1) 3=true:=hc;rw[hc]at hf;simp only[xA]at I7;have hf:mG (args.toList.map (ev st.t))=some (R,w):=hf;unfold mG at hf;unfold Sv at I7;split at hf
     .rename_i vs d9;cases hf;split at I7
      .rename_i l lx e1 e2 z1 z2;rw[d9]at e2;cases e2;split at I7
       .rename_i r sz es iw n e3 e4;obtain⟨⟨rfl,rfl⟩,v,F2,n',h1,h2⟩:=I7;refine⟨_,[(1001,_),(1000,_)],h2,fun r' o' e=>?_,fun st2 ha K' h'=>?_⟩
        .rcases Ay.1 e with e|e
         .cases e
          exact⟨.inr (.inl ⟨by decide,.inr Cl⟩),by simp⟩
         .obtain e:=Ar.1 e;cases e;exact⟨.inr (.inl ⟨by decide,.inl Cl⟩),by simp⟩
        show GV cx true _ st2 (ev st2.t f) (args.toList.map (ev st2.t)) K';rw[KA st2 ha,ha.t f (by simp[Op.operands,Call.operands]),e1];unfold GV;simp only[gC,Rr,xA];unfold Sv;simp only[d9,ha.h 1000 B0,ha.h 1001 B0,e3,e4];exact⟨⟨trivial,trivial⟩,v,F2,n',h1,h'⟩
       .exact I7.elim
      .exact I7.elim
     .cases hf
    |false=>
    have xA:Nat.beq (k+1) 3=false:=hc;rw[hc]at hf;have d4:Ra cx (k+1) dst st (ev st.t f) (args.toList.map (ev st.t)) K:=by
     simp only[xA]at I7;exact I7
    have u7:mE k dst (args.toList.map (ev st.t))=some (R,w):=hf;unfold mE at u7;unfold Ra at d4;cases he:Nat.beq k 3 with
    |true=>
     have p7:Nat.beq (k+1) 4=true:=he;rw[he]at u7;rw[p7]at d4;have u7:some (qP,some YC)=some (R,w):=u7;have d4:bl cx dst st (ev st.t f) (args.toList.map (ev st.t)) K:=d4;cases u7;unfold bl at d4;split at d4
     .rename_i d f' e2 _ _ _;obtain⟨σ,H0,Hn,args',res,g1,g2,g3,g4⟩:=d4;simp only[Af]at g2;refine⟨_,σ.map fun p=>(p.1,(As Hn Ag p.2).ren (FA σ d 0) (As Hn Ag)),(Xp (h:=st.h) (h':=As Hn Ag) (d:=d) g2.1.1)▸g4,fun r' o' e=>?_,fun st2 ha K' h'=>?_⟩
      .obtain⟨p,hp,e⟩:=Ai.1 e;cases e;exact⟨.inr (.inr rfl),rz (A1.1 g2.2 p hp)⟩
      .show GV cx true _ st2 (ev st2.t f) (args.toList.map (ev st2.t)) K';rw[KA st2 ha,ha.t f (by simp[Op.operands,Call.operands])];unfold GV;simp only[gC,Rr,xA];unfold Ra;simp only[p7];unfold bl;rw[e2];refine⟨σ,H0,Hn,args',res,fun h2 hh=>g1 h2 fun r hr=>(hh r hr).trans (ha.h r hr),by simp only[Af];exact g2,g3,?_⟩;rw[Xp (h:=st2.h) (h':=As Hn Ag) (d:=d) g2.1.1];exact h'
     .exact d4.elim
    |false=>
    have p7:Nat.beq (k+1) 4=false:=he;rw[he]at u7;rw[p7]at d4;have hf:gq dst (args.toList.map (ev st.t))=some (R,w):=u7;have hk:Tq cx (k+1) dst st.h (ev st.t f) (args.toList.map (ev st.t)) K:=d4;obtain⟨d,r,n,l,rfl,hl,e0⟩:=dQ hf;cases e0;unfold Tq at hk;rw[hl]at hk;split at hk
    .rename_i d0 f0 r0 n0 l0 e9 e1 e2;cases e9;cases e2;split at hk
     .rename_i vs d9;split at hk
      .rename_i sz es hr;obtain⟨n',F2,h0,h1,h2⟩:=hk;have h00:=h0;simp only[Af,CB]at h00;refine⟨_,[(r,.dead),(BG d 0,_)],h2,fun r' o' e=>?_,fun st2 ha K' h'=>?_⟩
       .rcases Ay.1 e with e|e
        .cases e
         refine⟨.inr (.inl ⟨by unfold BG;omega,.inl ?_⟩),Ab ..⟩;rw[Nat.add_mul_mod_self_left,Nat.mod_eq_of_lt h00.1.2]
        .obtain e:=Ar.1 e;cases e;refine⟨.inr (.inl ⟨by unfold BG;omega,.inr ?_⟩),Ah _ (Ab ..)⟩;rw[Nat.add_mul_div_left _ _ Cl,Nat.div_eq_of_lt h00.1.2,Bb]
       show GV cx true _ st2 (ev st2.t f) (args.toList.map (ev st2.t)) K';rw[KA st2 ha,ha.t f (by simp[Op.operands,Call.operands]),hl,e1];unfold GV;simp only[gC,Rr,xA];unfold Ra;simp only[p7];unfold Tq;simp only[d9,ha.h r (Ab ..),hr]
       have:D0 st2.h d 1=D0 st.h d 1:=by simp only[D0,ha.h (BG d 0) (Ah _ (Ab ..))]
       exact⟨n',F2,by rw[this];exact h0,h1,h'⟩
      .exact hk.elim
     .exact hk.elim
    .exact hk.elim
 |builtin b=>
  refine EE.toL ?_;have mm:∀f:Int->Int->Int,(∀(d:Option Nat) (h:Nat->HO) (Hz:List Nat) (args:List AV) (K:HK),Gy cx d h b Hz args K=(match args with | [x,y]=>rC f x y fun v=>K v h|_=>False))->R=[]/\w=none->EE cx ⟨dst,.call ⟨.builtin b,args,Hz⟩,ty,pos,after,gd⟩ st R w K:=by
   rintro f hb ⟨rfl,rfl⟩
   have hk:Gy cx dst st.h b Hz.toList (args.toList.map (ev st.t)) K:=hk;rw[hb]at hk;split at hk
   .rename_i x y e;refine .pick (rU f x y) hk fun st2 ha K' h=>?_;show Gy cx dst st2.h b Hz.toList (args.toList.map (ev st2.t)) K';rw[hb,KA st2 ha,e];exact h
   .exact hk.elim
  cases b
  case max=>exact mm max (fun d h Hz args K=>by cases args with|nil=>rfl|cons x l=>cases l with|nil=>rfl|cons y l=>cases l<;>rfl) (by
   have hf:HL cx dst (.builtin .max) st.t (args.toList.map (ev st.t))=some (R,w):=hf;simp only[HL]at hf;cases hf;exact⟨rfl,rfl⟩)
  case min=>exact mm min (fun d h Hz args K=>by cases args with|nil=>rfl|cons x l=>cases l with|nil=>rfl|cons y l=>cases l<;>rfl) (by
   have hf:HL cx dst (.builtin .min) st.t (args.toList.map (ev st.t))=some (R,w):=hf;simp only[HL]at hf;cases hf;exact⟨rfl,rfl⟩)
  case append=>
   obtain⟨l⟩:=args
   match l,hk,hf with
   | [s,x],hk,hf=>exact Y6 hk hf
   | [],hk,hf=>cases Hz;exact hk.elim
   | [_],hk,hf=>exact hk.elim
   |_::_::_::_,hk,hf=>exact hk.elim
  case len=>
   obtain⟨l⟩:=args
   match l,hk,hf with
   | [x],hk,hf=>exact jy hk hf
   | [],hk,hf=>exact hk.elim
   |_::_::_,hk,hf=>exact hk.elim
  all_goals exact hk.elim
theorem dp{o:Oper}(hc:∀c,o.op≠.call c)(hs:(∃t x lo hi mx,o.op=.slice t x lo hi mx)->OV cx.pl.tok o.dst=none)(hk:Gl cx true o st K)(hf:FH cx o st=some (R,w)):EE cx o st R w K:=by
 obtain⟨dst,op,ty,pos,after,gd⟩:=o;cases op with
 |call c=>exact absurd rfl (hc c)
 |alloc e=>exact bc hk hf
 |box e x=>exact jx hk hf
 |buildSlice t n ps=>exact RH hk hf
 |makeSlice t n c=>exact Tz hk hf
 |makeMap t r=>exact WH hk hf
 |store t p x=>exact bf hk hf
 |mapUpdate t m k x=>exact TA hk hf
 |makeFunc fn first cap=>exact UX hk hf
 |load t p=>exact dT hk hf
 |assign x=>exact Y7 hk hf
 |slice t x lo hi mx=>exact SL (hs ⟨t,x,lo,hi,mx,rfl⟩) hk hf
 |lookup t x i ok=>exact Y8 hk hf
 |move x=>
  cases hf
  exact .pick (Du _) hk fun st2 ha K' h=>by simp only[Gl,ha.t x (by simp[Op.operands])];exact h
 |pick c a b=>
  cases hf
  exact .pick (kB _ _ _) hk fun st2 ha K' h=>by simp only[Gl,ha.t c (by simp[Op.operands]),ha.t a (by simp[Op.operands]),ha.t b (by simp[Op.operands])];exact h
 |nilCheck x=>
  cases hf
  exact .pick (oG _) hk fun st2 ha K' h=>by simp only[Gl,ha.t x (by simp[Op.operands])];exact h
 |binOp op t x y u=>
  simp only[FH]at hf;split at hf
  .cases hf
  .rename_i hx;cases hf;exact .pick (ky _ _ _ _ _ _ hx) hk fun st2 ha K' h=>by simp only[Gl,ha.t x (by simp[Op.operands]),ha.t y (by simp[Op.operands])];exact h
 |unOp op t x=>
  cases hf
  exact .pick (kD _ _) hk fun st2 ha K' h=>by simp only[Gl,ha.t x (by simp[Op.operands])];exact h
 |convert s t x=>
  cases hf
  exact .pick (kz _ _ _ _) hk fun st2 ha K' h=>by simp only[Gl,ha.t x (by simp[Op.operands])];exact h
 |fieldAddr s x f=>
  cases hf
  exact .pick (fj _ _ _ _) hk fun st2 ha K' h=>by simp only[Gl,ha.t x (by simp[Op.operands])];exact h
 |field s x f=>
  cases hf
  exact .pick (cw _ _ _ _) hk fun st2 ha K' h=>by simp only[Gl,ha.t x (by simp[Op.operands])];exact h
 |indexAddr t x i=>
  cases hf
  exact .pick (VM _ _ _ _) hk fun st2 ha K' h=>by simp only[Gl,ha.t x (by simp[Op.operands]),ha.t i (by simp[Op.operands])];exact h
 |index t x i=>
  cases hf
  exact .pick (fo _ _ _ _) hk fun st2 ha K' h=>by simp only[Gl,ha.t x (by simp[Op.operands]),ha.t i (by simp[Op.operands])];exact h
 |extract x i=>
  cases hf
  exact .pick (Zy _ _) hk fun st2 ha K' h=>by simp only[Gl,ha.t x (by simp[Op.operands])];exact h
 |build t ps=>
  cases hf
  refine .pick (fh _ _ _ _) hk fun st2 ha K' h=>?_;have hx:∀p∈ps.toList,ev st2.t p.2=ev st.t p.2:=fun p hp=>ha.t p.2 (by
   simp only[Op.operands,List.mem_toArray];exact Ai.2 ⟨p,hp,rfl⟩)
  simp only[Gl];have fill:∀(pl:Nat->Option (Nat×Nat)) (l:List (Nat×Operand)) (cs:List AV) (K:List AV->Prop),(∀p∈l,ev st2.t p.2=ev st.t p.2)->LV pl cs st2.t l K=LV pl cs st.t l K:=by
   intro pl l
   induction l with
   |nil=>intro cs K _;rfl
   |cons p l ih=>
    intro cs K hp;obtain⟨i,x⟩:=p;have h1:ev st2.t x=ev st.t x:=hp (i,x) (Ab ..);have h2:∀cs,LV pl cs st2.t l K=LV pl cs st.t l K:=fun cs=>ih cs K (fun p vz=>hp p (Ah _ vz));simp only[LV,h1,h2]
  unfold Ry at h⊢;simp only[fill _ _ _ _ hx];exact h
 |_=>cases hf
theorem iU{o:Oper}(hk:Gl cx true o st K)(hf:FH cx o st=some (R,w)):TM cx o st R w K:=by
 obtain⟨dst,op,ty,pos,after,gd⟩:=o
 by_cases h:∃c,op=.call c
 .obtain⟨c,rfl⟩:=h;exact dS hk hf
 .by_cases h2:∃t x lo hi mx,op=.slice t x lo hi mx
  .obtain⟨t,x,lo,hi,mx,rfl⟩:=h2;cases hp:OV cx.pl.tok dst with
   |none=>exact EE.toL (SL hp hk hf)
   |some p=>exact jz hp hk hf
  .exact EE.toL (dp (fun c e=>h ⟨c,e⟩) (fun e=>absurd e h2) hk hf)
end
end Go.Eng
