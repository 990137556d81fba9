/- Lemmas for the claims of this seat, without a condition: part 23 (O5). -/
import Derived.Test.YtmcbkdbfaneofaaGreatDoorFA22
set_option maxHeartbeats 4000000
namespace Go.Eng
open Go.Proofs
def Cu{α:Type}(c:α→α→Int):Nat→List α→List α→List α
 |0,_,_=>[]
 |_+1,[],[]=>[]
 |n+1,[],y::b=>y::Cu c n [] b
 |n+1,x::a,[]=>x::Cu c n a []
 |n+1,x::a,y::b=>if c x y<0 then x::Cu c n a (y::b)else if c x y=0 then y::Cu c n a b else y::Cu c n (x::a) b
theorem Hc{α:Type}(c:α→α→Int):∀(n m:Nat) (a b:List α),a.length+b.length≤n→a.length+b.length≤m→Cu c n a b=Cu c m a b
 |0,m,a,b,h,_=>by
  have ha:a=[]:=AC (by omega);have hb:b=[]:=AC (by omega);subst ha;subst hb;cases m<;>rfl
 |n+1,0,a,b,_,h=>by
  have ha:a=[]:=AC (by omega);have hb:b=[]:=AC (by omega);subst ha;subst hb;rfl
 |n+1,m+1,a,b,h,k=>by
  cases a with
  |nil =>
   cases b with
   |nil=>rfl
   |cons y b =>
    simp only[Au,AD]at h k;show y::Cu c n [] b=y::Cu c m [] b;rw[Hc c n m [] b (by simp only[AD];omega) (by simp only[AD];omega)]
  |cons x a =>
   cases b with
   |nil =>
    simp only[Au,AD]at h k;show x::Cu c n a []=x::Cu c m a [];rw[Hc c n m a [] (by simp only[AD];omega) (by simp only[AD];omega)]
   |cons y b =>
    simp only[Au]at h k;show(if c x y<0 then x::Cu c n a (y::b)else if c x y=0 then y::Cu c n a b else y::Cu c n (x::a) b)=if c x y<0 then x::Cu c m a (y::b)else if c x y=0 then y::Cu c m a b else y::Cu c m (x::a) b
    rw[Hc c n m a (y::b) (by simp only[Au];omega) (by simp only[Au];omega),Hc c n m a b (by omega) (by omega),Hc c n m (x::a) b (by simp only[Au];omega) (by simp only[Au];omega)]
def A3{α:Type}(c:α→α→Int)(a b:List α):List α:=Cu c (a.length+b.length) a b
section
variable {α:Type}{c:α→α→Int}
theorem To:A3 c [] ([]:List α)=[]:=rfl
theorem OS{a:List α}(h:0<a.length):A3 c a []=a[0]::A3 c (a.drop 1) []:=by
 cases a with
 |nil=>cases h
 |cons x a=>rfl
theorem OT{b:List α}(h:0<b.length):A3 c [] b=b[0]::A3 c [] (b.drop 1):=by
 cases b with
 |nil=>cases h
 |cons y b =>
  show Cu c (0+(b.length+1)) [] (y::b)=y::Cu c (0+b.length) [] b;rw[show 0+(b.length+1)=0+b.length+1 by omega];rfl
theorem FY{a b:List α}(ha:0<a.length)(hb:0<b.length):A3 c a b=if c a[0] b[0]<0 then a[0]::A3 c (a.drop 1) b else if c a[0] b[0]=0 then b[0]::A3 c (a.drop 1) (b.drop 1)else b[0]::A3 c a (b.drop 1):=by
 cases a with
 |nil=>cases ha
 |cons x a =>
  cases b with
  |nil=>cases hb
  |cons y b =>
   show Cu c ((a.length+1)+(b.length+1)) (x::a) (y::b)=if c x y<0 then x::Cu c (a.length+(b.length+1)) a (y::b)else if c x y=0 then y::Cu c (a.length+b.length) a b else y::Cu c ((a.length+1)+b.length) (x::a) b
   rw[show(a.length+1)+(b.length+1)=(a.length+b.length+1)+1 by omega];show(if c x y<0 then x::Cu c (a.length+b.length+1) a (y::b)else if c x y=0 then y::Cu c (a.length+b.length+1) a b else y::Cu c (a.length+b.length+1) (x::a) b)=_;rw[Hc c (a.length+b.length+1) (a.length+b.length) a b (by omega) (by omega),show a.length+(b.length+1)=a.length+b.length+1 by omega,show a.length+1+b.length=a.length+b.length+1 by omega]
theorem H8:∀(n:Nat) (a b:List α),(Cu c n a b).length≤n
 |0,_,_=>Ak _
 |n+1,[],[]=>AL _
 |n+1,[],y::b=>DO (H8 n [] b)
 |n+1,x::a,[]=>DO (H8 n a [])
 |n+1,x::a,y::b=>by
  show(if c x y<0 then x::Cu c n a (y::b)else if c x y=0 then y::Cu c n a b else y::Cu c n (x::a) b).length≤n+1;have h1:=H8 n a (y::b);have h2:=H8 n a b;have h3:=H8 n (x::a) b;split
  ·rw[Au];omega
  ·split<;>(rw[Au];omega)
theorem NM(a b:List α):(A3 c a b).length≤a.length+b.length:=H8 _ a b
theorem CX{β:Type}{f:α→β}(a:List α):((a.map f).take (((a.map f).length:Nat):Int).toNat).drop ((1:Int)).toNat=(a.drop 1).map f:=by
 rw[Cj,Dv,show((1:Int)).toNat=1 from rfl,List.map_drop]
end
abbrev Cs(r s:Rl):Int:=Gw ⟨r.path,r.ver⟩ ⟨s.path,s.ver⟩
abbrev sC{α:Type}(f:α→List AV)(a:List α):List (List AV):=((a.map f).take (((a.map f).length:Nat):Int).toNat).drop ((1:Int)).toNat
theorem De{α:Type}{f:α→List AV}{n:Nat}(hf:∀x,(f x).length=n){a:List α}(h:0<a.length):((0:Int)≤1∧(1:Int)≤((a.map f).length:Nat)∧(((a.map f).length:Nat):Int)≤((a.map f).length:Nat))∧∀cs∈a.map f,cs.length=n:=by
 refine⟨by rw[Lm];omega,fun cs hcs=>?_⟩;obtain⟨q,_,rfl⟩:=Al.1 hcs;exact hf q
theorem td{α:Type}{f:α→List AV}{l:List α}(h:¬(0:Int)<((l.map f).length:Int)):l=[]:=AC (by rw[Lm]at h;omega)
theorem mA{α:Type}{f:α→List AV}{l:List α}(h:((l.map f).length:Int)=(0:Int)):l=[]:=AC (by rw[Lm]at h;omega)
theorem yQ(a b:List Sl)(ha:Ci a)(hb:Ci b)(c:Sl→Sl→Int)(fF:Nat)(hF:∀x y,PC fF [.agg (Ae x),.agg (Ae y)] (vi (c x y))):PC 63 [sl Ae a,sl Ae b,.v (.func (.func fF) #[] #[])] (sl Ae (A3 c a b)):=by
 have ha:a.length≤1073741824:=ha;have hb:b.length≤1073741824:=hb;refine Ps ⟨[],[(7,4)],[],[],[],[],[],[],[],[],[6,7,9,12,15]⟩ Tryz.func63 rfl (Nz rfl) ?_;refine Xi {q:List Sl×List Sl×List Sl // q.2.2++A3 c q.1 q.2.1=A3 c a b∧q.2.2.length+q.1.length+q.2.1.length≤a.length+b.length} (Xi (fun q=>⟨[(0,sl Ae q.1.1),(1,sl Ae q.1.2.1),(2,.v (.func (.func fF) #[] #[])),(7,.slice (.id 7 4) (q.1.2.2.map Ae))],[(7,.tok 4 q.1.2.2.length)],Aa⟩) (Xi (fun q=>q.1.1.length+q.1.2.1.length) (Yi (Xi ⟨(a,b,[]),Ei _,by simp⟩ ?_) ?_)))
 ·exact⟨Z4,Z1,Fh,Tv⟩
 intro⟨⟨A,B,O⟩,k1,k2⟩;have k1:O++A3 c A B=A3 c a b:=k1;have k2:O.length+A.length+B.length≤a.length+b.length:=k2;refine Yi (fun h1=>?_) (fun h1=>?_)
 ·have h1:(0:Int)<((A.map Ae).length:Int):=h1;have n1:0<A.length:=by have q:=h1;rw[Lm]at q;omega
  have hA:0<A.length:=by have q:=h1;rw[Lm]at q;omega
  refine Yi (fun h2=>?_) (fun h2=>?_)
  ·have h2:((A.map Ae).length:Int)=(0:Int):=h2;have hB:0<B.length:=by have q:=h1;rw[Lm]at q;first | omega | (have q2:=h1;rw[Lm]at q2;omega)
   refine Xi ⟨[(0,sl Ae A),(1,sl Ae B),(2,.v (.func (.func fF) #[] #[])),(7,.slice (.id 7 4) (O.map Ae))],[(7,.tok 4 O.length)],Aa⟩ (Yi ⟨Z4,Z1,Fh,Tv⟩ ?_)
   refine Xi ⟨[(0,sl Ae A),(1,sl Ae B),(2,.v (.func (.func fF) #[] #[])),(7,.slice (.id 7 4) (O.map Ae)),(8,vi 1)],[(7,.tok 4 O.length)],Aa⟩ (Yi ⟨Z5,Z1,Fh,Tv⟩ ?_)
   refine Yi (fun h=>absurd h (by decide)) (fun _=>?_);refine Xi ⟨[(0,sl Ae A),(1,sl Ae B),(2,.v (.func (.func fF) #[] #[])),(7,.slice (.id 7 4) (O.map Ae)),(8,vi 1)],[(7,.tok 4 O.length)],Aa⟩ (Yi ⟨Z5,Z1,Fh,Tv⟩ ?_)
   refine Xi (Ae B[0]) (Yi (Yi (AY 0) (Ch (Ge hB))) (Yi rfl ?_));refine Yi (Nz rfl) ?_;refine Yi (Pr rfl (by omega) (by decide)) ?_;refine Yi (De (f:=Ae) (n:=4) (fun _=>rfl) hB).1 (Yi (De (f:=Ae) (n:=4) (fun _=>rfl) hB).2 ?_);refine Yi (fun h=>absurd h (by decide)) (fun _=>?_);have Wc:(A.drop 1).length=A.length-1:=Ar ..;have Wd:(B.drop 1).length=B.length-1:=Ar ..;have eA:A=[]:=mA h2;have eM:A3 c A B=B[0]::A3 c A (B.drop 1):=by rw[eA];exact OT hB
   refine Xi ⟨(A,(B.drop 1),O++[B[0]]),by show(O++[B[0]])++A3 c A (B.drop 1)=_;rw[←k1,eM,AP];rfl,by simp only[Ad,Ar,AB];omega⟩ ?_;exact⟨by show A.length+(B.drop 1).length<A.length+B.length;omega,⟨Zr,⟨(show AV.slice .none _=sl Ae (B.drop 1)from Ac (AV.slice .none) (CX B)),rfl⟩,Zr,⟨Us,rfl⟩,Tv⟩,⟨⟨Ui,rfl⟩,Tv⟩,Fh,Tv⟩
  have h2:¬(((A.map Ae).length:Int)=(0:Int)):=h2;have hA:0<A.length:=by have q:=h2;rw[Lm]at q;omega
  refine Xi ⟨[(0,sl Ae A),(1,sl Ae B),(2,.v (.func (.func fF) #[] #[])),(7,.slice (.id 7 4) (O.map Ae))],[(7,.tok 4 O.length)],Aa⟩ (Yi ⟨Z4,Z1,Fh,Tv⟩ ?_)
  refine Yi (fun h5=>?_) (fun h5=>?_)
  ·have h5:((B.map Ae).length:Int)=(0:Int):=h5;refine Xi ⟨[(0,sl Ae A),(1,sl Ae B),(2,.v (.func (.func fF) #[] #[])),(7,.slice (.id 7 4) (O.map Ae)),(8,vi (-1))],[(7,.tok 4 O.length)],Aa⟩ (Yi ⟨Z5,Z1,Fh,Tv⟩ ?_)
   refine Yi (fun _=>?_) (fun h=>absurd (by decide) h);refine Xi (Ae A[0]) (Yi (Yi (AY 0) (Ch (Ge hA))) (Yi rfl ?_));refine Yi (Nz rfl) ?_;refine Yi (Pr rfl (by omega) (by decide)) ?_;refine Yi (De (f:=Ae) (n:=4) (fun _=>rfl) hA).1 (Yi (De (f:=Ae) (n:=4) (fun _=>rfl) hA).2 ?_);have Wc:(A.drop 1).length=A.length-1:=Ar ..;have Wd:(B.drop 1).length=B.length-1:=Ar ..;have eB:B=[]:=mA h5;have eM:A3 c A B=A[0]::A3 c (A.drop 1) B:=by rw[eB];exact OS hA
   refine Xi ⟨((A.drop 1),B,O++[A[0]]),by show(O++[A[0]])++A3 c (A.drop 1) B=_;rw[←k1,eM,AP];rfl,by simp only[Ad,Ar,AB];omega⟩ ?_;exact⟨by show(A.drop 1).length+B.length<A.length+B.length;omega,⟨⟨(show AV.slice .none _=sl Ae (A.drop 1)from Ac (AV.slice .none) (CX A)),rfl⟩,Zr,Zr,⟨Us,rfl⟩,Tv⟩,⟨⟨Ui,rfl⟩,Tv⟩,Fh,Tv⟩
  have h5:¬(((B.map Ae).length:Int)=(0:Int)):=h5;have hB:0<B.length:=by have q:=h5;rw[Lm]at q;omega
  refine Xi (Ae A[0]) (Yi (Yi (AY 0) (Ch (Ge hA))) (Yi rfl ?_));refine Yi (Nz rfl) ?_;refine Xi (Ae B[0]) (Yi (Yi (AY 0) (Ch (Ge hB))) (Yi rfl ?_));refine Yi (Nz rfl) ?_;refine Xi _ (Yi (hF A[0] B[0]) ?_);refine Yi (by kernel_rfl) ?_;refine Xi ⟨[(0,sl Ae A),(1,sl Ae B),(2,.v (.func (.func fF) #[] #[])),(7,.slice (.id 7 4) (O.map Ae)),(8,vi (c A[0] B[0]))],[(7,.tok 4 O.length)],Aa⟩ (Yi ⟨Z5,Z1,Fh,Tv⟩ ?_)
  refine Yi (fun h8=>?_) (fun h8=>?_)
  ·have h8:((c A[0] B[0]):Int)<(0:Int):=h8;refine Xi (Ae A[0]) (Yi (Yi (AY 0) (Ch (Ge hA))) (Yi rfl ?_));refine Yi (Nz rfl) ?_;refine Yi (Pr rfl (by omega) (by decide)) ?_;refine Yi (De (f:=Ae) (n:=4) (fun _=>rfl) hA).1 (Yi (De (f:=Ae) (n:=4) (fun _=>rfl) hA).2 ?_);have Wc:(A.drop 1).length=A.length-1:=Ar ..;have Wd:(B.drop 1).length=B.length-1:=Ar ..;have eM:A3 c A B=A[0]::A3 c (A.drop 1) B:=by rw[FY hA hB,Aw h8]
   refine Xi ⟨((A.drop 1),B,O++[A[0]]),by show(O++[A[0]])++A3 c (A.drop 1) B=_;rw[←k1,eM,AP];rfl,by simp only[Ad,Ar,AB];omega⟩ ?_;exact⟨by show(A.drop 1).length+B.length<A.length+B.length;omega,⟨⟨(show AV.slice .none _=sl Ae (A.drop 1)from Ac (AV.slice .none) (CX A)),rfl⟩,Zr,Zr,⟨Us,rfl⟩,Tv⟩,⟨⟨Ui,rfl⟩,Tv⟩,Fh,Tv⟩
  have h8:¬(((c A[0] B[0]):Int)<(0:Int)):=h8;refine Xi ⟨[(0,sl Ae A),(1,sl Ae B),(2,.v (.func (.func fF) #[] #[])),(7,.slice (.id 7 4) (O.map Ae)),(8,vi (c A[0] B[0]))],[(7,.tok 4 O.length)],Aa⟩ (Yi ⟨Z5,Z1,Fh,Tv⟩ ?_)
  refine Xi (Ae B[0]) (Yi (Yi (AY 0) (Ch (Ge hB))) (Yi rfl ?_));refine Yi (Nz rfl) ?_;refine Yi (Pr rfl (by omega) (by decide)) ?_;refine Yi (De (f:=Ae) (n:=4) (fun _=>rfl) hB).1 (Yi (De (f:=Ae) (n:=4) (fun _=>rfl) hB).2 ?_);refine Yi (fun Nc=>?_) (fun Nc=>?_)
  ·have Nc:((c A[0] B[0]):Int)=(0:Int):=Nc;refine Xi ⟨[(0,sl Ae A),(1,.slice .none (sC Ae B)),(2,.v (.func (.func fF) #[] #[])),(7,.slice (.id 7 4) ((O.map Ae)++[(Ae B[0])]))],[(7,.tok 4 ((O.map Ae).length+([(Ae B[0])]:List (List AV)).length))],Aa⟩ (Yi ⟨Z4,Z1,Fh,Tv⟩ ?_)
   refine Yi (De (f:=Ae) (n:=4) (fun _=>rfl) hA).1 (Yi (De (f:=Ae) (n:=4) (fun _=>rfl) hA).2 ?_);have Wc:(A.drop 1).length=A.length-1:=Ar ..;have Wd:(B.drop 1).length=B.length-1:=Ar ..;have eM:A3 c A B=B[0]::A3 c (A.drop 1) (B.drop 1):=by rw[FY hA hB,Ai h8,Aw Nc]
   refine Xi ⟨((A.drop 1),(B.drop 1),O++[B[0]]),by show(O++[B[0]])++A3 c (A.drop 1) (B.drop 1)=_;rw[←k1,eM,AP];rfl,by simp only[Ad,Ar,AB];omega⟩ ?_;exact⟨by show(A.drop 1).length+(B.drop 1).length<A.length+B.length;omega,⟨⟨(show AV.slice .none _=sl Ae (A.drop 1)from Ac (AV.slice .none) (CX A)),rfl⟩,⟨(show AV.slice .none _=sl Ae (B.drop 1)from Ac (AV.slice .none) (CX B)),rfl⟩,Zr,⟨Us,rfl⟩,Tv⟩,⟨⟨Ui,rfl⟩,Tv⟩,Fh,Tv⟩
  have Nc:¬(((c A[0] B[0]):Int)=(0:Int)):=Nc;have Wc:(A.drop 1).length=A.length-1:=Ar ..;have Wd:(B.drop 1).length=B.length-1:=Ar ..;have eM:A3 c A B=B[0]::A3 c A (B.drop 1):=by rw[FY hA hB,Ai h8,Ai Nc]
  refine Xi ⟨(A,(B.drop 1),O++[B[0]]),by show(O++[B[0]])++A3 c A (B.drop 1)=_;rw[←k1,eM,AP];rfl,by simp only[Ad,Ar,AB];omega⟩ ?_;exact⟨by show A.length+(B.drop 1).length<A.length+B.length;omega,⟨Zr,⟨(show AV.slice .none _=sl Ae (B.drop 1)from Ac (AV.slice .none) (CX B)),rfl⟩,Zr,⟨Us,rfl⟩,Tv⟩,⟨⟨Ui,rfl⟩,Tv⟩,Fh,Tv⟩
 have h1:¬((0:Int)<((A.map Ae).length:Int)):=h1;have n1:¬0<A.length:=by have q:=h1;rw[Lm]at q;omega
 refine Yi (fun MX=>?_) (fun MX=>?_)
 ·have MX:(0:Int)<((B.map Ae).length:Int):=MX;have n15:0<B.length:=by have q:=MX;rw[Lm]at q;omega
  have hB:0<B.length:=by have q:=MX;rw[Lm]at q;omega
  refine Yi (fun WH=>?_) (fun WH=>?_)
  ·have WH:((A.map Ae).length:Int)=(0:Int):=WH;have hB:0<B.length:=by have q:=MX;rw[Lm]at q;first | omega | (have q2:=MX;rw[Lm]at q2;omega)
   refine Xi ⟨[(0,sl Ae A),(1,sl Ae B),(2,.v (.func (.func fF) #[] #[])),(7,.slice (.id 7 4) (O.map Ae))],[(7,.tok 4 O.length)],Aa⟩ (Yi ⟨Z4,Z1,Fh,Tv⟩ ?_)
   refine Xi ⟨[(0,sl Ae A),(1,sl Ae B),(2,.v (.func (.func fF) #[] #[])),(7,.slice (.id 7 4) (O.map Ae)),(8,vi 1)],[(7,.tok 4 O.length)],Aa⟩ (Yi ⟨Z5,Z1,Fh,Tv⟩ ?_)
   refine Yi (fun h=>absurd h (by decide)) (fun _=>?_);refine Xi ⟨[(0,sl Ae A),(1,sl Ae B),(2,.v (.func (.func fF) #[] #[])),(7,.slice (.id 7 4) (O.map Ae)),(8,vi 1)],[(7,.tok 4 O.length)],Aa⟩ (Yi ⟨Z5,Z1,Fh,Tv⟩ ?_)
   refine Xi (Ae B[0]) (Yi (Yi (AY 0) (Ch (Ge hB))) (Yi rfl ?_));refine Yi (Nz rfl) ?_;refine Yi (Pr rfl (by omega) (by decide)) ?_;refine Yi (De (f:=Ae) (n:=4) (fun _=>rfl) hB).1 (Yi (De (f:=Ae) (n:=4) (fun _=>rfl) hB).2 ?_);refine Yi (fun h=>absurd h (by decide)) (fun _=>?_);have Wc:(A.drop 1).length=A.length-1:=Ar ..;have Wd:(B.drop 1).length=B.length-1:=Ar ..;have eA:A=[]:=mA WH;have eM:A3 c A B=B[0]::A3 c A (B.drop 1):=by rw[eA];exact OT hB
   refine Xi ⟨(A,(B.drop 1),O++[B[0]]),by show(O++[B[0]])++A3 c A (B.drop 1)=_;rw[←k1,eM,AP];rfl,by simp only[Ad,Ar,AB];omega⟩ ?_;exact⟨by show A.length+(B.drop 1).length<A.length+B.length;omega,⟨Zr,⟨(show AV.slice .none _=sl Ae (B.drop 1)from Ac (AV.slice .none) (CX B)),rfl⟩,Zr,⟨Us,rfl⟩,Tv⟩,⟨⟨Ui,rfl⟩,Tv⟩,Fh,Tv⟩
  have WH:¬(((A.map Ae).length:Int)=(0:Int)):=WH;have hA:0<A.length:=by have q:=WH;rw[Lm]at q;omega
  refine Xi ⟨[(0,sl Ae A),(1,sl Ae B),(2,.v (.func (.func fF) #[] #[])),(7,.slice (.id 7 4) (O.map Ae))],[(7,.tok 4 O.length)],Aa⟩ (Yi ⟨Z4,Z1,Fh,Tv⟩ ?_)
  refine Yi (fun WI=>?_) (fun WI=>?_)
  ·have WI:((B.map Ae).length:Int)=(0:Int):=WI;refine Xi ⟨[(0,sl Ae A),(1,sl Ae B),(2,.v (.func (.func fF) #[] #[])),(7,.slice (.id 7 4) (O.map Ae)),(8,vi (-1))],[(7,.tok 4 O.length)],Aa⟩ (Yi ⟨Z5,Z1,Fh,Tv⟩ ?_)
   refine Yi (fun _=>?_) (fun h=>absurd (by decide) h);refine Xi (Ae A[0]) (Yi (Yi (AY 0) (Ch (Ge hA))) (Yi rfl ?_));refine Yi (Nz rfl) ?_;refine Yi (Pr rfl (by omega) (by decide)) ?_;refine Yi (De (f:=Ae) (n:=4) (fun _=>rfl) hA).1 (Yi (De (f:=Ae) (n:=4) (fun _=>rfl) hA).2 ?_);have Wc:(A.drop 1).length=A.length-1:=Ar ..;have Wd:(B.drop 1).length=B.length-1:=Ar ..;have eB:B=[]:=mA WI;have eM:A3 c A B=A[0]::A3 c (A.drop 1) B:=by rw[eB];exact OS hA
   refine Xi ⟨((A.drop 1),B,O++[A[0]]),by show(O++[A[0]])++A3 c (A.drop 1) B=_;rw[←k1,eM,AP];rfl,by simp only[Ad,Ar,AB];omega⟩ ?_;exact⟨by show(A.drop 1).length+B.length<A.length+B.length;omega,⟨⟨(show AV.slice .none _=sl Ae (A.drop 1)from Ac (AV.slice .none) (CX A)),rfl⟩,Zr,Zr,⟨Us,rfl⟩,Tv⟩,⟨⟨Ui,rfl⟩,Tv⟩,Fh,Tv⟩
  have WI:¬(((B.map Ae).length:Int)=(0:Int)):=WI;have hB:0<B.length:=by have q:=WI;rw[Lm]at q;omega
  refine Xi (Ae A[0]) (Yi (Yi (AY 0) (Ch (Ge hA))) (Yi rfl ?_));refine Yi (Nz rfl) ?_;refine Xi (Ae B[0]) (Yi (Yi (AY 0) (Ch (Ge hB))) (Yi rfl ?_));refine Yi (Nz rfl) ?_;refine Xi _ (Yi (hF A[0] B[0]) ?_);refine Yi (by kernel_rfl) ?_;refine Xi ⟨[(0,sl Ae A),(1,sl Ae B),(2,.v (.func (.func fF) #[] #[])),(7,.slice (.id 7 4) (O.map Ae)),(8,vi (c A[0] B[0]))],[(7,.tok 4 O.length)],Aa⟩ (Yi ⟨Z5,Z1,Fh,Tv⟩ ?_)
  refine Yi (fun Xz=>?_) (fun Xz=>?_)
  ·have Xz:((c A[0] B[0]):Int)<(0:Int):=Xz;refine Xi (Ae A[0]) (Yi (Yi (AY 0) (Ch (Ge hA))) (Yi rfl ?_));refine Yi (Nz rfl) ?_;refine Yi (Pr rfl (by omega) (by decide)) ?_;refine Yi (De (f:=Ae) (n:=4) (fun _=>rfl) hA).1 (Yi (De (f:=Ae) (n:=4) (fun _=>rfl) hA).2 ?_);have Wc:(A.drop 1).length=A.length-1:=Ar ..;have Wd:(B.drop 1).length=B.length-1:=Ar ..;have eM:A3 c A B=A[0]::A3 c (A.drop 1) B:=by rw[FY hA hB,Aw Xz]
   refine Xi ⟨((A.drop 1),B,O++[A[0]]),by show(O++[A[0]])++A3 c (A.drop 1) B=_;rw[←k1,eM,AP];rfl,by simp only[Ad,Ar,AB];omega⟩ ?_;exact⟨by show(A.drop 1).length+B.length<A.length+B.length;omega,⟨⟨(show AV.slice .none _=sl Ae (A.drop 1)from Ac (AV.slice .none) (CX A)),rfl⟩,Zr,Zr,⟨Us,rfl⟩,Tv⟩,⟨⟨Ui,rfl⟩,Tv⟩,Fh,Tv⟩
  have Xz:¬(((c A[0] B[0]):Int)<(0:Int)):=Xz;refine Xi ⟨[(0,sl Ae A),(1,sl Ae B),(2,.v (.func (.func fF) #[] #[])),(7,.slice (.id 7 4) (O.map Ae)),(8,vi (c A[0] B[0]))],[(7,.tok 4 O.length)],Aa⟩ (Yi ⟨Z5,Z1,Fh,Tv⟩ ?_)
  refine Xi (Ae B[0]) (Yi (Yi (AY 0) (Ch (Ge hB))) (Yi rfl ?_));refine Yi (Nz rfl) ?_;refine Yi (Pr rfl (by omega) (by decide)) ?_;refine Yi (De (f:=Ae) (n:=4) (fun _=>rfl) hB).1 (Yi (De (f:=Ae) (n:=4) (fun _=>rfl) hB).2 ?_);refine Yi (fun Za=>?_) (fun Za=>?_)
  ·have Za:((c A[0] B[0]):Int)=(0:Int):=Za;refine Xi ⟨[(0,sl Ae A),(1,.slice .none (sC Ae B)),(2,.v (.func (.func fF) #[] #[])),(7,.slice (.id 7 4) ((O.map Ae)++[(Ae B[0])]))],[(7,.tok 4 ((O.map Ae).length+([(Ae B[0])]:List (List AV)).length))],Aa⟩ (Yi ⟨Z4,Z1,Fh,Tv⟩ ?_)
   refine Yi (De (f:=Ae) (n:=4) (fun _=>rfl) hA).1 (Yi (De (f:=Ae) (n:=4) (fun _=>rfl) hA).2 ?_);have Wc:(A.drop 1).length=A.length-1:=Ar ..;have Wd:(B.drop 1).length=B.length-1:=Ar ..;have eM:A3 c A B=B[0]::A3 c (A.drop 1) (B.drop 1):=by rw[FY hA hB,Ai Xz,Aw Za]
   refine Xi ⟨((A.drop 1),(B.drop 1),O++[B[0]]),by show(O++[B[0]])++A3 c (A.drop 1) (B.drop 1)=_;rw[←k1,eM,AP];rfl,by simp only[Ad,Ar,AB];omega⟩ ?_;exact⟨by show(A.drop 1).length+(B.drop 1).length<A.length+B.length;omega,⟨⟨(show AV.slice .none _=sl Ae (A.drop 1)from Ac (AV.slice .none) (CX A)),rfl⟩,⟨(show AV.slice .none _=sl Ae (B.drop 1)from Ac (AV.slice .none) (CX B)),rfl⟩,Zr,⟨Us,rfl⟩,Tv⟩,⟨⟨Ui,rfl⟩,Tv⟩,Fh,Tv⟩
  have Za:¬(((c A[0] B[0]):Int)=(0:Int)):=Za;have Wc:(A.drop 1).length=A.length-1:=Ar ..;have Wd:(B.drop 1).length=B.length-1:=Ar ..;have eM:A3 c A B=B[0]::A3 c A (B.drop 1):=by rw[FY hA hB,Ai Xz,Ai Za]
  refine Xi ⟨(A,(B.drop 1),O++[B[0]]),by show(O++[B[0]])++A3 c A (B.drop 1)=_;rw[←k1,eM,AP];rfl,by simp only[Ad,Ar,AB];omega⟩ ?_;exact⟨by show A.length+(B.drop 1).length<A.length+B.length;omega,⟨Zr,⟨(show AV.slice .none _=sl Ae (B.drop 1)from Ac (AV.slice .none) (CX B)),rfl⟩,Zr,⟨Us,rfl⟩,Tv⟩,⟨⟨Ui,rfl⟩,Tv⟩,Fh,Tv⟩
 have MX:¬((0:Int)<((B.map Ae).length:Int)):=MX;have n15:¬0<B.length:=by have q:=MX;rw[Lm]at q;omega
 have eA:A=[]:=td h1;have eB:B=[]:=td MX;have eO:O=A3 c a b:=by rw[←k1,eA,eB,To,B2]
 exact .of_eq (Ac (fun z=>sl Ae z) eO)
theorem wo(a b:List Sl)(ha:Ci a)(hb:Ci b):PC 63 [sl Ae a,sl Ae b,.v (.func (.func 55) #[] #[])] (sl Ae (A3 Gw a b)):=yQ a b ha hb Gw 55 wl
theorem wm(a b:List Sl)(ha:Ci a)(hb:Ci b):PC 63 [sl Ae a,sl Ae b,.v (.func (.func 61) #[] #[])] (sl Ae (A3 PE a b)):=yQ a b ha hb PE 61 o61
theorem yL(a b:List Rl)(ha:Ci a)(hb:Ci b):PC 38 [sl Ah a,sl Ah b,.v (.func (.func 39) #[] #[])] (sl Ah (A3 Cs a b)):=by
 have ha:a.length≤1073741824:=ha;have hb:b.length≤1073741824:=hb;refine Ps ⟨[],[(7,9)],[],[],[],[],[],[],[],[],[6,7,9,12,15]⟩ Tryz.func38 rfl (Nz rfl) ?_;refine Xi {q:List Rl×List Rl×List Rl // q.2.2++A3 Cs q.1 q.2.1=A3 Cs a b∧q.2.2.length+q.1.length+q.2.1.length≤a.length+b.length} (Xi (fun q=>⟨[(0,sl Ah q.1.1),(1,sl Ah q.1.2.1),(2,.v (.func (.func 39) #[] #[])),(7,.slice (.id 7 9) (q.1.2.2.map Ah))],[(7,.tok 9 q.1.2.2.length)],Aa⟩) (Xi (fun q=>q.1.1.length+q.1.2.1.length) (Yi (Xi ⟨(a,b,[]),Ei _,by simp⟩ ?_) ?_)))
 ·exact⟨Z4,Z1,Fh,Tv⟩
 intro⟨⟨A,B,O⟩,k1,k2⟩;have k1:O++A3 Cs A B=A3 Cs a b:=k1;have k2:O.length+A.length+B.length≤a.length+b.length:=k2;refine Yi (fun h1=>?_) (fun h1=>?_)
 ·have h1:(0:Int)<((A.map Ah).length:Int):=h1;have n1:0<A.length:=by have q:=h1;rw[Lm]at q;omega
  have hA:0<A.length:=by have q:=h1;rw[Lm]at q;omega
  refine Yi (fun h2=>?_) (fun h2=>?_)
  ·have h2:((A.map Ah).length:Int)=(0:Int):=h2;have hB:0<B.length:=by have q:=h1;rw[Lm]at q;first | omega | (have q2:=h1;rw[Lm]at q2;omega)
   refine Xi ⟨[(0,sl Ah A),(1,sl Ah B),(2,.v (.func (.func 39) #[] #[])),(7,.slice (.id 7 9) (O.map Ah))],[(7,.tok 9 O.length)],Aa⟩ (Yi ⟨Z4,Z1,Fh,Tv⟩ ?_)
   refine Xi ⟨[(0,sl Ah A),(1,sl Ah B),(2,.v (.func (.func 39) #[] #[])),(7,.slice (.id 7 9) (O.map Ah)),(8,vi 1)],[(7,.tok 9 O.length)],Aa⟩ (Yi ⟨Z5,Z1,Fh,Tv⟩ ?_)
   refine Yi (fun h=>absurd h (by decide)) (fun _=>?_);refine Xi ⟨[(0,sl Ah A),(1,sl Ah B),(2,.v (.func (.func 39) #[] #[])),(7,.slice (.id 7 9) (O.map Ah)),(8,vi 1)],[(7,.tok 9 O.length)],Aa⟩ (Yi ⟨Z5,Z1,Fh,Tv⟩ ?_)
   refine Xi (Ah B[0]) (Yi (Yi (AY 0) (Ch (Ge hB))) (Yi rfl ?_));refine Yi (Nz rfl) ?_;refine Yi (Pr rfl (by omega) (by decide)) ?_;refine Yi (De (f:=Ah) (n:=9) (fun _=>rfl) hB).1 (Yi (De (f:=Ah) (n:=9) (fun _=>rfl) hB).2 ?_);refine Yi (fun h=>absurd h (by decide)) (fun _=>?_);have Wc:(A.drop 1).length=A.length-1:=Ar ..;have Wd:(B.drop 1).length=B.length-1:=Ar ..;have eA:A=[]:=mA h2;have eM:A3 Cs A B=B[0]::A3 Cs A (B.drop 1):=by rw[eA];exact OT hB
   refine Xi ⟨(A,(B.drop 1),O++[B[0]]),by show(O++[B[0]])++A3 Cs A (B.drop 1)=_;rw[←k1,eM,AP];rfl,by simp only[Ad,Ar,AB];omega⟩ ?_;exact⟨by show A.length+(B.drop 1).length<A.length+B.length;omega,⟨Zr,⟨(show AV.slice .none _=sl Ah (B.drop 1)from Ac (AV.slice .none) (CX B)),rfl⟩,Zr,⟨Us,rfl⟩,Tv⟩,⟨⟨Ui,rfl⟩,Tv⟩,Fh,Tv⟩
  have h2:¬(((A.map Ah).length:Int)=(0:Int)):=h2;have hA:0<A.length:=by have q:=h2;rw[Lm]at q;omega
  refine Xi ⟨[(0,sl Ah A),(1,sl Ah B),(2,.v (.func (.func 39) #[] #[])),(7,.slice (.id 7 9) (O.map Ah))],[(7,.tok 9 O.length)],Aa⟩ (Yi ⟨Z4,Z1,Fh,Tv⟩ ?_)
  refine Yi (fun h5=>?_) (fun h5=>?_)
  ·have h5:((B.map Ah).length:Int)=(0:Int):=h5;refine Xi ⟨[(0,sl Ah A),(1,sl Ah B),(2,.v (.func (.func 39) #[] #[])),(7,.slice (.id 7 9) (O.map Ah)),(8,vi (-1))],[(7,.tok 9 O.length)],Aa⟩ (Yi ⟨Z5,Z1,Fh,Tv⟩ ?_)
   refine Yi (fun _=>?_) (fun h=>absurd (by decide) h);refine Xi (Ah A[0]) (Yi (Yi (AY 0) (Ch (Ge hA))) (Yi rfl ?_));refine Yi (Nz rfl) ?_;refine Yi (Pr rfl (by omega) (by decide)) ?_;refine Yi (De (f:=Ah) (n:=9) (fun _=>rfl) hA).1 (Yi (De (f:=Ah) (n:=9) (fun _=>rfl) hA).2 ?_);have Wc:(A.drop 1).length=A.length-1:=Ar ..;have Wd:(B.drop 1).length=B.length-1:=Ar ..;have eB:B=[]:=mA h5;have eM:A3 Cs A B=A[0]::A3 Cs (A.drop 1) B:=by rw[eB];exact OS hA
   refine Xi ⟨((A.drop 1),B,O++[A[0]]),by show(O++[A[0]])++A3 Cs (A.drop 1) B=_;rw[←k1,eM,AP];rfl,by simp only[Ad,Ar,AB];omega⟩ ?_;exact⟨by show(A.drop 1).length+B.length<A.length+B.length;omega,⟨⟨(show AV.slice .none _=sl Ah (A.drop 1)from Ac (AV.slice .none) (CX A)),rfl⟩,Zr,Zr,⟨Us,rfl⟩,Tv⟩,⟨⟨Ui,rfl⟩,Tv⟩,Fh,Tv⟩
  have h5:¬(((B.map Ah).length:Int)=(0:Int)):=h5;have hB:0<B.length:=by have q:=h5;rw[Lm]at q;omega
  refine Xi (Ah A[0]) (Yi (Yi (AY 0) (Ch (Ge hA))) (Yi rfl ?_));refine Yi (Nz rfl) ?_;refine Xi (Ah B[0]) (Yi (Yi (AY 0) (Ch (Ge hB))) (Yi rfl ?_));refine Yi (Nz rfl) ?_;refine Xi _ (Yi (yM A[0] B[0]) ?_);refine Yi (by kernel_rfl) ?_;refine Xi ⟨[(0,sl Ah A),(1,sl Ah B),(2,.v (.func (.func 39) #[] #[])),(7,.slice (.id 7 9) (O.map Ah)),(8,vi (Cs A[0] B[0]))],[(7,.tok 9 O.length)],Aa⟩ (Yi ⟨Z5,Z1,Fh,Tv⟩ ?_)
  refine Yi (fun h8=>?_) (fun h8=>?_)
  ·have h8:((Cs A[0] B[0]):Int)<(0:Int):=h8;refine Xi (Ah A[0]) (Yi (Yi (AY 0) (Ch (Ge hA))) (Yi rfl ?_));refine Yi (Nz rfl) ?_;refine Yi (Pr rfl (by omega) (by decide)) ?_;refine Yi (De (f:=Ah) (n:=9) (fun _=>rfl) hA).1 (Yi (De (f:=Ah) (n:=9) (fun _=>rfl) hA).2 ?_);have Wc:(A.drop 1).length=A.length-1:=Ar ..;have Wd:(B.drop 1).length=B.length-1:=Ar ..;have eM:A3 Cs A B=A[0]::A3 Cs (A.drop 1) B:=by rw[FY hA hB,Aw h8]
   refine Xi ⟨((A.drop 1),B,O++[A[0]]),by show(O++[A[0]])++A3 Cs (A.drop 1) B=_;rw[←k1,eM,AP];rfl,by simp only[Ad,Ar,AB];omega⟩ ?_;exact⟨by show(A.drop 1).length+B.length<A.length+B.length;omega,⟨⟨(show AV.slice .none _=sl Ah (A.drop 1)from Ac (AV.slice .none) (CX A)),rfl⟩,Zr,Zr,⟨Us,rfl⟩,Tv⟩,⟨⟨Ui,rfl⟩,Tv⟩,Fh,Tv⟩
  have h8:¬(((Cs A[0] B[0]):Int)<(0:Int)):=h8;refine Xi ⟨[(0,sl Ah A),(1,sl Ah B),(2,.v (.func (.func 39) #[] #[])),(7,.slice (.id 7 9) (O.map Ah)),(8,vi (Cs A[0] B[0]))],[(7,.tok 9 O.length)],Aa⟩ (Yi ⟨Z5,Z1,Fh,Tv⟩ ?_)
  refine Xi (Ah B[0]) (Yi (Yi (AY 0) (Ch (Ge hB))) (Yi rfl ?_));refine Yi (Nz rfl) ?_;refine Yi (Pr rfl (by omega) (by decide)) ?_;refine Yi (De (f:=Ah) (n:=9) (fun _=>rfl) hB).1 (Yi (De (f:=Ah) (n:=9) (fun _=>rfl) hB).2 ?_);refine Yi (fun Nc=>?_) (fun Nc=>?_)
  ·have Nc:((Cs A[0] B[0]):Int)=(0:Int):=Nc;refine Xi ⟨[(0,sl Ah A),(1,.slice .none (sC Ah B)),(2,.v (.func (.func 39) #[] #[])),(7,.slice (.id 7 9) ((O.map Ah)++[(Ah B[0])]))],[(7,.tok 9 ((O.map Ah).length+([(Ah B[0])]:List (List AV)).length))],Aa⟩ (Yi ⟨Z4,Z1,Fh,Tv⟩ ?_)
   refine Yi (De (f:=Ah) (n:=9) (fun _=>rfl) hA).1 (Yi (De (f:=Ah) (n:=9) (fun _=>rfl) hA).2 ?_);have Wc:(A.drop 1).length=A.length-1:=Ar ..;have Wd:(B.drop 1).length=B.length-1:=Ar ..;have eM:A3 Cs A B=B[0]::A3 Cs (A.drop 1) (B.drop 1):=by rw[FY hA hB,Ai h8,Aw Nc]
   refine Xi ⟨((A.drop 1),(B.drop 1),O++[B[0]]),by show(O++[B[0]])++A3 Cs (A.drop 1) (B.drop 1)=_;rw[←k1,eM,AP];rfl,by simp only[Ad,Ar,AB];omega⟩ ?_;exact⟨by show(A.drop 1).length+(B.drop 1).length<A.length+B.length;omega,⟨⟨(show AV.slice .none _=sl Ah (A.drop 1)from Ac (AV.slice .none) (CX A)),rfl⟩,⟨(show AV.slice .none _=sl Ah (B.drop 1)from Ac (AV.slice .none) (CX B)),rfl⟩,Zr,⟨Us,rfl⟩,Tv⟩,⟨⟨Ui,rfl⟩,Tv⟩,Fh,Tv⟩
  have Nc:¬(((Cs A[0] B[0]):Int)=(0:Int)):=Nc;have Wc:(A.drop 1).length=A.length-1:=Ar ..;have Wd:(B.drop 1).length=B.length-1:=Ar ..;have eM:A3 Cs A B=B[0]::A3 Cs A (B.drop 1):=by rw[FY hA hB,Ai h8,Ai Nc]
  refine Xi ⟨(A,(B.drop 1),O++[B[0]]),by show(O++[B[0]])++A3 Cs A (B.drop 1)=_;rw[←k1,eM,AP];rfl,by simp only[Ad,Ar,AB];omega⟩ ?_;exact⟨by show A.length+(B.drop 1).length<A.length+B.length;omega,⟨Zr,⟨(show AV.slice .none _=sl Ah (B.drop 1)from Ac (AV.slice .none) (CX B)),rfl⟩,Zr,⟨Us,rfl⟩,Tv⟩,⟨⟨Ui,rfl⟩,Tv⟩,Fh,Tv⟩
 have h1:¬((0:Int)<((A.map Ah).length:Int)):=h1;have n1:¬0<A.length:=by have q:=h1;rw[Lm]at q;omega
 refine Yi (fun MX=>?_) (fun MX=>?_)
 ·have MX:(0:Int)<((B.map Ah).length:Int):=MX;have n15:0<B.length:=by have q:=MX;rw[Lm]at q;omega
  have hB:0<B.length:=by have q:=MX;rw[Lm]at q;omega
  refine Yi (fun WH=>?_) (fun WH=>?_)
  ·have WH:((A.map Ah).length:Int)=(0:Int):=WH;have hB:0<B.length:=by have q:=MX;rw[Lm]at q;first | omega | (have q2:=MX;rw[Lm]at q2;omega)
   refine Xi ⟨[(0,sl Ah A),(1,sl Ah B),(2,.v (.func (.func 39) #[] #[])),(7,.slice (.id 7 9) (O.map Ah))],[(7,.tok 9 O.length)],Aa⟩ (Yi ⟨Z4,Z1,Fh,Tv⟩ ?_)
   refine Xi ⟨[(0,sl Ah A),(1,sl Ah B),(2,.v (.func (.func 39) #[] #[])),(7,.slice (.id 7 9) (O.map Ah)),(8,vi 1)],[(7,.tok 9 O.length)],Aa⟩ (Yi ⟨Z5,Z1,Fh,Tv⟩ ?_)
   refine Yi (fun h=>absurd h (by decide)) (fun _=>?_);refine Xi ⟨[(0,sl Ah A),(1,sl Ah B),(2,.v (.func (.func 39) #[] #[])),(7,.slice (.id 7 9) (O.map Ah)),(8,vi 1)],[(7,.tok 9 O.length)],Aa⟩ (Yi ⟨Z5,Z1,Fh,Tv⟩ ?_)
   refine Xi (Ah B[0]) (Yi (Yi (AY 0) (Ch (Ge hB))) (Yi rfl ?_));refine Yi (Nz rfl) ?_;refine Yi (Pr rfl (by omega) (by decide)) ?_;refine Yi (De (f:=Ah) (n:=9) (fun _=>rfl) hB).1 (Yi (De (f:=Ah) (n:=9) (fun _=>rfl) hB).2 ?_);refine Yi (fun h=>absurd h (by decide)) (fun _=>?_);have Wc:(A.drop 1).length=A.length-1:=Ar ..;have Wd:(B.drop 1).length=B.length-1:=Ar ..;have eA:A=[]:=mA WH;have eM:A3 Cs A B=B[0]::A3 Cs A (B.drop 1):=by rw[eA];exact OT hB
   refine Xi ⟨(A,(B.drop 1),O++[B[0]]),by show(O++[B[0]])++A3 Cs A (B.drop 1)=_;rw[←k1,eM,AP];rfl,by simp only[Ad,Ar,AB];omega⟩ ?_;exact⟨by show A.length+(B.drop 1).length<A.length+B.length;omega,⟨Zr,⟨(show AV.slice .none _=sl Ah (B.drop 1)from Ac (AV.slice .none) (CX B)),rfl⟩,Zr,⟨Us,rfl⟩,Tv⟩,⟨⟨Ui,rfl⟩,Tv⟩,Fh,Tv⟩
  have WH:¬(((A.map Ah).length:Int)=(0:Int)):=WH;have hA:0<A.length:=by have q:=WH;rw[Lm]at q;omega
  refine Xi ⟨[(0,sl Ah A),(1,sl Ah B),(2,.v (.func (.func 39) #[] #[])),(7,.slice (.id 7 9) (O.map Ah))],[(7,.tok 9 O.length)],Aa⟩ (Yi ⟨Z4,Z1,Fh,Tv⟩ ?_)
  refine Yi (fun WI=>?_) (fun WI=>?_)
  ·have WI:((B.map Ah).length:Int)=(0:Int):=WI;refine Xi ⟨[(0,sl Ah A),(1,sl Ah B),(2,.v (.func (.func 39) #[] #[])),(7,.slice (.id 7 9) (O.map Ah)),(8,vi (-1))],[(7,.tok 9 O.length)],Aa⟩ (Yi ⟨Z5,Z1,Fh,Tv⟩ ?_)
   refine Yi (fun _=>?_) (fun h=>absurd (by decide) h);refine Xi (Ah A[0]) (Yi (Yi (AY 0) (Ch (Ge hA))) (Yi rfl ?_));refine Yi (Nz rfl) ?_;refine Yi (Pr rfl (by omega) (by decide)) ?_;refine Yi (De (f:=Ah) (n:=9) (fun _=>rfl) hA).1 (Yi (De (f:=Ah) (n:=9) (fun _=>rfl) hA).2 ?_);have Wc:(A.drop 1).length=A.length-1:=Ar ..;have Wd:(B.drop 1).length=B.length-1:=Ar ..;have eB:B=[]:=mA WI;have eM:A3 Cs A B=A[0]::A3 Cs (A.drop 1) B:=by rw[eB];exact OS hA
   refine Xi ⟨((A.drop 1),B,O++[A[0]]),by show(O++[A[0]])++A3 Cs (A.drop 1) B=_;rw[←k1,eM,AP];rfl,by simp only[Ad,Ar,AB];omega⟩ ?_;exact⟨by show(A.drop 1).length+B.length<A.length+B.length;omega,⟨⟨(show AV.slice .none _=sl Ah (A.drop 1)from Ac (AV.slice .none) (CX A)),rfl⟩,Zr,Zr,⟨Us,rfl⟩,Tv⟩,⟨⟨Ui,rfl⟩,Tv⟩,Fh,Tv⟩
  have WI:¬(((B.map Ah).length:Int)=(0:Int)):=WI;have hB:0<B.length:=by have q:=WI;rw[Lm]at q;omega
  refine Xi (Ah A[0]) (Yi (Yi (AY 0) (Ch (Ge hA))) (Yi rfl ?_));refine Yi (Nz rfl) ?_;refine Xi (Ah B[0]) (Yi (Yi (AY 0) (Ch (Ge hB))) (Yi rfl ?_));refine Yi (Nz rfl) ?_;refine Xi _ (Yi (yM A[0] B[0]) ?_);refine Yi (by kernel_rfl) ?_;refine Xi ⟨[(0,sl Ah A),(1,sl Ah B),(2,.v (.func (.func 39) #[] #[])),(7,.slice (.id 7 9) (O.map Ah)),(8,vi (Cs A[0] B[0]))],[(7,.tok 9 O.length)],Aa⟩ (Yi ⟨Z5,Z1,Fh,Tv⟩ ?_)
  refine Yi (fun Xz=>?_) (fun Xz=>?_)
  ·have Xz:((Cs A[0] B[0]):Int)<(0:Int):=Xz;refine Xi (Ah A[0]) (Yi (Yi (AY 0) (Ch (Ge hA))) (Yi rfl ?_));refine Yi (Nz rfl) ?_;refine Yi (Pr rfl (by omega) (by decide)) ?_;refine Yi (De (f:=Ah) (n:=9) (fun _=>rfl) hA).1 (Yi (De (f:=Ah) (n:=9) (fun _=>rfl) hA).2 ?_);have Wc:(A.drop 1).length=A.length-1:=Ar ..;have Wd:(B.drop 1).length=B.length-1:=Ar ..;have eM:A3 Cs A B=A[0]::A3 Cs (A.drop 1) B:=by rw[FY hA hB,Aw Xz]
   refine Xi ⟨((A.drop 1),B,O++[A[0]]),by show(O++[A[0]])++A3 Cs (A.drop 1) B=_;rw[←k1,eM,AP];rfl,by simp only[Ad,Ar,AB];omega⟩ ?_;exact⟨by show(A.drop 1).length+B.length<A.length+B.length;omega,⟨⟨(show AV.slice .none _=sl Ah (A.drop 1)from Ac (AV.slice .none) (CX A)),rfl⟩,Zr,Zr,⟨Us,rfl⟩,Tv⟩,⟨⟨Ui,rfl⟩,Tv⟩,Fh,Tv⟩
  have Xz:¬(((Cs A[0] B[0]):Int)<(0:Int)):=Xz;refine Xi ⟨[(0,sl Ah A),(1,sl Ah B),(2,.v (.func (.func 39) #[] #[])),(7,.slice (.id 7 9) (O.map Ah)),(8,vi (Cs A[0] B[0]))],[(7,.tok 9 O.length)],Aa⟩ (Yi ⟨Z5,Z1,Fh,Tv⟩ ?_)
  refine Xi (Ah B[0]) (Yi (Yi (AY 0) (Ch (Ge hB))) (Yi rfl ?_));refine Yi (Nz rfl) ?_;refine Yi (Pr rfl (by omega) (by decide)) ?_;refine Yi (De (f:=Ah) (n:=9) (fun _=>rfl) hB).1 (Yi (De (f:=Ah) (n:=9) (fun _=>rfl) hB).2 ?_);refine Yi (fun Za=>?_) (fun Za=>?_)
  ·have Za:((Cs A[0] B[0]):Int)=(0:Int):=Za;refine Xi ⟨[(0,sl Ah A),(1,.slice .none (sC Ah B)),(2,.v (.func (.func 39) #[] #[])),(7,.slice (.id 7 9) ((O.map Ah)++[(Ah B[0])]))],[(7,.tok 9 ((O.map Ah).length+([(Ah B[0])]:List (List AV)).length))],Aa⟩ (Yi ⟨Z4,Z1,Fh,Tv⟩ ?_)
   refine Yi (De (f:=Ah) (n:=9) (fun _=>rfl) hA).1 (Yi (De (f:=Ah) (n:=9) (fun _=>rfl) hA).2 ?_);have Wc:(A.drop 1).length=A.length-1:=Ar ..;have Wd:(B.drop 1).length=B.length-1:=Ar ..;have eM:A3 Cs A B=B[0]::A3 Cs (A.drop 1) (B.drop 1):=by rw[FY hA hB,Ai Xz,Aw Za]
   refine Xi ⟨((A.drop 1),(B.drop 1),O++[B[0]]),by show(O++[B[0]])++A3 Cs (A.drop 1) (B.drop 1)=_;rw[←k1,eM,AP];rfl,by simp only[Ad,Ar,AB];omega⟩ ?_;exact⟨by show(A.drop 1).length+(B.drop 1).length<A.length+B.length;omega,⟨⟨(show AV.slice .none _=sl Ah (A.drop 1)from Ac (AV.slice .none) (CX A)),rfl⟩,⟨(show AV.slice .none _=sl Ah (B.drop 1)from Ac (AV.slice .none) (CX B)),rfl⟩,Zr,⟨Us,rfl⟩,Tv⟩,⟨⟨Ui,rfl⟩,Tv⟩,Fh,Tv⟩
  have Za:¬(((Cs A[0] B[0]):Int)=(0:Int)):=Za;have Wc:(A.drop 1).length=A.length-1:=Ar ..;have Wd:(B.drop 1).length=B.length-1:=Ar ..;have eM:A3 Cs A B=B[0]::A3 Cs A (B.drop 1):=by rw[FY hA hB,Ai Xz,Ai Za]
  refine Xi ⟨(A,(B.drop 1),O++[B[0]]),by show(O++[B[0]])++A3 Cs A (B.drop 1)=_;rw[←k1,eM,AP];rfl,by simp only[Ad,Ar,AB];omega⟩ ?_;exact⟨by show A.length+(B.drop 1).length<A.length+B.length;omega,⟨Zr,⟨(show AV.slice .none _=sl Ah (B.drop 1)from Ac (AV.slice .none) (CX B)),rfl⟩,Zr,⟨Us,rfl⟩,Tv⟩,⟨⟨Ui,rfl⟩,Tv⟩,Fh,Tv⟩
 have MX:¬((0:Int)<((B.map Ah).length:Int)):=MX;have n15:¬0<B.length:=by have q:=MX;rw[Lm]at q;omega
 have eA:A=[]:=td h1;have eB:B=[]:=td MX;have eO:O=A3 Cs a b:=by rw[←k1,eA,eB,To,B2]
 exact .of_eq (Ac (fun z=>sl Ah z) eO)
end Go.Eng
