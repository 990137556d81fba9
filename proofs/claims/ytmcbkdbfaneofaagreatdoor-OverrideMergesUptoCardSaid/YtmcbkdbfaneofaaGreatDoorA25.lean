/- Lemmas for the claims of this seat, without a condition: part 25 (O5). -/
import Derived.Test.YtmcbkdbfaneofaaGreatDoorA24
set_option maxHeartbeats 4000000
namespace Go.Eng
open Go.Proofs
def CB{α:Type}(c:α→α→Int):Nat→List α→List α→List α
 |0,_,_=>[]
 |_+1,[],[]=>[]
 |n+1,[],y::b=>y::CB c n [] b
 |n+1,x::a,[]=>x::CB c n a []
 |n+1,x::a,y::b=>if c x y<0 then x::CB c n a (y::b)else if c x y=0 then y::CB c n a b else y::CB c n (x::a) b
theorem HC{α:Type}(c:α→α→Int):∀(n m:Nat) (a b:List α),a.length+b.length≤n→a.length+b.length≤m→CB c n a b=CB c m a b
 |0,m,a,b,h,_=>by
  have ha:a=[]:=Az (by omega);have hb:b=[]:=Az (by omega);subst ha;subst hb;cases m<;>rfl
 |n+1,0,a,b,_,h=>by
  have ha:a=[]:=Az (by omega);have hb:b=[]:=Az (by omega);subst ha;subst hb;rfl
 |n+1,m+1,a,b,h,k=>by
  cases a with
  |nil =>
   cases b with
   |nil=>rfl
   |cons y b =>
    simp only[Au,Ay]at h k;show y::CB c n [] b=y::CB c m [] b;rw[HC c n m [] b (by simp only[Ay];omega) (by simp only[Ay];omega)]
  |cons x a =>
   cases b with
   |nil =>
    simp only[Au,Ay]at h k;show x::CB c n a []=x::CB c m a [];rw[HC c n m a [] (by simp only[Ay];omega) (by simp only[Ay];omega)]
   |cons y b =>
    simp only[Au]at h k;show(if c x y<0 then x::CB c n a (y::b)else if c x y=0 then y::CB c n a b else y::CB c n (x::a) b)=if c x y<0 then x::CB c m a (y::b)else if c x y=0 then y::CB c m a b else y::CB c m (x::a) b
    rw[HC c n m a (y::b) (by simp only[Au];omega) (by simp only[Au];omega),HC c n m a b (by omega) (by omega),HC c n m (x::a) b (by simp only[Au];omega) (by simp only[Au];omega)]
def AW{α:Type}(c:α→α→Int)(a b:List α):List α:=CB c (a.length+b.length) a b
section
variable {α:Type}{c:α→α→Int}
theorem Oi:AW c [] ([]:List α)=[]:=rfl
theorem MB{a:List α}(h:0<a.length):AW c a []=a[0]::AW c (a.drop 1) []:=by
 cases a with
 |nil=>cases h
 |cons x a=>rfl
theorem MC{b:List α}(h:0<b.length):AW c [] b=b[0]::AW c [] (b.drop 1):=by
 cases b with
 |nil=>cases h
 |cons y b =>
  show CB c (0+(b.length+1)) [] (y::b)=y::CB c (0+b.length) [] b;rw[show 0+(b.length+1)=0+b.length+1 by omega];rfl
theorem Fc{a b:List α}(ha:0<a.length)(hb:0<b.length):AW c a b=if c a[0] b[0]<0 then a[0]::AW c (a.drop 1) b else if c a[0] b[0]=0 then b[0]::AW c (a.drop 1) (b.drop 1)else b[0]::AW c a (b.drop 1):=by
 cases a with
 |nil=>cases ha
 |cons x a =>
  cases b with
  |nil=>cases hb
  |cons y b =>
   show CB c ((a.length+1)+(b.length+1)) (x::a) (y::b)=if c x y<0 then x::CB c (a.length+(b.length+1)) a (y::b)else if c x y=0 then y::CB c (a.length+b.length) a b else y::CB c ((a.length+1)+b.length) (x::a) b
   rw[show(a.length+1)+(b.length+1)=(a.length+b.length+1)+1 by omega];show(if c x y<0 then x::CB c (a.length+b.length+1) a (y::b)else if c x y=0 then y::CB c (a.length+b.length+1) a b else y::CB c (a.length+b.length+1) (x::a) b)=_;rw[HC c (a.length+b.length+1) (a.length+b.length) a b (by omega) (by omega),show a.length+(b.length+1)=a.length+b.length+1 by omega,show a.length+1+b.length=a.length+b.length+1 by omega]
theorem IB:∀(n:Nat) (a b:List α),(CB c n a b).length≤n
 |0,_,_=>Al _
 |n+1,[],[]=>AG _
 |n+1,[],y::b=>DR (IB n [] b)
 |n+1,x::a,[]=>DR (IB n a [])
 |n+1,x::a,y::b=>by
  show(if c x y<0 then x::CB c n a (y::b)else if c x y=0 then y::CB c n a b else y::CB c n (x::a) b).length≤n+1;have h1:=IB n a (y::b);have h2:=IB n a b;have h3:=IB n (x::a) b;split
  ·rw[Au];omega
  ·split<;>(rw[Au];omega)
theorem Ht(a b:List α):(AW c a b).length≤a.length+b.length:=IB _ a b
theorem Df{β:Type}{f:α→β}(a:List α):((a.map f).take (((a.map f).length:Nat):Int).toNat).drop ((1:Int)).toNat=(a.drop 1).map f:=by
 rw[Ba,Dp,show((1:Int)).toNat=1 from rfl,List.map_drop]
end
abbrev Cj(r s:Rl):Int:=Fi ⟨r.path,r.ver⟩ ⟨s.path,s.ver⟩
abbrev ua{α:Type}(f:α→List AV)(a:List α):List (List AV):=((a.map f).take (((a.map f).length:Nat):Int).toNat).drop ((1:Int)).toNat
theorem Dq{α:Type}{f:α→List AV}{n:Nat}(hf:∀x,(f x).length=n){a:List α}(h:0<a.length):((0:Int)≤1∧(1:Int)≤((a.map f).length:Nat)∧(((a.map f).length:Nat):Int)≤((a.map f).length:Nat))∧∀cs∈a.map f,cs.length=n:=by
 refine⟨by rw[Lm];omega,fun cs hcs=>?_⟩;obtain⟨q,_,rfl⟩:=Ar.1 hcs;exact hf q
theorem uD{α:Type}{f:α→List AV}{l:List α}(h:¬(0:Int)<((l.map f).length:Int)):l=[]:=Az (by rw[Lm]at h;omega)
theorem nH{α:Type}{f:α→List AV}{l:List α}(h:((l.map f).length:Int)=(0:Int)):l=[]:=Az (by rw[Lm]at h;omega)
theorem o63(a b:List Sl)(ha:Co a)(hb:Co b)(c:Sl→Sl→Int)(fF:Nat)(hF:∀x y,PC fF [.agg (Ae x),.agg (Ae y)] (vi (c x y))):PC 63 [sl Ae a,sl Ae b,.v (.func (.func fF) #[] #[])] (sl Ae (AW c a b)):=by
 have ha:a.length≤1073741824:=ha;have hb:b.length≤1073741824:=hb;refine Ps ⟨[],[(7,4)],[],[],[],[],[],[],[],[],[6,7,9,12,15]⟩ Tryz.func63 rfl (Nz rfl) ?_;refine Xi {q:List Sl×List Sl×List Sl // q.2.2++AW c q.1 q.2.1=AW c a b∧q.2.2.length+q.1.length+q.2.1.length≤a.length+b.length} (Xi (fun q=>⟨[(0,sl Ae q.1.1),(1,sl Ae q.1.2.1),(2,.v (.func (.func fF) #[] #[])),(7,.slice (.id 7 4) (q.1.2.2.map Ae))],[(7,.tok 4 q.1.2.2.length)],Aa⟩) (Xi (fun q=>q.1.1.length+q.1.2.1.length) (Yi (Xi ⟨(a,b,[]),En _,by simp⟩ ?_) ?_)))
 ·exact⟨Z4,Z1,Fh,Tv⟩
 intro⟨⟨A,B,O⟩,k1,k2⟩;have k1:O++AW c A B=AW c a b:=k1;have k2:O.length+A.length+B.length≤a.length+b.length:=k2;refine Yi (fun h1=>?_) (fun h1=>?_)
 ·have h1:(0:Int)<((A.map Ae).length:Int):=h1;have n1:0<A.length:=by have q:=h1;rw[Lm]at q;omega
  have hA:0<A.length:=by have q:=h1;rw[Lm]at q;omega
  refine Yi (fun h2=>?_) (fun h2=>?_)
  ·have h2:((A.map Ae).length:Int)=(0:Int):=h2;have hB:0<B.length:=by have q:=h1;rw[Lm]at q;first | omega | (have q2:=h1;rw[Lm]at q2;omega)
   refine Xi ⟨[(0,sl Ae A),(1,sl Ae B),(2,.v (.func (.func fF) #[] #[])),(7,.slice (.id 7 4) (O.map Ae))],[(7,.tok 4 O.length)],Aa⟩ (Yi ⟨Z4,Z1,Fh,Tv⟩ ?_)
   refine Xi ⟨[(0,sl Ae A),(1,sl Ae B),(2,.v (.func (.func fF) #[] #[])),(7,.slice (.id 7 4) (O.map Ae)),(8,vi 1)],[(7,.tok 4 O.length)],Aa⟩ (Yi ⟨Z5,Z1,Fh,Tv⟩ ?_)
   refine Yi (fun h=>absurd h (by decide)) (fun _=>?_);refine Xi ⟨[(0,sl Ae A),(1,sl Ae B),(2,.v (.func (.func fF) #[] #[])),(7,.slice (.id 7 4) (O.map Ae)),(8,vi 1)],[(7,.tok 4 O.length)],Aa⟩ (Yi ⟨Z5,Z1,Fh,Tv⟩ ?_)
   refine Xi (Ae B[0]) (Yi (Yi (AZ 0) (B4 (Ge hB))) (Yi rfl ?_));refine Yi (Nz rfl) ?_;refine Yi (Md rfl (by omega) (by decide)) ?_;refine Yi (Dq (f:=Ae) (n:=4) (fun _=>rfl) hB).1 (Yi (Dq (f:=Ae) (n:=4) (fun _=>rfl) hB).2 ?_);refine Yi (fun h=>absurd h (by decide)) (fun _=>?_);have WY:(A.drop 1).length=A.length-1:=Ap ..;have WZ:(B.drop 1).length=B.length-1:=Ap ..;have eA:A=[]:=nH h2;have eM:AW c A B=B[0]::AW c A (B.drop 1):=by rw[eA];exact MC hB
   refine Xi ⟨(A,(B.drop 1),O++[B[0]]),by show(O++[B[0]])++AW c A (B.drop 1)=_;rw[←k1,eM,AM];rfl,by simp only[Ad,Ap,Am];omega⟩ ?_;exact⟨by show A.length+(B.drop 1).length<A.length+B.length;omega,⟨Zr,⟨(show AV.slice .none _=sl Ae (B.drop 1)from Ab (AV.slice .none) (Df B)),rfl⟩,Zr,⟨Qc,rfl⟩,Tv⟩,⟨⟨PZ,rfl⟩,Tv⟩,Fh,Tv⟩
  have h2:¬(((A.map Ae).length:Int)=(0:Int)):=h2;have hA:0<A.length:=by have q:=h2;rw[Lm]at q;omega
  refine Xi ⟨[(0,sl Ae A),(1,sl Ae B),(2,.v (.func (.func fF) #[] #[])),(7,.slice (.id 7 4) (O.map Ae))],[(7,.tok 4 O.length)],Aa⟩ (Yi ⟨Z4,Z1,Fh,Tv⟩ ?_)
  refine Yi (fun h5=>?_) (fun h5=>?_)
  ·have h5:((B.map Ae).length:Int)=(0:Int):=h5;refine Xi ⟨[(0,sl Ae A),(1,sl Ae B),(2,.v (.func (.func fF) #[] #[])),(7,.slice (.id 7 4) (O.map Ae)),(8,vi (-1))],[(7,.tok 4 O.length)],Aa⟩ (Yi ⟨Z5,Z1,Fh,Tv⟩ ?_)
   refine Yi (fun _=>?_) (fun h=>absurd (by decide) h);refine Xi (Ae A[0]) (Yi (Yi (AZ 0) (B4 (Ge hA))) (Yi rfl ?_));refine Yi (Nz rfl) ?_;refine Yi (Md rfl (by omega) (by decide)) ?_;refine Yi (Dq (f:=Ae) (n:=4) (fun _=>rfl) hA).1 (Yi (Dq (f:=Ae) (n:=4) (fun _=>rfl) hA).2 ?_);have WY:(A.drop 1).length=A.length-1:=Ap ..;have WZ:(B.drop 1).length=B.length-1:=Ap ..;have eB:B=[]:=nH h5;have eM:AW c A B=A[0]::AW c (A.drop 1) B:=by rw[eB];exact MB hA
   refine Xi ⟨((A.drop 1),B,O++[A[0]]),by show(O++[A[0]])++AW c (A.drop 1) B=_;rw[←k1,eM,AM];rfl,by simp only[Ad,Ap,Am];omega⟩ ?_;exact⟨by show(A.drop 1).length+B.length<A.length+B.length;omega,⟨⟨(show AV.slice .none _=sl Ae (A.drop 1)from Ab (AV.slice .none) (Df A)),rfl⟩,Zr,Zr,⟨Qc,rfl⟩,Tv⟩,⟨⟨PZ,rfl⟩,Tv⟩,Fh,Tv⟩
  have h5:¬(((B.map Ae).length:Int)=(0:Int)):=h5;have hB:0<B.length:=by have q:=h5;rw[Lm]at q;omega
  refine Xi (Ae A[0]) (Yi (Yi (AZ 0) (B4 (Ge hA))) (Yi rfl ?_));refine Yi (Nz rfl) ?_;refine Xi (Ae B[0]) (Yi (Yi (AZ 0) (B4 (Ge hB))) (Yi rfl ?_));refine Yi (Nz rfl) ?_;refine Xi _ (Yi (hF A[0] B[0]) ?_);refine Yi (by kernel_rfl) ?_;refine Xi ⟨[(0,sl Ae A),(1,sl Ae B),(2,.v (.func (.func fF) #[] #[])),(7,.slice (.id 7 4) (O.map Ae)),(8,vi (c A[0] B[0]))],[(7,.tok 4 O.length)],Aa⟩ (Yi ⟨Z5,Z1,Fh,Tv⟩ ?_)
  refine Yi (fun h8=>?_) (fun h8=>?_)
  ·have h8:((c A[0] B[0]):Int)<(0:Int):=h8;refine Xi (Ae A[0]) (Yi (Yi (AZ 0) (B4 (Ge hA))) (Yi rfl ?_));refine Yi (Nz rfl) ?_;refine Yi (Md rfl (by omega) (by decide)) ?_;refine Yi (Dq (f:=Ae) (n:=4) (fun _=>rfl) hA).1 (Yi (Dq (f:=Ae) (n:=4) (fun _=>rfl) hA).2 ?_);have WY:(A.drop 1).length=A.length-1:=Ap ..;have WZ:(B.drop 1).length=B.length-1:=Ap ..;have eM:AW c A B=A[0]::AW c (A.drop 1) B:=by rw[Fc hA hB,Ax h8]
   refine Xi ⟨((A.drop 1),B,O++[A[0]]),by show(O++[A[0]])++AW c (A.drop 1) B=_;rw[←k1,eM,AM];rfl,by simp only[Ad,Ap,Am];omega⟩ ?_;exact⟨by show(A.drop 1).length+B.length<A.length+B.length;omega,⟨⟨(show AV.slice .none _=sl Ae (A.drop 1)from Ab (AV.slice .none) (Df A)),rfl⟩,Zr,Zr,⟨Qc,rfl⟩,Tv⟩,⟨⟨PZ,rfl⟩,Tv⟩,Fh,Tv⟩
  have h8:¬(((c A[0] B[0]):Int)<(0:Int)):=h8;refine Xi ⟨[(0,sl Ae A),(1,sl Ae B),(2,.v (.func (.func fF) #[] #[])),(7,.slice (.id 7 4) (O.map Ae)),(8,vi (c A[0] B[0]))],[(7,.tok 4 O.length)],Aa⟩ (Yi ⟨Z5,Z1,Fh,Tv⟩ ?_)
  refine Xi (Ae B[0]) (Yi (Yi (AZ 0) (B4 (Ge hB))) (Yi rfl ?_));refine Yi (Nz rfl) ?_;refine Yi (Md rfl (by omega) (by decide)) ?_;refine Yi (Dq (f:=Ae) (n:=4) (fun _=>rfl) hB).1 (Yi (Dq (f:=Ae) (n:=4) (fun _=>rfl) hB).2 ?_);refine Yi (fun IZ=>?_) (fun IZ=>?_)
  ·have IZ:((c A[0] B[0]):Int)=(0:Int):=IZ;refine Xi ⟨[(0,sl Ae A),(1,.slice .none (ua Ae B)),(2,.v (.func (.func fF) #[] #[])),(7,.slice (.id 7 4) ((O.map Ae)++[(Ae B[0])]))],[(7,.tok 4 ((O.map Ae).length+([(Ae B[0])]:List (List AV)).length))],Aa⟩ (Yi ⟨Z4,Z1,Fh,Tv⟩ ?_)
   refine Yi (Dq (f:=Ae) (n:=4) (fun _=>rfl) hA).1 (Yi (Dq (f:=Ae) (n:=4) (fun _=>rfl) hA).2 ?_);have WY:(A.drop 1).length=A.length-1:=Ap ..;have WZ:(B.drop 1).length=B.length-1:=Ap ..;have eM:AW c A B=B[0]::AW c (A.drop 1) (B.drop 1):=by rw[Fc hA hB,Ao h8,Ax IZ]
   refine Xi ⟨((A.drop 1),(B.drop 1),O++[B[0]]),by show(O++[B[0]])++AW c (A.drop 1) (B.drop 1)=_;rw[←k1,eM,AM];rfl,by simp only[Ad,Ap,Am];omega⟩ ?_;exact⟨by show(A.drop 1).length+(B.drop 1).length<A.length+B.length;omega,⟨⟨(show AV.slice .none _=sl Ae (A.drop 1)from Ab (AV.slice .none) (Df A)),rfl⟩,⟨(show AV.slice .none _=sl Ae (B.drop 1)from Ab (AV.slice .none) (Df B)),rfl⟩,Zr,⟨Qc,rfl⟩,Tv⟩,⟨⟨PZ,rfl⟩,Tv⟩,Fh,Tv⟩
  have IZ:¬(((c A[0] B[0]):Int)=(0:Int)):=IZ;have WY:(A.drop 1).length=A.length-1:=Ap ..;have WZ:(B.drop 1).length=B.length-1:=Ap ..;have eM:AW c A B=B[0]::AW c A (B.drop 1):=by rw[Fc hA hB,Ao h8,Ao IZ]
  refine Xi ⟨(A,(B.drop 1),O++[B[0]]),by show(O++[B[0]])++AW c A (B.drop 1)=_;rw[←k1,eM,AM];rfl,by simp only[Ad,Ap,Am];omega⟩ ?_;exact⟨by show A.length+(B.drop 1).length<A.length+B.length;omega,⟨Zr,⟨(show AV.slice .none _=sl Ae (B.drop 1)from Ab (AV.slice .none) (Df B)),rfl⟩,Zr,⟨Qc,rfl⟩,Tv⟩,⟨⟨PZ,rfl⟩,Tv⟩,Fh,Tv⟩
 have h1:¬((0:Int)<((A.map Ae).length:Int)):=h1;have n1:¬0<A.length:=by have q:=h1;rw[Lm]at q;omega
 refine Yi (fun Nq=>?_) (fun Nq=>?_)
 ·have Nq:(0:Int)<((B.map Ae).length:Int):=Nq;have n15:0<B.length:=by have q:=Nq;rw[Lm]at q;omega
  have hB:0<B.length:=by have q:=Nq;rw[Lm]at q;omega
  refine Yi (fun L7=>?_) (fun L7=>?_)
  ·have L7:((A.map Ae).length:Int)=(0:Int):=L7;have hB:0<B.length:=by have q:=Nq;rw[Lm]at q;first | omega | (have q2:=Nq;rw[Lm]at q2;omega)
   refine Xi ⟨[(0,sl Ae A),(1,sl Ae B),(2,.v (.func (.func fF) #[] #[])),(7,.slice (.id 7 4) (O.map Ae))],[(7,.tok 4 O.length)],Aa⟩ (Yi ⟨Z4,Z1,Fh,Tv⟩ ?_)
   refine Xi ⟨[(0,sl Ae A),(1,sl Ae B),(2,.v (.func (.func fF) #[] #[])),(7,.slice (.id 7 4) (O.map Ae)),(8,vi 1)],[(7,.tok 4 O.length)],Aa⟩ (Yi ⟨Z5,Z1,Fh,Tv⟩ ?_)
   refine Yi (fun h=>absurd h (by decide)) (fun _=>?_);refine Xi ⟨[(0,sl Ae A),(1,sl Ae B),(2,.v (.func (.func fF) #[] #[])),(7,.slice (.id 7 4) (O.map Ae)),(8,vi 1)],[(7,.tok 4 O.length)],Aa⟩ (Yi ⟨Z5,Z1,Fh,Tv⟩ ?_)
   refine Xi (Ae B[0]) (Yi (Yi (AZ 0) (B4 (Ge hB))) (Yi rfl ?_));refine Yi (Nz rfl) ?_;refine Yi (Md rfl (by omega) (by decide)) ?_;refine Yi (Dq (f:=Ae) (n:=4) (fun _=>rfl) hB).1 (Yi (Dq (f:=Ae) (n:=4) (fun _=>rfl) hB).2 ?_);refine Yi (fun h=>absurd h (by decide)) (fun _=>?_);have WY:(A.drop 1).length=A.length-1:=Ap ..;have WZ:(B.drop 1).length=B.length-1:=Ap ..;have eA:A=[]:=nH L7;have eM:AW c A B=B[0]::AW c A (B.drop 1):=by rw[eA];exact MC hB
   refine Xi ⟨(A,(B.drop 1),O++[B[0]]),by show(O++[B[0]])++AW c A (B.drop 1)=_;rw[←k1,eM,AM];rfl,by simp only[Ad,Ap,Am];omega⟩ ?_;exact⟨by show A.length+(B.drop 1).length<A.length+B.length;omega,⟨Zr,⟨(show AV.slice .none _=sl Ae (B.drop 1)from Ab (AV.slice .none) (Df B)),rfl⟩,Zr,⟨Qc,rfl⟩,Tv⟩,⟨⟨PZ,rfl⟩,Tv⟩,Fh,Tv⟩
  have L7:¬(((A.map Ae).length:Int)=(0:Int)):=L7;have hA:0<A.length:=by have q:=L7;rw[Lm]at q;omega
  refine Xi ⟨[(0,sl Ae A),(1,sl Ae B),(2,.v (.func (.func fF) #[] #[])),(7,.slice (.id 7 4) (O.map Ae))],[(7,.tok 4 O.length)],Aa⟩ (Yi ⟨Z4,Z1,Fh,Tv⟩ ?_)
  refine Yi (fun N7=>?_) (fun N7=>?_)
  ·have N7:((B.map Ae).length:Int)=(0:Int):=N7;refine Xi ⟨[(0,sl Ae A),(1,sl Ae B),(2,.v (.func (.func fF) #[] #[])),(7,.slice (.id 7 4) (O.map Ae)),(8,vi (-1))],[(7,.tok 4 O.length)],Aa⟩ (Yi ⟨Z5,Z1,Fh,Tv⟩ ?_)
   refine Yi (fun _=>?_) (fun h=>absurd (by decide) h);refine Xi (Ae A[0]) (Yi (Yi (AZ 0) (B4 (Ge hA))) (Yi rfl ?_));refine Yi (Nz rfl) ?_;refine Yi (Md rfl (by omega) (by decide)) ?_;refine Yi (Dq (f:=Ae) (n:=4) (fun _=>rfl) hA).1 (Yi (Dq (f:=Ae) (n:=4) (fun _=>rfl) hA).2 ?_);have WY:(A.drop 1).length=A.length-1:=Ap ..;have WZ:(B.drop 1).length=B.length-1:=Ap ..;have eB:B=[]:=nH N7;have eM:AW c A B=A[0]::AW c (A.drop 1) B:=by rw[eB];exact MB hA
   refine Xi ⟨((A.drop 1),B,O++[A[0]]),by show(O++[A[0]])++AW c (A.drop 1) B=_;rw[←k1,eM,AM];rfl,by simp only[Ad,Ap,Am];omega⟩ ?_;exact⟨by show(A.drop 1).length+B.length<A.length+B.length;omega,⟨⟨(show AV.slice .none _=sl Ae (A.drop 1)from Ab (AV.slice .none) (Df A)),rfl⟩,Zr,Zr,⟨Qc,rfl⟩,Tv⟩,⟨⟨PZ,rfl⟩,Tv⟩,Fh,Tv⟩
  have N7:¬(((B.map Ae).length:Int)=(0:Int)):=N7;have hB:0<B.length:=by have q:=N7;rw[Lm]at q;omega
  refine Xi (Ae A[0]) (Yi (Yi (AZ 0) (B4 (Ge hA))) (Yi rfl ?_));refine Yi (Nz rfl) ?_;refine Xi (Ae B[0]) (Yi (Yi (AZ 0) (B4 (Ge hB))) (Yi rfl ?_));refine Yi (Nz rfl) ?_;refine Xi _ (Yi (hF A[0] B[0]) ?_);refine Yi (by kernel_rfl) ?_;refine Xi ⟨[(0,sl Ae A),(1,sl Ae B),(2,.v (.func (.func fF) #[] #[])),(7,.slice (.id 7 4) (O.map Ae)),(8,vi (c A[0] B[0]))],[(7,.tok 4 O.length)],Aa⟩ (Yi ⟨Z5,Z1,Fh,Tv⟩ ?_)
  refine Yi (fun Yg=>?_) (fun Yg=>?_)
  ·have Yg:((c A[0] B[0]):Int)<(0:Int):=Yg;refine Xi (Ae A[0]) (Yi (Yi (AZ 0) (B4 (Ge hA))) (Yi rfl ?_));refine Yi (Nz rfl) ?_;refine Yi (Md rfl (by omega) (by decide)) ?_;refine Yi (Dq (f:=Ae) (n:=4) (fun _=>rfl) hA).1 (Yi (Dq (f:=Ae) (n:=4) (fun _=>rfl) hA).2 ?_);have WY:(A.drop 1).length=A.length-1:=Ap ..;have WZ:(B.drop 1).length=B.length-1:=Ap ..;have eM:AW c A B=A[0]::AW c (A.drop 1) B:=by rw[Fc hA hB,Ax Yg]
   refine Xi ⟨((A.drop 1),B,O++[A[0]]),by show(O++[A[0]])++AW c (A.drop 1) B=_;rw[←k1,eM,AM];rfl,by simp only[Ad,Ap,Am];omega⟩ ?_;exact⟨by show(A.drop 1).length+B.length<A.length+B.length;omega,⟨⟨(show AV.slice .none _=sl Ae (A.drop 1)from Ab (AV.slice .none) (Df A)),rfl⟩,Zr,Zr,⟨Qc,rfl⟩,Tv⟩,⟨⟨PZ,rfl⟩,Tv⟩,Fh,Tv⟩
  have Yg:¬(((c A[0] B[0]):Int)<(0:Int)):=Yg;refine Xi ⟨[(0,sl Ae A),(1,sl Ae B),(2,.v (.func (.func fF) #[] #[])),(7,.slice (.id 7 4) (O.map Ae)),(8,vi (c A[0] B[0]))],[(7,.tok 4 O.length)],Aa⟩ (Yi ⟨Z5,Z1,Fh,Tv⟩ ?_)
  refine Xi (Ae B[0]) (Yi (Yi (AZ 0) (B4 (Ge hB))) (Yi rfl ?_));refine Yi (Nz rfl) ?_;refine Yi (Md rfl (by omega) (by decide)) ?_;refine Yi (Dq (f:=Ae) (n:=4) (fun _=>rfl) hB).1 (Yi (Dq (f:=Ae) (n:=4) (fun _=>rfl) hB).2 ?_);refine Yi (fun ZY=>?_) (fun ZY=>?_)
  ·have ZY:((c A[0] B[0]):Int)=(0:Int):=ZY;refine Xi ⟨[(0,sl Ae A),(1,.slice .none (ua Ae B)),(2,.v (.func (.func fF) #[] #[])),(7,.slice (.id 7 4) ((O.map Ae)++[(Ae B[0])]))],[(7,.tok 4 ((O.map Ae).length+([(Ae B[0])]:List (List AV)).length))],Aa⟩ (Yi ⟨Z4,Z1,Fh,Tv⟩ ?_)
   refine Yi (Dq (f:=Ae) (n:=4) (fun _=>rfl) hA).1 (Yi (Dq (f:=Ae) (n:=4) (fun _=>rfl) hA).2 ?_);have WY:(A.drop 1).length=A.length-1:=Ap ..;have WZ:(B.drop 1).length=B.length-1:=Ap ..;have eM:AW c A B=B[0]::AW c (A.drop 1) (B.drop 1):=by rw[Fc hA hB,Ao Yg,Ax ZY]
   refine Xi ⟨((A.drop 1),(B.drop 1),O++[B[0]]),by show(O++[B[0]])++AW c (A.drop 1) (B.drop 1)=_;rw[←k1,eM,AM];rfl,by simp only[Ad,Ap,Am];omega⟩ ?_;exact⟨by show(A.drop 1).length+(B.drop 1).length<A.length+B.length;omega,⟨⟨(show AV.slice .none _=sl Ae (A.drop 1)from Ab (AV.slice .none) (Df A)),rfl⟩,⟨(show AV.slice .none _=sl Ae (B.drop 1)from Ab (AV.slice .none) (Df B)),rfl⟩,Zr,⟨Qc,rfl⟩,Tv⟩,⟨⟨PZ,rfl⟩,Tv⟩,Fh,Tv⟩
  have ZY:¬(((c A[0] B[0]):Int)=(0:Int)):=ZY;have WY:(A.drop 1).length=A.length-1:=Ap ..;have WZ:(B.drop 1).length=B.length-1:=Ap ..;have eM:AW c A B=B[0]::AW c A (B.drop 1):=by rw[Fc hA hB,Ao Yg,Ao ZY]
  refine Xi ⟨(A,(B.drop 1),O++[B[0]]),by show(O++[B[0]])++AW c A (B.drop 1)=_;rw[←k1,eM,AM];rfl,by simp only[Ad,Ap,Am];omega⟩ ?_;exact⟨by show A.length+(B.drop 1).length<A.length+B.length;omega,⟨Zr,⟨(show AV.slice .none _=sl Ae (B.drop 1)from Ab (AV.slice .none) (Df B)),rfl⟩,Zr,⟨Qc,rfl⟩,Tv⟩,⟨⟨PZ,rfl⟩,Tv⟩,Fh,Tv⟩
 have Nq:¬((0:Int)<((B.map Ae).length:Int)):=Nq;have n15:¬0<B.length:=by have q:=Nq;rw[Lm]at q;omega
 have eA:A=[]:=uD h1;have eB:B=[]:=uD Nq;have eO:O=AW c a b:=by rw[←k1,eA,eB,Oi,BE]
 exact .of_eq (Ab (fun z=>sl Ae z) eO)
theorem xS(a b:List Sl)(ha:Co a)(hb:Co b):PC 63 [sl Ae a,sl Ae b,.v (.func (.func 55) #[] #[])] (sl Ae (AW Fi a b)):=o63 a b ha hb Fi 55 xO
theorem xR(a b:List Sl)(ha:Co a)(hb:Co b):PC 63 [sl Ae a,sl Ae b,.v (.func (.func 61) #[] #[])] (sl Ae (AW I3 a b)):=o63 a b ha hb I3 61 o61
theorem o38(a b:List Rl)(ha:Co a)(hb:Co b):PC 38 [sl Ai a,sl Ai b,.v (.func (.func 39) #[] #[])] (sl Ai (AW Cj a b)):=by
 have ha:a.length≤1073741824:=ha;have hb:b.length≤1073741824:=hb;refine Ps ⟨[],[(7,9)],[],[],[],[],[],[],[],[],[6,7,9,12,15]⟩ Tryz.func38 rfl (Nz rfl) ?_;refine Xi {q:List Rl×List Rl×List Rl // q.2.2++AW Cj q.1 q.2.1=AW Cj a b∧q.2.2.length+q.1.length+q.2.1.length≤a.length+b.length} (Xi (fun q=>⟨[(0,sl Ai q.1.1),(1,sl Ai q.1.2.1),(2,.v (.func (.func 39) #[] #[])),(7,.slice (.id 7 9) (q.1.2.2.map Ai))],[(7,.tok 9 q.1.2.2.length)],Aa⟩) (Xi (fun q=>q.1.1.length+q.1.2.1.length) (Yi (Xi ⟨(a,b,[]),En _,by simp⟩ ?_) ?_)))
 ·exact⟨Z4,Z1,Fh,Tv⟩
 intro⟨⟨A,B,O⟩,k1,k2⟩;have k1:O++AW Cj A B=AW Cj a b:=k1;have k2:O.length+A.length+B.length≤a.length+b.length:=k2;refine Yi (fun h1=>?_) (fun h1=>?_)
 ·have h1:(0:Int)<((A.map Ai).length:Int):=h1;have n1:0<A.length:=by have q:=h1;rw[Lm]at q;omega
  have hA:0<A.length:=by have q:=h1;rw[Lm]at q;omega
  refine Yi (fun h2=>?_) (fun h2=>?_)
  ·have h2:((A.map Ai).length:Int)=(0:Int):=h2;have hB:0<B.length:=by have q:=h1;rw[Lm]at q;first | omega | (have q2:=h1;rw[Lm]at q2;omega)
   refine Xi ⟨[(0,sl Ai A),(1,sl Ai B),(2,.v (.func (.func 39) #[] #[])),(7,.slice (.id 7 9) (O.map Ai))],[(7,.tok 9 O.length)],Aa⟩ (Yi ⟨Z4,Z1,Fh,Tv⟩ ?_)
   refine Xi ⟨[(0,sl Ai A),(1,sl Ai B),(2,.v (.func (.func 39) #[] #[])),(7,.slice (.id 7 9) (O.map Ai)),(8,vi 1)],[(7,.tok 9 O.length)],Aa⟩ (Yi ⟨Z5,Z1,Fh,Tv⟩ ?_)
   refine Yi (fun h=>absurd h (by decide)) (fun _=>?_);refine Xi ⟨[(0,sl Ai A),(1,sl Ai B),(2,.v (.func (.func 39) #[] #[])),(7,.slice (.id 7 9) (O.map Ai)),(8,vi 1)],[(7,.tok 9 O.length)],Aa⟩ (Yi ⟨Z5,Z1,Fh,Tv⟩ ?_)
   refine Xi (Ai B[0]) (Yi (Yi (AZ 0) (B4 (Ge hB))) (Yi rfl ?_));refine Yi (Nz rfl) ?_;refine Yi (Md rfl (by omega) (by decide)) ?_;refine Yi (Dq (f:=Ai) (n:=9) (fun _=>rfl) hB).1 (Yi (Dq (f:=Ai) (n:=9) (fun _=>rfl) hB).2 ?_);refine Yi (fun h=>absurd h (by decide)) (fun _=>?_);have WY:(A.drop 1).length=A.length-1:=Ap ..;have WZ:(B.drop 1).length=B.length-1:=Ap ..;have eA:A=[]:=nH h2;have eM:AW Cj A B=B[0]::AW Cj A (B.drop 1):=by rw[eA];exact MC hB
   refine Xi ⟨(A,(B.drop 1),O++[B[0]]),by show(O++[B[0]])++AW Cj A (B.drop 1)=_;rw[←k1,eM,AM];rfl,by simp only[Ad,Ap,Am];omega⟩ ?_;exact⟨by show A.length+(B.drop 1).length<A.length+B.length;omega,⟨Zr,⟨(show AV.slice .none _=sl Ai (B.drop 1)from Ab (AV.slice .none) (Df B)),rfl⟩,Zr,⟨Qc,rfl⟩,Tv⟩,⟨⟨PZ,rfl⟩,Tv⟩,Fh,Tv⟩
  have h2:¬(((A.map Ai).length:Int)=(0:Int)):=h2;have hA:0<A.length:=by have q:=h2;rw[Lm]at q;omega
  refine Xi ⟨[(0,sl Ai A),(1,sl Ai B),(2,.v (.func (.func 39) #[] #[])),(7,.slice (.id 7 9) (O.map Ai))],[(7,.tok 9 O.length)],Aa⟩ (Yi ⟨Z4,Z1,Fh,Tv⟩ ?_)
  refine Yi (fun h5=>?_) (fun h5=>?_)
  ·have h5:((B.map Ai).length:Int)=(0:Int):=h5;refine Xi ⟨[(0,sl Ai A),(1,sl Ai B),(2,.v (.func (.func 39) #[] #[])),(7,.slice (.id 7 9) (O.map Ai)),(8,vi (-1))],[(7,.tok 9 O.length)],Aa⟩ (Yi ⟨Z5,Z1,Fh,Tv⟩ ?_)
   refine Yi (fun _=>?_) (fun h=>absurd (by decide) h);refine Xi (Ai A[0]) (Yi (Yi (AZ 0) (B4 (Ge hA))) (Yi rfl ?_));refine Yi (Nz rfl) ?_;refine Yi (Md rfl (by omega) (by decide)) ?_;refine Yi (Dq (f:=Ai) (n:=9) (fun _=>rfl) hA).1 (Yi (Dq (f:=Ai) (n:=9) (fun _=>rfl) hA).2 ?_);have WY:(A.drop 1).length=A.length-1:=Ap ..;have WZ:(B.drop 1).length=B.length-1:=Ap ..;have eB:B=[]:=nH h5;have eM:AW Cj A B=A[0]::AW Cj (A.drop 1) B:=by rw[eB];exact MB hA
   refine Xi ⟨((A.drop 1),B,O++[A[0]]),by show(O++[A[0]])++AW Cj (A.drop 1) B=_;rw[←k1,eM,AM];rfl,by simp only[Ad,Ap,Am];omega⟩ ?_;exact⟨by show(A.drop 1).length+B.length<A.length+B.length;omega,⟨⟨(show AV.slice .none _=sl Ai (A.drop 1)from Ab (AV.slice .none) (Df A)),rfl⟩,Zr,Zr,⟨Qc,rfl⟩,Tv⟩,⟨⟨PZ,rfl⟩,Tv⟩,Fh,Tv⟩
  have h5:¬(((B.map Ai).length:Int)=(0:Int)):=h5;have hB:0<B.length:=by have q:=h5;rw[Lm]at q;omega
  refine Xi (Ai A[0]) (Yi (Yi (AZ 0) (B4 (Ge hA))) (Yi rfl ?_));refine Yi (Nz rfl) ?_;refine Xi (Ai B[0]) (Yi (Yi (AZ 0) (B4 (Ge hB))) (Yi rfl ?_));refine Yi (Nz rfl) ?_;refine Xi _ (Yi (o39 A[0] B[0]) ?_);refine Yi (by kernel_rfl) ?_;refine Xi ⟨[(0,sl Ai A),(1,sl Ai B),(2,.v (.func (.func 39) #[] #[])),(7,.slice (.id 7 9) (O.map Ai)),(8,vi (Cj A[0] B[0]))],[(7,.tok 9 O.length)],Aa⟩ (Yi ⟨Z5,Z1,Fh,Tv⟩ ?_)
  refine Yi (fun h8=>?_) (fun h8=>?_)
  ·have h8:((Cj A[0] B[0]):Int)<(0:Int):=h8;refine Xi (Ai A[0]) (Yi (Yi (AZ 0) (B4 (Ge hA))) (Yi rfl ?_));refine Yi (Nz rfl) ?_;refine Yi (Md rfl (by omega) (by decide)) ?_;refine Yi (Dq (f:=Ai) (n:=9) (fun _=>rfl) hA).1 (Yi (Dq (f:=Ai) (n:=9) (fun _=>rfl) hA).2 ?_);have WY:(A.drop 1).length=A.length-1:=Ap ..;have WZ:(B.drop 1).length=B.length-1:=Ap ..;have eM:AW Cj A B=A[0]::AW Cj (A.drop 1) B:=by rw[Fc hA hB,Ax h8]
   refine Xi ⟨((A.drop 1),B,O++[A[0]]),by show(O++[A[0]])++AW Cj (A.drop 1) B=_;rw[←k1,eM,AM];rfl,by simp only[Ad,Ap,Am];omega⟩ ?_;exact⟨by show(A.drop 1).length+B.length<A.length+B.length;omega,⟨⟨(show AV.slice .none _=sl Ai (A.drop 1)from Ab (AV.slice .none) (Df A)),rfl⟩,Zr,Zr,⟨Qc,rfl⟩,Tv⟩,⟨⟨PZ,rfl⟩,Tv⟩,Fh,Tv⟩
  have h8:¬(((Cj A[0] B[0]):Int)<(0:Int)):=h8;refine Xi ⟨[(0,sl Ai A),(1,sl Ai B),(2,.v (.func (.func 39) #[] #[])),(7,.slice (.id 7 9) (O.map Ai)),(8,vi (Cj A[0] B[0]))],[(7,.tok 9 O.length)],Aa⟩ (Yi ⟨Z5,Z1,Fh,Tv⟩ ?_)
  refine Xi (Ai B[0]) (Yi (Yi (AZ 0) (B4 (Ge hB))) (Yi rfl ?_));refine Yi (Nz rfl) ?_;refine Yi (Md rfl (by omega) (by decide)) ?_;refine Yi (Dq (f:=Ai) (n:=9) (fun _=>rfl) hB).1 (Yi (Dq (f:=Ai) (n:=9) (fun _=>rfl) hB).2 ?_);refine Yi (fun IZ=>?_) (fun IZ=>?_)
  ·have IZ:((Cj A[0] B[0]):Int)=(0:Int):=IZ;refine Xi ⟨[(0,sl Ai A),(1,.slice .none (ua Ai B)),(2,.v (.func (.func 39) #[] #[])),(7,.slice (.id 7 9) ((O.map Ai)++[(Ai B[0])]))],[(7,.tok 9 ((O.map Ai).length+([(Ai B[0])]:List (List AV)).length))],Aa⟩ (Yi ⟨Z4,Z1,Fh,Tv⟩ ?_)
   refine Yi (Dq (f:=Ai) (n:=9) (fun _=>rfl) hA).1 (Yi (Dq (f:=Ai) (n:=9) (fun _=>rfl) hA).2 ?_);have WY:(A.drop 1).length=A.length-1:=Ap ..;have WZ:(B.drop 1).length=B.length-1:=Ap ..;have eM:AW Cj A B=B[0]::AW Cj (A.drop 1) (B.drop 1):=by rw[Fc hA hB,Ao h8,Ax IZ]
   refine Xi ⟨((A.drop 1),(B.drop 1),O++[B[0]]),by show(O++[B[0]])++AW Cj (A.drop 1) (B.drop 1)=_;rw[←k1,eM,AM];rfl,by simp only[Ad,Ap,Am];omega⟩ ?_;exact⟨by show(A.drop 1).length+(B.drop 1).length<A.length+B.length;omega,⟨⟨(show AV.slice .none _=sl Ai (A.drop 1)from Ab (AV.slice .none) (Df A)),rfl⟩,⟨(show AV.slice .none _=sl Ai (B.drop 1)from Ab (AV.slice .none) (Df B)),rfl⟩,Zr,⟨Qc,rfl⟩,Tv⟩,⟨⟨PZ,rfl⟩,Tv⟩,Fh,Tv⟩
  have IZ:¬(((Cj A[0] B[0]):Int)=(0:Int)):=IZ;have WY:(A.drop 1).length=A.length-1:=Ap ..;have WZ:(B.drop 1).length=B.length-1:=Ap ..;have eM:AW Cj A B=B[0]::AW Cj A (B.drop 1):=by rw[Fc hA hB,Ao h8,Ao IZ]
  refine Xi ⟨(A,(B.drop 1),O++[B[0]]),by show(O++[B[0]])++AW Cj A (B.drop 1)=_;rw[←k1,eM,AM];rfl,by simp only[Ad,Ap,Am];omega⟩ ?_;exact⟨by show A.length+(B.drop 1).length<A.length+B.length;omega,⟨Zr,⟨(show AV.slice .none _=sl Ai (B.drop 1)from Ab (AV.slice .none) (Df B)),rfl⟩,Zr,⟨Qc,rfl⟩,Tv⟩,⟨⟨PZ,rfl⟩,Tv⟩,Fh,Tv⟩
 have h1:¬((0:Int)<((A.map Ai).length:Int)):=h1;have n1:¬0<A.length:=by have q:=h1;rw[Lm]at q;omega
 refine Yi (fun Nq=>?_) (fun Nq=>?_)
 ·have Nq:(0:Int)<((B.map Ai).length:Int):=Nq;have n15:0<B.length:=by have q:=Nq;rw[Lm]at q;omega
  have hB:0<B.length:=by have q:=Nq;rw[Lm]at q;omega
  refine Yi (fun L7=>?_) (fun L7=>?_)
  ·have L7:((A.map Ai).length:Int)=(0:Int):=L7;have hB:0<B.length:=by have q:=Nq;rw[Lm]at q;first | omega | (have q2:=Nq;rw[Lm]at q2;omega)
   refine Xi ⟨[(0,sl Ai A),(1,sl Ai B),(2,.v (.func (.func 39) #[] #[])),(7,.slice (.id 7 9) (O.map Ai))],[(7,.tok 9 O.length)],Aa⟩ (Yi ⟨Z4,Z1,Fh,Tv⟩ ?_)
   refine Xi ⟨[(0,sl Ai A),(1,sl Ai B),(2,.v (.func (.func 39) #[] #[])),(7,.slice (.id 7 9) (O.map Ai)),(8,vi 1)],[(7,.tok 9 O.length)],Aa⟩ (Yi ⟨Z5,Z1,Fh,Tv⟩ ?_)
   refine Yi (fun h=>absurd h (by decide)) (fun _=>?_);refine Xi ⟨[(0,sl Ai A),(1,sl Ai B),(2,.v (.func (.func 39) #[] #[])),(7,.slice (.id 7 9) (O.map Ai)),(8,vi 1)],[(7,.tok 9 O.length)],Aa⟩ (Yi ⟨Z5,Z1,Fh,Tv⟩ ?_)
   refine Xi (Ai B[0]) (Yi (Yi (AZ 0) (B4 (Ge hB))) (Yi rfl ?_));refine Yi (Nz rfl) ?_;refine Yi (Md rfl (by omega) (by decide)) ?_;refine Yi (Dq (f:=Ai) (n:=9) (fun _=>rfl) hB).1 (Yi (Dq (f:=Ai) (n:=9) (fun _=>rfl) hB).2 ?_);refine Yi (fun h=>absurd h (by decide)) (fun _=>?_);have WY:(A.drop 1).length=A.length-1:=Ap ..;have WZ:(B.drop 1).length=B.length-1:=Ap ..;have eA:A=[]:=nH L7;have eM:AW Cj A B=B[0]::AW Cj A (B.drop 1):=by rw[eA];exact MC hB
   refine Xi ⟨(A,(B.drop 1),O++[B[0]]),by show(O++[B[0]])++AW Cj A (B.drop 1)=_;rw[←k1,eM,AM];rfl,by simp only[Ad,Ap,Am];omega⟩ ?_;exact⟨by show A.length+(B.drop 1).length<A.length+B.length;omega,⟨Zr,⟨(show AV.slice .none _=sl Ai (B.drop 1)from Ab (AV.slice .none) (Df B)),rfl⟩,Zr,⟨Qc,rfl⟩,Tv⟩,⟨⟨PZ,rfl⟩,Tv⟩,Fh,Tv⟩
  have L7:¬(((A.map Ai).length:Int)=(0:Int)):=L7;have hA:0<A.length:=by have q:=L7;rw[Lm]at q;omega
  refine Xi ⟨[(0,sl Ai A),(1,sl Ai B),(2,.v (.func (.func 39) #[] #[])),(7,.slice (.id 7 9) (O.map Ai))],[(7,.tok 9 O.length)],Aa⟩ (Yi ⟨Z4,Z1,Fh,Tv⟩ ?_)
  refine Yi (fun N7=>?_) (fun N7=>?_)
  ·have N7:((B.map Ai).length:Int)=(0:Int):=N7;refine Xi ⟨[(0,sl Ai A),(1,sl Ai B),(2,.v (.func (.func 39) #[] #[])),(7,.slice (.id 7 9) (O.map Ai)),(8,vi (-1))],[(7,.tok 9 O.length)],Aa⟩ (Yi ⟨Z5,Z1,Fh,Tv⟩ ?_)
   refine Yi (fun _=>?_) (fun h=>absurd (by decide) h);refine Xi (Ai A[0]) (Yi (Yi (AZ 0) (B4 (Ge hA))) (Yi rfl ?_));refine Yi (Nz rfl) ?_;refine Yi (Md rfl (by omega) (by decide)) ?_;refine Yi (Dq (f:=Ai) (n:=9) (fun _=>rfl) hA).1 (Yi (Dq (f:=Ai) (n:=9) (fun _=>rfl) hA).2 ?_);have WY:(A.drop 1).length=A.length-1:=Ap ..;have WZ:(B.drop 1).length=B.length-1:=Ap ..;have eB:B=[]:=nH N7;have eM:AW Cj A B=A[0]::AW Cj (A.drop 1) B:=by rw[eB];exact MB hA
   refine Xi ⟨((A.drop 1),B,O++[A[0]]),by show(O++[A[0]])++AW Cj (A.drop 1) B=_;rw[←k1,eM,AM];rfl,by simp only[Ad,Ap,Am];omega⟩ ?_;exact⟨by show(A.drop 1).length+B.length<A.length+B.length;omega,⟨⟨(show AV.slice .none _=sl Ai (A.drop 1)from Ab (AV.slice .none) (Df A)),rfl⟩,Zr,Zr,⟨Qc,rfl⟩,Tv⟩,⟨⟨PZ,rfl⟩,Tv⟩,Fh,Tv⟩
  have N7:¬(((B.map Ai).length:Int)=(0:Int)):=N7;have hB:0<B.length:=by have q:=N7;rw[Lm]at q;omega
  refine Xi (Ai A[0]) (Yi (Yi (AZ 0) (B4 (Ge hA))) (Yi rfl ?_));refine Yi (Nz rfl) ?_;refine Xi (Ai B[0]) (Yi (Yi (AZ 0) (B4 (Ge hB))) (Yi rfl ?_));refine Yi (Nz rfl) ?_;refine Xi _ (Yi (o39 A[0] B[0]) ?_);refine Yi (by kernel_rfl) ?_;refine Xi ⟨[(0,sl Ai A),(1,sl Ai B),(2,.v (.func (.func 39) #[] #[])),(7,.slice (.id 7 9) (O.map Ai)),(8,vi (Cj A[0] B[0]))],[(7,.tok 9 O.length)],Aa⟩ (Yi ⟨Z5,Z1,Fh,Tv⟩ ?_)
  refine Yi (fun Yg=>?_) (fun Yg=>?_)
  ·have Yg:((Cj A[0] B[0]):Int)<(0:Int):=Yg;refine Xi (Ai A[0]) (Yi (Yi (AZ 0) (B4 (Ge hA))) (Yi rfl ?_));refine Yi (Nz rfl) ?_;refine Yi (Md rfl (by omega) (by decide)) ?_;refine Yi (Dq (f:=Ai) (n:=9) (fun _=>rfl) hA).1 (Yi (Dq (f:=Ai) (n:=9) (fun _=>rfl) hA).2 ?_);have WY:(A.drop 1).length=A.length-1:=Ap ..;have WZ:(B.drop 1).length=B.length-1:=Ap ..;have eM:AW Cj A B=A[0]::AW Cj (A.drop 1) B:=by rw[Fc hA hB,Ax Yg]
   refine Xi ⟨((A.drop 1),B,O++[A[0]]),by show(O++[A[0]])++AW Cj (A.drop 1) B=_;rw[←k1,eM,AM];rfl,by simp only[Ad,Ap,Am];omega⟩ ?_;exact⟨by show(A.drop 1).length+B.length<A.length+B.length;omega,⟨⟨(show AV.slice .none _=sl Ai (A.drop 1)from Ab (AV.slice .none) (Df A)),rfl⟩,Zr,Zr,⟨Qc,rfl⟩,Tv⟩,⟨⟨PZ,rfl⟩,Tv⟩,Fh,Tv⟩
  have Yg:¬(((Cj A[0] B[0]):Int)<(0:Int)):=Yg;refine Xi ⟨[(0,sl Ai A),(1,sl Ai B),(2,.v (.func (.func 39) #[] #[])),(7,.slice (.id 7 9) (O.map Ai)),(8,vi (Cj A[0] B[0]))],[(7,.tok 9 O.length)],Aa⟩ (Yi ⟨Z5,Z1,Fh,Tv⟩ ?_)
  refine Xi (Ai B[0]) (Yi (Yi (AZ 0) (B4 (Ge hB))) (Yi rfl ?_));refine Yi (Nz rfl) ?_;refine Yi (Md rfl (by omega) (by decide)) ?_;refine Yi (Dq (f:=Ai) (n:=9) (fun _=>rfl) hB).1 (Yi (Dq (f:=Ai) (n:=9) (fun _=>rfl) hB).2 ?_);refine Yi (fun ZY=>?_) (fun ZY=>?_)
  ·have ZY:((Cj A[0] B[0]):Int)=(0:Int):=ZY;refine Xi ⟨[(0,sl Ai A),(1,.slice .none (ua Ai B)),(2,.v (.func (.func 39) #[] #[])),(7,.slice (.id 7 9) ((O.map Ai)++[(Ai B[0])]))],[(7,.tok 9 ((O.map Ai).length+([(Ai B[0])]:List (List AV)).length))],Aa⟩ (Yi ⟨Z4,Z1,Fh,Tv⟩ ?_)
   refine Yi (Dq (f:=Ai) (n:=9) (fun _=>rfl) hA).1 (Yi (Dq (f:=Ai) (n:=9) (fun _=>rfl) hA).2 ?_);have WY:(A.drop 1).length=A.length-1:=Ap ..;have WZ:(B.drop 1).length=B.length-1:=Ap ..;have eM:AW Cj A B=B[0]::AW Cj (A.drop 1) (B.drop 1):=by rw[Fc hA hB,Ao Yg,Ax ZY]
   refine Xi ⟨((A.drop 1),(B.drop 1),O++[B[0]]),by show(O++[B[0]])++AW Cj (A.drop 1) (B.drop 1)=_;rw[←k1,eM,AM];rfl,by simp only[Ad,Ap,Am];omega⟩ ?_;exact⟨by show(A.drop 1).length+(B.drop 1).length<A.length+B.length;omega,⟨⟨(show AV.slice .none _=sl Ai (A.drop 1)from Ab (AV.slice .none) (Df A)),rfl⟩,⟨(show AV.slice .none _=sl Ai (B.drop 1)from Ab (AV.slice .none) (Df B)),rfl⟩,Zr,⟨Qc,rfl⟩,Tv⟩,⟨⟨PZ,rfl⟩,Tv⟩,Fh,Tv⟩
  have ZY:¬(((Cj A[0] B[0]):Int)=(0:Int)):=ZY;have WY:(A.drop 1).length=A.length-1:=Ap ..;have WZ:(B.drop 1).length=B.length-1:=Ap ..;have eM:AW Cj A B=B[0]::AW Cj A (B.drop 1):=by rw[Fc hA hB,Ao Yg,Ao ZY]
  refine Xi ⟨(A,(B.drop 1),O++[B[0]]),by show(O++[B[0]])++AW Cj A (B.drop 1)=_;rw[←k1,eM,AM];rfl,by simp only[Ad,Ap,Am];omega⟩ ?_;exact⟨by show A.length+(B.drop 1).length<A.length+B.length;omega,⟨Zr,⟨(show AV.slice .none _=sl Ai (B.drop 1)from Ab (AV.slice .none) (Df B)),rfl⟩,Zr,⟨Qc,rfl⟩,Tv⟩,⟨⟨PZ,rfl⟩,Tv⟩,Fh,Tv⟩
 have Nq:¬((0:Int)<((B.map Ai).length:Int)):=Nq;have n15:¬0<B.length:=by have q:=Nq;rw[Lm]at q;omega
 have eA:A=[]:=uD h1;have eB:B=[]:=uD Nq;have eO:O=AW Cj a b:=by rw[←k1,eA,eB,Oi,BE]
 exact .of_eq (Ab (fun z=>sl Ai z) eO)
end Go.Eng
