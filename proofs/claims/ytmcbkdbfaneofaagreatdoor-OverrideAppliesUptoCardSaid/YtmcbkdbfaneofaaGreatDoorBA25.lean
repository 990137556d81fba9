/- Lemmas for the claims of this seat, without a condition: part 25 (O5). -/
import Derived.Test.YtmcbkdbfaneofaaGreatDoorBA24
set_option maxHeartbeats 4000000
namespace Go.Eng
open Go.Proofs
def Db{α:Type}(c:α→α→Int):Nat→List α→List α→List α
 |0,_,_=>[]
 |_+1,[],[]=>[]
 |n+1,[],y::b=>y::Db c n [] b
 |n+1,x::a,[]=>x::Db c n a []
 |n+1,x::a,y::b=>if c x y<0 then x::Db c n a (y::b)else if c x y=0 then y::Db c n a b else y::Db c n (x::a) b
theorem Hy{α:Type}(c:α→α→Int):∀(n m:Nat) (a b:List α),a.length+b.length≤n→a.length+b.length≤m→Db c n a b=Db c m a b
 |0,m,a,b,h,_=>by
  have ha:a=[]:=AA (by omega);have hb:b=[]:=AA (by omega);subst ha;subst hb;cases m<;>rfl
 |n+1,0,a,b,_,h=>by
  have ha:a=[]:=AA (by omega);have hb:b=[]:=AA (by omega);subst ha;subst hb;rfl
 |n+1,m+1,a,b,h,k=>by
  cases a with
  |nil =>
   cases b with
   |nil=>rfl
   |cons y b =>
    simp only[Av,AE]at h k;show y::Db c n [] b=y::Db c m [] b;rw[Hy c n m [] b (by simp only[AE];omega) (by simp only[AE];omega)]
  |cons x a =>
   cases b with
   |nil =>
    simp only[Av,AE]at h k;show x::Db c n a []=x::Db c m a [];rw[Hy c n m a [] (by simp only[AE];omega) (by simp only[AE];omega)]
   |cons y b =>
    simp only[Av]at h k;show(if c x y<0 then x::Db c n a (y::b)else if c x y=0 then y::Db c n a b else y::Db c n (x::a) b)=if c x y<0 then x::Db c m a (y::b)else if c x y=0 then y::Db c m a b else y::Db c m (x::a) b
    rw[Hy c n m a (y::b) (by simp only[Av];omega) (by simp only[Av];omega),Hy c n m a b (by omega) (by omega),Hy c n m (x::a) b (by simp only[Av];omega) (by simp only[Av];omega)]
def A4{α:Type}(c:α→α→Int)(a b:List α):List α:=Db c (a.length+b.length) a b
section
variable {α:Type}{c:α→α→Int}
theorem Om:A4 c [] ([]:List α)=[]:=rfl
theorem ME{a:List α}(h:0<a.length):A4 c a []=a[0]::A4 c (a.drop 1) []:=by
 cases a with
 |nil=>cases h
 |cons x a=>rfl
theorem MF{b:List α}(h:0<b.length):A4 c [] b=b[0]::A4 c [] (b.drop 1):=by
 cases b with
 |nil=>cases h
 |cons y b =>
  show Db c (0+(b.length+1)) [] (y::b)=y::Db c (0+b.length) [] b;rw[show 0+(b.length+1)=0+b.length+1 by omega];rfl
theorem Fa{a b:List α}(ha:0<a.length)(hb:0<b.length):A4 c a b=if c a[0] b[0]<0 then a[0]::A4 c (a.drop 1) b else if c a[0] b[0]=0 then b[0]::A4 c (a.drop 1) (b.drop 1)else b[0]::A4 c a (b.drop 1):=by
 cases a with
 |nil=>cases ha
 |cons x a =>
  cases b with
  |nil=>cases hb
  |cons y b =>
   show Db c ((a.length+1)+(b.length+1)) (x::a) (y::b)=if c x y<0 then x::Db c (a.length+(b.length+1)) a (y::b)else if c x y=0 then y::Db c (a.length+b.length) a b else y::Db c ((a.length+1)+b.length) (x::a) b
   rw[show(a.length+1)+(b.length+1)=(a.length+b.length+1)+1 by omega];show(if c x y<0 then x::Db c (a.length+b.length+1) a (y::b)else if c x y=0 then y::Db c (a.length+b.length+1) a b else y::Db c (a.length+b.length+1) (x::a) b)=_;rw[Hy c (a.length+b.length+1) (a.length+b.length) a b (by omega) (by omega),show a.length+(b.length+1)=a.length+b.length+1 by omega,show a.length+1+b.length=a.length+b.length+1 by omega]
theorem IB:∀(n:Nat) (a b:List α),(Db c n a b).length≤n
 |0,_,_=>Am _
 |n+1,[],[]=>AF _
 |n+1,[],y::b=>DT (IB n [] b)
 |n+1,x::a,[]=>DT (IB n a [])
 |n+1,x::a,y::b=>by
  show(if c x y<0 then x::Db c n a (y::b)else if c x y=0 then y::Db c n a b else y::Db c n (x::a) b).length≤n+1;have h1:=IB n a (y::b);have h2:=IB n a b;have h3:=IB n (x::a) b;split
  ·rw[Av];omega
  ·split<;>(rw[Av];omega)
theorem LD(a b:List α):(A4 c a b).length≤a.length+b.length:=IB _ a b
theorem De{β:Type}{f:α→β}(a:List α):((a.map f).take (((a.map f).length:Nat):Int).toNat).drop ((1:Int)).toNat=(a.drop 1).map f:=by
 rw[Bl,Dq,show((1:Int)).toNat=1 from rfl,List.map_drop]
end
abbrev Ca(r s:Rl):Int:=Gn ⟨r.path,r.ver⟩ ⟨s.path,s.ver⟩
abbrev tY{α:Type}(f:α→List AV)(a:List α):List (List AV):=((a.map f).take (((a.map f).length:Nat):Int).toNat).drop ((1:Int)).toNat
theorem Dr{α:Type}{f:α→List AV}{n:Nat}(hf:∀x,(f x).length=n){a:List α}(h:0<a.length):((0:Int)≤1∧(1:Int)≤((a.map f).length:Nat)∧(((a.map f).length:Nat):Int)≤((a.map f).length:Nat))∧∀cs∈a.map f,cs.length=n:=by
 refine⟨by rw[Lm];omega,fun cs hcs=>?_⟩;obtain⟨q,_,rfl⟩:=Ao.1 hcs;exact hf q
theorem ux{α:Type}{f:α→List AV}{l:List α}(h:¬(0:Int)<((l.map f).length:Int)):l=[]:=AA (by rw[Lm]at h;omega)
theorem nC{α:Type}{f:α→List AV}{l:List α}(h:((l.map f).length:Int)=(0:Int)):l=[]:=AA (by rw[Lm]at h;omega)
theorem o63(a b:List Sl)(ha:Ci a)(hb:Ci b)(c:Sl→Sl→Int)(fF:Nat)(hF:∀x y,PC fF [.agg (Ae x),.agg (Ae y)] (vi (c x y))):PC 63 [sl Ae a,sl Ae b,.v (.func (.func fF) #[] #[])] (sl Ae (A4 c a b)):=by
 have ha:a.length≤1073741824:=ha;have hb:b.length≤1073741824:=hb;refine Ps ⟨[],[(7,4)],[],[],[],[],[],[],[],[],[6,7,9,12,15]⟩ Tryz.func63 rfl (Nz rfl) ?_;refine Xi {q:List Sl×List Sl×List Sl // q.2.2++A4 c q.1 q.2.1=A4 c a b∧q.2.2.length+q.1.length+q.2.1.length≤a.length+b.length} (Xi (fun q=>⟨[(0,sl Ae q.1.1),(1,sl Ae q.1.2.1),(2,.v (.func (.func fF) #[] #[])),(7,.slice (.id 7 4) (q.1.2.2.map Ae))],[(7,.tok 4 q.1.2.2.length)],Ab⟩) (Xi (fun q=>q.1.1.length+q.1.2.1.length) (Yi (Xi ⟨(a,b,[]),Ep _,by simp⟩ ?_) ?_)))
 ·exact⟨Z4,Z1,Fh,Tv⟩
 intro⟨⟨A,B,O⟩,k1,k2⟩;have k1:O++A4 c A B=A4 c a b:=k1;have k2:O.length+A.length+B.length≤a.length+b.length:=k2;refine Yi (fun h1=>?_) (fun h1=>?_)
 ·have h1:(0:Int)<((A.map Ae).length:Int):=h1;have n1:0<A.length:=by have q:=h1;rw[Lm]at q;omega
  have hA:0<A.length:=by have q:=h1;rw[Lm]at q;omega
  refine Yi (fun h2=>?_) (fun h2=>?_)
  ·have h2:((A.map Ae).length:Int)=(0:Int):=h2;have hB:0<B.length:=by have q:=h1;rw[Lm]at q;first | omega | (have q2:=h1;rw[Lm]at q2;omega)
   refine Xi ⟨[(0,sl Ae A),(1,sl Ae B),(2,.v (.func (.func fF) #[] #[])),(7,.slice (.id 7 4) (O.map Ae))],[(7,.tok 4 O.length)],Ab⟩ (Yi ⟨Z4,Z1,Fh,Tv⟩ ?_)
   refine Xi ⟨[(0,sl Ae A),(1,sl Ae B),(2,.v (.func (.func fF) #[] #[])),(7,.slice (.id 7 4) (O.map Ae)),(8,vi 1)],[(7,.tok 4 O.length)],Ab⟩ (Yi ⟨Z5,Z1,Fh,Tv⟩ ?_)
   refine Yi (fun h=>absurd h (by decide)) (fun _=>?_);refine Xi ⟨[(0,sl Ae A),(1,sl Ae B),(2,.v (.func (.func fF) #[] #[])),(7,.slice (.id 7 4) (O.map Ae)),(8,vi 1)],[(7,.tok 4 O.length)],Ab⟩ (Yi ⟨Z5,Z1,Fh,Tv⟩ ?_)
   refine Xi (Ae B[0]) (Yi (Yi (AZ 0) (B3 (Ge hB))) (Yi rfl ?_));refine Yi (Nz rfl) ?_;refine Yi (Mg rfl (by omega) (by decide)) ?_;refine Yi (Dr (f:=Ae) (n:=4) (fun _=>rfl) hB).1 (Yi (Dr (f:=Ae) (n:=4) (fun _=>rfl) hB).2 ?_);refine Yi (fun h=>absurd h (by decide)) (fun _=>?_);have WP:(A.drop 1).length=A.length-1:=Ar ..;have WQ:(B.drop 1).length=B.length-1:=Ar ..;have eA:A=[]:=nC h2;have eM:A4 c A B=B[0]::A4 c A (B.drop 1):=by rw[eA];exact MF hB
   refine Xi ⟨(A,(B.drop 1),O++[B[0]]),by show(O++[B[0]])++A4 c A (B.drop 1)=_;rw[←k1,eM,AN];rfl,by simp only[Ad,Ar,Aq];omega⟩ ?_;exact⟨by show A.length+(B.drop 1).length<A.length+B.length;omega,⟨Zr,⟨(show AV.slice .none _=sl Ae (B.drop 1)from Aa (AV.slice .none) (De B)),rfl⟩,Zr,⟨RT,rfl⟩,Tv⟩,⟨⟨Qc,rfl⟩,Tv⟩,Fh,Tv⟩
  have h2:¬(((A.map Ae).length:Int)=(0:Int)):=h2;have hA:0<A.length:=by have q:=h2;rw[Lm]at q;omega
  refine Xi ⟨[(0,sl Ae A),(1,sl Ae B),(2,.v (.func (.func fF) #[] #[])),(7,.slice (.id 7 4) (O.map Ae))],[(7,.tok 4 O.length)],Ab⟩ (Yi ⟨Z4,Z1,Fh,Tv⟩ ?_)
  refine Yi (fun h5=>?_) (fun h5=>?_)
  ·have h5:((B.map Ae).length:Int)=(0:Int):=h5;refine Xi ⟨[(0,sl Ae A),(1,sl Ae B),(2,.v (.func (.func fF) #[] #[])),(7,.slice (.id 7 4) (O.map Ae)),(8,vi (-1))],[(7,.tok 4 O.length)],Ab⟩ (Yi ⟨Z5,Z1,Fh,Tv⟩ ?_)
   refine Yi (fun _=>?_) (fun h=>absurd (by decide) h);refine Xi (Ae A[0]) (Yi (Yi (AZ 0) (B3 (Ge hA))) (Yi rfl ?_));refine Yi (Nz rfl) ?_;refine Yi (Mg rfl (by omega) (by decide)) ?_;refine Yi (Dr (f:=Ae) (n:=4) (fun _=>rfl) hA).1 (Yi (Dr (f:=Ae) (n:=4) (fun _=>rfl) hA).2 ?_);have WP:(A.drop 1).length=A.length-1:=Ar ..;have WQ:(B.drop 1).length=B.length-1:=Ar ..;have eB:B=[]:=nC h5;have eM:A4 c A B=A[0]::A4 c (A.drop 1) B:=by rw[eB];exact ME hA
   refine Xi ⟨((A.drop 1),B,O++[A[0]]),by show(O++[A[0]])++A4 c (A.drop 1) B=_;rw[←k1,eM,AN];rfl,by simp only[Ad,Ar,Aq];omega⟩ ?_;exact⟨by show(A.drop 1).length+B.length<A.length+B.length;omega,⟨⟨(show AV.slice .none _=sl Ae (A.drop 1)from Aa (AV.slice .none) (De A)),rfl⟩,Zr,Zr,⟨RT,rfl⟩,Tv⟩,⟨⟨Qc,rfl⟩,Tv⟩,Fh,Tv⟩
  have h5:¬(((B.map Ae).length:Int)=(0:Int)):=h5;have hB:0<B.length:=by have q:=h5;rw[Lm]at q;omega
  refine Xi (Ae A[0]) (Yi (Yi (AZ 0) (B3 (Ge hA))) (Yi rfl ?_));refine Yi (Nz rfl) ?_;refine Xi (Ae B[0]) (Yi (Yi (AZ 0) (B3 (Ge hB))) (Yi rfl ?_));refine Yi (Nz rfl) ?_;refine Xi _ (Yi (hF A[0] B[0]) ?_);refine Yi (by kernel_rfl) ?_;refine Xi ⟨[(0,sl Ae A),(1,sl Ae B),(2,.v (.func (.func fF) #[] #[])),(7,.slice (.id 7 4) (O.map Ae)),(8,vi (c A[0] B[0]))],[(7,.tok 4 O.length)],Ab⟩ (Yi ⟨Z5,Z1,Fh,Tv⟩ ?_)
  refine Yi (fun h8=>?_) (fun h8=>?_)
  ·have h8:((c A[0] B[0]):Int)<(0:Int):=h8;refine Xi (Ae A[0]) (Yi (Yi (AZ 0) (B3 (Ge hA))) (Yi rfl ?_));refine Yi (Nz rfl) ?_;refine Yi (Mg rfl (by omega) (by decide)) ?_;refine Yi (Dr (f:=Ae) (n:=4) (fun _=>rfl) hA).1 (Yi (Dr (f:=Ae) (n:=4) (fun _=>rfl) hA).2 ?_);have WP:(A.drop 1).length=A.length-1:=Ar ..;have WQ:(B.drop 1).length=B.length-1:=Ar ..;have eM:A4 c A B=A[0]::A4 c (A.drop 1) B:=by rw[Fa hA hB,Au h8]
   refine Xi ⟨((A.drop 1),B,O++[A[0]]),by show(O++[A[0]])++A4 c (A.drop 1) B=_;rw[←k1,eM,AN];rfl,by simp only[Ad,Ar,Aq];omega⟩ ?_;exact⟨by show(A.drop 1).length+B.length<A.length+B.length;omega,⟨⟨(show AV.slice .none _=sl Ae (A.drop 1)from Aa (AV.slice .none) (De A)),rfl⟩,Zr,Zr,⟨RT,rfl⟩,Tv⟩,⟨⟨Qc,rfl⟩,Tv⟩,Fh,Tv⟩
  have h8:¬(((c A[0] B[0]):Int)<(0:Int)):=h8;refine Xi ⟨[(0,sl Ae A),(1,sl Ae B),(2,.v (.func (.func fF) #[] #[])),(7,.slice (.id 7 4) (O.map Ae)),(8,vi (c A[0] B[0]))],[(7,.tok 4 O.length)],Ab⟩ (Yi ⟨Z5,Z1,Fh,Tv⟩ ?_)
  refine Xi (Ae B[0]) (Yi (Yi (AZ 0) (B3 (Ge hB))) (Yi rfl ?_));refine Yi (Nz rfl) ?_;refine Yi (Mg rfl (by omega) (by decide)) ?_;refine Yi (Dr (f:=Ae) (n:=4) (fun _=>rfl) hB).1 (Yi (Dr (f:=Ae) (n:=4) (fun _=>rfl) hB).2 ?_);refine Yi (fun Iu=>?_) (fun Iu=>?_)
  ·have Iu:((c A[0] B[0]):Int)=(0:Int):=Iu;refine Xi ⟨[(0,sl Ae A),(1,.slice .none (tY Ae B)),(2,.v (.func (.func fF) #[] #[])),(7,.slice (.id 7 4) ((O.map Ae)++[(Ae B[0])]))],[(7,.tok 4 ((O.map Ae).length+([(Ae B[0])]:List (List AV)).length))],Ab⟩ (Yi ⟨Z4,Z1,Fh,Tv⟩ ?_)
   refine Yi (Dr (f:=Ae) (n:=4) (fun _=>rfl) hA).1 (Yi (Dr (f:=Ae) (n:=4) (fun _=>rfl) hA).2 ?_);have WP:(A.drop 1).length=A.length-1:=Ar ..;have WQ:(B.drop 1).length=B.length-1:=Ar ..;have eM:A4 c A B=B[0]::A4 c (A.drop 1) (B.drop 1):=by rw[Fa hA hB,Al h8,Au Iu]
   refine Xi ⟨((A.drop 1),(B.drop 1),O++[B[0]]),by show(O++[B[0]])++A4 c (A.drop 1) (B.drop 1)=_;rw[←k1,eM,AN];rfl,by simp only[Ad,Ar,Aq];omega⟩ ?_;exact⟨by show(A.drop 1).length+(B.drop 1).length<A.length+B.length;omega,⟨⟨(show AV.slice .none _=sl Ae (A.drop 1)from Aa (AV.slice .none) (De A)),rfl⟩,⟨(show AV.slice .none _=sl Ae (B.drop 1)from Aa (AV.slice .none) (De B)),rfl⟩,Zr,⟨RT,rfl⟩,Tv⟩,⟨⟨Qc,rfl⟩,Tv⟩,Fh,Tv⟩
  have Iu:¬(((c A[0] B[0]):Int)=(0:Int)):=Iu;have WP:(A.drop 1).length=A.length-1:=Ar ..;have WQ:(B.drop 1).length=B.length-1:=Ar ..;have eM:A4 c A B=B[0]::A4 c A (B.drop 1):=by rw[Fa hA hB,Al h8,Al Iu]
  refine Xi ⟨(A,(B.drop 1),O++[B[0]]),by show(O++[B[0]])++A4 c A (B.drop 1)=_;rw[←k1,eM,AN];rfl,by simp only[Ad,Ar,Aq];omega⟩ ?_;exact⟨by show A.length+(B.drop 1).length<A.length+B.length;omega,⟨Zr,⟨(show AV.slice .none _=sl Ae (B.drop 1)from Aa (AV.slice .none) (De B)),rfl⟩,Zr,⟨RT,rfl⟩,Tv⟩,⟨⟨Qc,rfl⟩,Tv⟩,Fh,Tv⟩
 have h1:¬((0:Int)<((A.map Ae).length:Int)):=h1;have n1:¬0<A.length:=by have q:=h1;rw[Lm]at q;omega
 refine Yi (fun L9=>?_) (fun L9=>?_)
 ·have L9:(0:Int)<((B.map Ae).length:Int):=L9;have n15:0<B.length:=by have q:=L9;rw[Lm]at q;omega
  have hB:0<B.length:=by have q:=L9;rw[Lm]at q;omega
  refine Yi (fun Qw=>?_) (fun Qw=>?_)
  ·have Qw:((A.map Ae).length:Int)=(0:Int):=Qw;have hB:0<B.length:=by have q:=L9;rw[Lm]at q;first | omega | (have q2:=L9;rw[Lm]at q2;omega)
   refine Xi ⟨[(0,sl Ae A),(1,sl Ae B),(2,.v (.func (.func fF) #[] #[])),(7,.slice (.id 7 4) (O.map Ae))],[(7,.tok 4 O.length)],Ab⟩ (Yi ⟨Z4,Z1,Fh,Tv⟩ ?_)
   refine Xi ⟨[(0,sl Ae A),(1,sl Ae B),(2,.v (.func (.func fF) #[] #[])),(7,.slice (.id 7 4) (O.map Ae)),(8,vi 1)],[(7,.tok 4 O.length)],Ab⟩ (Yi ⟨Z5,Z1,Fh,Tv⟩ ?_)
   refine Yi (fun h=>absurd h (by decide)) (fun _=>?_);refine Xi ⟨[(0,sl Ae A),(1,sl Ae B),(2,.v (.func (.func fF) #[] #[])),(7,.slice (.id 7 4) (O.map Ae)),(8,vi 1)],[(7,.tok 4 O.length)],Ab⟩ (Yi ⟨Z5,Z1,Fh,Tv⟩ ?_)
   refine Xi (Ae B[0]) (Yi (Yi (AZ 0) (B3 (Ge hB))) (Yi rfl ?_));refine Yi (Nz rfl) ?_;refine Yi (Mg rfl (by omega) (by decide)) ?_;refine Yi (Dr (f:=Ae) (n:=4) (fun _=>rfl) hB).1 (Yi (Dr (f:=Ae) (n:=4) (fun _=>rfl) hB).2 ?_);refine Yi (fun h=>absurd h (by decide)) (fun _=>?_);have WP:(A.drop 1).length=A.length-1:=Ar ..;have WQ:(B.drop 1).length=B.length-1:=Ar ..;have eA:A=[]:=nC Qw;have eM:A4 c A B=B[0]::A4 c A (B.drop 1):=by rw[eA];exact MF hB
   refine Xi ⟨(A,(B.drop 1),O++[B[0]]),by show(O++[B[0]])++A4 c A (B.drop 1)=_;rw[←k1,eM,AN];rfl,by simp only[Ad,Ar,Aq];omega⟩ ?_;exact⟨by show A.length+(B.drop 1).length<A.length+B.length;omega,⟨Zr,⟨(show AV.slice .none _=sl Ae (B.drop 1)from Aa (AV.slice .none) (De B)),rfl⟩,Zr,⟨RT,rfl⟩,Tv⟩,⟨⟨Qc,rfl⟩,Tv⟩,Fh,Tv⟩
  have Qw:¬(((A.map Ae).length:Int)=(0:Int)):=Qw;have hA:0<A.length:=by have q:=Qw;rw[Lm]at q;omega
  refine Xi ⟨[(0,sl Ae A),(1,sl Ae B),(2,.v (.func (.func fF) #[] #[])),(7,.slice (.id 7 4) (O.map Ae))],[(7,.tok 4 O.length)],Ab⟩ (Yi ⟨Z4,Z1,Fh,Tv⟩ ?_)
  refine Yi (fun Xl=>?_) (fun Xl=>?_)
  ·have Xl:((B.map Ae).length:Int)=(0:Int):=Xl;refine Xi ⟨[(0,sl Ae A),(1,sl Ae B),(2,.v (.func (.func fF) #[] #[])),(7,.slice (.id 7 4) (O.map Ae)),(8,vi (-1))],[(7,.tok 4 O.length)],Ab⟩ (Yi ⟨Z5,Z1,Fh,Tv⟩ ?_)
   refine Yi (fun _=>?_) (fun h=>absurd (by decide) h);refine Xi (Ae A[0]) (Yi (Yi (AZ 0) (B3 (Ge hA))) (Yi rfl ?_));refine Yi (Nz rfl) ?_;refine Yi (Mg rfl (by omega) (by decide)) ?_;refine Yi (Dr (f:=Ae) (n:=4) (fun _=>rfl) hA).1 (Yi (Dr (f:=Ae) (n:=4) (fun _=>rfl) hA).2 ?_);have WP:(A.drop 1).length=A.length-1:=Ar ..;have WQ:(B.drop 1).length=B.length-1:=Ar ..;have eB:B=[]:=nC Xl;have eM:A4 c A B=A[0]::A4 c (A.drop 1) B:=by rw[eB];exact ME hA
   refine Xi ⟨((A.drop 1),B,O++[A[0]]),by show(O++[A[0]])++A4 c (A.drop 1) B=_;rw[←k1,eM,AN];rfl,by simp only[Ad,Ar,Aq];omega⟩ ?_;exact⟨by show(A.drop 1).length+B.length<A.length+B.length;omega,⟨⟨(show AV.slice .none _=sl Ae (A.drop 1)from Aa (AV.slice .none) (De A)),rfl⟩,Zr,Zr,⟨RT,rfl⟩,Tv⟩,⟨⟨Qc,rfl⟩,Tv⟩,Fh,Tv⟩
  have Xl:¬(((B.map Ae).length:Int)=(0:Int)):=Xl;have hB:0<B.length:=by have q:=Xl;rw[Lm]at q;omega
  refine Xi (Ae A[0]) (Yi (Yi (AZ 0) (B3 (Ge hA))) (Yi rfl ?_));refine Yi (Nz rfl) ?_;refine Xi (Ae B[0]) (Yi (Yi (AZ 0) (B3 (Ge hB))) (Yi rfl ?_));refine Yi (Nz rfl) ?_;refine Xi _ (Yi (hF A[0] B[0]) ?_);refine Yi (by kernel_rfl) ?_;refine Xi ⟨[(0,sl Ae A),(1,sl Ae B),(2,.v (.func (.func fF) #[] #[])),(7,.slice (.id 7 4) (O.map Ae)),(8,vi (c A[0] B[0]))],[(7,.tok 4 O.length)],Ab⟩ (Yi ⟨Z5,Z1,Fh,Tv⟩ ?_)
  refine Yi (fun Yb=>?_) (fun Yb=>?_)
  ·have Yb:((c A[0] B[0]):Int)<(0:Int):=Yb;refine Xi (Ae A[0]) (Yi (Yi (AZ 0) (B3 (Ge hA))) (Yi rfl ?_));refine Yi (Nz rfl) ?_;refine Yi (Mg rfl (by omega) (by decide)) ?_;refine Yi (Dr (f:=Ae) (n:=4) (fun _=>rfl) hA).1 (Yi (Dr (f:=Ae) (n:=4) (fun _=>rfl) hA).2 ?_);have WP:(A.drop 1).length=A.length-1:=Ar ..;have WQ:(B.drop 1).length=B.length-1:=Ar ..;have eM:A4 c A B=A[0]::A4 c (A.drop 1) B:=by rw[Fa hA hB,Au Yb]
   refine Xi ⟨((A.drop 1),B,O++[A[0]]),by show(O++[A[0]])++A4 c (A.drop 1) B=_;rw[←k1,eM,AN];rfl,by simp only[Ad,Ar,Aq];omega⟩ ?_;exact⟨by show(A.drop 1).length+B.length<A.length+B.length;omega,⟨⟨(show AV.slice .none _=sl Ae (A.drop 1)from Aa (AV.slice .none) (De A)),rfl⟩,Zr,Zr,⟨RT,rfl⟩,Tv⟩,⟨⟨Qc,rfl⟩,Tv⟩,Fh,Tv⟩
  have Yb:¬(((c A[0] B[0]):Int)<(0:Int)):=Yb;refine Xi ⟨[(0,sl Ae A),(1,sl Ae B),(2,.v (.func (.func fF) #[] #[])),(7,.slice (.id 7 4) (O.map Ae)),(8,vi (c A[0] B[0]))],[(7,.tok 4 O.length)],Ab⟩ (Yi ⟨Z5,Z1,Fh,Tv⟩ ?_)
  refine Xi (Ae B[0]) (Yi (Yi (AZ 0) (B3 (Ge hB))) (Yi rfl ?_));refine Yi (Nz rfl) ?_;refine Yi (Mg rfl (by omega) (by decide)) ?_;refine Yi (Dr (f:=Ae) (n:=4) (fun _=>rfl) hB).1 (Yi (Dr (f:=Ae) (n:=4) (fun _=>rfl) hB).2 ?_);refine Yi (fun ZO=>?_) (fun ZO=>?_)
  ·have ZO:((c A[0] B[0]):Int)=(0:Int):=ZO;refine Xi ⟨[(0,sl Ae A),(1,.slice .none (tY Ae B)),(2,.v (.func (.func fF) #[] #[])),(7,.slice (.id 7 4) ((O.map Ae)++[(Ae B[0])]))],[(7,.tok 4 ((O.map Ae).length+([(Ae B[0])]:List (List AV)).length))],Ab⟩ (Yi ⟨Z4,Z1,Fh,Tv⟩ ?_)
   refine Yi (Dr (f:=Ae) (n:=4) (fun _=>rfl) hA).1 (Yi (Dr (f:=Ae) (n:=4) (fun _=>rfl) hA).2 ?_);have WP:(A.drop 1).length=A.length-1:=Ar ..;have WQ:(B.drop 1).length=B.length-1:=Ar ..;have eM:A4 c A B=B[0]::A4 c (A.drop 1) (B.drop 1):=by rw[Fa hA hB,Al Yb,Au ZO]
   refine Xi ⟨((A.drop 1),(B.drop 1),O++[B[0]]),by show(O++[B[0]])++A4 c (A.drop 1) (B.drop 1)=_;rw[←k1,eM,AN];rfl,by simp only[Ad,Ar,Aq];omega⟩ ?_;exact⟨by show(A.drop 1).length+(B.drop 1).length<A.length+B.length;omega,⟨⟨(show AV.slice .none _=sl Ae (A.drop 1)from Aa (AV.slice .none) (De A)),rfl⟩,⟨(show AV.slice .none _=sl Ae (B.drop 1)from Aa (AV.slice .none) (De B)),rfl⟩,Zr,⟨RT,rfl⟩,Tv⟩,⟨⟨Qc,rfl⟩,Tv⟩,Fh,Tv⟩
  have ZO:¬(((c A[0] B[0]):Int)=(0:Int)):=ZO;have WP:(A.drop 1).length=A.length-1:=Ar ..;have WQ:(B.drop 1).length=B.length-1:=Ar ..;have eM:A4 c A B=B[0]::A4 c A (B.drop 1):=by rw[Fa hA hB,Al Yb,Al ZO]
  refine Xi ⟨(A,(B.drop 1),O++[B[0]]),by show(O++[B[0]])++A4 c A (B.drop 1)=_;rw[←k1,eM,AN];rfl,by simp only[Ad,Ar,Aq];omega⟩ ?_;exact⟨by show A.length+(B.drop 1).length<A.length+B.length;omega,⟨Zr,⟨(show AV.slice .none _=sl Ae (B.drop 1)from Aa (AV.slice .none) (De B)),rfl⟩,Zr,⟨RT,rfl⟩,Tv⟩,⟨⟨Qc,rfl⟩,Tv⟩,Fh,Tv⟩
 have L9:¬((0:Int)<((B.map Ae).length:Int)):=L9;have n15:¬0<B.length:=by have q:=L9;rw[Lm]at q;omega
 have eA:A=[]:=ux h1;have eB:B=[]:=ux L9;have eO:O=A4 c a b:=by rw[←k1,eA,eB,Om,BS]
 exact .of_eq (Aa (fun z=>sl Ae z) eO)
theorem xN(a b:List Sl)(ha:Ci a)(hb:Ci b):PC 63 [sl Ae a,sl Ae b,.v (.func (.func 55) #[] #[])] (sl Ae (A4 Gn a b)):=o63 a b ha hb Gn 55 xJ
theorem xM(a b:List Sl)(ha:Ci a)(hb:Ci b):PC 63 [sl Ae a,sl Ae b,.v (.func (.func 61) #[] #[])] (sl Ae (A4 Lo a b)):=o63 a b ha hb Lo 61 o61
theorem o38(a b:List Rl)(ha:Ci a)(hb:Ci b):PC 38 [sl Ag a,sl Ag b,.v (.func (.func 39) #[] #[])] (sl Ag (A4 Ca a b)):=by
 have ha:a.length≤1073741824:=ha;have hb:b.length≤1073741824:=hb;refine Ps ⟨[],[(7,9)],[],[],[],[],[],[],[],[],[6,7,9,12,15]⟩ Tryz.func38 rfl (Nz rfl) ?_;refine Xi {q:List Rl×List Rl×List Rl // q.2.2++A4 Ca q.1 q.2.1=A4 Ca a b∧q.2.2.length+q.1.length+q.2.1.length≤a.length+b.length} (Xi (fun q=>⟨[(0,sl Ag q.1.1),(1,sl Ag q.1.2.1),(2,.v (.func (.func 39) #[] #[])),(7,.slice (.id 7 9) (q.1.2.2.map Ag))],[(7,.tok 9 q.1.2.2.length)],Ab⟩) (Xi (fun q=>q.1.1.length+q.1.2.1.length) (Yi (Xi ⟨(a,b,[]),Ep _,by simp⟩ ?_) ?_)))
 ·exact⟨Z4,Z1,Fh,Tv⟩
 intro⟨⟨A,B,O⟩,k1,k2⟩;have k1:O++A4 Ca A B=A4 Ca a b:=k1;have k2:O.length+A.length+B.length≤a.length+b.length:=k2;refine Yi (fun h1=>?_) (fun h1=>?_)
 ·have h1:(0:Int)<((A.map Ag).length:Int):=h1;have n1:0<A.length:=by have q:=h1;rw[Lm]at q;omega
  have hA:0<A.length:=by have q:=h1;rw[Lm]at q;omega
  refine Yi (fun h2=>?_) (fun h2=>?_)
  ·have h2:((A.map Ag).length:Int)=(0:Int):=h2;have hB:0<B.length:=by have q:=h1;rw[Lm]at q;first | omega | (have q2:=h1;rw[Lm]at q2;omega)
   refine Xi ⟨[(0,sl Ag A),(1,sl Ag B),(2,.v (.func (.func 39) #[] #[])),(7,.slice (.id 7 9) (O.map Ag))],[(7,.tok 9 O.length)],Ab⟩ (Yi ⟨Z4,Z1,Fh,Tv⟩ ?_)
   refine Xi ⟨[(0,sl Ag A),(1,sl Ag B),(2,.v (.func (.func 39) #[] #[])),(7,.slice (.id 7 9) (O.map Ag)),(8,vi 1)],[(7,.tok 9 O.length)],Ab⟩ (Yi ⟨Z5,Z1,Fh,Tv⟩ ?_)
   refine Yi (fun h=>absurd h (by decide)) (fun _=>?_);refine Xi ⟨[(0,sl Ag A),(1,sl Ag B),(2,.v (.func (.func 39) #[] #[])),(7,.slice (.id 7 9) (O.map Ag)),(8,vi 1)],[(7,.tok 9 O.length)],Ab⟩ (Yi ⟨Z5,Z1,Fh,Tv⟩ ?_)
   refine Xi (Ag B[0]) (Yi (Yi (AZ 0) (B3 (Ge hB))) (Yi rfl ?_));refine Yi (Nz rfl) ?_;refine Yi (Mg rfl (by omega) (by decide)) ?_;refine Yi (Dr (f:=Ag) (n:=9) (fun _=>rfl) hB).1 (Yi (Dr (f:=Ag) (n:=9) (fun _=>rfl) hB).2 ?_);refine Yi (fun h=>absurd h (by decide)) (fun _=>?_);have WP:(A.drop 1).length=A.length-1:=Ar ..;have WQ:(B.drop 1).length=B.length-1:=Ar ..;have eA:A=[]:=nC h2;have eM:A4 Ca A B=B[0]::A4 Ca A (B.drop 1):=by rw[eA];exact MF hB
   refine Xi ⟨(A,(B.drop 1),O++[B[0]]),by show(O++[B[0]])++A4 Ca A (B.drop 1)=_;rw[←k1,eM,AN];rfl,by simp only[Ad,Ar,Aq];omega⟩ ?_;exact⟨by show A.length+(B.drop 1).length<A.length+B.length;omega,⟨Zr,⟨(show AV.slice .none _=sl Ag (B.drop 1)from Aa (AV.slice .none) (De B)),rfl⟩,Zr,⟨RT,rfl⟩,Tv⟩,⟨⟨Qc,rfl⟩,Tv⟩,Fh,Tv⟩
  have h2:¬(((A.map Ag).length:Int)=(0:Int)):=h2;have hA:0<A.length:=by have q:=h2;rw[Lm]at q;omega
  refine Xi ⟨[(0,sl Ag A),(1,sl Ag B),(2,.v (.func (.func 39) #[] #[])),(7,.slice (.id 7 9) (O.map Ag))],[(7,.tok 9 O.length)],Ab⟩ (Yi ⟨Z4,Z1,Fh,Tv⟩ ?_)
  refine Yi (fun h5=>?_) (fun h5=>?_)
  ·have h5:((B.map Ag).length:Int)=(0:Int):=h5;refine Xi ⟨[(0,sl Ag A),(1,sl Ag B),(2,.v (.func (.func 39) #[] #[])),(7,.slice (.id 7 9) (O.map Ag)),(8,vi (-1))],[(7,.tok 9 O.length)],Ab⟩ (Yi ⟨Z5,Z1,Fh,Tv⟩ ?_)
   refine Yi (fun _=>?_) (fun h=>absurd (by decide) h);refine Xi (Ag A[0]) (Yi (Yi (AZ 0) (B3 (Ge hA))) (Yi rfl ?_));refine Yi (Nz rfl) ?_;refine Yi (Mg rfl (by omega) (by decide)) ?_;refine Yi (Dr (f:=Ag) (n:=9) (fun _=>rfl) hA).1 (Yi (Dr (f:=Ag) (n:=9) (fun _=>rfl) hA).2 ?_);have WP:(A.drop 1).length=A.length-1:=Ar ..;have WQ:(B.drop 1).length=B.length-1:=Ar ..;have eB:B=[]:=nC h5;have eM:A4 Ca A B=A[0]::A4 Ca (A.drop 1) B:=by rw[eB];exact ME hA
   refine Xi ⟨((A.drop 1),B,O++[A[0]]),by show(O++[A[0]])++A4 Ca (A.drop 1) B=_;rw[←k1,eM,AN];rfl,by simp only[Ad,Ar,Aq];omega⟩ ?_;exact⟨by show(A.drop 1).length+B.length<A.length+B.length;omega,⟨⟨(show AV.slice .none _=sl Ag (A.drop 1)from Aa (AV.slice .none) (De A)),rfl⟩,Zr,Zr,⟨RT,rfl⟩,Tv⟩,⟨⟨Qc,rfl⟩,Tv⟩,Fh,Tv⟩
  have h5:¬(((B.map Ag).length:Int)=(0:Int)):=h5;have hB:0<B.length:=by have q:=h5;rw[Lm]at q;omega
  refine Xi (Ag A[0]) (Yi (Yi (AZ 0) (B3 (Ge hA))) (Yi rfl ?_));refine Yi (Nz rfl) ?_;refine Xi (Ag B[0]) (Yi (Yi (AZ 0) (B3 (Ge hB))) (Yi rfl ?_));refine Yi (Nz rfl) ?_;refine Xi _ (Yi (o39 A[0] B[0]) ?_);refine Yi (by kernel_rfl) ?_;refine Xi ⟨[(0,sl Ag A),(1,sl Ag B),(2,.v (.func (.func 39) #[] #[])),(7,.slice (.id 7 9) (O.map Ag)),(8,vi (Ca A[0] B[0]))],[(7,.tok 9 O.length)],Ab⟩ (Yi ⟨Z5,Z1,Fh,Tv⟩ ?_)
  refine Yi (fun h8=>?_) (fun h8=>?_)
  ·have h8:((Ca A[0] B[0]):Int)<(0:Int):=h8;refine Xi (Ag A[0]) (Yi (Yi (AZ 0) (B3 (Ge hA))) (Yi rfl ?_));refine Yi (Nz rfl) ?_;refine Yi (Mg rfl (by omega) (by decide)) ?_;refine Yi (Dr (f:=Ag) (n:=9) (fun _=>rfl) hA).1 (Yi (Dr (f:=Ag) (n:=9) (fun _=>rfl) hA).2 ?_);have WP:(A.drop 1).length=A.length-1:=Ar ..;have WQ:(B.drop 1).length=B.length-1:=Ar ..;have eM:A4 Ca A B=A[0]::A4 Ca (A.drop 1) B:=by rw[Fa hA hB,Au h8]
   refine Xi ⟨((A.drop 1),B,O++[A[0]]),by show(O++[A[0]])++A4 Ca (A.drop 1) B=_;rw[←k1,eM,AN];rfl,by simp only[Ad,Ar,Aq];omega⟩ ?_;exact⟨by show(A.drop 1).length+B.length<A.length+B.length;omega,⟨⟨(show AV.slice .none _=sl Ag (A.drop 1)from Aa (AV.slice .none) (De A)),rfl⟩,Zr,Zr,⟨RT,rfl⟩,Tv⟩,⟨⟨Qc,rfl⟩,Tv⟩,Fh,Tv⟩
  have h8:¬(((Ca A[0] B[0]):Int)<(0:Int)):=h8;refine Xi ⟨[(0,sl Ag A),(1,sl Ag B),(2,.v (.func (.func 39) #[] #[])),(7,.slice (.id 7 9) (O.map Ag)),(8,vi (Ca A[0] B[0]))],[(7,.tok 9 O.length)],Ab⟩ (Yi ⟨Z5,Z1,Fh,Tv⟩ ?_)
  refine Xi (Ag B[0]) (Yi (Yi (AZ 0) (B3 (Ge hB))) (Yi rfl ?_));refine Yi (Nz rfl) ?_;refine Yi (Mg rfl (by omega) (by decide)) ?_;refine Yi (Dr (f:=Ag) (n:=9) (fun _=>rfl) hB).1 (Yi (Dr (f:=Ag) (n:=9) (fun _=>rfl) hB).2 ?_);refine Yi (fun Iu=>?_) (fun Iu=>?_)
  ·have Iu:((Ca A[0] B[0]):Int)=(0:Int):=Iu;refine Xi ⟨[(0,sl Ag A),(1,.slice .none (tY Ag B)),(2,.v (.func (.func 39) #[] #[])),(7,.slice (.id 7 9) ((O.map Ag)++[(Ag B[0])]))],[(7,.tok 9 ((O.map Ag).length+([(Ag B[0])]:List (List AV)).length))],Ab⟩ (Yi ⟨Z4,Z1,Fh,Tv⟩ ?_)
   refine Yi (Dr (f:=Ag) (n:=9) (fun _=>rfl) hA).1 (Yi (Dr (f:=Ag) (n:=9) (fun _=>rfl) hA).2 ?_);have WP:(A.drop 1).length=A.length-1:=Ar ..;have WQ:(B.drop 1).length=B.length-1:=Ar ..;have eM:A4 Ca A B=B[0]::A4 Ca (A.drop 1) (B.drop 1):=by rw[Fa hA hB,Al h8,Au Iu]
   refine Xi ⟨((A.drop 1),(B.drop 1),O++[B[0]]),by show(O++[B[0]])++A4 Ca (A.drop 1) (B.drop 1)=_;rw[←k1,eM,AN];rfl,by simp only[Ad,Ar,Aq];omega⟩ ?_;exact⟨by show(A.drop 1).length+(B.drop 1).length<A.length+B.length;omega,⟨⟨(show AV.slice .none _=sl Ag (A.drop 1)from Aa (AV.slice .none) (De A)),rfl⟩,⟨(show AV.slice .none _=sl Ag (B.drop 1)from Aa (AV.slice .none) (De B)),rfl⟩,Zr,⟨RT,rfl⟩,Tv⟩,⟨⟨Qc,rfl⟩,Tv⟩,Fh,Tv⟩
  have Iu:¬(((Ca A[0] B[0]):Int)=(0:Int)):=Iu;have WP:(A.drop 1).length=A.length-1:=Ar ..;have WQ:(B.drop 1).length=B.length-1:=Ar ..;have eM:A4 Ca A B=B[0]::A4 Ca A (B.drop 1):=by rw[Fa hA hB,Al h8,Al Iu]
  refine Xi ⟨(A,(B.drop 1),O++[B[0]]),by show(O++[B[0]])++A4 Ca A (B.drop 1)=_;rw[←k1,eM,AN];rfl,by simp only[Ad,Ar,Aq];omega⟩ ?_;exact⟨by show A.length+(B.drop 1).length<A.length+B.length;omega,⟨Zr,⟨(show AV.slice .none _=sl Ag (B.drop 1)from Aa (AV.slice .none) (De B)),rfl⟩,Zr,⟨RT,rfl⟩,Tv⟩,⟨⟨Qc,rfl⟩,Tv⟩,Fh,Tv⟩
 have h1:¬((0:Int)<((A.map Ag).length:Int)):=h1;have n1:¬0<A.length:=by have q:=h1;rw[Lm]at q;omega
 refine Yi (fun L9=>?_) (fun L9=>?_)
 ·have L9:(0:Int)<((B.map Ag).length:Int):=L9;have n15:0<B.length:=by have q:=L9;rw[Lm]at q;omega
  have hB:0<B.length:=by have q:=L9;rw[Lm]at q;omega
  refine Yi (fun Qw=>?_) (fun Qw=>?_)
  ·have Qw:((A.map Ag).length:Int)=(0:Int):=Qw;have hB:0<B.length:=by have q:=L9;rw[Lm]at q;first | omega | (have q2:=L9;rw[Lm]at q2;omega)
   refine Xi ⟨[(0,sl Ag A),(1,sl Ag B),(2,.v (.func (.func 39) #[] #[])),(7,.slice (.id 7 9) (O.map Ag))],[(7,.tok 9 O.length)],Ab⟩ (Yi ⟨Z4,Z1,Fh,Tv⟩ ?_)
   refine Xi ⟨[(0,sl Ag A),(1,sl Ag B),(2,.v (.func (.func 39) #[] #[])),(7,.slice (.id 7 9) (O.map Ag)),(8,vi 1)],[(7,.tok 9 O.length)],Ab⟩ (Yi ⟨Z5,Z1,Fh,Tv⟩ ?_)
   refine Yi (fun h=>absurd h (by decide)) (fun _=>?_);refine Xi ⟨[(0,sl Ag A),(1,sl Ag B),(2,.v (.func (.func 39) #[] #[])),(7,.slice (.id 7 9) (O.map Ag)),(8,vi 1)],[(7,.tok 9 O.length)],Ab⟩ (Yi ⟨Z5,Z1,Fh,Tv⟩ ?_)
   refine Xi (Ag B[0]) (Yi (Yi (AZ 0) (B3 (Ge hB))) (Yi rfl ?_));refine Yi (Nz rfl) ?_;refine Yi (Mg rfl (by omega) (by decide)) ?_;refine Yi (Dr (f:=Ag) (n:=9) (fun _=>rfl) hB).1 (Yi (Dr (f:=Ag) (n:=9) (fun _=>rfl) hB).2 ?_);refine Yi (fun h=>absurd h (by decide)) (fun _=>?_);have WP:(A.drop 1).length=A.length-1:=Ar ..;have WQ:(B.drop 1).length=B.length-1:=Ar ..;have eA:A=[]:=nC Qw;have eM:A4 Ca A B=B[0]::A4 Ca A (B.drop 1):=by rw[eA];exact MF hB
   refine Xi ⟨(A,(B.drop 1),O++[B[0]]),by show(O++[B[0]])++A4 Ca A (B.drop 1)=_;rw[←k1,eM,AN];rfl,by simp only[Ad,Ar,Aq];omega⟩ ?_;exact⟨by show A.length+(B.drop 1).length<A.length+B.length;omega,⟨Zr,⟨(show AV.slice .none _=sl Ag (B.drop 1)from Aa (AV.slice .none) (De B)),rfl⟩,Zr,⟨RT,rfl⟩,Tv⟩,⟨⟨Qc,rfl⟩,Tv⟩,Fh,Tv⟩
  have Qw:¬(((A.map Ag).length:Int)=(0:Int)):=Qw;have hA:0<A.length:=by have q:=Qw;rw[Lm]at q;omega
  refine Xi ⟨[(0,sl Ag A),(1,sl Ag B),(2,.v (.func (.func 39) #[] #[])),(7,.slice (.id 7 9) (O.map Ag))],[(7,.tok 9 O.length)],Ab⟩ (Yi ⟨Z4,Z1,Fh,Tv⟩ ?_)
  refine Yi (fun Xl=>?_) (fun Xl=>?_)
  ·have Xl:((B.map Ag).length:Int)=(0:Int):=Xl;refine Xi ⟨[(0,sl Ag A),(1,sl Ag B),(2,.v (.func (.func 39) #[] #[])),(7,.slice (.id 7 9) (O.map Ag)),(8,vi (-1))],[(7,.tok 9 O.length)],Ab⟩ (Yi ⟨Z5,Z1,Fh,Tv⟩ ?_)
   refine Yi (fun _=>?_) (fun h=>absurd (by decide) h);refine Xi (Ag A[0]) (Yi (Yi (AZ 0) (B3 (Ge hA))) (Yi rfl ?_));refine Yi (Nz rfl) ?_;refine Yi (Mg rfl (by omega) (by decide)) ?_;refine Yi (Dr (f:=Ag) (n:=9) (fun _=>rfl) hA).1 (Yi (Dr (f:=Ag) (n:=9) (fun _=>rfl) hA).2 ?_);have WP:(A.drop 1).length=A.length-1:=Ar ..;have WQ:(B.drop 1).length=B.length-1:=Ar ..;have eB:B=[]:=nC Xl;have eM:A4 Ca A B=A[0]::A4 Ca (A.drop 1) B:=by rw[eB];exact ME hA
   refine Xi ⟨((A.drop 1),B,O++[A[0]]),by show(O++[A[0]])++A4 Ca (A.drop 1) B=_;rw[←k1,eM,AN];rfl,by simp only[Ad,Ar,Aq];omega⟩ ?_;exact⟨by show(A.drop 1).length+B.length<A.length+B.length;omega,⟨⟨(show AV.slice .none _=sl Ag (A.drop 1)from Aa (AV.slice .none) (De A)),rfl⟩,Zr,Zr,⟨RT,rfl⟩,Tv⟩,⟨⟨Qc,rfl⟩,Tv⟩,Fh,Tv⟩
  have Xl:¬(((B.map Ag).length:Int)=(0:Int)):=Xl;have hB:0<B.length:=by have q:=Xl;rw[Lm]at q;omega
  refine Xi (Ag A[0]) (Yi (Yi (AZ 0) (B3 (Ge hA))) (Yi rfl ?_));refine Yi (Nz rfl) ?_;refine Xi (Ag B[0]) (Yi (Yi (AZ 0) (B3 (Ge hB))) (Yi rfl ?_));refine Yi (Nz rfl) ?_;refine Xi _ (Yi (o39 A[0] B[0]) ?_);refine Yi (by kernel_rfl) ?_;refine Xi ⟨[(0,sl Ag A),(1,sl Ag B),(2,.v (.func (.func 39) #[] #[])),(7,.slice (.id 7 9) (O.map Ag)),(8,vi (Ca A[0] B[0]))],[(7,.tok 9 O.length)],Ab⟩ (Yi ⟨Z5,Z1,Fh,Tv⟩ ?_)
  refine Yi (fun Yb=>?_) (fun Yb=>?_)
  ·have Yb:((Ca A[0] B[0]):Int)<(0:Int):=Yb;refine Xi (Ag A[0]) (Yi (Yi (AZ 0) (B3 (Ge hA))) (Yi rfl ?_));refine Yi (Nz rfl) ?_;refine Yi (Mg rfl (by omega) (by decide)) ?_;refine Yi (Dr (f:=Ag) (n:=9) (fun _=>rfl) hA).1 (Yi (Dr (f:=Ag) (n:=9) (fun _=>rfl) hA).2 ?_);have WP:(A.drop 1).length=A.length-1:=Ar ..;have WQ:(B.drop 1).length=B.length-1:=Ar ..;have eM:A4 Ca A B=A[0]::A4 Ca (A.drop 1) B:=by rw[Fa hA hB,Au Yb]
   refine Xi ⟨((A.drop 1),B,O++[A[0]]),by show(O++[A[0]])++A4 Ca (A.drop 1) B=_;rw[←k1,eM,AN];rfl,by simp only[Ad,Ar,Aq];omega⟩ ?_;exact⟨by show(A.drop 1).length+B.length<A.length+B.length;omega,⟨⟨(show AV.slice .none _=sl Ag (A.drop 1)from Aa (AV.slice .none) (De A)),rfl⟩,Zr,Zr,⟨RT,rfl⟩,Tv⟩,⟨⟨Qc,rfl⟩,Tv⟩,Fh,Tv⟩
  have Yb:¬(((Ca A[0] B[0]):Int)<(0:Int)):=Yb;refine Xi ⟨[(0,sl Ag A),(1,sl Ag B),(2,.v (.func (.func 39) #[] #[])),(7,.slice (.id 7 9) (O.map Ag)),(8,vi (Ca A[0] B[0]))],[(7,.tok 9 O.length)],Ab⟩ (Yi ⟨Z5,Z1,Fh,Tv⟩ ?_)
  refine Xi (Ag B[0]) (Yi (Yi (AZ 0) (B3 (Ge hB))) (Yi rfl ?_));refine Yi (Nz rfl) ?_;refine Yi (Mg rfl (by omega) (by decide)) ?_;refine Yi (Dr (f:=Ag) (n:=9) (fun _=>rfl) hB).1 (Yi (Dr (f:=Ag) (n:=9) (fun _=>rfl) hB).2 ?_);refine Yi (fun ZO=>?_) (fun ZO=>?_)
  ·have ZO:((Ca A[0] B[0]):Int)=(0:Int):=ZO;refine Xi ⟨[(0,sl Ag A),(1,.slice .none (tY Ag B)),(2,.v (.func (.func 39) #[] #[])),(7,.slice (.id 7 9) ((O.map Ag)++[(Ag B[0])]))],[(7,.tok 9 ((O.map Ag).length+([(Ag B[0])]:List (List AV)).length))],Ab⟩ (Yi ⟨Z4,Z1,Fh,Tv⟩ ?_)
   refine Yi (Dr (f:=Ag) (n:=9) (fun _=>rfl) hA).1 (Yi (Dr (f:=Ag) (n:=9) (fun _=>rfl) hA).2 ?_);have WP:(A.drop 1).length=A.length-1:=Ar ..;have WQ:(B.drop 1).length=B.length-1:=Ar ..;have eM:A4 Ca A B=B[0]::A4 Ca (A.drop 1) (B.drop 1):=by rw[Fa hA hB,Al Yb,Au ZO]
   refine Xi ⟨((A.drop 1),(B.drop 1),O++[B[0]]),by show(O++[B[0]])++A4 Ca (A.drop 1) (B.drop 1)=_;rw[←k1,eM,AN];rfl,by simp only[Ad,Ar,Aq];omega⟩ ?_;exact⟨by show(A.drop 1).length+(B.drop 1).length<A.length+B.length;omega,⟨⟨(show AV.slice .none _=sl Ag (A.drop 1)from Aa (AV.slice .none) (De A)),rfl⟩,⟨(show AV.slice .none _=sl Ag (B.drop 1)from Aa (AV.slice .none) (De B)),rfl⟩,Zr,⟨RT,rfl⟩,Tv⟩,⟨⟨Qc,rfl⟩,Tv⟩,Fh,Tv⟩
  have ZO:¬(((Ca A[0] B[0]):Int)=(0:Int)):=ZO;have WP:(A.drop 1).length=A.length-1:=Ar ..;have WQ:(B.drop 1).length=B.length-1:=Ar ..;have eM:A4 Ca A B=B[0]::A4 Ca A (B.drop 1):=by rw[Fa hA hB,Al Yb,Al ZO]
  refine Xi ⟨(A,(B.drop 1),O++[B[0]]),by show(O++[B[0]])++A4 Ca A (B.drop 1)=_;rw[←k1,eM,AN];rfl,by simp only[Ad,Ar,Aq];omega⟩ ?_;exact⟨by show A.length+(B.drop 1).length<A.length+B.length;omega,⟨Zr,⟨(show AV.slice .none _=sl Ag (B.drop 1)from Aa (AV.slice .none) (De B)),rfl⟩,Zr,⟨RT,rfl⟩,Tv⟩,⟨⟨Qc,rfl⟩,Tv⟩,Fh,Tv⟩
 have L9:¬((0:Int)<((B.map Ag).length:Int)):=L9;have n15:¬0<B.length:=by have q:=L9;rw[Lm]at q;omega
 have eA:A=[]:=ux h1;have eB:B=[]:=ux L9;have eO:O=A4 Ca a b:=by rw[←k1,eA,eB,Om,BS]
 exact .of_eq (Aa (fun z=>sl Ag z) eO)
end Go.Eng
