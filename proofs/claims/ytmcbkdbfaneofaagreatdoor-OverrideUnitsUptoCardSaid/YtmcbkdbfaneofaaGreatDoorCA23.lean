/- Lemmas for the claims of this seat, without a condition: part 23 (O5). -/
import Derived.Test.YtmcbkdbfaneofaaGreatDoorCA22
set_option maxHeartbeats 4000000
namespace Go.Eng
open Go.Proofs
def Cs{α:Type}(c:α→α→Int):Nat→List α→List α→List α
 |0,_,_=>[]
 |_+1,[],[]=>[]
 |n+1,[],y::b=>y::Cs c n [] b
 |n+1,x::a,[]=>x::Cs c n a []
 |n+1,x::a,y::b=>if c x y<0 then x::Cs c n a (y::b)else if c x y=0 then y::Cs c n a b else y::Cs c n (x::a) b
theorem G3{α:Type}(c:α→α→Int):∀(n m:Nat) (a b:List α),a.length+b.length≤n→a.length+b.length≤m→Cs c n a b=Cs c m a b
 |0,m,a,b,h,_=>by
  have ha:a=[]:=AB (by omega);have hb:b=[]:=AB (by omega);subst ha;subst hb;cases m<;>rfl
 |n+1,0,a,b,_,h=>by
  have ha:a=[]:=AB (by omega);have hb:b=[]:=AB (by omega);subst ha;subst hb;rfl
 |n+1,m+1,a,b,h,k=>by
  cases a with
  |nil =>
   cases b with
   |nil=>rfl
   |cons y b =>
    simp only[At,AC]at h k;show y::Cs c n [] b=y::Cs c m [] b;rw[G3 c n m [] b (by simp only[AC];omega) (by simp only[AC];omega)]
  |cons x a =>
   cases b with
   |nil =>
    simp only[At,AC]at h k;show x::Cs c n a []=x::Cs c m a [];rw[G3 c n m a [] (by simp only[AC];omega) (by simp only[AC];omega)]
   |cons y b =>
    simp only[At]at h k;show(if c x y<0 then x::Cs c n a (y::b)else if c x y=0 then y::Cs c n a b else y::Cs c n (x::a) b)=if c x y<0 then x::Cs c m a (y::b)else if c x y=0 then y::Cs c m a b else y::Cs c m (x::a) b
    rw[G3 c n m a (y::b) (by simp only[At];omega) (by simp only[At];omega),G3 c n m a b (by omega) (by omega),G3 c n m (x::a) b (by simp only[At];omega) (by simp only[At];omega)]
def A5{α:Type}(c:α→α→Int)(a b:List α):List α:=Cs c (a.length+b.length) a b
section
variable {α:Type}{c:α→α→Int}
theorem S0:A5 c [] ([]:List α)=[]:=rfl
theorem LY{a:List α}(h:0<a.length):A5 c a []=a[0]::A5 c (a.drop 1) []:=by
 cases a with
 |nil=>cases h
 |cons x a=>rfl
theorem LZ{b:List α}(h:0<b.length):A5 c [] b=b[0]::A5 c [] (b.drop 1):=by
 cases b with
 |nil=>cases h
 |cons y b =>
  show Cs c (0+(b.length+1)) [] (y::b)=y::Cs c (0+b.length) [] b;rw[show 0+(b.length+1)=0+b.length+1 by omega];rfl
theorem FN{a b:List α}(ha:0<a.length)(hb:0<b.length):A5 c a b=if c a[0] b[0]<0 then a[0]::A5 c (a.drop 1) b else if c a[0] b[0]=0 then b[0]::A5 c (a.drop 1) (b.drop 1)else b[0]::A5 c a (b.drop 1):=by
 cases a with
 |nil=>cases ha
 |cons x a =>
  cases b with
  |nil=>cases hb
  |cons y b =>
   show Cs c ((a.length+1)+(b.length+1)) (x::a) (y::b)=if c x y<0 then x::Cs c (a.length+(b.length+1)) a (y::b)else if c x y=0 then y::Cs c (a.length+b.length) a b else y::Cs c ((a.length+1)+b.length) (x::a) b
   rw[show(a.length+1)+(b.length+1)=(a.length+b.length+1)+1 by omega];show(if c x y<0 then x::Cs c (a.length+b.length+1) a (y::b)else if c x y=0 then y::Cs c (a.length+b.length+1) a b else y::Cs c (a.length+b.length+1) (x::a) b)=_;rw[G3 c (a.length+b.length+1) (a.length+b.length) a b (by omega) (by omega),show a.length+(b.length+1)=a.length+b.length+1 by omega,show a.length+1+b.length=a.length+b.length+1 by omega]
theorem H1:∀(n:Nat) (a b:List α),(Cs c n a b).length≤n
 |0,_,_=>Aj _
 |n+1,[],[]=>AN _
 |n+1,[],y::b=>DH (H1 n [] b)
 |n+1,x::a,[]=>DH (H1 n a [])
 |n+1,x::a,y::b=>by
  show(if c x y<0 then x::Cs c n a (y::b)else if c x y=0 then y::Cs c n a b else y::Cs c n (x::a) b).length≤n+1;have h1:=H1 n a (y::b);have h2:=H1 n a b;have h3:=H1 n (x::a) b;split
  ·rw[At];omega
  ·split<;>(rw[At];omega)
theorem NE(a b:List α):(A5 c a b).length≤a.length+b.length:=H1 _ a b
theorem CU{β:Type}{f:α→β}(a:List α):((a.map f).take (((a.map f).length:Nat):Int).toNat).drop ((1:Int)).toNat=(a.drop 1).map f:=by
 rw[Ch,Du,show((1:Int)).toNat=1 from rfl,List.map_drop]
end
abbrev CP(r s:Rl):Int:=F5 ⟨r.path,r.ver⟩ ⟨s.path,s.ver⟩
abbrev rv{α:Type}(f:α→List AV)(a:List α):List (List AV):=((a.map f).take (((a.map f).length:Nat):Int).toNat).drop ((1:Int)).toNat
theorem Dc{α:Type}{f:α→List AV}{n:Nat}(hf:∀x,(f x).length=n){a:List α}(h:0<a.length):((0:Int)≤1∧(1:Int)≤((a.map f).length:Nat)∧(((a.map f).length:Nat):Int)≤((a.map f).length:Nat))∧∀cs∈a.map f,cs.length=n:=by
 refine⟨by rw[Lm];omega,fun cs hcs=>?_⟩;obtain⟨q,_,rfl⟩:=Am.1 hcs;exact hf q
theorem r4{α:Type}{f:α→List AV}{l:List α}(h:¬(0:Int)<((l.map f).length:Int)):l=[]:=AB (by rw[Lm]at h;omega)
theorem lC{α:Type}{f:α→List AV}{l:List α}(h:((l.map f).length:Int)=(0:Int)):l=[]:=AB (by rw[Lm]at h;omega)
theorem xF(a b:List Sl)(ha:Cp a)(hb:Cp b)(c:Sl→Sl→Int)(fF:Nat)(hF:∀x y,PC fF [.agg (Ae x),.agg (Ae y)] (vi (c x y))):PC 63 [sl Ae a,sl Ae b,.v (.func (.func fF) #[] #[])] (sl Ae (A5 c a b)):=by
 have ha:a.length≤1073741824:=ha;have hb:b.length≤1073741824:=hb;refine Ps ⟨[],[(7,4)],[],[],[],[],[],[],[],[],[6,7,9,12,15]⟩ Tryz.func63 rfl (Nz rfl) ?_;refine Xi {q:List Sl×List Sl×List Sl // q.2.2++A5 c q.1 q.2.1=A5 c a b∧q.2.2.length+q.1.length+q.2.1.length≤a.length+b.length} (Xi (fun q=>⟨[(0,sl Ae q.1.1),(1,sl Ae q.1.2.1),(2,.v (.func (.func fF) #[] #[])),(7,.slice (.id 7 4) (q.1.2.2.map Ae))],[(7,.tok 4 q.1.2.2.length)],Ab⟩) (Xi (fun q=>q.1.1.length+q.1.2.1.length) (Yi (Xi ⟨(a,b,[]),D6 _,by simp⟩ ?_) ?_)))
 ·exact⟨Z4,Z1,Fh,Tv⟩
 intro⟨⟨A,B,O⟩,k1,k2⟩;have k1:O++A5 c A B=A5 c a b:=k1;have k2:O.length+A.length+B.length≤a.length+b.length:=k2;refine Yi (fun h1=>?_) (fun h1=>?_)
 ·have h1:(0:Int)<((A.map Ae).length:Int):=h1;have n1:0<A.length:=by have q:=h1;rw[Lm]at q;omega
  have hA:0<A.length:=by have q:=h1;rw[Lm]at q;omega
  refine Yi (fun h2=>?_) (fun h2=>?_)
  ·have h2:((A.map Ae).length:Int)=(0:Int):=h2;have hB:0<B.length:=by have q:=h1;rw[Lm]at q;first | omega | (have q2:=h1;rw[Lm]at q2;omega)
   refine Xi ⟨[(0,sl Ae A),(1,sl Ae B),(2,.v (.func (.func fF) #[] #[])),(7,.slice (.id 7 4) (O.map Ae))],[(7,.tok 4 O.length)],Ab⟩ (Yi ⟨Z4,Z1,Fh,Tv⟩ ?_)
   refine Xi ⟨[(0,sl Ae A),(1,sl Ae B),(2,.v (.func (.func fF) #[] #[])),(7,.slice (.id 7 4) (O.map Ae)),(8,vi 1)],[(7,.tok 4 O.length)],Ab⟩ (Yi ⟨Z5,Z1,Fh,Tv⟩ ?_)
   refine Yi (fun h=>absurd h (by decide)) (fun _=>?_);refine Xi ⟨[(0,sl Ae A),(1,sl Ae B),(2,.v (.func (.func fF) #[] #[])),(7,.slice (.id 7 4) (O.map Ae)),(8,vi 1)],[(7,.tok 4 O.length)],Ab⟩ (Yi ⟨Z5,Z1,Fh,Tv⟩ ?_)
   refine Xi (Ae B[0]) (Yi (Yi (AX 0) (Cf (Ge hB))) (Yi rfl ?_));refine Yi (Nz rfl) ?_;refine Yi (Pf rfl (by omega) (by decide)) ?_;refine Yi (Dc (f:=Ae) (n:=4) (fun _=>rfl) hB).1 (Yi (Dc (f:=Ae) (n:=4) (fun _=>rfl) hB).2 ?_);refine Yi (fun h=>absurd h (by decide)) (fun _=>?_);have V3:(A.drop 1).length=A.length-1:=Ar ..;have V4:(B.drop 1).length=B.length-1:=Ar ..;have eA:A=[]:=lC h2;have eM:A5 c A B=B[0]::A5 c A (B.drop 1):=by rw[eA];exact LZ hB
   refine Xi ⟨(A,(B.drop 1),O++[B[0]]),by show(O++[B[0]])++A5 c A (B.drop 1)=_;rw[←k1,eM,AO];rfl,by simp only[Ad,Ar,AD];omega⟩ ?_;exact⟨by show A.length+(B.drop 1).length<A.length+B.length;omega,⟨Zr,⟨(show AV.slice .none _=sl Ae (B.drop 1)from Ac (AV.slice .none) (CU B)),rfl⟩,Zr,⟨Ug,rfl⟩,Tv⟩,⟨⟨T5,rfl⟩,Tv⟩,Fh,Tv⟩
  have h2:¬(((A.map Ae).length:Int)=(0:Int)):=h2;have hA:0<A.length:=by have q:=h2;rw[Lm]at q;omega
  refine Xi ⟨[(0,sl Ae A),(1,sl Ae B),(2,.v (.func (.func fF) #[] #[])),(7,.slice (.id 7 4) (O.map Ae))],[(7,.tok 4 O.length)],Ab⟩ (Yi ⟨Z4,Z1,Fh,Tv⟩ ?_)
  refine Yi (fun h5=>?_) (fun h5=>?_)
  ·have h5:((B.map Ae).length:Int)=(0:Int):=h5;refine Xi ⟨[(0,sl Ae A),(1,sl Ae B),(2,.v (.func (.func fF) #[] #[])),(7,.slice (.id 7 4) (O.map Ae)),(8,vi (-1))],[(7,.tok 4 O.length)],Ab⟩ (Yi ⟨Z5,Z1,Fh,Tv⟩ ?_)
   refine Yi (fun _=>?_) (fun h=>absurd (by decide) h);refine Xi (Ae A[0]) (Yi (Yi (AX 0) (Cf (Ge hA))) (Yi rfl ?_));refine Yi (Nz rfl) ?_;refine Yi (Pf rfl (by omega) (by decide)) ?_;refine Yi (Dc (f:=Ae) (n:=4) (fun _=>rfl) hA).1 (Yi (Dc (f:=Ae) (n:=4) (fun _=>rfl) hA).2 ?_);have V3:(A.drop 1).length=A.length-1:=Ar ..;have V4:(B.drop 1).length=B.length-1:=Ar ..;have eB:B=[]:=lC h5;have eM:A5 c A B=A[0]::A5 c (A.drop 1) B:=by rw[eB];exact LY hA
   refine Xi ⟨((A.drop 1),B,O++[A[0]]),by show(O++[A[0]])++A5 c (A.drop 1) B=_;rw[←k1,eM,AO];rfl,by simp only[Ad,Ar,AD];omega⟩ ?_;exact⟨by show(A.drop 1).length+B.length<A.length+B.length;omega,⟨⟨(show AV.slice .none _=sl Ae (A.drop 1)from Ac (AV.slice .none) (CU A)),rfl⟩,Zr,Zr,⟨Ug,rfl⟩,Tv⟩,⟨⟨T5,rfl⟩,Tv⟩,Fh,Tv⟩
  have h5:¬(((B.map Ae).length:Int)=(0:Int)):=h5;have hB:0<B.length:=by have q:=h5;rw[Lm]at q;omega
  refine Xi (Ae A[0]) (Yi (Yi (AX 0) (Cf (Ge hA))) (Yi rfl ?_));refine Yi (Nz rfl) ?_;refine Xi (Ae B[0]) (Yi (Yi (AX 0) (Cf (Ge hB))) (Yi rfl ?_));refine Yi (Nz rfl) ?_;refine Xi _ (Yi (hF A[0] B[0]) ?_);refine Yi (by kernel_rfl) ?_;refine Xi ⟨[(0,sl Ae A),(1,sl Ae B),(2,.v (.func (.func fF) #[] #[])),(7,.slice (.id 7 4) (O.map Ae)),(8,vi (c A[0] B[0]))],[(7,.tok 4 O.length)],Ab⟩ (Yi ⟨Z5,Z1,Fh,Tv⟩ ?_)
  refine Yi (fun h8=>?_) (fun h8=>?_)
  ·have h8:((c A[0] B[0]):Int)<(0:Int):=h8;refine Xi (Ae A[0]) (Yi (Yi (AX 0) (Cf (Ge hA))) (Yi rfl ?_));refine Yi (Nz rfl) ?_;refine Yi (Pf rfl (by omega) (by decide)) ?_;refine Yi (Dc (f:=Ae) (n:=4) (fun _=>rfl) hA).1 (Yi (Dc (f:=Ae) (n:=4) (fun _=>rfl) hA).2 ?_);have V3:(A.drop 1).length=A.length-1:=Ar ..;have V4:(B.drop 1).length=B.length-1:=Ar ..;have eM:A5 c A B=A[0]::A5 c (A.drop 1) B:=by rw[FN hA hB,Aw h8]
   refine Xi ⟨((A.drop 1),B,O++[A[0]]),by show(O++[A[0]])++A5 c (A.drop 1) B=_;rw[←k1,eM,AO];rfl,by simp only[Ad,Ar,AD];omega⟩ ?_;exact⟨by show(A.drop 1).length+B.length<A.length+B.length;omega,⟨⟨(show AV.slice .none _=sl Ae (A.drop 1)from Ac (AV.slice .none) (CU A)),rfl⟩,Zr,Zr,⟨Ug,rfl⟩,Tv⟩,⟨⟨T5,rfl⟩,Tv⟩,Fh,Tv⟩
  have h8:¬(((c A[0] B[0]):Int)<(0:Int)):=h8;refine Xi ⟨[(0,sl Ae A),(1,sl Ae B),(2,.v (.func (.func fF) #[] #[])),(7,.slice (.id 7 4) (O.map Ae)),(8,vi (c A[0] B[0]))],[(7,.tok 4 O.length)],Ab⟩ (Yi ⟨Z5,Z1,Fh,Tv⟩ ?_)
  refine Xi (Ae B[0]) (Yi (Yi (AX 0) (Cf (Ge hB))) (Yi rfl ?_));refine Yi (Nz rfl) ?_;refine Yi (Pf rfl (by omega) (by decide)) ?_;refine Yi (Dc (f:=Ae) (n:=4) (fun _=>rfl) hB).1 (Yi (Dc (f:=Ae) (n:=4) (fun _=>rfl) hB).2 ?_);refine Yi (fun M1=>?_) (fun M1=>?_)
  ·have M1:((c A[0] B[0]):Int)=(0:Int):=M1;refine Xi ⟨[(0,sl Ae A),(1,.slice .none (rv Ae B)),(2,.v (.func (.func fF) #[] #[])),(7,.slice (.id 7 4) ((O.map Ae)++[(Ae B[0])]))],[(7,.tok 4 ((O.map Ae).length+([(Ae B[0])]:List (List AV)).length))],Ab⟩ (Yi ⟨Z4,Z1,Fh,Tv⟩ ?_)
   refine Yi (Dc (f:=Ae) (n:=4) (fun _=>rfl) hA).1 (Yi (Dc (f:=Ae) (n:=4) (fun _=>rfl) hA).2 ?_);have V3:(A.drop 1).length=A.length-1:=Ar ..;have V4:(B.drop 1).length=B.length-1:=Ar ..;have eM:A5 c A B=B[0]::A5 c (A.drop 1) (B.drop 1):=by rw[FN hA hB,Ak h8,Aw M1]
   refine Xi ⟨((A.drop 1),(B.drop 1),O++[B[0]]),by show(O++[B[0]])++A5 c (A.drop 1) (B.drop 1)=_;rw[←k1,eM,AO];rfl,by simp only[Ad,Ar,AD];omega⟩ ?_;exact⟨by show(A.drop 1).length+(B.drop 1).length<A.length+B.length;omega,⟨⟨(show AV.slice .none _=sl Ae (A.drop 1)from Ac (AV.slice .none) (CU A)),rfl⟩,⟨(show AV.slice .none _=sl Ae (B.drop 1)from Ac (AV.slice .none) (CU B)),rfl⟩,Zr,⟨Ug,rfl⟩,Tv⟩,⟨⟨T5,rfl⟩,Tv⟩,Fh,Tv⟩
  have M1:¬(((c A[0] B[0]):Int)=(0:Int)):=M1;have V3:(A.drop 1).length=A.length-1:=Ar ..;have V4:(B.drop 1).length=B.length-1:=Ar ..;have eM:A5 c A B=B[0]::A5 c A (B.drop 1):=by rw[FN hA hB,Ak h8,Ak M1]
  refine Xi ⟨(A,(B.drop 1),O++[B[0]]),by show(O++[B[0]])++A5 c A (B.drop 1)=_;rw[←k1,eM,AO];rfl,by simp only[Ad,Ar,AD];omega⟩ ?_;exact⟨by show A.length+(B.drop 1).length<A.length+B.length;omega,⟨Zr,⟨(show AV.slice .none _=sl Ae (B.drop 1)from Ac (AV.slice .none) (CU B)),rfl⟩,Zr,⟨Ug,rfl⟩,Tv⟩,⟨⟨T5,rfl⟩,Tv⟩,Fh,Tv⟩
 have h1:¬((0:Int)<((A.map Ae).length:Int)):=h1;have n1:¬0<A.length:=by have q:=h1;rw[Lm]at q;omega
 refine Yi (fun MM=>?_) (fun MM=>?_)
 ·have MM:(0:Int)<((B.map Ae).length:Int):=MM;have n15:0<B.length:=by have q:=MM;rw[Lm]at q;omega
  have hB:0<B.length:=by have q:=MM;rw[Lm]at q;omega
  refine Yi (fun Wx=>?_) (fun Wx=>?_)
  ·have Wx:((A.map Ae).length:Int)=(0:Int):=Wx;have hB:0<B.length:=by have q:=MM;rw[Lm]at q;first | omega | (have q2:=MM;rw[Lm]at q2;omega)
   refine Xi ⟨[(0,sl Ae A),(1,sl Ae B),(2,.v (.func (.func fF) #[] #[])),(7,.slice (.id 7 4) (O.map Ae))],[(7,.tok 4 O.length)],Ab⟩ (Yi ⟨Z4,Z1,Fh,Tv⟩ ?_)
   refine Xi ⟨[(0,sl Ae A),(1,sl Ae B),(2,.v (.func (.func fF) #[] #[])),(7,.slice (.id 7 4) (O.map Ae)),(8,vi 1)],[(7,.tok 4 O.length)],Ab⟩ (Yi ⟨Z5,Z1,Fh,Tv⟩ ?_)
   refine Yi (fun h=>absurd h (by decide)) (fun _=>?_);refine Xi ⟨[(0,sl Ae A),(1,sl Ae B),(2,.v (.func (.func fF) #[] #[])),(7,.slice (.id 7 4) (O.map Ae)),(8,vi 1)],[(7,.tok 4 O.length)],Ab⟩ (Yi ⟨Z5,Z1,Fh,Tv⟩ ?_)
   refine Xi (Ae B[0]) (Yi (Yi (AX 0) (Cf (Ge hB))) (Yi rfl ?_));refine Yi (Nz rfl) ?_;refine Yi (Pf rfl (by omega) (by decide)) ?_;refine Yi (Dc (f:=Ae) (n:=4) (fun _=>rfl) hB).1 (Yi (Dc (f:=Ae) (n:=4) (fun _=>rfl) hB).2 ?_);refine Yi (fun h=>absurd h (by decide)) (fun _=>?_);have V3:(A.drop 1).length=A.length-1:=Ar ..;have V4:(B.drop 1).length=B.length-1:=Ar ..;have eA:A=[]:=lC Wx;have eM:A5 c A B=B[0]::A5 c A (B.drop 1):=by rw[eA];exact LZ hB
   refine Xi ⟨(A,(B.drop 1),O++[B[0]]),by show(O++[B[0]])++A5 c A (B.drop 1)=_;rw[←k1,eM,AO];rfl,by simp only[Ad,Ar,AD];omega⟩ ?_;exact⟨by show A.length+(B.drop 1).length<A.length+B.length;omega,⟨Zr,⟨(show AV.slice .none _=sl Ae (B.drop 1)from Ac (AV.slice .none) (CU B)),rfl⟩,Zr,⟨Ug,rfl⟩,Tv⟩,⟨⟨T5,rfl⟩,Tv⟩,Fh,Tv⟩
  have Wx:¬(((A.map Ae).length:Int)=(0:Int)):=Wx;have hA:0<A.length:=by have q:=Wx;rw[Lm]at q;omega
  refine Xi ⟨[(0,sl Ae A),(1,sl Ae B),(2,.v (.func (.func fF) #[] #[])),(7,.slice (.id 7 4) (O.map Ae))],[(7,.tok 4 O.length)],Ab⟩ (Yi ⟨Z4,Z1,Fh,Tv⟩ ?_)
  refine Yi (fun Pg=>?_) (fun Pg=>?_)
  ·have Pg:((B.map Ae).length:Int)=(0:Int):=Pg;refine Xi ⟨[(0,sl Ae A),(1,sl Ae B),(2,.v (.func (.func fF) #[] #[])),(7,.slice (.id 7 4) (O.map Ae)),(8,vi (-1))],[(7,.tok 4 O.length)],Ab⟩ (Yi ⟨Z5,Z1,Fh,Tv⟩ ?_)
   refine Yi (fun _=>?_) (fun h=>absurd (by decide) h);refine Xi (Ae A[0]) (Yi (Yi (AX 0) (Cf (Ge hA))) (Yi rfl ?_));refine Yi (Nz rfl) ?_;refine Yi (Pf rfl (by omega) (by decide)) ?_;refine Yi (Dc (f:=Ae) (n:=4) (fun _=>rfl) hA).1 (Yi (Dc (f:=Ae) (n:=4) (fun _=>rfl) hA).2 ?_);have V3:(A.drop 1).length=A.length-1:=Ar ..;have V4:(B.drop 1).length=B.length-1:=Ar ..;have eB:B=[]:=lC Pg;have eM:A5 c A B=A[0]::A5 c (A.drop 1) B:=by rw[eB];exact LY hA
   refine Xi ⟨((A.drop 1),B,O++[A[0]]),by show(O++[A[0]])++A5 c (A.drop 1) B=_;rw[←k1,eM,AO];rfl,by simp only[Ad,Ar,AD];omega⟩ ?_;exact⟨by show(A.drop 1).length+B.length<A.length+B.length;omega,⟨⟨(show AV.slice .none _=sl Ae (A.drop 1)from Ac (AV.slice .none) (CU A)),rfl⟩,Zr,Zr,⟨Ug,rfl⟩,Tv⟩,⟨⟨T5,rfl⟩,Tv⟩,Fh,Tv⟩
  have Pg:¬(((B.map Ae).length:Int)=(0:Int)):=Pg;have hB:0<B.length:=by have q:=Pg;rw[Lm]at q;omega
  refine Xi (Ae A[0]) (Yi (Yi (AX 0) (Cf (Ge hA))) (Yi rfl ?_));refine Yi (Nz rfl) ?_;refine Xi (Ae B[0]) (Yi (Yi (AX 0) (Cf (Ge hB))) (Yi rfl ?_));refine Yi (Nz rfl) ?_;refine Xi _ (Yi (hF A[0] B[0]) ?_);refine Yi (by kernel_rfl) ?_;refine Xi ⟨[(0,sl Ae A),(1,sl Ae B),(2,.v (.func (.func fF) #[] #[])),(7,.slice (.id 7 4) (O.map Ae)),(8,vi (c A[0] B[0]))],[(7,.tok 4 O.length)],Ab⟩ (Yi ⟨Z5,Z1,Fh,Tv⟩ ?_)
  refine Yi (fun Xo=>?_) (fun Xo=>?_)
  ·have Xo:((c A[0] B[0]):Int)<(0:Int):=Xo;refine Xi (Ae A[0]) (Yi (Yi (AX 0) (Cf (Ge hA))) (Yi rfl ?_));refine Yi (Nz rfl) ?_;refine Yi (Pf rfl (by omega) (by decide)) ?_;refine Yi (Dc (f:=Ae) (n:=4) (fun _=>rfl) hA).1 (Yi (Dc (f:=Ae) (n:=4) (fun _=>rfl) hA).2 ?_);have V3:(A.drop 1).length=A.length-1:=Ar ..;have V4:(B.drop 1).length=B.length-1:=Ar ..;have eM:A5 c A B=A[0]::A5 c (A.drop 1) B:=by rw[FN hA hB,Aw Xo]
   refine Xi ⟨((A.drop 1),B,O++[A[0]]),by show(O++[A[0]])++A5 c (A.drop 1) B=_;rw[←k1,eM,AO];rfl,by simp only[Ad,Ar,AD];omega⟩ ?_;exact⟨by show(A.drop 1).length+B.length<A.length+B.length;omega,⟨⟨(show AV.slice .none _=sl Ae (A.drop 1)from Ac (AV.slice .none) (CU A)),rfl⟩,Zr,Zr,⟨Ug,rfl⟩,Tv⟩,⟨⟨T5,rfl⟩,Tv⟩,Fh,Tv⟩
  have Xo:¬(((c A[0] B[0]):Int)<(0:Int)):=Xo;refine Xi ⟨[(0,sl Ae A),(1,sl Ae B),(2,.v (.func (.func fF) #[] #[])),(7,.slice (.id 7 4) (O.map Ae)),(8,vi (c A[0] B[0]))],[(7,.tok 4 O.length)],Ab⟩ (Yi ⟨Z5,Z1,Fh,Tv⟩ ?_)
  refine Xi (Ae B[0]) (Yi (Yi (AX 0) (Cf (Ge hB))) (Yi rfl ?_));refine Yi (Nz rfl) ?_;refine Yi (Pf rfl (by omega) (by decide)) ?_;refine Yi (Dc (f:=Ae) (n:=4) (fun _=>rfl) hB).1 (Yi (Dc (f:=Ae) (n:=4) (fun _=>rfl) hB).2 ?_);refine Yi (fun YT=>?_) (fun YT=>?_)
  ·have YT:((c A[0] B[0]):Int)=(0:Int):=YT;refine Xi ⟨[(0,sl Ae A),(1,.slice .none (rv Ae B)),(2,.v (.func (.func fF) #[] #[])),(7,.slice (.id 7 4) ((O.map Ae)++[(Ae B[0])]))],[(7,.tok 4 ((O.map Ae).length+([(Ae B[0])]:List (List AV)).length))],Ab⟩ (Yi ⟨Z4,Z1,Fh,Tv⟩ ?_)
   refine Yi (Dc (f:=Ae) (n:=4) (fun _=>rfl) hA).1 (Yi (Dc (f:=Ae) (n:=4) (fun _=>rfl) hA).2 ?_);have V3:(A.drop 1).length=A.length-1:=Ar ..;have V4:(B.drop 1).length=B.length-1:=Ar ..;have eM:A5 c A B=B[0]::A5 c (A.drop 1) (B.drop 1):=by rw[FN hA hB,Ak Xo,Aw YT]
   refine Xi ⟨((A.drop 1),(B.drop 1),O++[B[0]]),by show(O++[B[0]])++A5 c (A.drop 1) (B.drop 1)=_;rw[←k1,eM,AO];rfl,by simp only[Ad,Ar,AD];omega⟩ ?_;exact⟨by show(A.drop 1).length+(B.drop 1).length<A.length+B.length;omega,⟨⟨(show AV.slice .none _=sl Ae (A.drop 1)from Ac (AV.slice .none) (CU A)),rfl⟩,⟨(show AV.slice .none _=sl Ae (B.drop 1)from Ac (AV.slice .none) (CU B)),rfl⟩,Zr,⟨Ug,rfl⟩,Tv⟩,⟨⟨T5,rfl⟩,Tv⟩,Fh,Tv⟩
  have YT:¬(((c A[0] B[0]):Int)=(0:Int)):=YT;have V3:(A.drop 1).length=A.length-1:=Ar ..;have V4:(B.drop 1).length=B.length-1:=Ar ..;have eM:A5 c A B=B[0]::A5 c A (B.drop 1):=by rw[FN hA hB,Ak Xo,Ak YT]
  refine Xi ⟨(A,(B.drop 1),O++[B[0]]),by show(O++[B[0]])++A5 c A (B.drop 1)=_;rw[←k1,eM,AO];rfl,by simp only[Ad,Ar,AD];omega⟩ ?_;exact⟨by show A.length+(B.drop 1).length<A.length+B.length;omega,⟨Zr,⟨(show AV.slice .none _=sl Ae (B.drop 1)from Ac (AV.slice .none) (CU B)),rfl⟩,Zr,⟨Ug,rfl⟩,Tv⟩,⟨⟨T5,rfl⟩,Tv⟩,Fh,Tv⟩
 have MM:¬((0:Int)<((B.map Ae).length:Int)):=MM;have n15:¬0<B.length:=by have q:=MM;rw[Lm]at q;omega
 have eA:A=[]:=r4 h1;have eB:B=[]:=r4 MM;have eO:O=A5 c a b:=by rw[←k1,eA,eB,S0,BZ]
 exact .of_eq (Ac (fun z=>sl Ae z) eO)
theorem uS(a b:List Sl)(ha:Cp a)(hb:Cp b):PC 63 [sl Ae a,sl Ae b,.v (.func (.func 55) #[] #[])] (sl Ae (A5 F5 a b)):=xF a b ha hb F5 55 uQ
theorem uR(a b:List Sl)(ha:Cp a)(hb:Cp b):PC 63 [sl Ae a,sl Ae b,.v (.func (.func 61) #[] #[])] (sl Ae (A5 No a b)):=xF a b ha hb No 61 z7
theorem xA(a b:List Rl)(ha:Cp a)(hb:Cp b):PC 38 [sl Ai a,sl Ai b,.v (.func (.func 39) #[] #[])] (sl Ai (A5 CP a b)):=by
 have ha:a.length≤1073741824:=ha;have hb:b.length≤1073741824:=hb;refine Ps ⟨[],[(7,9)],[],[],[],[],[],[],[],[],[6,7,9,12,15]⟩ Tryz.func38 rfl (Nz rfl) ?_;refine Xi {q:List Rl×List Rl×List Rl // q.2.2++A5 CP q.1 q.2.1=A5 CP a b∧q.2.2.length+q.1.length+q.2.1.length≤a.length+b.length} (Xi (fun q=>⟨[(0,sl Ai q.1.1),(1,sl Ai q.1.2.1),(2,.v (.func (.func 39) #[] #[])),(7,.slice (.id 7 9) (q.1.2.2.map Ai))],[(7,.tok 9 q.1.2.2.length)],Ab⟩) (Xi (fun q=>q.1.1.length+q.1.2.1.length) (Yi (Xi ⟨(a,b,[]),D6 _,by simp⟩ ?_) ?_)))
 ·exact⟨Z4,Z1,Fh,Tv⟩
 intro⟨⟨A,B,O⟩,k1,k2⟩;have k1:O++A5 CP A B=A5 CP a b:=k1;have k2:O.length+A.length+B.length≤a.length+b.length:=k2;refine Yi (fun h1=>?_) (fun h1=>?_)
 ·have h1:(0:Int)<((A.map Ai).length:Int):=h1;have n1:0<A.length:=by have q:=h1;rw[Lm]at q;omega
  have hA:0<A.length:=by have q:=h1;rw[Lm]at q;omega
  refine Yi (fun h2=>?_) (fun h2=>?_)
  ·have h2:((A.map Ai).length:Int)=(0:Int):=h2;have hB:0<B.length:=by have q:=h1;rw[Lm]at q;first | omega | (have q2:=h1;rw[Lm]at q2;omega)
   refine Xi ⟨[(0,sl Ai A),(1,sl Ai B),(2,.v (.func (.func 39) #[] #[])),(7,.slice (.id 7 9) (O.map Ai))],[(7,.tok 9 O.length)],Ab⟩ (Yi ⟨Z4,Z1,Fh,Tv⟩ ?_)
   refine Xi ⟨[(0,sl Ai A),(1,sl Ai B),(2,.v (.func (.func 39) #[] #[])),(7,.slice (.id 7 9) (O.map Ai)),(8,vi 1)],[(7,.tok 9 O.length)],Ab⟩ (Yi ⟨Z5,Z1,Fh,Tv⟩ ?_)
   refine Yi (fun h=>absurd h (by decide)) (fun _=>?_);refine Xi ⟨[(0,sl Ai A),(1,sl Ai B),(2,.v (.func (.func 39) #[] #[])),(7,.slice (.id 7 9) (O.map Ai)),(8,vi 1)],[(7,.tok 9 O.length)],Ab⟩ (Yi ⟨Z5,Z1,Fh,Tv⟩ ?_)
   refine Xi (Ai B[0]) (Yi (Yi (AX 0) (Cf (Ge hB))) (Yi rfl ?_));refine Yi (Nz rfl) ?_;refine Yi (Pf rfl (by omega) (by decide)) ?_;refine Yi (Dc (f:=Ai) (n:=9) (fun _=>rfl) hB).1 (Yi (Dc (f:=Ai) (n:=9) (fun _=>rfl) hB).2 ?_);refine Yi (fun h=>absurd h (by decide)) (fun _=>?_);have V3:(A.drop 1).length=A.length-1:=Ar ..;have V4:(B.drop 1).length=B.length-1:=Ar ..;have eA:A=[]:=lC h2;have eM:A5 CP A B=B[0]::A5 CP A (B.drop 1):=by rw[eA];exact LZ hB
   refine Xi ⟨(A,(B.drop 1),O++[B[0]]),by show(O++[B[0]])++A5 CP A (B.drop 1)=_;rw[←k1,eM,AO];rfl,by simp only[Ad,Ar,AD];omega⟩ ?_;exact⟨by show A.length+(B.drop 1).length<A.length+B.length;omega,⟨Zr,⟨(show AV.slice .none _=sl Ai (B.drop 1)from Ac (AV.slice .none) (CU B)),rfl⟩,Zr,⟨Ug,rfl⟩,Tv⟩,⟨⟨T5,rfl⟩,Tv⟩,Fh,Tv⟩
  have h2:¬(((A.map Ai).length:Int)=(0:Int)):=h2;have hA:0<A.length:=by have q:=h2;rw[Lm]at q;omega
  refine Xi ⟨[(0,sl Ai A),(1,sl Ai B),(2,.v (.func (.func 39) #[] #[])),(7,.slice (.id 7 9) (O.map Ai))],[(7,.tok 9 O.length)],Ab⟩ (Yi ⟨Z4,Z1,Fh,Tv⟩ ?_)
  refine Yi (fun h5=>?_) (fun h5=>?_)
  ·have h5:((B.map Ai).length:Int)=(0:Int):=h5;refine Xi ⟨[(0,sl Ai A),(1,sl Ai B),(2,.v (.func (.func 39) #[] #[])),(7,.slice (.id 7 9) (O.map Ai)),(8,vi (-1))],[(7,.tok 9 O.length)],Ab⟩ (Yi ⟨Z5,Z1,Fh,Tv⟩ ?_)
   refine Yi (fun _=>?_) (fun h=>absurd (by decide) h);refine Xi (Ai A[0]) (Yi (Yi (AX 0) (Cf (Ge hA))) (Yi rfl ?_));refine Yi (Nz rfl) ?_;refine Yi (Pf rfl (by omega) (by decide)) ?_;refine Yi (Dc (f:=Ai) (n:=9) (fun _=>rfl) hA).1 (Yi (Dc (f:=Ai) (n:=9) (fun _=>rfl) hA).2 ?_);have V3:(A.drop 1).length=A.length-1:=Ar ..;have V4:(B.drop 1).length=B.length-1:=Ar ..;have eB:B=[]:=lC h5;have eM:A5 CP A B=A[0]::A5 CP (A.drop 1) B:=by rw[eB];exact LY hA
   refine Xi ⟨((A.drop 1),B,O++[A[0]]),by show(O++[A[0]])++A5 CP (A.drop 1) B=_;rw[←k1,eM,AO];rfl,by simp only[Ad,Ar,AD];omega⟩ ?_;exact⟨by show(A.drop 1).length+B.length<A.length+B.length;omega,⟨⟨(show AV.slice .none _=sl Ai (A.drop 1)from Ac (AV.slice .none) (CU A)),rfl⟩,Zr,Zr,⟨Ug,rfl⟩,Tv⟩,⟨⟨T5,rfl⟩,Tv⟩,Fh,Tv⟩
  have h5:¬(((B.map Ai).length:Int)=(0:Int)):=h5;have hB:0<B.length:=by have q:=h5;rw[Lm]at q;omega
  refine Xi (Ai A[0]) (Yi (Yi (AX 0) (Cf (Ge hA))) (Yi rfl ?_));refine Yi (Nz rfl) ?_;refine Xi (Ai B[0]) (Yi (Yi (AX 0) (Cf (Ge hB))) (Yi rfl ?_));refine Yi (Nz rfl) ?_;refine Xi _ (Yi (xB A[0] B[0]) ?_);refine Yi (by kernel_rfl) ?_;refine Xi ⟨[(0,sl Ai A),(1,sl Ai B),(2,.v (.func (.func 39) #[] #[])),(7,.slice (.id 7 9) (O.map Ai)),(8,vi (CP A[0] B[0]))],[(7,.tok 9 O.length)],Ab⟩ (Yi ⟨Z5,Z1,Fh,Tv⟩ ?_)
  refine Yi (fun h8=>?_) (fun h8=>?_)
  ·have h8:((CP A[0] B[0]):Int)<(0:Int):=h8;refine Xi (Ai A[0]) (Yi (Yi (AX 0) (Cf (Ge hA))) (Yi rfl ?_));refine Yi (Nz rfl) ?_;refine Yi (Pf rfl (by omega) (by decide)) ?_;refine Yi (Dc (f:=Ai) (n:=9) (fun _=>rfl) hA).1 (Yi (Dc (f:=Ai) (n:=9) (fun _=>rfl) hA).2 ?_);have V3:(A.drop 1).length=A.length-1:=Ar ..;have V4:(B.drop 1).length=B.length-1:=Ar ..;have eM:A5 CP A B=A[0]::A5 CP (A.drop 1) B:=by rw[FN hA hB,Aw h8]
   refine Xi ⟨((A.drop 1),B,O++[A[0]]),by show(O++[A[0]])++A5 CP (A.drop 1) B=_;rw[←k1,eM,AO];rfl,by simp only[Ad,Ar,AD];omega⟩ ?_;exact⟨by show(A.drop 1).length+B.length<A.length+B.length;omega,⟨⟨(show AV.slice .none _=sl Ai (A.drop 1)from Ac (AV.slice .none) (CU A)),rfl⟩,Zr,Zr,⟨Ug,rfl⟩,Tv⟩,⟨⟨T5,rfl⟩,Tv⟩,Fh,Tv⟩
  have h8:¬(((CP A[0] B[0]):Int)<(0:Int)):=h8;refine Xi ⟨[(0,sl Ai A),(1,sl Ai B),(2,.v (.func (.func 39) #[] #[])),(7,.slice (.id 7 9) (O.map Ai)),(8,vi (CP A[0] B[0]))],[(7,.tok 9 O.length)],Ab⟩ (Yi ⟨Z5,Z1,Fh,Tv⟩ ?_)
  refine Xi (Ai B[0]) (Yi (Yi (AX 0) (Cf (Ge hB))) (Yi rfl ?_));refine Yi (Nz rfl) ?_;refine Yi (Pf rfl (by omega) (by decide)) ?_;refine Yi (Dc (f:=Ai) (n:=9) (fun _=>rfl) hB).1 (Yi (Dc (f:=Ai) (n:=9) (fun _=>rfl) hB).2 ?_);refine Yi (fun M1=>?_) (fun M1=>?_)
  ·have M1:((CP A[0] B[0]):Int)=(0:Int):=M1;refine Xi ⟨[(0,sl Ai A),(1,.slice .none (rv Ai B)),(2,.v (.func (.func 39) #[] #[])),(7,.slice (.id 7 9) ((O.map Ai)++[(Ai B[0])]))],[(7,.tok 9 ((O.map Ai).length+([(Ai B[0])]:List (List AV)).length))],Ab⟩ (Yi ⟨Z4,Z1,Fh,Tv⟩ ?_)
   refine Yi (Dc (f:=Ai) (n:=9) (fun _=>rfl) hA).1 (Yi (Dc (f:=Ai) (n:=9) (fun _=>rfl) hA).2 ?_);have V3:(A.drop 1).length=A.length-1:=Ar ..;have V4:(B.drop 1).length=B.length-1:=Ar ..;have eM:A5 CP A B=B[0]::A5 CP (A.drop 1) (B.drop 1):=by rw[FN hA hB,Ak h8,Aw M1]
   refine Xi ⟨((A.drop 1),(B.drop 1),O++[B[0]]),by show(O++[B[0]])++A5 CP (A.drop 1) (B.drop 1)=_;rw[←k1,eM,AO];rfl,by simp only[Ad,Ar,AD];omega⟩ ?_;exact⟨by show(A.drop 1).length+(B.drop 1).length<A.length+B.length;omega,⟨⟨(show AV.slice .none _=sl Ai (A.drop 1)from Ac (AV.slice .none) (CU A)),rfl⟩,⟨(show AV.slice .none _=sl Ai (B.drop 1)from Ac (AV.slice .none) (CU B)),rfl⟩,Zr,⟨Ug,rfl⟩,Tv⟩,⟨⟨T5,rfl⟩,Tv⟩,Fh,Tv⟩
  have M1:¬(((CP A[0] B[0]):Int)=(0:Int)):=M1;have V3:(A.drop 1).length=A.length-1:=Ar ..;have V4:(B.drop 1).length=B.length-1:=Ar ..;have eM:A5 CP A B=B[0]::A5 CP A (B.drop 1):=by rw[FN hA hB,Ak h8,Ak M1]
  refine Xi ⟨(A,(B.drop 1),O++[B[0]]),by show(O++[B[0]])++A5 CP A (B.drop 1)=_;rw[←k1,eM,AO];rfl,by simp only[Ad,Ar,AD];omega⟩ ?_;exact⟨by show A.length+(B.drop 1).length<A.length+B.length;omega,⟨Zr,⟨(show AV.slice .none _=sl Ai (B.drop 1)from Ac (AV.slice .none) (CU B)),rfl⟩,Zr,⟨Ug,rfl⟩,Tv⟩,⟨⟨T5,rfl⟩,Tv⟩,Fh,Tv⟩
 have h1:¬((0:Int)<((A.map Ai).length:Int)):=h1;have n1:¬0<A.length:=by have q:=h1;rw[Lm]at q;omega
 refine Yi (fun MM=>?_) (fun MM=>?_)
 ·have MM:(0:Int)<((B.map Ai).length:Int):=MM;have n15:0<B.length:=by have q:=MM;rw[Lm]at q;omega
  have hB:0<B.length:=by have q:=MM;rw[Lm]at q;omega
  refine Yi (fun Wx=>?_) (fun Wx=>?_)
  ·have Wx:((A.map Ai).length:Int)=(0:Int):=Wx;have hB:0<B.length:=by have q:=MM;rw[Lm]at q;first | omega | (have q2:=MM;rw[Lm]at q2;omega)
   refine Xi ⟨[(0,sl Ai A),(1,sl Ai B),(2,.v (.func (.func 39) #[] #[])),(7,.slice (.id 7 9) (O.map Ai))],[(7,.tok 9 O.length)],Ab⟩ (Yi ⟨Z4,Z1,Fh,Tv⟩ ?_)
   refine Xi ⟨[(0,sl Ai A),(1,sl Ai B),(2,.v (.func (.func 39) #[] #[])),(7,.slice (.id 7 9) (O.map Ai)),(8,vi 1)],[(7,.tok 9 O.length)],Ab⟩ (Yi ⟨Z5,Z1,Fh,Tv⟩ ?_)
   refine Yi (fun h=>absurd h (by decide)) (fun _=>?_);refine Xi ⟨[(0,sl Ai A),(1,sl Ai B),(2,.v (.func (.func 39) #[] #[])),(7,.slice (.id 7 9) (O.map Ai)),(8,vi 1)],[(7,.tok 9 O.length)],Ab⟩ (Yi ⟨Z5,Z1,Fh,Tv⟩ ?_)
   refine Xi (Ai B[0]) (Yi (Yi (AX 0) (Cf (Ge hB))) (Yi rfl ?_));refine Yi (Nz rfl) ?_;refine Yi (Pf rfl (by omega) (by decide)) ?_;refine Yi (Dc (f:=Ai) (n:=9) (fun _=>rfl) hB).1 (Yi (Dc (f:=Ai) (n:=9) (fun _=>rfl) hB).2 ?_);refine Yi (fun h=>absurd h (by decide)) (fun _=>?_);have V3:(A.drop 1).length=A.length-1:=Ar ..;have V4:(B.drop 1).length=B.length-1:=Ar ..;have eA:A=[]:=lC Wx;have eM:A5 CP A B=B[0]::A5 CP A (B.drop 1):=by rw[eA];exact LZ hB
   refine Xi ⟨(A,(B.drop 1),O++[B[0]]),by show(O++[B[0]])++A5 CP A (B.drop 1)=_;rw[←k1,eM,AO];rfl,by simp only[Ad,Ar,AD];omega⟩ ?_;exact⟨by show A.length+(B.drop 1).length<A.length+B.length;omega,⟨Zr,⟨(show AV.slice .none _=sl Ai (B.drop 1)from Ac (AV.slice .none) (CU B)),rfl⟩,Zr,⟨Ug,rfl⟩,Tv⟩,⟨⟨T5,rfl⟩,Tv⟩,Fh,Tv⟩
  have Wx:¬(((A.map Ai).length:Int)=(0:Int)):=Wx;have hA:0<A.length:=by have q:=Wx;rw[Lm]at q;omega
  refine Xi ⟨[(0,sl Ai A),(1,sl Ai B),(2,.v (.func (.func 39) #[] #[])),(7,.slice (.id 7 9) (O.map Ai))],[(7,.tok 9 O.length)],Ab⟩ (Yi ⟨Z4,Z1,Fh,Tv⟩ ?_)
  refine Yi (fun Pg=>?_) (fun Pg=>?_)
  ·have Pg:((B.map Ai).length:Int)=(0:Int):=Pg;refine Xi ⟨[(0,sl Ai A),(1,sl Ai B),(2,.v (.func (.func 39) #[] #[])),(7,.slice (.id 7 9) (O.map Ai)),(8,vi (-1))],[(7,.tok 9 O.length)],Ab⟩ (Yi ⟨Z5,Z1,Fh,Tv⟩ ?_)
   refine Yi (fun _=>?_) (fun h=>absurd (by decide) h);refine Xi (Ai A[0]) (Yi (Yi (AX 0) (Cf (Ge hA))) (Yi rfl ?_));refine Yi (Nz rfl) ?_;refine Yi (Pf rfl (by omega) (by decide)) ?_;refine Yi (Dc (f:=Ai) (n:=9) (fun _=>rfl) hA).1 (Yi (Dc (f:=Ai) (n:=9) (fun _=>rfl) hA).2 ?_);have V3:(A.drop 1).length=A.length-1:=Ar ..;have V4:(B.drop 1).length=B.length-1:=Ar ..;have eB:B=[]:=lC Pg;have eM:A5 CP A B=A[0]::A5 CP (A.drop 1) B:=by rw[eB];exact LY hA
   refine Xi ⟨((A.drop 1),B,O++[A[0]]),by show(O++[A[0]])++A5 CP (A.drop 1) B=_;rw[←k1,eM,AO];rfl,by simp only[Ad,Ar,AD];omega⟩ ?_;exact⟨by show(A.drop 1).length+B.length<A.length+B.length;omega,⟨⟨(show AV.slice .none _=sl Ai (A.drop 1)from Ac (AV.slice .none) (CU A)),rfl⟩,Zr,Zr,⟨Ug,rfl⟩,Tv⟩,⟨⟨T5,rfl⟩,Tv⟩,Fh,Tv⟩
  have Pg:¬(((B.map Ai).length:Int)=(0:Int)):=Pg;have hB:0<B.length:=by have q:=Pg;rw[Lm]at q;omega
  refine Xi (Ai A[0]) (Yi (Yi (AX 0) (Cf (Ge hA))) (Yi rfl ?_));refine Yi (Nz rfl) ?_;refine Xi (Ai B[0]) (Yi (Yi (AX 0) (Cf (Ge hB))) (Yi rfl ?_));refine Yi (Nz rfl) ?_;refine Xi _ (Yi (xB A[0] B[0]) ?_);refine Yi (by kernel_rfl) ?_;refine Xi ⟨[(0,sl Ai A),(1,sl Ai B),(2,.v (.func (.func 39) #[] #[])),(7,.slice (.id 7 9) (O.map Ai)),(8,vi (CP A[0] B[0]))],[(7,.tok 9 O.length)],Ab⟩ (Yi ⟨Z5,Z1,Fh,Tv⟩ ?_)
  refine Yi (fun Xo=>?_) (fun Xo=>?_)
  ·have Xo:((CP A[0] B[0]):Int)<(0:Int):=Xo;refine Xi (Ai A[0]) (Yi (Yi (AX 0) (Cf (Ge hA))) (Yi rfl ?_));refine Yi (Nz rfl) ?_;refine Yi (Pf rfl (by omega) (by decide)) ?_;refine Yi (Dc (f:=Ai) (n:=9) (fun _=>rfl) hA).1 (Yi (Dc (f:=Ai) (n:=9) (fun _=>rfl) hA).2 ?_);have V3:(A.drop 1).length=A.length-1:=Ar ..;have V4:(B.drop 1).length=B.length-1:=Ar ..;have eM:A5 CP A B=A[0]::A5 CP (A.drop 1) B:=by rw[FN hA hB,Aw Xo]
   refine Xi ⟨((A.drop 1),B,O++[A[0]]),by show(O++[A[0]])++A5 CP (A.drop 1) B=_;rw[←k1,eM,AO];rfl,by simp only[Ad,Ar,AD];omega⟩ ?_;exact⟨by show(A.drop 1).length+B.length<A.length+B.length;omega,⟨⟨(show AV.slice .none _=sl Ai (A.drop 1)from Ac (AV.slice .none) (CU A)),rfl⟩,Zr,Zr,⟨Ug,rfl⟩,Tv⟩,⟨⟨T5,rfl⟩,Tv⟩,Fh,Tv⟩
  have Xo:¬(((CP A[0] B[0]):Int)<(0:Int)):=Xo;refine Xi ⟨[(0,sl Ai A),(1,sl Ai B),(2,.v (.func (.func 39) #[] #[])),(7,.slice (.id 7 9) (O.map Ai)),(8,vi (CP A[0] B[0]))],[(7,.tok 9 O.length)],Ab⟩ (Yi ⟨Z5,Z1,Fh,Tv⟩ ?_)
  refine Xi (Ai B[0]) (Yi (Yi (AX 0) (Cf (Ge hB))) (Yi rfl ?_));refine Yi (Nz rfl) ?_;refine Yi (Pf rfl (by omega) (by decide)) ?_;refine Yi (Dc (f:=Ai) (n:=9) (fun _=>rfl) hB).1 (Yi (Dc (f:=Ai) (n:=9) (fun _=>rfl) hB).2 ?_);refine Yi (fun YT=>?_) (fun YT=>?_)
  ·have YT:((CP A[0] B[0]):Int)=(0:Int):=YT;refine Xi ⟨[(0,sl Ai A),(1,.slice .none (rv Ai B)),(2,.v (.func (.func 39) #[] #[])),(7,.slice (.id 7 9) ((O.map Ai)++[(Ai B[0])]))],[(7,.tok 9 ((O.map Ai).length+([(Ai B[0])]:List (List AV)).length))],Ab⟩ (Yi ⟨Z4,Z1,Fh,Tv⟩ ?_)
   refine Yi (Dc (f:=Ai) (n:=9) (fun _=>rfl) hA).1 (Yi (Dc (f:=Ai) (n:=9) (fun _=>rfl) hA).2 ?_);have V3:(A.drop 1).length=A.length-1:=Ar ..;have V4:(B.drop 1).length=B.length-1:=Ar ..;have eM:A5 CP A B=B[0]::A5 CP (A.drop 1) (B.drop 1):=by rw[FN hA hB,Ak Xo,Aw YT]
   refine Xi ⟨((A.drop 1),(B.drop 1),O++[B[0]]),by show(O++[B[0]])++A5 CP (A.drop 1) (B.drop 1)=_;rw[←k1,eM,AO];rfl,by simp only[Ad,Ar,AD];omega⟩ ?_;exact⟨by show(A.drop 1).length+(B.drop 1).length<A.length+B.length;omega,⟨⟨(show AV.slice .none _=sl Ai (A.drop 1)from Ac (AV.slice .none) (CU A)),rfl⟩,⟨(show AV.slice .none _=sl Ai (B.drop 1)from Ac (AV.slice .none) (CU B)),rfl⟩,Zr,⟨Ug,rfl⟩,Tv⟩,⟨⟨T5,rfl⟩,Tv⟩,Fh,Tv⟩
  have YT:¬(((CP A[0] B[0]):Int)=(0:Int)):=YT;have V3:(A.drop 1).length=A.length-1:=Ar ..;have V4:(B.drop 1).length=B.length-1:=Ar ..;have eM:A5 CP A B=B[0]::A5 CP A (B.drop 1):=by rw[FN hA hB,Ak Xo,Ak YT]
  refine Xi ⟨(A,(B.drop 1),O++[B[0]]),by show(O++[B[0]])++A5 CP A (B.drop 1)=_;rw[←k1,eM,AO];rfl,by simp only[Ad,Ar,AD];omega⟩ ?_;exact⟨by show A.length+(B.drop 1).length<A.length+B.length;omega,⟨Zr,⟨(show AV.slice .none _=sl Ai (B.drop 1)from Ac (AV.slice .none) (CU B)),rfl⟩,Zr,⟨Ug,rfl⟩,Tv⟩,⟨⟨T5,rfl⟩,Tv⟩,Fh,Tv⟩
 have MM:¬((0:Int)<((B.map Ai).length:Int)):=MM;have n15:¬0<B.length:=by have q:=MM;rw[Lm]at q;omega
 have eA:A=[]:=r4 h1;have eB:B=[]:=r4 MM;have eO:O=A5 CP a b:=by rw[←k1,eA,eB,S0,BZ]
 exact .of_eq (Ac (fun z=>sl Ai z) eO)
end Go.Eng
