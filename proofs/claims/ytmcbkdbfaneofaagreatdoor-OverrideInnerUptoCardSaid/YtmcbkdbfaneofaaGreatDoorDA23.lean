/- Lemmas for the claims of this seat, without a condition: part 23 (O5). -/
import Derived.Test.YtmcbkdbfaneofaaGreatDoorDA22
set_option maxHeartbeats 4000000
namespace Go.Eng
open Go.Proofs
def Cs{α:Type}(c:α→α→Int):Nat→List α→List α→List α
 |0,_,_=>[]
 |_+1,[],[]=>[]
 |n+1,[],y::b=>y::Cs c n [] b
 |n+1,x::a,[]=>x::Cs c n a []
 |n+1,x::a,y::b=>if c x y<0 then x::Cs c n a (y::b)else if c x y=0 then y::Cs c n a b else y::Cs c n (x::a) b
theorem Ha{α:Type}(c:α→α→Int):∀(n m:Nat) (a b:List α),a.length+b.length≤n→a.length+b.length≤m→Cs c n a b=Cs c m a b
 |0,m,a,b,h,_=>by
  have ha:a=[]:=AB (by omega);have hb:b=[]:=AB (by omega);subst ha;subst hb;cases m<;>rfl
 |n+1,0,a,b,_,h=>by
  have ha:a=[]:=AB (by omega);have hb:b=[]:=AB (by omega);subst ha;subst hb;rfl
 |n+1,m+1,a,b,h,k=>by
  cases a with
  |nil =>
   cases b with
   |nil=>rfl
   |cons y b =>
    simp only[At,AC]at h k;show y::Cs c n [] b=y::Cs c m [] b;rw[Ha c n m [] b (by simp only[AC];omega) (by simp only[AC];omega)]
  |cons x a =>
   cases b with
   |nil =>
    simp only[At,AC]at h k;show x::Cs c n a []=x::Cs c m a [];rw[Ha c n m a [] (by simp only[AC];omega) (by simp only[AC];omega)]
   |cons y b =>
    simp only[At]at h k;show(if c x y<0 then x::Cs c n a (y::b)else if c x y=0 then y::Cs c n a b else y::Cs c n (x::a) b)=if c x y<0 then x::Cs c m a (y::b)else if c x y=0 then y::Cs c m a b else y::Cs c m (x::a) b
    rw[Ha c n m a (y::b) (by simp only[At];omega) (by simp only[At];omega),Ha c n m a b (by omega) (by omega),Ha c n m (x::a) b (by simp only[At];omega) (by simp only[At];omega)]
def AU{α:Type}(c:α→α→Int)(a b:List α):List α:=Cs c (a.length+b.length) a b
section
variable {α:Type}{c:α→α→Int}
theorem S0:AU c [] ([]:List α)=[]:=rfl
theorem OH{a:List α}(h:0<a.length):AU c a []=a[0]::AU c (a.drop 1) []:=by
 cases a with
 |nil=>cases h
 |cons x a=>rfl
theorem OI{b:List α}(h:0<b.length):AU c [] b=b[0]::AU c [] (b.drop 1):=by
 cases b with
 |nil=>cases h
 |cons y b =>
  show Cs c (0+(b.length+1)) [] (y::b)=y::Cs c (0+b.length) [] b;rw[show 0+(b.length+1)=0+b.length+1 by omega];rfl
theorem FV{a b:List α}(ha:0<a.length)(hb:0<b.length):AU c a b=if c a[0] b[0]<0 then a[0]::AU c (a.drop 1) b else if c a[0] b[0]=0 then b[0]::AU c (a.drop 1) (b.drop 1)else b[0]::AU c a (b.drop 1):=by
 cases a with
 |nil=>cases ha
 |cons x a =>
  cases b with
  |nil=>cases hb
  |cons y b =>
   show Cs c ((a.length+1)+(b.length+1)) (x::a) (y::b)=if c x y<0 then x::Cs c (a.length+(b.length+1)) a (y::b)else if c x y=0 then y::Cs c (a.length+b.length) a b else y::Cs c ((a.length+1)+b.length) (x::a) b
   rw[show(a.length+1)+(b.length+1)=(a.length+b.length+1)+1 by omega];show(if c x y<0 then x::Cs c (a.length+b.length+1) a (y::b)else if c x y=0 then y::Cs c (a.length+b.length+1) a b else y::Cs c (a.length+b.length+1) (x::a) b)=_;rw[Ha c (a.length+b.length+1) (a.length+b.length) a b (by omega) (by omega),show a.length+(b.length+1)=a.length+b.length+1 by omega,show a.length+1+b.length=a.length+b.length+1 by omega]
theorem H5:∀(n:Nat) (a b:List α),(Cs c n a b).length≤n
 |0,_,_=>Ak _
 |n+1,[],[]=>AM _
 |n+1,[],y::b=>DK (H5 n [] b)
 |n+1,x::a,[]=>DK (H5 n a [])
 |n+1,x::a,y::b=>by
  show(if c x y<0 then x::Cs c n a (y::b)else if c x y=0 then y::Cs c n a b else y::Cs c n (x::a) b).length≤n+1;have h1:=H5 n a (y::b);have h2:=H5 n a b;have h3:=H5 n (x::a) b;split
  ·rw[At];omega
  ·split<;>(rw[At];omega)
theorem G0(a b:List α):(AU c a b).length≤a.length+b.length:=H5 _ a b
theorem CU{β:Type}{f:α→β}(a:List α):((a.map f).take (((a.map f).length:Nat):Int).toNat).drop ((1:Int)).toNat=(a.drop 1).map f:=by
 rw[Ch,Dv,show((1:Int)).toNat=1 from rfl,List.map_drop]
end
abbrev Cv(r s:Rl):Int:=E2 ⟨r.path,r.ver⟩ ⟨s.path,s.ver⟩
abbrev rN{α:Type}(f:α→List AV)(a:List α):List (List AV):=((a.map f).take (((a.map f).length:Nat):Int).toNat).drop ((1:Int)).toNat
theorem Dc{α:Type}{f:α→List AV}{n:Nat}(hf:∀x,(f x).length=n){a:List α}(h:0<a.length):((0:Int)≤1∧(1:Int)≤((a.map f).length:Nat)∧(((a.map f).length:Nat):Int)≤((a.map f).length:Nat))∧∀cs∈a.map f,cs.length=n:=by
 refine⟨by rw[Lm];omega,fun cs hcs=>?_⟩;obtain⟨q,_,rfl⟩:=Am.1 hcs;exact hf q
theorem sn{α:Type}{f:α→List AV}{l:List α}(h:¬(0:Int)<((l.map f).length:Int)):l=[]:=AB (by rw[Lm]at h;omega)
theorem lQ{α:Type}{f:α→List AV}{l:List α}(h:((l.map f).length:Int)=(0:Int)):l=[]:=AB (by rw[Lm]at h;omega)
theorem xW(a b:List Sl)(ha:Cn a)(hb:Cn b)(c:Sl→Sl→Int)(fF:Nat)(hF:∀x y,PC fF [.agg (Ae x),.agg (Ae y)] (vi (c x y))):PC 63 [sl Ae a,sl Ae b,.v (.func (.func fF) #[] #[])] (sl Ae (AU c a b)):=by
 have ha:a.length≤1073741824:=ha;have hb:b.length≤1073741824:=hb;refine Ps ⟨[],[(7,4)],[],[],[],[],[],[],[],[],[6,7,9,12,15]⟩ Tryz.func63 rfl (Nz rfl) ?_;refine Xi {q:List Sl×List Sl×List Sl // q.2.2++AU c q.1 q.2.1=AU c a b∧q.2.2.length+q.1.length+q.2.1.length≤a.length+b.length} (Xi (fun q=>⟨[(0,sl Ae q.1.1),(1,sl Ae q.1.2.1),(2,.v (.func (.func fF) #[] #[])),(7,.slice (.id 7 4) (q.1.2.2.map Ae))],[(7,.tok 4 q.1.2.2.length)],Ab⟩) (Xi (fun q=>q.1.1.length+q.1.2.1.length) (Yi (Xi ⟨(a,b,[]),D8 _,by simp⟩ ?_) ?_)))
 ·exact⟨Z4,Z1,Fh,Tv⟩
 intro⟨⟨A,B,O⟩,k1,k2⟩;have k1:O++AU c A B=AU c a b:=k1;have k2:O.length+A.length+B.length≤a.length+b.length:=k2;refine Yi (fun h1=>?_) (fun h1=>?_)
 ·have h1:(0:Int)<((A.map Ae).length:Int):=h1;have n1:0<A.length:=by have q:=h1;rw[Lm]at q;omega
  have hA:0<A.length:=by have q:=h1;rw[Lm]at q;omega
  refine Yi (fun h2=>?_) (fun h2=>?_)
  ·have h2:((A.map Ae).length:Int)=(0:Int):=h2;have hB:0<B.length:=by have q:=h1;rw[Lm]at q;first | omega | (have q2:=h1;rw[Lm]at q2;omega)
   refine Xi ⟨[(0,sl Ae A),(1,sl Ae B),(2,.v (.func (.func fF) #[] #[])),(7,.slice (.id 7 4) (O.map Ae))],[(7,.tok 4 O.length)],Ab⟩ (Yi ⟨Z4,Z1,Fh,Tv⟩ ?_)
   refine Xi ⟨[(0,sl Ae A),(1,sl Ae B),(2,.v (.func (.func fF) #[] #[])),(7,.slice (.id 7 4) (O.map Ae)),(8,vi 1)],[(7,.tok 4 O.length)],Ab⟩ (Yi ⟨Z5,Z1,Fh,Tv⟩ ?_)
   refine Yi (fun h=>absurd h (by decide)) (fun _=>?_);refine Xi ⟨[(0,sl Ae A),(1,sl Ae B),(2,.v (.func (.func fF) #[] #[])),(7,.slice (.id 7 4) (O.map Ae)),(8,vi 1)],[(7,.tok 4 O.length)],Ab⟩ (Yi ⟨Z5,Z1,Fh,Tv⟩ ?_)
   refine Xi (Ae B[0]) (Yi (Yi (AX 0) (Cg (Ge hB))) (Yi rfl ?_));refine Yi (Nz rfl) ?_;refine Yi (Pf rfl (by omega) (by decide)) ?_;refine Yi (Dc (f:=Ae) (n:=4) (fun _=>rfl) hB).1 (Yi (Dc (f:=Ae) (n:=4) (fun _=>rfl) hB).2 ?_);refine Yi (fun h=>absurd h (by decide)) (fun _=>?_);have V0:(A.drop 1).length=A.length-1:=Ar ..;have V1:(B.drop 1).length=B.length-1:=Ar ..;have eA:A=[]:=lQ h2;have eM:AU c A B=B[0]::AU c A (B.drop 1):=by rw[eA];exact OI hB
   refine Xi ⟨(A,(B.drop 1),O++[B[0]]),by show(O++[B[0]])++AU c A (B.drop 1)=_;rw[←k1,eM,AO];rfl,by simp only[Ad,Ar,AD];omega⟩ ?_;exact⟨by show A.length+(B.drop 1).length<A.length+B.length;omega,⟨Zr,⟨(show AV.slice .none _=sl Ae (B.drop 1)from Ac (AV.slice .none) (CU B)),rfl⟩,Zr,⟨Uf,rfl⟩,Tv⟩,⟨⟨T5,rfl⟩,Tv⟩,Fh,Tv⟩
  have h2:¬(((A.map Ae).length:Int)=(0:Int)):=h2;have hA:0<A.length:=by have q:=h2;rw[Lm]at q;omega
  refine Xi ⟨[(0,sl Ae A),(1,sl Ae B),(2,.v (.func (.func fF) #[] #[])),(7,.slice (.id 7 4) (O.map Ae))],[(7,.tok 4 O.length)],Ab⟩ (Yi ⟨Z4,Z1,Fh,Tv⟩ ?_)
  refine Yi (fun h5=>?_) (fun h5=>?_)
  ·have h5:((B.map Ae).length:Int)=(0:Int):=h5;refine Xi ⟨[(0,sl Ae A),(1,sl Ae B),(2,.v (.func (.func fF) #[] #[])),(7,.slice (.id 7 4) (O.map Ae)),(8,vi (-1))],[(7,.tok 4 O.length)],Ab⟩ (Yi ⟨Z5,Z1,Fh,Tv⟩ ?_)
   refine Yi (fun _=>?_) (fun h=>absurd (by decide) h);refine Xi (Ae A[0]) (Yi (Yi (AX 0) (Cg (Ge hA))) (Yi rfl ?_));refine Yi (Nz rfl) ?_;refine Yi (Pf rfl (by omega) (by decide)) ?_;refine Yi (Dc (f:=Ae) (n:=4) (fun _=>rfl) hA).1 (Yi (Dc (f:=Ae) (n:=4) (fun _=>rfl) hA).2 ?_);have V0:(A.drop 1).length=A.length-1:=Ar ..;have V1:(B.drop 1).length=B.length-1:=Ar ..;have eB:B=[]:=lQ h5;have eM:AU c A B=A[0]::AU c (A.drop 1) B:=by rw[eB];exact OH hA
   refine Xi ⟨((A.drop 1),B,O++[A[0]]),by show(O++[A[0]])++AU c (A.drop 1) B=_;rw[←k1,eM,AO];rfl,by simp only[Ad,Ar,AD];omega⟩ ?_;exact⟨by show(A.drop 1).length+B.length<A.length+B.length;omega,⟨⟨(show AV.slice .none _=sl Ae (A.drop 1)from Ac (AV.slice .none) (CU A)),rfl⟩,Zr,Zr,⟨Uf,rfl⟩,Tv⟩,⟨⟨T5,rfl⟩,Tv⟩,Fh,Tv⟩
  have h5:¬(((B.map Ae).length:Int)=(0:Int)):=h5;have hB:0<B.length:=by have q:=h5;rw[Lm]at q;omega
  refine Xi (Ae A[0]) (Yi (Yi (AX 0) (Cg (Ge hA))) (Yi rfl ?_));refine Yi (Nz rfl) ?_;refine Xi (Ae B[0]) (Yi (Yi (AX 0) (Cg (Ge hB))) (Yi rfl ?_));refine Yi (Nz rfl) ?_;refine Xi _ (Yi (hF A[0] B[0]) ?_);refine Yi (by kernel_rfl) ?_;refine Xi ⟨[(0,sl Ae A),(1,sl Ae B),(2,.v (.func (.func fF) #[] #[])),(7,.slice (.id 7 4) (O.map Ae)),(8,vi (c A[0] B[0]))],[(7,.tok 4 O.length)],Ab⟩ (Yi ⟨Z5,Z1,Fh,Tv⟩ ?_)
  refine Yi (fun h8=>?_) (fun h8=>?_)
  ·have h8:((c A[0] B[0]):Int)<(0:Int):=h8;refine Xi (Ae A[0]) (Yi (Yi (AX 0) (Cg (Ge hA))) (Yi rfl ?_));refine Yi (Nz rfl) ?_;refine Yi (Pf rfl (by omega) (by decide)) ?_;refine Yi (Dc (f:=Ae) (n:=4) (fun _=>rfl) hA).1 (Yi (Dc (f:=Ae) (n:=4) (fun _=>rfl) hA).2 ?_);have V0:(A.drop 1).length=A.length-1:=Ar ..;have V1:(B.drop 1).length=B.length-1:=Ar ..;have eM:AU c A B=A[0]::AU c (A.drop 1) B:=by rw[FV hA hB,Az h8]
   refine Xi ⟨((A.drop 1),B,O++[A[0]]),by show(O++[A[0]])++AU c (A.drop 1) B=_;rw[←k1,eM,AO];rfl,by simp only[Ad,Ar,AD];omega⟩ ?_;exact⟨by show(A.drop 1).length+B.length<A.length+B.length;omega,⟨⟨(show AV.slice .none _=sl Ae (A.drop 1)from Ac (AV.slice .none) (CU A)),rfl⟩,Zr,Zr,⟨Uf,rfl⟩,Tv⟩,⟨⟨T5,rfl⟩,Tv⟩,Fh,Tv⟩
  have h8:¬(((c A[0] B[0]):Int)<(0:Int)):=h8;refine Xi ⟨[(0,sl Ae A),(1,sl Ae B),(2,.v (.func (.func fF) #[] #[])),(7,.slice (.id 7 4) (O.map Ae)),(8,vi (c A[0] B[0]))],[(7,.tok 4 O.length)],Ab⟩ (Yi ⟨Z5,Z1,Fh,Tv⟩ ?_)
  refine Xi (Ae B[0]) (Yi (Yi (AX 0) (Cg (Ge hB))) (Yi rfl ?_));refine Yi (Nz rfl) ?_;refine Yi (Pf rfl (by omega) (by decide)) ?_;refine Yi (Dc (f:=Ae) (n:=4) (fun _=>rfl) hB).1 (Yi (Dc (f:=Ae) (n:=4) (fun _=>rfl) hB).2 ?_);refine Yi (fun M0=>?_) (fun M0=>?_)
  ·have M0:((c A[0] B[0]):Int)=(0:Int):=M0;refine Xi ⟨[(0,sl Ae A),(1,.slice .none (rN Ae B)),(2,.v (.func (.func fF) #[] #[])),(7,.slice (.id 7 4) ((O.map Ae)++[(Ae B[0])]))],[(7,.tok 4 ((O.map Ae).length+([(Ae B[0])]:List (List AV)).length))],Ab⟩ (Yi ⟨Z4,Z1,Fh,Tv⟩ ?_)
   refine Yi (Dc (f:=Ae) (n:=4) (fun _=>rfl) hA).1 (Yi (Dc (f:=Ae) (n:=4) (fun _=>rfl) hA).2 ?_);have V0:(A.drop 1).length=A.length-1:=Ar ..;have V1:(B.drop 1).length=B.length-1:=Ar ..;have eM:AU c A B=B[0]::AU c (A.drop 1) (B.drop 1):=by rw[FV hA hB,Al h8,Az M0]
   refine Xi ⟨((A.drop 1),(B.drop 1),O++[B[0]]),by show(O++[B[0]])++AU c (A.drop 1) (B.drop 1)=_;rw[←k1,eM,AO];rfl,by simp only[Ad,Ar,AD];omega⟩ ?_;exact⟨by show(A.drop 1).length+(B.drop 1).length<A.length+B.length;omega,⟨⟨(show AV.slice .none _=sl Ae (A.drop 1)from Ac (AV.slice .none) (CU A)),rfl⟩,⟨(show AV.slice .none _=sl Ae (B.drop 1)from Ac (AV.slice .none) (CU B)),rfl⟩,Zr,⟨Uf,rfl⟩,Tv⟩,⟨⟨T5,rfl⟩,Tv⟩,Fh,Tv⟩
  have M0:¬(((c A[0] B[0]):Int)=(0:Int)):=M0;have V0:(A.drop 1).length=A.length-1:=Ar ..;have V1:(B.drop 1).length=B.length-1:=Ar ..;have eM:AU c A B=B[0]::AU c A (B.drop 1):=by rw[FV hA hB,Al h8,Al M0]
  refine Xi ⟨(A,(B.drop 1),O++[B[0]]),by show(O++[B[0]])++AU c A (B.drop 1)=_;rw[←k1,eM,AO];rfl,by simp only[Ad,Ar,AD];omega⟩ ?_;exact⟨by show A.length+(B.drop 1).length<A.length+B.length;omega,⟨Zr,⟨(show AV.slice .none _=sl Ae (B.drop 1)from Ac (AV.slice .none) (CU B)),rfl⟩,Zr,⟨Uf,rfl⟩,Tv⟩,⟨⟨T5,rfl⟩,Tv⟩,Fh,Tv⟩
 have h1:¬((0:Int)<((A.map Ae).length:Int)):=h1;have n1:¬0<A.length:=by have q:=h1;rw[Lm]at q;omega
 refine Yi (fun ML=>?_) (fun ML=>?_)
 ·have ML:(0:Int)<((B.map Ae).length:Int):=ML;have n15:0<B.length:=by have q:=ML;rw[Lm]at q;omega
  have hB:0<B.length:=by have q:=ML;rw[Lm]at q;omega
  refine Yi (fun Wv=>?_) (fun Wv=>?_)
  ·have Wv:((A.map Ae).length:Int)=(0:Int):=Wv;have hB:0<B.length:=by have q:=ML;rw[Lm]at q;first | omega | (have q2:=ML;rw[Lm]at q2;omega)
   refine Xi ⟨[(0,sl Ae A),(1,sl Ae B),(2,.v (.func (.func fF) #[] #[])),(7,.slice (.id 7 4) (O.map Ae))],[(7,.tok 4 O.length)],Ab⟩ (Yi ⟨Z4,Z1,Fh,Tv⟩ ?_)
   refine Xi ⟨[(0,sl Ae A),(1,sl Ae B),(2,.v (.func (.func fF) #[] #[])),(7,.slice (.id 7 4) (O.map Ae)),(8,vi 1)],[(7,.tok 4 O.length)],Ab⟩ (Yi ⟨Z5,Z1,Fh,Tv⟩ ?_)
   refine Yi (fun h=>absurd h (by decide)) (fun _=>?_);refine Xi ⟨[(0,sl Ae A),(1,sl Ae B),(2,.v (.func (.func fF) #[] #[])),(7,.slice (.id 7 4) (O.map Ae)),(8,vi 1)],[(7,.tok 4 O.length)],Ab⟩ (Yi ⟨Z5,Z1,Fh,Tv⟩ ?_)
   refine Xi (Ae B[0]) (Yi (Yi (AX 0) (Cg (Ge hB))) (Yi rfl ?_));refine Yi (Nz rfl) ?_;refine Yi (Pf rfl (by omega) (by decide)) ?_;refine Yi (Dc (f:=Ae) (n:=4) (fun _=>rfl) hB).1 (Yi (Dc (f:=Ae) (n:=4) (fun _=>rfl) hB).2 ?_);refine Yi (fun h=>absurd h (by decide)) (fun _=>?_);have V0:(A.drop 1).length=A.length-1:=Ar ..;have V1:(B.drop 1).length=B.length-1:=Ar ..;have eA:A=[]:=lQ Wv;have eM:AU c A B=B[0]::AU c A (B.drop 1):=by rw[eA];exact OI hB
   refine Xi ⟨(A,(B.drop 1),O++[B[0]]),by show(O++[B[0]])++AU c A (B.drop 1)=_;rw[←k1,eM,AO];rfl,by simp only[Ad,Ar,AD];omega⟩ ?_;exact⟨by show A.length+(B.drop 1).length<A.length+B.length;omega,⟨Zr,⟨(show AV.slice .none _=sl Ae (B.drop 1)from Ac (AV.slice .none) (CU B)),rfl⟩,Zr,⟨Uf,rfl⟩,Tv⟩,⟨⟨T5,rfl⟩,Tv⟩,Fh,Tv⟩
  have Wv:¬(((A.map Ae).length:Int)=(0:Int)):=Wv;have hA:0<A.length:=by have q:=Wv;rw[Lm]at q;omega
  refine Xi ⟨[(0,sl Ae A),(1,sl Ae B),(2,.v (.func (.func fF) #[] #[])),(7,.slice (.id 7 4) (O.map Ae))],[(7,.tok 4 O.length)],Ab⟩ (Yi ⟨Z4,Z1,Fh,Tv⟩ ?_)
  refine Yi (fun T1=>?_) (fun T1=>?_)
  ·have T1:((B.map Ae).length:Int)=(0:Int):=T1;refine Xi ⟨[(0,sl Ae A),(1,sl Ae B),(2,.v (.func (.func fF) #[] #[])),(7,.slice (.id 7 4) (O.map Ae)),(8,vi (-1))],[(7,.tok 4 O.length)],Ab⟩ (Yi ⟨Z5,Z1,Fh,Tv⟩ ?_)
   refine Yi (fun _=>?_) (fun h=>absurd (by decide) h);refine Xi (Ae A[0]) (Yi (Yi (AX 0) (Cg (Ge hA))) (Yi rfl ?_));refine Yi (Nz rfl) ?_;refine Yi (Pf rfl (by omega) (by decide)) ?_;refine Yi (Dc (f:=Ae) (n:=4) (fun _=>rfl) hA).1 (Yi (Dc (f:=Ae) (n:=4) (fun _=>rfl) hA).2 ?_);have V0:(A.drop 1).length=A.length-1:=Ar ..;have V1:(B.drop 1).length=B.length-1:=Ar ..;have eB:B=[]:=lQ T1;have eM:AU c A B=A[0]::AU c (A.drop 1) B:=by rw[eB];exact OH hA
   refine Xi ⟨((A.drop 1),B,O++[A[0]]),by show(O++[A[0]])++AU c (A.drop 1) B=_;rw[←k1,eM,AO];rfl,by simp only[Ad,Ar,AD];omega⟩ ?_;exact⟨by show(A.drop 1).length+B.length<A.length+B.length;omega,⟨⟨(show AV.slice .none _=sl Ae (A.drop 1)from Ac (AV.slice .none) (CU A)),rfl⟩,Zr,Zr,⟨Uf,rfl⟩,Tv⟩,⟨⟨T5,rfl⟩,Tv⟩,Fh,Tv⟩
  have T1:¬(((B.map Ae).length:Int)=(0:Int)):=T1;have hB:0<B.length:=by have q:=T1;rw[Lm]at q;omega
  refine Xi (Ae A[0]) (Yi (Yi (AX 0) (Cg (Ge hA))) (Yi rfl ?_));refine Yi (Nz rfl) ?_;refine Xi (Ae B[0]) (Yi (Yi (AX 0) (Cg (Ge hB))) (Yi rfl ?_));refine Yi (Nz rfl) ?_;refine Xi _ (Yi (hF A[0] B[0]) ?_);refine Yi (by kernel_rfl) ?_;refine Xi ⟨[(0,sl Ae A),(1,sl Ae B),(2,.v (.func (.func fF) #[] #[])),(7,.slice (.id 7 4) (O.map Ae)),(8,vi (c A[0] B[0]))],[(7,.tok 4 O.length)],Ab⟩ (Yi ⟨Z5,Z1,Fh,Tv⟩ ?_)
  refine Yi (fun Xn=>?_) (fun Xn=>?_)
  ·have Xn:((c A[0] B[0]):Int)<(0:Int):=Xn;refine Xi (Ae A[0]) (Yi (Yi (AX 0) (Cg (Ge hA))) (Yi rfl ?_));refine Yi (Nz rfl) ?_;refine Yi (Pf rfl (by omega) (by decide)) ?_;refine Yi (Dc (f:=Ae) (n:=4) (fun _=>rfl) hA).1 (Yi (Dc (f:=Ae) (n:=4) (fun _=>rfl) hA).2 ?_);have V0:(A.drop 1).length=A.length-1:=Ar ..;have V1:(B.drop 1).length=B.length-1:=Ar ..;have eM:AU c A B=A[0]::AU c (A.drop 1) B:=by rw[FV hA hB,Az Xn]
   refine Xi ⟨((A.drop 1),B,O++[A[0]]),by show(O++[A[0]])++AU c (A.drop 1) B=_;rw[←k1,eM,AO];rfl,by simp only[Ad,Ar,AD];omega⟩ ?_;exact⟨by show(A.drop 1).length+B.length<A.length+B.length;omega,⟨⟨(show AV.slice .none _=sl Ae (A.drop 1)from Ac (AV.slice .none) (CU A)),rfl⟩,Zr,Zr,⟨Uf,rfl⟩,Tv⟩,⟨⟨T5,rfl⟩,Tv⟩,Fh,Tv⟩
  have Xn:¬(((c A[0] B[0]):Int)<(0:Int)):=Xn;refine Xi ⟨[(0,sl Ae A),(1,sl Ae B),(2,.v (.func (.func fF) #[] #[])),(7,.slice (.id 7 4) (O.map Ae)),(8,vi (c A[0] B[0]))],[(7,.tok 4 O.length)],Ab⟩ (Yi ⟨Z5,Z1,Fh,Tv⟩ ?_)
  refine Xi (Ae B[0]) (Yi (Yi (AX 0) (Cg (Ge hB))) (Yi rfl ?_));refine Yi (Nz rfl) ?_;refine Yi (Pf rfl (by omega) (by decide)) ?_;refine Yi (Dc (f:=Ae) (n:=4) (fun _=>rfl) hB).1 (Yi (Dc (f:=Ae) (n:=4) (fun _=>rfl) hB).2 ?_);refine Yi (fun YT=>?_) (fun YT=>?_)
  ·have YT:((c A[0] B[0]):Int)=(0:Int):=YT;refine Xi ⟨[(0,sl Ae A),(1,.slice .none (rN Ae B)),(2,.v (.func (.func fF) #[] #[])),(7,.slice (.id 7 4) ((O.map Ae)++[(Ae B[0])]))],[(7,.tok 4 ((O.map Ae).length+([(Ae B[0])]:List (List AV)).length))],Ab⟩ (Yi ⟨Z4,Z1,Fh,Tv⟩ ?_)
   refine Yi (Dc (f:=Ae) (n:=4) (fun _=>rfl) hA).1 (Yi (Dc (f:=Ae) (n:=4) (fun _=>rfl) hA).2 ?_);have V0:(A.drop 1).length=A.length-1:=Ar ..;have V1:(B.drop 1).length=B.length-1:=Ar ..;have eM:AU c A B=B[0]::AU c (A.drop 1) (B.drop 1):=by rw[FV hA hB,Al Xn,Az YT]
   refine Xi ⟨((A.drop 1),(B.drop 1),O++[B[0]]),by show(O++[B[0]])++AU c (A.drop 1) (B.drop 1)=_;rw[←k1,eM,AO];rfl,by simp only[Ad,Ar,AD];omega⟩ ?_;exact⟨by show(A.drop 1).length+(B.drop 1).length<A.length+B.length;omega,⟨⟨(show AV.slice .none _=sl Ae (A.drop 1)from Ac (AV.slice .none) (CU A)),rfl⟩,⟨(show AV.slice .none _=sl Ae (B.drop 1)from Ac (AV.slice .none) (CU B)),rfl⟩,Zr,⟨Uf,rfl⟩,Tv⟩,⟨⟨T5,rfl⟩,Tv⟩,Fh,Tv⟩
  have YT:¬(((c A[0] B[0]):Int)=(0:Int)):=YT;have V0:(A.drop 1).length=A.length-1:=Ar ..;have V1:(B.drop 1).length=B.length-1:=Ar ..;have eM:AU c A B=B[0]::AU c A (B.drop 1):=by rw[FV hA hB,Al Xn,Al YT]
  refine Xi ⟨(A,(B.drop 1),O++[B[0]]),by show(O++[B[0]])++AU c A (B.drop 1)=_;rw[←k1,eM,AO];rfl,by simp only[Ad,Ar,AD];omega⟩ ?_;exact⟨by show A.length+(B.drop 1).length<A.length+B.length;omega,⟨Zr,⟨(show AV.slice .none _=sl Ae (B.drop 1)from Ac (AV.slice .none) (CU B)),rfl⟩,Zr,⟨Uf,rfl⟩,Tv⟩,⟨⟨T5,rfl⟩,Tv⟩,Fh,Tv⟩
 have ML:¬((0:Int)<((B.map Ae).length:Int)):=ML;have n15:¬0<B.length:=by have q:=ML;rw[Lm]at q;omega
 have eA:A=[]:=sn h1;have eB:B=[]:=sn ML;have eO:O=AU c a b:=by rw[←k1,eA,eB,S0,B3]
 exact .of_eq (Ac (fun z=>sl Ae z) eO)
theorem vl(a b:List Sl)(ha:Cn a)(hb:Cn b):PC 63 [sl Ae a,sl Ae b,.v (.func (.func 55) #[] #[])] (sl Ae (AU E2 a b)):=xW a b ha hb E2 55 vg
theorem vh(a b:List Sl)(ha:Cn a)(hb:Cn b):PC 63 [sl Ae a,sl Ae b,.v (.func (.func 61) #[] #[])] (sl Ae (AU Kp a b)):=xW a b ha hb Kp 61 o61
theorem xR(a b:List Rl)(ha:Cn a)(hb:Cn b):PC 38 [sl Ah a,sl Ah b,.v (.func (.func 39) #[] #[])] (sl Ah (AU Cv a b)):=by
 have ha:a.length≤1073741824:=ha;have hb:b.length≤1073741824:=hb;refine Ps ⟨[],[(7,9)],[],[],[],[],[],[],[],[],[6,7,9,12,15]⟩ Tryz.func38 rfl (Nz rfl) ?_;refine Xi {q:List Rl×List Rl×List Rl // q.2.2++AU Cv q.1 q.2.1=AU Cv a b∧q.2.2.length+q.1.length+q.2.1.length≤a.length+b.length} (Xi (fun q=>⟨[(0,sl Ah q.1.1),(1,sl Ah q.1.2.1),(2,.v (.func (.func 39) #[] #[])),(7,.slice (.id 7 9) (q.1.2.2.map Ah))],[(7,.tok 9 q.1.2.2.length)],Ab⟩) (Xi (fun q=>q.1.1.length+q.1.2.1.length) (Yi (Xi ⟨(a,b,[]),D8 _,by simp⟩ ?_) ?_)))
 ·exact⟨Z4,Z1,Fh,Tv⟩
 intro⟨⟨A,B,O⟩,k1,k2⟩;have k1:O++AU Cv A B=AU Cv a b:=k1;have k2:O.length+A.length+B.length≤a.length+b.length:=k2;refine Yi (fun h1=>?_) (fun h1=>?_)
 ·have h1:(0:Int)<((A.map Ah).length:Int):=h1;have n1:0<A.length:=by have q:=h1;rw[Lm]at q;omega
  have hA:0<A.length:=by have q:=h1;rw[Lm]at q;omega
  refine Yi (fun h2=>?_) (fun h2=>?_)
  ·have h2:((A.map Ah).length:Int)=(0:Int):=h2;have hB:0<B.length:=by have q:=h1;rw[Lm]at q;first | omega | (have q2:=h1;rw[Lm]at q2;omega)
   refine Xi ⟨[(0,sl Ah A),(1,sl Ah B),(2,.v (.func (.func 39) #[] #[])),(7,.slice (.id 7 9) (O.map Ah))],[(7,.tok 9 O.length)],Ab⟩ (Yi ⟨Z4,Z1,Fh,Tv⟩ ?_)
   refine Xi ⟨[(0,sl Ah A),(1,sl Ah B),(2,.v (.func (.func 39) #[] #[])),(7,.slice (.id 7 9) (O.map Ah)),(8,vi 1)],[(7,.tok 9 O.length)],Ab⟩ (Yi ⟨Z5,Z1,Fh,Tv⟩ ?_)
   refine Yi (fun h=>absurd h (by decide)) (fun _=>?_);refine Xi ⟨[(0,sl Ah A),(1,sl Ah B),(2,.v (.func (.func 39) #[] #[])),(7,.slice (.id 7 9) (O.map Ah)),(8,vi 1)],[(7,.tok 9 O.length)],Ab⟩ (Yi ⟨Z5,Z1,Fh,Tv⟩ ?_)
   refine Xi (Ah B[0]) (Yi (Yi (AX 0) (Cg (Ge hB))) (Yi rfl ?_));refine Yi (Nz rfl) ?_;refine Yi (Pf rfl (by omega) (by decide)) ?_;refine Yi (Dc (f:=Ah) (n:=9) (fun _=>rfl) hB).1 (Yi (Dc (f:=Ah) (n:=9) (fun _=>rfl) hB).2 ?_);refine Yi (fun h=>absurd h (by decide)) (fun _=>?_);have V0:(A.drop 1).length=A.length-1:=Ar ..;have V1:(B.drop 1).length=B.length-1:=Ar ..;have eA:A=[]:=lQ h2;have eM:AU Cv A B=B[0]::AU Cv A (B.drop 1):=by rw[eA];exact OI hB
   refine Xi ⟨(A,(B.drop 1),O++[B[0]]),by show(O++[B[0]])++AU Cv A (B.drop 1)=_;rw[←k1,eM,AO];rfl,by simp only[Ad,Ar,AD];omega⟩ ?_;exact⟨by show A.length+(B.drop 1).length<A.length+B.length;omega,⟨Zr,⟨(show AV.slice .none _=sl Ah (B.drop 1)from Ac (AV.slice .none) (CU B)),rfl⟩,Zr,⟨Uf,rfl⟩,Tv⟩,⟨⟨T5,rfl⟩,Tv⟩,Fh,Tv⟩
  have h2:¬(((A.map Ah).length:Int)=(0:Int)):=h2;have hA:0<A.length:=by have q:=h2;rw[Lm]at q;omega
  refine Xi ⟨[(0,sl Ah A),(1,sl Ah B),(2,.v (.func (.func 39) #[] #[])),(7,.slice (.id 7 9) (O.map Ah))],[(7,.tok 9 O.length)],Ab⟩ (Yi ⟨Z4,Z1,Fh,Tv⟩ ?_)
  refine Yi (fun h5=>?_) (fun h5=>?_)
  ·have h5:((B.map Ah).length:Int)=(0:Int):=h5;refine Xi ⟨[(0,sl Ah A),(1,sl Ah B),(2,.v (.func (.func 39) #[] #[])),(7,.slice (.id 7 9) (O.map Ah)),(8,vi (-1))],[(7,.tok 9 O.length)],Ab⟩ (Yi ⟨Z5,Z1,Fh,Tv⟩ ?_)
   refine Yi (fun _=>?_) (fun h=>absurd (by decide) h);refine Xi (Ah A[0]) (Yi (Yi (AX 0) (Cg (Ge hA))) (Yi rfl ?_));refine Yi (Nz rfl) ?_;refine Yi (Pf rfl (by omega) (by decide)) ?_;refine Yi (Dc (f:=Ah) (n:=9) (fun _=>rfl) hA).1 (Yi (Dc (f:=Ah) (n:=9) (fun _=>rfl) hA).2 ?_);have V0:(A.drop 1).length=A.length-1:=Ar ..;have V1:(B.drop 1).length=B.length-1:=Ar ..;have eB:B=[]:=lQ h5;have eM:AU Cv A B=A[0]::AU Cv (A.drop 1) B:=by rw[eB];exact OH hA
   refine Xi ⟨((A.drop 1),B,O++[A[0]]),by show(O++[A[0]])++AU Cv (A.drop 1) B=_;rw[←k1,eM,AO];rfl,by simp only[Ad,Ar,AD];omega⟩ ?_;exact⟨by show(A.drop 1).length+B.length<A.length+B.length;omega,⟨⟨(show AV.slice .none _=sl Ah (A.drop 1)from Ac (AV.slice .none) (CU A)),rfl⟩,Zr,Zr,⟨Uf,rfl⟩,Tv⟩,⟨⟨T5,rfl⟩,Tv⟩,Fh,Tv⟩
  have h5:¬(((B.map Ah).length:Int)=(0:Int)):=h5;have hB:0<B.length:=by have q:=h5;rw[Lm]at q;omega
  refine Xi (Ah A[0]) (Yi (Yi (AX 0) (Cg (Ge hA))) (Yi rfl ?_));refine Yi (Nz rfl) ?_;refine Xi (Ah B[0]) (Yi (Yi (AX 0) (Cg (Ge hB))) (Yi rfl ?_));refine Yi (Nz rfl) ?_;refine Xi _ (Yi (xS A[0] B[0]) ?_);refine Yi (by kernel_rfl) ?_;refine Xi ⟨[(0,sl Ah A),(1,sl Ah B),(2,.v (.func (.func 39) #[] #[])),(7,.slice (.id 7 9) (O.map Ah)),(8,vi (Cv A[0] B[0]))],[(7,.tok 9 O.length)],Ab⟩ (Yi ⟨Z5,Z1,Fh,Tv⟩ ?_)
  refine Yi (fun h8=>?_) (fun h8=>?_)
  ·have h8:((Cv A[0] B[0]):Int)<(0:Int):=h8;refine Xi (Ah A[0]) (Yi (Yi (AX 0) (Cg (Ge hA))) (Yi rfl ?_));refine Yi (Nz rfl) ?_;refine Yi (Pf rfl (by omega) (by decide)) ?_;refine Yi (Dc (f:=Ah) (n:=9) (fun _=>rfl) hA).1 (Yi (Dc (f:=Ah) (n:=9) (fun _=>rfl) hA).2 ?_);have V0:(A.drop 1).length=A.length-1:=Ar ..;have V1:(B.drop 1).length=B.length-1:=Ar ..;have eM:AU Cv A B=A[0]::AU Cv (A.drop 1) B:=by rw[FV hA hB,Az h8]
   refine Xi ⟨((A.drop 1),B,O++[A[0]]),by show(O++[A[0]])++AU Cv (A.drop 1) B=_;rw[←k1,eM,AO];rfl,by simp only[Ad,Ar,AD];omega⟩ ?_;exact⟨by show(A.drop 1).length+B.length<A.length+B.length;omega,⟨⟨(show AV.slice .none _=sl Ah (A.drop 1)from Ac (AV.slice .none) (CU A)),rfl⟩,Zr,Zr,⟨Uf,rfl⟩,Tv⟩,⟨⟨T5,rfl⟩,Tv⟩,Fh,Tv⟩
  have h8:¬(((Cv A[0] B[0]):Int)<(0:Int)):=h8;refine Xi ⟨[(0,sl Ah A),(1,sl Ah B),(2,.v (.func (.func 39) #[] #[])),(7,.slice (.id 7 9) (O.map Ah)),(8,vi (Cv A[0] B[0]))],[(7,.tok 9 O.length)],Ab⟩ (Yi ⟨Z5,Z1,Fh,Tv⟩ ?_)
  refine Xi (Ah B[0]) (Yi (Yi (AX 0) (Cg (Ge hB))) (Yi rfl ?_));refine Yi (Nz rfl) ?_;refine Yi (Pf rfl (by omega) (by decide)) ?_;refine Yi (Dc (f:=Ah) (n:=9) (fun _=>rfl) hB).1 (Yi (Dc (f:=Ah) (n:=9) (fun _=>rfl) hB).2 ?_);refine Yi (fun M0=>?_) (fun M0=>?_)
  ·have M0:((Cv A[0] B[0]):Int)=(0:Int):=M0;refine Xi ⟨[(0,sl Ah A),(1,.slice .none (rN Ah B)),(2,.v (.func (.func 39) #[] #[])),(7,.slice (.id 7 9) ((O.map Ah)++[(Ah B[0])]))],[(7,.tok 9 ((O.map Ah).length+([(Ah B[0])]:List (List AV)).length))],Ab⟩ (Yi ⟨Z4,Z1,Fh,Tv⟩ ?_)
   refine Yi (Dc (f:=Ah) (n:=9) (fun _=>rfl) hA).1 (Yi (Dc (f:=Ah) (n:=9) (fun _=>rfl) hA).2 ?_);have V0:(A.drop 1).length=A.length-1:=Ar ..;have V1:(B.drop 1).length=B.length-1:=Ar ..;have eM:AU Cv A B=B[0]::AU Cv (A.drop 1) (B.drop 1):=by rw[FV hA hB,Al h8,Az M0]
   refine Xi ⟨((A.drop 1),(B.drop 1),O++[B[0]]),by show(O++[B[0]])++AU Cv (A.drop 1) (B.drop 1)=_;rw[←k1,eM,AO];rfl,by simp only[Ad,Ar,AD];omega⟩ ?_;exact⟨by show(A.drop 1).length+(B.drop 1).length<A.length+B.length;omega,⟨⟨(show AV.slice .none _=sl Ah (A.drop 1)from Ac (AV.slice .none) (CU A)),rfl⟩,⟨(show AV.slice .none _=sl Ah (B.drop 1)from Ac (AV.slice .none) (CU B)),rfl⟩,Zr,⟨Uf,rfl⟩,Tv⟩,⟨⟨T5,rfl⟩,Tv⟩,Fh,Tv⟩
  have M0:¬(((Cv A[0] B[0]):Int)=(0:Int)):=M0;have V0:(A.drop 1).length=A.length-1:=Ar ..;have V1:(B.drop 1).length=B.length-1:=Ar ..;have eM:AU Cv A B=B[0]::AU Cv A (B.drop 1):=by rw[FV hA hB,Al h8,Al M0]
  refine Xi ⟨(A,(B.drop 1),O++[B[0]]),by show(O++[B[0]])++AU Cv A (B.drop 1)=_;rw[←k1,eM,AO];rfl,by simp only[Ad,Ar,AD];omega⟩ ?_;exact⟨by show A.length+(B.drop 1).length<A.length+B.length;omega,⟨Zr,⟨(show AV.slice .none _=sl Ah (B.drop 1)from Ac (AV.slice .none) (CU B)),rfl⟩,Zr,⟨Uf,rfl⟩,Tv⟩,⟨⟨T5,rfl⟩,Tv⟩,Fh,Tv⟩
 have h1:¬((0:Int)<((A.map Ah).length:Int)):=h1;have n1:¬0<A.length:=by have q:=h1;rw[Lm]at q;omega
 refine Yi (fun ML=>?_) (fun ML=>?_)
 ·have ML:(0:Int)<((B.map Ah).length:Int):=ML;have n15:0<B.length:=by have q:=ML;rw[Lm]at q;omega
  have hB:0<B.length:=by have q:=ML;rw[Lm]at q;omega
  refine Yi (fun Wv=>?_) (fun Wv=>?_)
  ·have Wv:((A.map Ah).length:Int)=(0:Int):=Wv;have hB:0<B.length:=by have q:=ML;rw[Lm]at q;first | omega | (have q2:=ML;rw[Lm]at q2;omega)
   refine Xi ⟨[(0,sl Ah A),(1,sl Ah B),(2,.v (.func (.func 39) #[] #[])),(7,.slice (.id 7 9) (O.map Ah))],[(7,.tok 9 O.length)],Ab⟩ (Yi ⟨Z4,Z1,Fh,Tv⟩ ?_)
   refine Xi ⟨[(0,sl Ah A),(1,sl Ah B),(2,.v (.func (.func 39) #[] #[])),(7,.slice (.id 7 9) (O.map Ah)),(8,vi 1)],[(7,.tok 9 O.length)],Ab⟩ (Yi ⟨Z5,Z1,Fh,Tv⟩ ?_)
   refine Yi (fun h=>absurd h (by decide)) (fun _=>?_);refine Xi ⟨[(0,sl Ah A),(1,sl Ah B),(2,.v (.func (.func 39) #[] #[])),(7,.slice (.id 7 9) (O.map Ah)),(8,vi 1)],[(7,.tok 9 O.length)],Ab⟩ (Yi ⟨Z5,Z1,Fh,Tv⟩ ?_)
   refine Xi (Ah B[0]) (Yi (Yi (AX 0) (Cg (Ge hB))) (Yi rfl ?_));refine Yi (Nz rfl) ?_;refine Yi (Pf rfl (by omega) (by decide)) ?_;refine Yi (Dc (f:=Ah) (n:=9) (fun _=>rfl) hB).1 (Yi (Dc (f:=Ah) (n:=9) (fun _=>rfl) hB).2 ?_);refine Yi (fun h=>absurd h (by decide)) (fun _=>?_);have V0:(A.drop 1).length=A.length-1:=Ar ..;have V1:(B.drop 1).length=B.length-1:=Ar ..;have eA:A=[]:=lQ Wv;have eM:AU Cv A B=B[0]::AU Cv A (B.drop 1):=by rw[eA];exact OI hB
   refine Xi ⟨(A,(B.drop 1),O++[B[0]]),by show(O++[B[0]])++AU Cv A (B.drop 1)=_;rw[←k1,eM,AO];rfl,by simp only[Ad,Ar,AD];omega⟩ ?_;exact⟨by show A.length+(B.drop 1).length<A.length+B.length;omega,⟨Zr,⟨(show AV.slice .none _=sl Ah (B.drop 1)from Ac (AV.slice .none) (CU B)),rfl⟩,Zr,⟨Uf,rfl⟩,Tv⟩,⟨⟨T5,rfl⟩,Tv⟩,Fh,Tv⟩
  have Wv:¬(((A.map Ah).length:Int)=(0:Int)):=Wv;have hA:0<A.length:=by have q:=Wv;rw[Lm]at q;omega
  refine Xi ⟨[(0,sl Ah A),(1,sl Ah B),(2,.v (.func (.func 39) #[] #[])),(7,.slice (.id 7 9) (O.map Ah))],[(7,.tok 9 O.length)],Ab⟩ (Yi ⟨Z4,Z1,Fh,Tv⟩ ?_)
  refine Yi (fun T1=>?_) (fun T1=>?_)
  ·have T1:((B.map Ah).length:Int)=(0:Int):=T1;refine Xi ⟨[(0,sl Ah A),(1,sl Ah B),(2,.v (.func (.func 39) #[] #[])),(7,.slice (.id 7 9) (O.map Ah)),(8,vi (-1))],[(7,.tok 9 O.length)],Ab⟩ (Yi ⟨Z5,Z1,Fh,Tv⟩ ?_)
   refine Yi (fun _=>?_) (fun h=>absurd (by decide) h);refine Xi (Ah A[0]) (Yi (Yi (AX 0) (Cg (Ge hA))) (Yi rfl ?_));refine Yi (Nz rfl) ?_;refine Yi (Pf rfl (by omega) (by decide)) ?_;refine Yi (Dc (f:=Ah) (n:=9) (fun _=>rfl) hA).1 (Yi (Dc (f:=Ah) (n:=9) (fun _=>rfl) hA).2 ?_);have V0:(A.drop 1).length=A.length-1:=Ar ..;have V1:(B.drop 1).length=B.length-1:=Ar ..;have eB:B=[]:=lQ T1;have eM:AU Cv A B=A[0]::AU Cv (A.drop 1) B:=by rw[eB];exact OH hA
   refine Xi ⟨((A.drop 1),B,O++[A[0]]),by show(O++[A[0]])++AU Cv (A.drop 1) B=_;rw[←k1,eM,AO];rfl,by simp only[Ad,Ar,AD];omega⟩ ?_;exact⟨by show(A.drop 1).length+B.length<A.length+B.length;omega,⟨⟨(show AV.slice .none _=sl Ah (A.drop 1)from Ac (AV.slice .none) (CU A)),rfl⟩,Zr,Zr,⟨Uf,rfl⟩,Tv⟩,⟨⟨T5,rfl⟩,Tv⟩,Fh,Tv⟩
  have T1:¬(((B.map Ah).length:Int)=(0:Int)):=T1;have hB:0<B.length:=by have q:=T1;rw[Lm]at q;omega
  refine Xi (Ah A[0]) (Yi (Yi (AX 0) (Cg (Ge hA))) (Yi rfl ?_));refine Yi (Nz rfl) ?_;refine Xi (Ah B[0]) (Yi (Yi (AX 0) (Cg (Ge hB))) (Yi rfl ?_));refine Yi (Nz rfl) ?_;refine Xi _ (Yi (xS A[0] B[0]) ?_);refine Yi (by kernel_rfl) ?_;refine Xi ⟨[(0,sl Ah A),(1,sl Ah B),(2,.v (.func (.func 39) #[] #[])),(7,.slice (.id 7 9) (O.map Ah)),(8,vi (Cv A[0] B[0]))],[(7,.tok 9 O.length)],Ab⟩ (Yi ⟨Z5,Z1,Fh,Tv⟩ ?_)
  refine Yi (fun Xn=>?_) (fun Xn=>?_)
  ·have Xn:((Cv A[0] B[0]):Int)<(0:Int):=Xn;refine Xi (Ah A[0]) (Yi (Yi (AX 0) (Cg (Ge hA))) (Yi rfl ?_));refine Yi (Nz rfl) ?_;refine Yi (Pf rfl (by omega) (by decide)) ?_;refine Yi (Dc (f:=Ah) (n:=9) (fun _=>rfl) hA).1 (Yi (Dc (f:=Ah) (n:=9) (fun _=>rfl) hA).2 ?_);have V0:(A.drop 1).length=A.length-1:=Ar ..;have V1:(B.drop 1).length=B.length-1:=Ar ..;have eM:AU Cv A B=A[0]::AU Cv (A.drop 1) B:=by rw[FV hA hB,Az Xn]
   refine Xi ⟨((A.drop 1),B,O++[A[0]]),by show(O++[A[0]])++AU Cv (A.drop 1) B=_;rw[←k1,eM,AO];rfl,by simp only[Ad,Ar,AD];omega⟩ ?_;exact⟨by show(A.drop 1).length+B.length<A.length+B.length;omega,⟨⟨(show AV.slice .none _=sl Ah (A.drop 1)from Ac (AV.slice .none) (CU A)),rfl⟩,Zr,Zr,⟨Uf,rfl⟩,Tv⟩,⟨⟨T5,rfl⟩,Tv⟩,Fh,Tv⟩
  have Xn:¬(((Cv A[0] B[0]):Int)<(0:Int)):=Xn;refine Xi ⟨[(0,sl Ah A),(1,sl Ah B),(2,.v (.func (.func 39) #[] #[])),(7,.slice (.id 7 9) (O.map Ah)),(8,vi (Cv A[0] B[0]))],[(7,.tok 9 O.length)],Ab⟩ (Yi ⟨Z5,Z1,Fh,Tv⟩ ?_)
  refine Xi (Ah B[0]) (Yi (Yi (AX 0) (Cg (Ge hB))) (Yi rfl ?_));refine Yi (Nz rfl) ?_;refine Yi (Pf rfl (by omega) (by decide)) ?_;refine Yi (Dc (f:=Ah) (n:=9) (fun _=>rfl) hB).1 (Yi (Dc (f:=Ah) (n:=9) (fun _=>rfl) hB).2 ?_);refine Yi (fun YT=>?_) (fun YT=>?_)
  ·have YT:((Cv A[0] B[0]):Int)=(0:Int):=YT;refine Xi ⟨[(0,sl Ah A),(1,.slice .none (rN Ah B)),(2,.v (.func (.func 39) #[] #[])),(7,.slice (.id 7 9) ((O.map Ah)++[(Ah B[0])]))],[(7,.tok 9 ((O.map Ah).length+([(Ah B[0])]:List (List AV)).length))],Ab⟩ (Yi ⟨Z4,Z1,Fh,Tv⟩ ?_)
   refine Yi (Dc (f:=Ah) (n:=9) (fun _=>rfl) hA).1 (Yi (Dc (f:=Ah) (n:=9) (fun _=>rfl) hA).2 ?_);have V0:(A.drop 1).length=A.length-1:=Ar ..;have V1:(B.drop 1).length=B.length-1:=Ar ..;have eM:AU Cv A B=B[0]::AU Cv (A.drop 1) (B.drop 1):=by rw[FV hA hB,Al Xn,Az YT]
   refine Xi ⟨((A.drop 1),(B.drop 1),O++[B[0]]),by show(O++[B[0]])++AU Cv (A.drop 1) (B.drop 1)=_;rw[←k1,eM,AO];rfl,by simp only[Ad,Ar,AD];omega⟩ ?_;exact⟨by show(A.drop 1).length+(B.drop 1).length<A.length+B.length;omega,⟨⟨(show AV.slice .none _=sl Ah (A.drop 1)from Ac (AV.slice .none) (CU A)),rfl⟩,⟨(show AV.slice .none _=sl Ah (B.drop 1)from Ac (AV.slice .none) (CU B)),rfl⟩,Zr,⟨Uf,rfl⟩,Tv⟩,⟨⟨T5,rfl⟩,Tv⟩,Fh,Tv⟩
  have YT:¬(((Cv A[0] B[0]):Int)=(0:Int)):=YT;have V0:(A.drop 1).length=A.length-1:=Ar ..;have V1:(B.drop 1).length=B.length-1:=Ar ..;have eM:AU Cv A B=B[0]::AU Cv A (B.drop 1):=by rw[FV hA hB,Al Xn,Al YT]
  refine Xi ⟨(A,(B.drop 1),O++[B[0]]),by show(O++[B[0]])++AU Cv A (B.drop 1)=_;rw[←k1,eM,AO];rfl,by simp only[Ad,Ar,AD];omega⟩ ?_;exact⟨by show A.length+(B.drop 1).length<A.length+B.length;omega,⟨Zr,⟨(show AV.slice .none _=sl Ah (B.drop 1)from Ac (AV.slice .none) (CU B)),rfl⟩,Zr,⟨Uf,rfl⟩,Tv⟩,⟨⟨T5,rfl⟩,Tv⟩,Fh,Tv⟩
 have ML:¬((0:Int)<((B.map Ah).length:Int)):=ML;have n15:¬0<B.length:=by have q:=ML;rw[Lm]at q;omega
 have eA:A=[]:=sn h1;have eB:B=[]:=sn ML;have eO:O=AU Cv a b:=by rw[←k1,eA,eB,S0,B3]
 exact .of_eq (Ac (fun z=>sl Ah z) eO)
end Go.Eng
