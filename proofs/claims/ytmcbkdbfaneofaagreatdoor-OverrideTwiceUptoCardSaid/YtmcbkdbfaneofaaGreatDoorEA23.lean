/- Lemmas for the claims of this seat, without a condition: part 23 (O5). -/
import Derived.Test.YtmcbkdbfaneofaaGreatDoorEA22
set_option maxHeartbeats 4000000
namespace Go.Eng
open Go.Proofs
def Ct{α:Type}(c:α→α→Int):Nat→List α→List α→List α
 |0,_,_=>[]
 |_+1,[],[]=>[]
 |n+1,[],y::b=>y::Ct c n [] b
 |n+1,x::a,[]=>x::Ct c n a []
 |n+1,x::a,y::b=>if c x y<0 then x::Ct c n a (y::b)else if c x y=0 then y::Ct c n a b else y::Ct c n (x::a) b
theorem G9{α:Type}(c:α→α→Int):∀(n m:Nat) (a b:List α),a.length+b.length≤n→a.length+b.length≤m→Ct c n a b=Ct c m a b
 |0,m,a,b,h,_=>by
  have ha:a=[]:=AB (by omega);have hb:b=[]:=AB (by omega);subst ha;subst hb;cases m<;>rfl
 |n+1,0,a,b,_,h=>by
  have ha:a=[]:=AB (by omega);have hb:b=[]:=AB (by omega);subst ha;subst hb;rfl
 |n+1,m+1,a,b,h,k=>by
  cases a with
  |nil =>
   cases b with
   |nil=>rfl
   |cons y b =>
    simp only[Au,AC]at h k;show y::Ct c n [] b=y::Ct c m [] b;rw[G9 c n m [] b (by simp only[AC];omega) (by simp only[AC];omega)]
  |cons x a =>
   cases b with
   |nil =>
    simp only[Au,AC]at h k;show x::Ct c n a []=x::Ct c m a [];rw[G9 c n m a [] (by simp only[AC];omega) (by simp only[AC];omega)]
   |cons y b =>
    simp only[Au]at h k;show(if c x y<0 then x::Ct c n a (y::b)else if c x y=0 then y::Ct c n a b else y::Ct c n (x::a) b)=if c x y<0 then x::Ct c m a (y::b)else if c x y=0 then y::Ct c m a b else y::Ct c m (x::a) b
    rw[G9 c n m a (y::b) (by simp only[Au];omega) (by simp only[Au];omega),G9 c n m a b (by omega) (by omega),G9 c n m (x::a) b (by simp only[Au];omega) (by simp only[Au];omega)]
def AX{α:Type}(c:α→α→Int)(a b:List α):List α:=Ct c (a.length+b.length) a b
section
variable {α:Type}{c:α→α→Int}
theorem Ts:AX c [] ([]:List α)=[]:=rfl
theorem Mh{a:List α}(h:0<a.length):AX c a []=a[0]::AX c (a.drop 1) []:=by
 cases a with
 |nil=>cases h
 |cons x a=>rfl
theorem OS{b:List α}(h:0<b.length):AX c [] b=b[0]::AX c [] (b.drop 1):=by
 cases b with
 |nil=>cases h
 |cons y b =>
  show Ct c (0+(b.length+1)) [] (y::b)=y::Ct c (0+b.length) [] b;rw[show 0+(b.length+1)=0+b.length+1 by omega];rfl
theorem FS{a b:List α}(ha:0<a.length)(hb:0<b.length):AX c a b=if c a[0] b[0]<0 then a[0]::AX c (a.drop 1) b else if c a[0] b[0]=0 then b[0]::AX c (a.drop 1) (b.drop 1)else b[0]::AX c a (b.drop 1):=by
 cases a with
 |nil=>cases ha
 |cons x a =>
  cases b with
  |nil=>cases hb
  |cons y b =>
   show Ct c ((a.length+1)+(b.length+1)) (x::a) (y::b)=if c x y<0 then x::Ct c (a.length+(b.length+1)) a (y::b)else if c x y=0 then y::Ct c (a.length+b.length) a b else y::Ct c ((a.length+1)+b.length) (x::a) b
   rw[show(a.length+1)+(b.length+1)=(a.length+b.length+1)+1 by omega];show(if c x y<0 then x::Ct c (a.length+b.length+1) a (y::b)else if c x y=0 then y::Ct c (a.length+b.length+1) a b else y::Ct c (a.length+b.length+1) (x::a) b)=_;rw[G9 c (a.length+b.length+1) (a.length+b.length) a b (by omega) (by omega),show a.length+(b.length+1)=a.length+b.length+1 by omega,show a.length+1+b.length=a.length+b.length+1 by omega]
theorem H6:∀(n:Nat) (a b:List α),(Ct c n a b).length≤n
 |0,_,_=>Aj _
 |n+1,[],[]=>AO _
 |n+1,[],y::b=>DL (H6 n [] b)
 |n+1,x::a,[]=>DL (H6 n a [])
 |n+1,x::a,y::b=>by
  show(if c x y<0 then x::Ct c n a (y::b)else if c x y=0 then y::Ct c n a b else y::Ct c n (x::a) b).length≤n+1;have h1:=H6 n a (y::b);have h2:=H6 n a b;have h3:=H6 n (x::a) b;split
  ·rw[Au];omega
  ·split<;>(rw[Au];omega)
theorem NP(a b:List α):(AX c a b).length≤a.length+b.length:=H6 _ a b
theorem CV{β:Type}{f:α→β}(a:List α):((a.map f).take (((a.map f).length:Nat):Int).toNat).drop ((1:Int)).toNat=(a.drop 1).map f:=by
 rw[Ci,Du,show((1:Int)).toNat=1 from rfl,List.map_drop]
end
abbrev B5(r s:Rl):Int:=Gr ⟨r.path,r.ver⟩ ⟨s.path,s.ver⟩
abbrev sa{α:Type}(f:α→List AV)(a:List α):List (List AV):=((a.map f).take (((a.map f).length:Nat):Int).toNat).drop ((1:Int)).toNat
theorem Dc{α:Type}{f:α→List AV}{n:Nat}(hf:∀x,(f x).length=n){a:List α}(h:0<a.length):((0:Int)≤1∧(1:Int)≤((a.map f).length:Nat)∧(((a.map f).length:Nat):Int)≤((a.map f).length:Nat))∧∀cs∈a.map f,cs.length=n:=by
 refine⟨by rw[Lm];omega,fun cs hcs=>?_⟩;obtain⟨q,_,rfl⟩:=Ak.1 hcs;exact hf q
theorem sN{α:Type}{f:α→List AV}{l:List α}(h:¬(0:Int)<((l.map f).length:Int)):l=[]:=AB (by rw[Lm]at h;omega)
theorem me{α:Type}{f:α→List AV}{l:List α}(h:((l.map f).length:Int)=(0:Int)):l=[]:=AB (by rw[Lm]at h;omega)
theorem yn(a b:List Sl)(ha:Cm a)(hb:Cm b)(c:Sl→Sl→Int)(fF:Nat)(hF:∀x y,PC fF [.agg (Af x),.agg (Af y)] (vi (c x y))):PC 63 [sl Af a,sl Af b,.v (.func (.func fF) #[] #[])] (sl Af (AX c a b)):=by
 have ha:a.length≤1073741824:=ha;have hb:b.length≤1073741824:=hb;refine Ps ⟨[],[(7,4)],[],[],[],[],[],[],[],[],[6,7,9,12,15]⟩ Tryz.func63 rfl (Nz rfl) ?_;refine Xi {q:List Sl×List Sl×List Sl // q.2.2++AX c q.1 q.2.1=AX c a b∧q.2.2.length+q.1.length+q.2.1.length≤a.length+b.length} (Xi (fun q=>⟨[(0,sl Af q.1.1),(1,sl Af q.1.2.1),(2,.v (.func (.func fF) #[] #[])),(7,.slice (.id 7 4) (q.1.2.2.map Af))],[(7,.tok 4 q.1.2.2.length)],Ab⟩) (Xi (fun q=>q.1.1.length+q.1.2.1.length) (Yi (Xi ⟨(a,b,[]),Ef _,by simp⟩ ?_) ?_)))
 ·exact⟨Z4,Z1,Fh,Tv⟩
 intro⟨⟨A,B,O⟩,k1,k2⟩;have k1:O++AX c A B=AX c a b:=k1;have k2:O.length+A.length+B.length≤a.length+b.length:=k2;refine Yi (fun h1=>?_) (fun h1=>?_)
 ·have h1:(0:Int)<((A.map Af).length:Int):=h1;have n1:0<A.length:=by have q:=h1;rw[Lm]at q;omega
  have hA:0<A.length:=by have q:=h1;rw[Lm]at q;omega
  refine Yi (fun h2=>?_) (fun h2=>?_)
  ·have h2:((A.map Af).length:Int)=(0:Int):=h2;have hB:0<B.length:=by have q:=h1;rw[Lm]at q;first | omega | (have q2:=h1;rw[Lm]at q2;omega)
   refine Xi ⟨[(0,sl Af A),(1,sl Af B),(2,.v (.func (.func fF) #[] #[])),(7,.slice (.id 7 4) (O.map Af))],[(7,.tok 4 O.length)],Ab⟩ (Yi ⟨Z4,Z1,Fh,Tv⟩ ?_)
   refine Xi ⟨[(0,sl Af A),(1,sl Af B),(2,.v (.func (.func fF) #[] #[])),(7,.slice (.id 7 4) (O.map Af)),(8,vi 1)],[(7,.tok 4 O.length)],Ab⟩ (Yi ⟨Z5,Z1,Fh,Tv⟩ ?_)
   refine Yi (fun h=>absurd h (by decide)) (fun _=>?_);refine Xi ⟨[(0,sl Af A),(1,sl Af B),(2,.v (.func (.func fF) #[] #[])),(7,.slice (.id 7 4) (O.map Af)),(8,vi 1)],[(7,.tok 4 O.length)],Ab⟩ (Yi ⟨Z5,Z1,Fh,Tv⟩ ?_)
   refine Xi (Af B[0]) (Yi (Yi (AZ 0) (Ch (Ge hB))) (Yi rfl ?_));refine Yi (Nz rfl) ?_;refine Yi (Pr rfl (by omega) (by decide)) ?_;refine Yi (Dc (f:=Af) (n:=4) (fun _=>rfl) hB).1 (Yi (Dc (f:=Af) (n:=4) (fun _=>rfl) hB).2 ?_);refine Yi (fun h=>absurd h (by decide)) (fun _=>?_);have We:(A.drop 1).length=A.length-1:=As ..;have Wf:(B.drop 1).length=B.length-1:=As ..;have eA:A=[]:=me h2;have eM:AX c A B=B[0]::AX c A (B.drop 1):=by rw[eA];exact OS hB
   refine Xi ⟨(A,(B.drop 1),O++[B[0]]),by show(O++[B[0]])++AX c A (B.drop 1)=_;rw[←k1,eM,AP];rfl,by simp only[Ad,As,AD];omega⟩ ?_;exact⟨by show A.length+(B.drop 1).length<A.length+B.length;omega,⟨Zr,⟨(show AV.slice .none _=sl Af (B.drop 1)from Ac (AV.slice .none) (CV B)),rfl⟩,Zr,⟨Uu,rfl⟩,Tv⟩,⟨⟨Uk,rfl⟩,Tv⟩,Fh,Tv⟩
  have h2:¬(((A.map Af).length:Int)=(0:Int)):=h2;have hA:0<A.length:=by have q:=h2;rw[Lm]at q;omega
  refine Xi ⟨[(0,sl Af A),(1,sl Af B),(2,.v (.func (.func fF) #[] #[])),(7,.slice (.id 7 4) (O.map Af))],[(7,.tok 4 O.length)],Ab⟩ (Yi ⟨Z4,Z1,Fh,Tv⟩ ?_)
  refine Yi (fun h5=>?_) (fun h5=>?_)
  ·have h5:((B.map Af).length:Int)=(0:Int):=h5;refine Xi ⟨[(0,sl Af A),(1,sl Af B),(2,.v (.func (.func fF) #[] #[])),(7,.slice (.id 7 4) (O.map Af)),(8,vi (-1))],[(7,.tok 4 O.length)],Ab⟩ (Yi ⟨Z5,Z1,Fh,Tv⟩ ?_)
   refine Yi (fun _=>?_) (fun h=>absurd (by decide) h);refine Xi (Af A[0]) (Yi (Yi (AZ 0) (Ch (Ge hA))) (Yi rfl ?_));refine Yi (Nz rfl) ?_;refine Yi (Pr rfl (by omega) (by decide)) ?_;refine Yi (Dc (f:=Af) (n:=4) (fun _=>rfl) hA).1 (Yi (Dc (f:=Af) (n:=4) (fun _=>rfl) hA).2 ?_);have We:(A.drop 1).length=A.length-1:=As ..;have Wf:(B.drop 1).length=B.length-1:=As ..;have eB:B=[]:=me h5;have eM:AX c A B=A[0]::AX c (A.drop 1) B:=by rw[eB];exact Mh hA
   refine Xi ⟨((A.drop 1),B,O++[A[0]]),by show(O++[A[0]])++AX c (A.drop 1) B=_;rw[←k1,eM,AP];rfl,by simp only[Ad,As,AD];omega⟩ ?_;exact⟨by show(A.drop 1).length+B.length<A.length+B.length;omega,⟨⟨(show AV.slice .none _=sl Af (A.drop 1)from Ac (AV.slice .none) (CV A)),rfl⟩,Zr,Zr,⟨Uu,rfl⟩,Tv⟩,⟨⟨Uk,rfl⟩,Tv⟩,Fh,Tv⟩
  have h5:¬(((B.map Af).length:Int)=(0:Int)):=h5;have hB:0<B.length:=by have q:=h5;rw[Lm]at q;omega
  refine Xi (Af A[0]) (Yi (Yi (AZ 0) (Ch (Ge hA))) (Yi rfl ?_));refine Yi (Nz rfl) ?_;refine Xi (Af B[0]) (Yi (Yi (AZ 0) (Ch (Ge hB))) (Yi rfl ?_));refine Yi (Nz rfl) ?_;refine Xi _ (Yi (hF A[0] B[0]) ?_);refine Yi (by kernel_rfl) ?_;refine Xi ⟨[(0,sl Af A),(1,sl Af B),(2,.v (.func (.func fF) #[] #[])),(7,.slice (.id 7 4) (O.map Af)),(8,vi (c A[0] B[0]))],[(7,.tok 4 O.length)],Ab⟩ (Yi ⟨Z5,Z1,Fh,Tv⟩ ?_)
  refine Yi (fun h8=>?_) (fun h8=>?_)
  ·have h8:((c A[0] B[0]):Int)<(0:Int):=h8;refine Xi (Af A[0]) (Yi (Yi (AZ 0) (Ch (Ge hA))) (Yi rfl ?_));refine Yi (Nz rfl) ?_;refine Yi (Pr rfl (by omega) (by decide)) ?_;refine Yi (Dc (f:=Af) (n:=4) (fun _=>rfl) hA).1 (Yi (Dc (f:=Af) (n:=4) (fun _=>rfl) hA).2 ?_);have We:(A.drop 1).length=A.length-1:=As ..;have Wf:(B.drop 1).length=B.length-1:=As ..;have eM:AX c A B=A[0]::AX c (A.drop 1) B:=by rw[FS hA hB,Aw h8]
   refine Xi ⟨((A.drop 1),B,O++[A[0]]),by show(O++[A[0]])++AX c (A.drop 1) B=_;rw[←k1,eM,AP];rfl,by simp only[Ad,As,AD];omega⟩ ?_;exact⟨by show(A.drop 1).length+B.length<A.length+B.length;omega,⟨⟨(show AV.slice .none _=sl Af (A.drop 1)from Ac (AV.slice .none) (CV A)),rfl⟩,Zr,Zr,⟨Uu,rfl⟩,Tv⟩,⟨⟨Uk,rfl⟩,Tv⟩,Fh,Tv⟩
  have h8:¬(((c A[0] B[0]):Int)<(0:Int)):=h8;refine Xi ⟨[(0,sl Af A),(1,sl Af B),(2,.v (.func (.func fF) #[] #[])),(7,.slice (.id 7 4) (O.map Af)),(8,vi (c A[0] B[0]))],[(7,.tok 4 O.length)],Ab⟩ (Yi ⟨Z5,Z1,Fh,Tv⟩ ?_)
  refine Xi (Af B[0]) (Yi (Yi (AZ 0) (Ch (Ge hB))) (Yi rfl ?_));refine Yi (Nz rfl) ?_;refine Yi (Pr rfl (by omega) (by decide)) ?_;refine Yi (Dc (f:=Af) (n:=4) (fun _=>rfl) hB).1 (Yi (Dc (f:=Af) (n:=4) (fun _=>rfl) hB).2 ?_);refine Yi (fun Lw=>?_) (fun Lw=>?_)
  ·have Lw:((c A[0] B[0]):Int)=(0:Int):=Lw;refine Xi ⟨[(0,sl Af A),(1,.slice .none (sa Af B)),(2,.v (.func (.func fF) #[] #[])),(7,.slice (.id 7 4) ((O.map Af)++[(Af B[0])]))],[(7,.tok 4 ((O.map Af).length+([(Af B[0])]:List (List AV)).length))],Ab⟩ (Yi ⟨Z4,Z1,Fh,Tv⟩ ?_)
   refine Yi (Dc (f:=Af) (n:=4) (fun _=>rfl) hA).1 (Yi (Dc (f:=Af) (n:=4) (fun _=>rfl) hA).2 ?_);have We:(A.drop 1).length=A.length-1:=As ..;have Wf:(B.drop 1).length=B.length-1:=As ..;have eM:AX c A B=B[0]::AX c (A.drop 1) (B.drop 1):=by rw[FS hA hB,Ah h8,Aw Lw]
   refine Xi ⟨((A.drop 1),(B.drop 1),O++[B[0]]),by show(O++[B[0]])++AX c (A.drop 1) (B.drop 1)=_;rw[←k1,eM,AP];rfl,by simp only[Ad,As,AD];omega⟩ ?_;exact⟨by show(A.drop 1).length+(B.drop 1).length<A.length+B.length;omega,⟨⟨(show AV.slice .none _=sl Af (A.drop 1)from Ac (AV.slice .none) (CV A)),rfl⟩,⟨(show AV.slice .none _=sl Af (B.drop 1)from Ac (AV.slice .none) (CV B)),rfl⟩,Zr,⟨Uu,rfl⟩,Tv⟩,⟨⟨Uk,rfl⟩,Tv⟩,Fh,Tv⟩
  have Lw:¬(((c A[0] B[0]):Int)=(0:Int)):=Lw;have We:(A.drop 1).length=A.length-1:=As ..;have Wf:(B.drop 1).length=B.length-1:=As ..;have eM:AX c A B=B[0]::AX c A (B.drop 1):=by rw[FS hA hB,Ah h8,Ah Lw]
  refine Xi ⟨(A,(B.drop 1),O++[B[0]]),by show(O++[B[0]])++AX c A (B.drop 1)=_;rw[←k1,eM,AP];rfl,by simp only[Ad,As,AD];omega⟩ ?_;exact⟨by show A.length+(B.drop 1).length<A.length+B.length;omega,⟨Zr,⟨(show AV.slice .none _=sl Af (B.drop 1)from Ac (AV.slice .none) (CV B)),rfl⟩,Zr,⟨Uu,rfl⟩,Tv⟩,⟨⟨Uk,rfl⟩,Tv⟩,Fh,Tv⟩
 have h1:¬((0:Int)<((A.map Af).length:Int)):=h1;have n1:¬0<A.length:=by have q:=h1;rw[Lm]at q;omega
 refine Yi (fun K3=>?_) (fun K3=>?_)
 ·have K3:(0:Int)<((B.map Af).length:Int):=K3;have n15:0<B.length:=by have q:=K3;rw[Lm]at q;omega
  have hB:0<B.length:=by have q:=K3;rw[Lm]at q;omega
  refine Yi (fun Uh=>?_) (fun Uh=>?_)
  ·have Uh:((A.map Af).length:Int)=(0:Int):=Uh;have hB:0<B.length:=by have q:=K3;rw[Lm]at q;first | omega | (have q2:=K3;rw[Lm]at q2;omega)
   refine Xi ⟨[(0,sl Af A),(1,sl Af B),(2,.v (.func (.func fF) #[] #[])),(7,.slice (.id 7 4) (O.map Af))],[(7,.tok 4 O.length)],Ab⟩ (Yi ⟨Z4,Z1,Fh,Tv⟩ ?_)
   refine Xi ⟨[(0,sl Af A),(1,sl Af B),(2,.v (.func (.func fF) #[] #[])),(7,.slice (.id 7 4) (O.map Af)),(8,vi 1)],[(7,.tok 4 O.length)],Ab⟩ (Yi ⟨Z5,Z1,Fh,Tv⟩ ?_)
   refine Yi (fun h=>absurd h (by decide)) (fun _=>?_);refine Xi ⟨[(0,sl Af A),(1,sl Af B),(2,.v (.func (.func fF) #[] #[])),(7,.slice (.id 7 4) (O.map Af)),(8,vi 1)],[(7,.tok 4 O.length)],Ab⟩ (Yi ⟨Z5,Z1,Fh,Tv⟩ ?_)
   refine Xi (Af B[0]) (Yi (Yi (AZ 0) (Ch (Ge hB))) (Yi rfl ?_));refine Yi (Nz rfl) ?_;refine Yi (Pr rfl (by omega) (by decide)) ?_;refine Yi (Dc (f:=Af) (n:=4) (fun _=>rfl) hB).1 (Yi (Dc (f:=Af) (n:=4) (fun _=>rfl) hB).2 ?_);refine Yi (fun h=>absurd h (by decide)) (fun _=>?_);have We:(A.drop 1).length=A.length-1:=As ..;have Wf:(B.drop 1).length=B.length-1:=As ..;have eA:A=[]:=me Uh;have eM:AX c A B=B[0]::AX c A (B.drop 1):=by rw[eA];exact OS hB
   refine Xi ⟨(A,(B.drop 1),O++[B[0]]),by show(O++[B[0]])++AX c A (B.drop 1)=_;rw[←k1,eM,AP];rfl,by simp only[Ad,As,AD];omega⟩ ?_;exact⟨by show A.length+(B.drop 1).length<A.length+B.length;omega,⟨Zr,⟨(show AV.slice .none _=sl Af (B.drop 1)from Ac (AV.slice .none) (CV B)),rfl⟩,Zr,⟨Uu,rfl⟩,Tv⟩,⟨⟨Uk,rfl⟩,Tv⟩,Fh,Tv⟩
  have Uh:¬(((A.map Af).length:Int)=(0:Int)):=Uh;have hA:0<A.length:=by have q:=Uh;rw[Lm]at q;omega
  refine Xi ⟨[(0,sl Af A),(1,sl Af B),(2,.v (.func (.func fF) #[] #[])),(7,.slice (.id 7 4) (O.map Af))],[(7,.tok 4 O.length)],Ab⟩ (Yi ⟨Z4,Z1,Fh,Tv⟩ ?_)
  refine Yi (fun WL=>?_) (fun WL=>?_)
  ·have WL:((B.map Af).length:Int)=(0:Int):=WL;refine Xi ⟨[(0,sl Af A),(1,sl Af B),(2,.v (.func (.func fF) #[] #[])),(7,.slice (.id 7 4) (O.map Af)),(8,vi (-1))],[(7,.tok 4 O.length)],Ab⟩ (Yi ⟨Z5,Z1,Fh,Tv⟩ ?_)
   refine Yi (fun _=>?_) (fun h=>absurd (by decide) h);refine Xi (Af A[0]) (Yi (Yi (AZ 0) (Ch (Ge hA))) (Yi rfl ?_));refine Yi (Nz rfl) ?_;refine Yi (Pr rfl (by omega) (by decide)) ?_;refine Yi (Dc (f:=Af) (n:=4) (fun _=>rfl) hA).1 (Yi (Dc (f:=Af) (n:=4) (fun _=>rfl) hA).2 ?_);have We:(A.drop 1).length=A.length-1:=As ..;have Wf:(B.drop 1).length=B.length-1:=As ..;have eB:B=[]:=me WL;have eM:AX c A B=A[0]::AX c (A.drop 1) B:=by rw[eB];exact Mh hA
   refine Xi ⟨((A.drop 1),B,O++[A[0]]),by show(O++[A[0]])++AX c (A.drop 1) B=_;rw[←k1,eM,AP];rfl,by simp only[Ad,As,AD];omega⟩ ?_;exact⟨by show(A.drop 1).length+B.length<A.length+B.length;omega,⟨⟨(show AV.slice .none _=sl Af (A.drop 1)from Ac (AV.slice .none) (CV A)),rfl⟩,Zr,Zr,⟨Uu,rfl⟩,Tv⟩,⟨⟨Uk,rfl⟩,Tv⟩,Fh,Tv⟩
  have WL:¬(((B.map Af).length:Int)=(0:Int)):=WL;have hB:0<B.length:=by have q:=WL;rw[Lm]at q;omega
  refine Xi (Af A[0]) (Yi (Yi (AZ 0) (Ch (Ge hA))) (Yi rfl ?_));refine Yi (Nz rfl) ?_;refine Xi (Af B[0]) (Yi (Yi (AZ 0) (Ch (Ge hB))) (Yi rfl ?_));refine Yi (Nz rfl) ?_;refine Xi _ (Yi (hF A[0] B[0]) ?_);refine Yi (by kernel_rfl) ?_;refine Xi ⟨[(0,sl Af A),(1,sl Af B),(2,.v (.func (.func fF) #[] #[])),(7,.slice (.id 7 4) (O.map Af)),(8,vi (c A[0] B[0]))],[(7,.tok 4 O.length)],Ab⟩ (Yi ⟨Z5,Z1,Fh,Tv⟩ ?_)
  refine Yi (fun XD=>?_) (fun XD=>?_)
  ·have XD:((c A[0] B[0]):Int)<(0:Int):=XD;refine Xi (Af A[0]) (Yi (Yi (AZ 0) (Ch (Ge hA))) (Yi rfl ?_));refine Yi (Nz rfl) ?_;refine Yi (Pr rfl (by omega) (by decide)) ?_;refine Yi (Dc (f:=Af) (n:=4) (fun _=>rfl) hA).1 (Yi (Dc (f:=Af) (n:=4) (fun _=>rfl) hA).2 ?_);have We:(A.drop 1).length=A.length-1:=As ..;have Wf:(B.drop 1).length=B.length-1:=As ..;have eM:AX c A B=A[0]::AX c (A.drop 1) B:=by rw[FS hA hB,Aw XD]
   refine Xi ⟨((A.drop 1),B,O++[A[0]]),by show(O++[A[0]])++AX c (A.drop 1) B=_;rw[←k1,eM,AP];rfl,by simp only[Ad,As,AD];omega⟩ ?_;exact⟨by show(A.drop 1).length+B.length<A.length+B.length;omega,⟨⟨(show AV.slice .none _=sl Af (A.drop 1)from Ac (AV.slice .none) (CV A)),rfl⟩,Zr,Zr,⟨Uu,rfl⟩,Tv⟩,⟨⟨Uk,rfl⟩,Tv⟩,Fh,Tv⟩
  have XD:¬(((c A[0] B[0]):Int)<(0:Int)):=XD;refine Xi ⟨[(0,sl Af A),(1,sl Af B),(2,.v (.func (.func fF) #[] #[])),(7,.slice (.id 7 4) (O.map Af)),(8,vi (c A[0] B[0]))],[(7,.tok 4 O.length)],Ab⟩ (Yi ⟨Z5,Z1,Fh,Tv⟩ ?_)
  refine Xi (Af B[0]) (Yi (Yi (AZ 0) (Ch (Ge hB))) (Yi rfl ?_));refine Yi (Nz rfl) ?_;refine Yi (Pr rfl (by omega) (by decide)) ?_;refine Yi (Dc (f:=Af) (n:=4) (fun _=>rfl) hB).1 (Yi (Dc (f:=Af) (n:=4) (fun _=>rfl) hB).2 ?_);refine Yi (fun Zb=>?_) (fun Zb=>?_)
  ·have Zb:((c A[0] B[0]):Int)=(0:Int):=Zb;refine Xi ⟨[(0,sl Af A),(1,.slice .none (sa Af B)),(2,.v (.func (.func fF) #[] #[])),(7,.slice (.id 7 4) ((O.map Af)++[(Af B[0])]))],[(7,.tok 4 ((O.map Af).length+([(Af B[0])]:List (List AV)).length))],Ab⟩ (Yi ⟨Z4,Z1,Fh,Tv⟩ ?_)
   refine Yi (Dc (f:=Af) (n:=4) (fun _=>rfl) hA).1 (Yi (Dc (f:=Af) (n:=4) (fun _=>rfl) hA).2 ?_);have We:(A.drop 1).length=A.length-1:=As ..;have Wf:(B.drop 1).length=B.length-1:=As ..;have eM:AX c A B=B[0]::AX c (A.drop 1) (B.drop 1):=by rw[FS hA hB,Ah XD,Aw Zb]
   refine Xi ⟨((A.drop 1),(B.drop 1),O++[B[0]]),by show(O++[B[0]])++AX c (A.drop 1) (B.drop 1)=_;rw[←k1,eM,AP];rfl,by simp only[Ad,As,AD];omega⟩ ?_;exact⟨by show(A.drop 1).length+(B.drop 1).length<A.length+B.length;omega,⟨⟨(show AV.slice .none _=sl Af (A.drop 1)from Ac (AV.slice .none) (CV A)),rfl⟩,⟨(show AV.slice .none _=sl Af (B.drop 1)from Ac (AV.slice .none) (CV B)),rfl⟩,Zr,⟨Uu,rfl⟩,Tv⟩,⟨⟨Uk,rfl⟩,Tv⟩,Fh,Tv⟩
  have Zb:¬(((c A[0] B[0]):Int)=(0:Int)):=Zb;have We:(A.drop 1).length=A.length-1:=As ..;have Wf:(B.drop 1).length=B.length-1:=As ..;have eM:AX c A B=B[0]::AX c A (B.drop 1):=by rw[FS hA hB,Ah XD,Ah Zb]
  refine Xi ⟨(A,(B.drop 1),O++[B[0]]),by show(O++[B[0]])++AX c A (B.drop 1)=_;rw[←k1,eM,AP];rfl,by simp only[Ad,As,AD];omega⟩ ?_;exact⟨by show A.length+(B.drop 1).length<A.length+B.length;omega,⟨Zr,⟨(show AV.slice .none _=sl Af (B.drop 1)from Ac (AV.slice .none) (CV B)),rfl⟩,Zr,⟨Uu,rfl⟩,Tv⟩,⟨⟨Uk,rfl⟩,Tv⟩,Fh,Tv⟩
 have K3:¬((0:Int)<((B.map Af).length:Int)):=K3;have n15:¬0<B.length:=by have q:=K3;rw[Lm]at q;omega
 have eA:A=[]:=sN h1;have eB:B=[]:=sN K3;have eO:O=AX c a b:=by rw[←k1,eA,eB,Ts,B1]
 exact .of_eq (Ac (fun z=>sl Af z) eO)
theorem vL(a b:List Sl)(ha:Cm a)(hb:Cm b):PC 63 [sl Af a,sl Af b,.v (.func (.func 55) #[] #[])] (sl Af (AX Gr a b)):=yn a b ha hb Gr 55 vJ
theorem vK(a b:List Sl)(ha:Cm a)(hb:Cm b):PC 63 [sl Af a,sl Af b,.v (.func (.func 61) #[] #[])] (sl Af (AX PH a b)):=yn a b ha hb PH 61 o61
theorem yh(a b:List Rl)(ha:Cm a)(hb:Cm b):PC 38 [sl Al a,sl Al b,.v (.func (.func 39) #[] #[])] (sl Al (AX B5 a b)):=by
 have ha:a.length≤1073741824:=ha;have hb:b.length≤1073741824:=hb;refine Ps ⟨[],[(7,9)],[],[],[],[],[],[],[],[],[6,7,9,12,15]⟩ Tryz.func38 rfl (Nz rfl) ?_;refine Xi {q:List Rl×List Rl×List Rl // q.2.2++AX B5 q.1 q.2.1=AX B5 a b∧q.2.2.length+q.1.length+q.2.1.length≤a.length+b.length} (Xi (fun q=>⟨[(0,sl Al q.1.1),(1,sl Al q.1.2.1),(2,.v (.func (.func 39) #[] #[])),(7,.slice (.id 7 9) (q.1.2.2.map Al))],[(7,.tok 9 q.1.2.2.length)],Ab⟩) (Xi (fun q=>q.1.1.length+q.1.2.1.length) (Yi (Xi ⟨(a,b,[]),Ef _,by simp⟩ ?_) ?_)))
 ·exact⟨Z4,Z1,Fh,Tv⟩
 intro⟨⟨A,B,O⟩,k1,k2⟩;have k1:O++AX B5 A B=AX B5 a b:=k1;have k2:O.length+A.length+B.length≤a.length+b.length:=k2;refine Yi (fun h1=>?_) (fun h1=>?_)
 ·have h1:(0:Int)<((A.map Al).length:Int):=h1;have n1:0<A.length:=by have q:=h1;rw[Lm]at q;omega
  have hA:0<A.length:=by have q:=h1;rw[Lm]at q;omega
  refine Yi (fun h2=>?_) (fun h2=>?_)
  ·have h2:((A.map Al).length:Int)=(0:Int):=h2;have hB:0<B.length:=by have q:=h1;rw[Lm]at q;first | omega | (have q2:=h1;rw[Lm]at q2;omega)
   refine Xi ⟨[(0,sl Al A),(1,sl Al B),(2,.v (.func (.func 39) #[] #[])),(7,.slice (.id 7 9) (O.map Al))],[(7,.tok 9 O.length)],Ab⟩ (Yi ⟨Z4,Z1,Fh,Tv⟩ ?_)
   refine Xi ⟨[(0,sl Al A),(1,sl Al B),(2,.v (.func (.func 39) #[] #[])),(7,.slice (.id 7 9) (O.map Al)),(8,vi 1)],[(7,.tok 9 O.length)],Ab⟩ (Yi ⟨Z5,Z1,Fh,Tv⟩ ?_)
   refine Yi (fun h=>absurd h (by decide)) (fun _=>?_);refine Xi ⟨[(0,sl Al A),(1,sl Al B),(2,.v (.func (.func 39) #[] #[])),(7,.slice (.id 7 9) (O.map Al)),(8,vi 1)],[(7,.tok 9 O.length)],Ab⟩ (Yi ⟨Z5,Z1,Fh,Tv⟩ ?_)
   refine Xi (Al B[0]) (Yi (Yi (AZ 0) (Ch (Ge hB))) (Yi rfl ?_));refine Yi (Nz rfl) ?_;refine Yi (Pr rfl (by omega) (by decide)) ?_;refine Yi (Dc (f:=Al) (n:=9) (fun _=>rfl) hB).1 (Yi (Dc (f:=Al) (n:=9) (fun _=>rfl) hB).2 ?_);refine Yi (fun h=>absurd h (by decide)) (fun _=>?_);have We:(A.drop 1).length=A.length-1:=As ..;have Wf:(B.drop 1).length=B.length-1:=As ..;have eA:A=[]:=me h2;have eM:AX B5 A B=B[0]::AX B5 A (B.drop 1):=by rw[eA];exact OS hB
   refine Xi ⟨(A,(B.drop 1),O++[B[0]]),by show(O++[B[0]])++AX B5 A (B.drop 1)=_;rw[←k1,eM,AP];rfl,by simp only[Ad,As,AD];omega⟩ ?_;exact⟨by show A.length+(B.drop 1).length<A.length+B.length;omega,⟨Zr,⟨(show AV.slice .none _=sl Al (B.drop 1)from Ac (AV.slice .none) (CV B)),rfl⟩,Zr,⟨Uu,rfl⟩,Tv⟩,⟨⟨Uk,rfl⟩,Tv⟩,Fh,Tv⟩
  have h2:¬(((A.map Al).length:Int)=(0:Int)):=h2;have hA:0<A.length:=by have q:=h2;rw[Lm]at q;omega
  refine Xi ⟨[(0,sl Al A),(1,sl Al B),(2,.v (.func (.func 39) #[] #[])),(7,.slice (.id 7 9) (O.map Al))],[(7,.tok 9 O.length)],Ab⟩ (Yi ⟨Z4,Z1,Fh,Tv⟩ ?_)
  refine Yi (fun h5=>?_) (fun h5=>?_)
  ·have h5:((B.map Al).length:Int)=(0:Int):=h5;refine Xi ⟨[(0,sl Al A),(1,sl Al B),(2,.v (.func (.func 39) #[] #[])),(7,.slice (.id 7 9) (O.map Al)),(8,vi (-1))],[(7,.tok 9 O.length)],Ab⟩ (Yi ⟨Z5,Z1,Fh,Tv⟩ ?_)
   refine Yi (fun _=>?_) (fun h=>absurd (by decide) h);refine Xi (Al A[0]) (Yi (Yi (AZ 0) (Ch (Ge hA))) (Yi rfl ?_));refine Yi (Nz rfl) ?_;refine Yi (Pr rfl (by omega) (by decide)) ?_;refine Yi (Dc (f:=Al) (n:=9) (fun _=>rfl) hA).1 (Yi (Dc (f:=Al) (n:=9) (fun _=>rfl) hA).2 ?_);have We:(A.drop 1).length=A.length-1:=As ..;have Wf:(B.drop 1).length=B.length-1:=As ..;have eB:B=[]:=me h5;have eM:AX B5 A B=A[0]::AX B5 (A.drop 1) B:=by rw[eB];exact Mh hA
   refine Xi ⟨((A.drop 1),B,O++[A[0]]),by show(O++[A[0]])++AX B5 (A.drop 1) B=_;rw[←k1,eM,AP];rfl,by simp only[Ad,As,AD];omega⟩ ?_;exact⟨by show(A.drop 1).length+B.length<A.length+B.length;omega,⟨⟨(show AV.slice .none _=sl Al (A.drop 1)from Ac (AV.slice .none) (CV A)),rfl⟩,Zr,Zr,⟨Uu,rfl⟩,Tv⟩,⟨⟨Uk,rfl⟩,Tv⟩,Fh,Tv⟩
  have h5:¬(((B.map Al).length:Int)=(0:Int)):=h5;have hB:0<B.length:=by have q:=h5;rw[Lm]at q;omega
  refine Xi (Al A[0]) (Yi (Yi (AZ 0) (Ch (Ge hA))) (Yi rfl ?_));refine Yi (Nz rfl) ?_;refine Xi (Al B[0]) (Yi (Yi (AZ 0) (Ch (Ge hB))) (Yi rfl ?_));refine Yi (Nz rfl) ?_;refine Xi _ (Yi (yi A[0] B[0]) ?_);refine Yi (by kernel_rfl) ?_;refine Xi ⟨[(0,sl Al A),(1,sl Al B),(2,.v (.func (.func 39) #[] #[])),(7,.slice (.id 7 9) (O.map Al)),(8,vi (B5 A[0] B[0]))],[(7,.tok 9 O.length)],Ab⟩ (Yi ⟨Z5,Z1,Fh,Tv⟩ ?_)
  refine Yi (fun h8=>?_) (fun h8=>?_)
  ·have h8:((B5 A[0] B[0]):Int)<(0:Int):=h8;refine Xi (Al A[0]) (Yi (Yi (AZ 0) (Ch (Ge hA))) (Yi rfl ?_));refine Yi (Nz rfl) ?_;refine Yi (Pr rfl (by omega) (by decide)) ?_;refine Yi (Dc (f:=Al) (n:=9) (fun _=>rfl) hA).1 (Yi (Dc (f:=Al) (n:=9) (fun _=>rfl) hA).2 ?_);have We:(A.drop 1).length=A.length-1:=As ..;have Wf:(B.drop 1).length=B.length-1:=As ..;have eM:AX B5 A B=A[0]::AX B5 (A.drop 1) B:=by rw[FS hA hB,Aw h8]
   refine Xi ⟨((A.drop 1),B,O++[A[0]]),by show(O++[A[0]])++AX B5 (A.drop 1) B=_;rw[←k1,eM,AP];rfl,by simp only[Ad,As,AD];omega⟩ ?_;exact⟨by show(A.drop 1).length+B.length<A.length+B.length;omega,⟨⟨(show AV.slice .none _=sl Al (A.drop 1)from Ac (AV.slice .none) (CV A)),rfl⟩,Zr,Zr,⟨Uu,rfl⟩,Tv⟩,⟨⟨Uk,rfl⟩,Tv⟩,Fh,Tv⟩
  have h8:¬(((B5 A[0] B[0]):Int)<(0:Int)):=h8;refine Xi ⟨[(0,sl Al A),(1,sl Al B),(2,.v (.func (.func 39) #[] #[])),(7,.slice (.id 7 9) (O.map Al)),(8,vi (B5 A[0] B[0]))],[(7,.tok 9 O.length)],Ab⟩ (Yi ⟨Z5,Z1,Fh,Tv⟩ ?_)
  refine Xi (Al B[0]) (Yi (Yi (AZ 0) (Ch (Ge hB))) (Yi rfl ?_));refine Yi (Nz rfl) ?_;refine Yi (Pr rfl (by omega) (by decide)) ?_;refine Yi (Dc (f:=Al) (n:=9) (fun _=>rfl) hB).1 (Yi (Dc (f:=Al) (n:=9) (fun _=>rfl) hB).2 ?_);refine Yi (fun Lw=>?_) (fun Lw=>?_)
  ·have Lw:((B5 A[0] B[0]):Int)=(0:Int):=Lw;refine Xi ⟨[(0,sl Al A),(1,.slice .none (sa Al B)),(2,.v (.func (.func 39) #[] #[])),(7,.slice (.id 7 9) ((O.map Al)++[(Al B[0])]))],[(7,.tok 9 ((O.map Al).length+([(Al B[0])]:List (List AV)).length))],Ab⟩ (Yi ⟨Z4,Z1,Fh,Tv⟩ ?_)
   refine Yi (Dc (f:=Al) (n:=9) (fun _=>rfl) hA).1 (Yi (Dc (f:=Al) (n:=9) (fun _=>rfl) hA).2 ?_);have We:(A.drop 1).length=A.length-1:=As ..;have Wf:(B.drop 1).length=B.length-1:=As ..;have eM:AX B5 A B=B[0]::AX B5 (A.drop 1) (B.drop 1):=by rw[FS hA hB,Ah h8,Aw Lw]
   refine Xi ⟨((A.drop 1),(B.drop 1),O++[B[0]]),by show(O++[B[0]])++AX B5 (A.drop 1) (B.drop 1)=_;rw[←k1,eM,AP];rfl,by simp only[Ad,As,AD];omega⟩ ?_;exact⟨by show(A.drop 1).length+(B.drop 1).length<A.length+B.length;omega,⟨⟨(show AV.slice .none _=sl Al (A.drop 1)from Ac (AV.slice .none) (CV A)),rfl⟩,⟨(show AV.slice .none _=sl Al (B.drop 1)from Ac (AV.slice .none) (CV B)),rfl⟩,Zr,⟨Uu,rfl⟩,Tv⟩,⟨⟨Uk,rfl⟩,Tv⟩,Fh,Tv⟩
  have Lw:¬(((B5 A[0] B[0]):Int)=(0:Int)):=Lw;have We:(A.drop 1).length=A.length-1:=As ..;have Wf:(B.drop 1).length=B.length-1:=As ..;have eM:AX B5 A B=B[0]::AX B5 A (B.drop 1):=by rw[FS hA hB,Ah h8,Ah Lw]
  refine Xi ⟨(A,(B.drop 1),O++[B[0]]),by show(O++[B[0]])++AX B5 A (B.drop 1)=_;rw[←k1,eM,AP];rfl,by simp only[Ad,As,AD];omega⟩ ?_;exact⟨by show A.length+(B.drop 1).length<A.length+B.length;omega,⟨Zr,⟨(show AV.slice .none _=sl Al (B.drop 1)from Ac (AV.slice .none) (CV B)),rfl⟩,Zr,⟨Uu,rfl⟩,Tv⟩,⟨⟨Uk,rfl⟩,Tv⟩,Fh,Tv⟩
 have h1:¬((0:Int)<((A.map Al).length:Int)):=h1;have n1:¬0<A.length:=by have q:=h1;rw[Lm]at q;omega
 refine Yi (fun K3=>?_) (fun K3=>?_)
 ·have K3:(0:Int)<((B.map Al).length:Int):=K3;have n15:0<B.length:=by have q:=K3;rw[Lm]at q;omega
  have hB:0<B.length:=by have q:=K3;rw[Lm]at q;omega
  refine Yi (fun Uh=>?_) (fun Uh=>?_)
  ·have Uh:((A.map Al).length:Int)=(0:Int):=Uh;have hB:0<B.length:=by have q:=K3;rw[Lm]at q;first | omega | (have q2:=K3;rw[Lm]at q2;omega)
   refine Xi ⟨[(0,sl Al A),(1,sl Al B),(2,.v (.func (.func 39) #[] #[])),(7,.slice (.id 7 9) (O.map Al))],[(7,.tok 9 O.length)],Ab⟩ (Yi ⟨Z4,Z1,Fh,Tv⟩ ?_)
   refine Xi ⟨[(0,sl Al A),(1,sl Al B),(2,.v (.func (.func 39) #[] #[])),(7,.slice (.id 7 9) (O.map Al)),(8,vi 1)],[(7,.tok 9 O.length)],Ab⟩ (Yi ⟨Z5,Z1,Fh,Tv⟩ ?_)
   refine Yi (fun h=>absurd h (by decide)) (fun _=>?_);refine Xi ⟨[(0,sl Al A),(1,sl Al B),(2,.v (.func (.func 39) #[] #[])),(7,.slice (.id 7 9) (O.map Al)),(8,vi 1)],[(7,.tok 9 O.length)],Ab⟩ (Yi ⟨Z5,Z1,Fh,Tv⟩ ?_)
   refine Xi (Al B[0]) (Yi (Yi (AZ 0) (Ch (Ge hB))) (Yi rfl ?_));refine Yi (Nz rfl) ?_;refine Yi (Pr rfl (by omega) (by decide)) ?_;refine Yi (Dc (f:=Al) (n:=9) (fun _=>rfl) hB).1 (Yi (Dc (f:=Al) (n:=9) (fun _=>rfl) hB).2 ?_);refine Yi (fun h=>absurd h (by decide)) (fun _=>?_);have We:(A.drop 1).length=A.length-1:=As ..;have Wf:(B.drop 1).length=B.length-1:=As ..;have eA:A=[]:=me Uh;have eM:AX B5 A B=B[0]::AX B5 A (B.drop 1):=by rw[eA];exact OS hB
   refine Xi ⟨(A,(B.drop 1),O++[B[0]]),by show(O++[B[0]])++AX B5 A (B.drop 1)=_;rw[←k1,eM,AP];rfl,by simp only[Ad,As,AD];omega⟩ ?_;exact⟨by show A.length+(B.drop 1).length<A.length+B.length;omega,⟨Zr,⟨(show AV.slice .none _=sl Al (B.drop 1)from Ac (AV.slice .none) (CV B)),rfl⟩,Zr,⟨Uu,rfl⟩,Tv⟩,⟨⟨Uk,rfl⟩,Tv⟩,Fh,Tv⟩
  have Uh:¬(((A.map Al).length:Int)=(0:Int)):=Uh;have hA:0<A.length:=by have q:=Uh;rw[Lm]at q;omega
  refine Xi ⟨[(0,sl Al A),(1,sl Al B),(2,.v (.func (.func 39) #[] #[])),(7,.slice (.id 7 9) (O.map Al))],[(7,.tok 9 O.length)],Ab⟩ (Yi ⟨Z4,Z1,Fh,Tv⟩ ?_)
  refine Yi (fun WL=>?_) (fun WL=>?_)
  ·have WL:((B.map Al).length:Int)=(0:Int):=WL;refine Xi ⟨[(0,sl Al A),(1,sl Al B),(2,.v (.func (.func 39) #[] #[])),(7,.slice (.id 7 9) (O.map Al)),(8,vi (-1))],[(7,.tok 9 O.length)],Ab⟩ (Yi ⟨Z5,Z1,Fh,Tv⟩ ?_)
   refine Yi (fun _=>?_) (fun h=>absurd (by decide) h);refine Xi (Al A[0]) (Yi (Yi (AZ 0) (Ch (Ge hA))) (Yi rfl ?_));refine Yi (Nz rfl) ?_;refine Yi (Pr rfl (by omega) (by decide)) ?_;refine Yi (Dc (f:=Al) (n:=9) (fun _=>rfl) hA).1 (Yi (Dc (f:=Al) (n:=9) (fun _=>rfl) hA).2 ?_);have We:(A.drop 1).length=A.length-1:=As ..;have Wf:(B.drop 1).length=B.length-1:=As ..;have eB:B=[]:=me WL;have eM:AX B5 A B=A[0]::AX B5 (A.drop 1) B:=by rw[eB];exact Mh hA
   refine Xi ⟨((A.drop 1),B,O++[A[0]]),by show(O++[A[0]])++AX B5 (A.drop 1) B=_;rw[←k1,eM,AP];rfl,by simp only[Ad,As,AD];omega⟩ ?_;exact⟨by show(A.drop 1).length+B.length<A.length+B.length;omega,⟨⟨(show AV.slice .none _=sl Al (A.drop 1)from Ac (AV.slice .none) (CV A)),rfl⟩,Zr,Zr,⟨Uu,rfl⟩,Tv⟩,⟨⟨Uk,rfl⟩,Tv⟩,Fh,Tv⟩
  have WL:¬(((B.map Al).length:Int)=(0:Int)):=WL;have hB:0<B.length:=by have q:=WL;rw[Lm]at q;omega
  refine Xi (Al A[0]) (Yi (Yi (AZ 0) (Ch (Ge hA))) (Yi rfl ?_));refine Yi (Nz rfl) ?_;refine Xi (Al B[0]) (Yi (Yi (AZ 0) (Ch (Ge hB))) (Yi rfl ?_));refine Yi (Nz rfl) ?_;refine Xi _ (Yi (yi A[0] B[0]) ?_);refine Yi (by kernel_rfl) ?_;refine Xi ⟨[(0,sl Al A),(1,sl Al B),(2,.v (.func (.func 39) #[] #[])),(7,.slice (.id 7 9) (O.map Al)),(8,vi (B5 A[0] B[0]))],[(7,.tok 9 O.length)],Ab⟩ (Yi ⟨Z5,Z1,Fh,Tv⟩ ?_)
  refine Yi (fun XD=>?_) (fun XD=>?_)
  ·have XD:((B5 A[0] B[0]):Int)<(0:Int):=XD;refine Xi (Al A[0]) (Yi (Yi (AZ 0) (Ch (Ge hA))) (Yi rfl ?_));refine Yi (Nz rfl) ?_;refine Yi (Pr rfl (by omega) (by decide)) ?_;refine Yi (Dc (f:=Al) (n:=9) (fun _=>rfl) hA).1 (Yi (Dc (f:=Al) (n:=9) (fun _=>rfl) hA).2 ?_);have We:(A.drop 1).length=A.length-1:=As ..;have Wf:(B.drop 1).length=B.length-1:=As ..;have eM:AX B5 A B=A[0]::AX B5 (A.drop 1) B:=by rw[FS hA hB,Aw XD]
   refine Xi ⟨((A.drop 1),B,O++[A[0]]),by show(O++[A[0]])++AX B5 (A.drop 1) B=_;rw[←k1,eM,AP];rfl,by simp only[Ad,As,AD];omega⟩ ?_;exact⟨by show(A.drop 1).length+B.length<A.length+B.length;omega,⟨⟨(show AV.slice .none _=sl Al (A.drop 1)from Ac (AV.slice .none) (CV A)),rfl⟩,Zr,Zr,⟨Uu,rfl⟩,Tv⟩,⟨⟨Uk,rfl⟩,Tv⟩,Fh,Tv⟩
  have XD:¬(((B5 A[0] B[0]):Int)<(0:Int)):=XD;refine Xi ⟨[(0,sl Al A),(1,sl Al B),(2,.v (.func (.func 39) #[] #[])),(7,.slice (.id 7 9) (O.map Al)),(8,vi (B5 A[0] B[0]))],[(7,.tok 9 O.length)],Ab⟩ (Yi ⟨Z5,Z1,Fh,Tv⟩ ?_)
  refine Xi (Al B[0]) (Yi (Yi (AZ 0) (Ch (Ge hB))) (Yi rfl ?_));refine Yi (Nz rfl) ?_;refine Yi (Pr rfl (by omega) (by decide)) ?_;refine Yi (Dc (f:=Al) (n:=9) (fun _=>rfl) hB).1 (Yi (Dc (f:=Al) (n:=9) (fun _=>rfl) hB).2 ?_);refine Yi (fun Zb=>?_) (fun Zb=>?_)
  ·have Zb:((B5 A[0] B[0]):Int)=(0:Int):=Zb;refine Xi ⟨[(0,sl Al A),(1,.slice .none (sa Al B)),(2,.v (.func (.func 39) #[] #[])),(7,.slice (.id 7 9) ((O.map Al)++[(Al B[0])]))],[(7,.tok 9 ((O.map Al).length+([(Al B[0])]:List (List AV)).length))],Ab⟩ (Yi ⟨Z4,Z1,Fh,Tv⟩ ?_)
   refine Yi (Dc (f:=Al) (n:=9) (fun _=>rfl) hA).1 (Yi (Dc (f:=Al) (n:=9) (fun _=>rfl) hA).2 ?_);have We:(A.drop 1).length=A.length-1:=As ..;have Wf:(B.drop 1).length=B.length-1:=As ..;have eM:AX B5 A B=B[0]::AX B5 (A.drop 1) (B.drop 1):=by rw[FS hA hB,Ah XD,Aw Zb]
   refine Xi ⟨((A.drop 1),(B.drop 1),O++[B[0]]),by show(O++[B[0]])++AX B5 (A.drop 1) (B.drop 1)=_;rw[←k1,eM,AP];rfl,by simp only[Ad,As,AD];omega⟩ ?_;exact⟨by show(A.drop 1).length+(B.drop 1).length<A.length+B.length;omega,⟨⟨(show AV.slice .none _=sl Al (A.drop 1)from Ac (AV.slice .none) (CV A)),rfl⟩,⟨(show AV.slice .none _=sl Al (B.drop 1)from Ac (AV.slice .none) (CV B)),rfl⟩,Zr,⟨Uu,rfl⟩,Tv⟩,⟨⟨Uk,rfl⟩,Tv⟩,Fh,Tv⟩
  have Zb:¬(((B5 A[0] B[0]):Int)=(0:Int)):=Zb;have We:(A.drop 1).length=A.length-1:=As ..;have Wf:(B.drop 1).length=B.length-1:=As ..;have eM:AX B5 A B=B[0]::AX B5 A (B.drop 1):=by rw[FS hA hB,Ah XD,Ah Zb]
  refine Xi ⟨(A,(B.drop 1),O++[B[0]]),by show(O++[B[0]])++AX B5 A (B.drop 1)=_;rw[←k1,eM,AP];rfl,by simp only[Ad,As,AD];omega⟩ ?_;exact⟨by show A.length+(B.drop 1).length<A.length+B.length;omega,⟨Zr,⟨(show AV.slice .none _=sl Al (B.drop 1)from Ac (AV.slice .none) (CV B)),rfl⟩,Zr,⟨Uu,rfl⟩,Tv⟩,⟨⟨Uk,rfl⟩,Tv⟩,Fh,Tv⟩
 have K3:¬((0:Int)<((B.map Al).length:Int)):=K3;have n15:¬0<B.length:=by have q:=K3;rw[Lm]at q;omega
 have eA:A=[]:=sN h1;have eB:B=[]:=sN K3;have eO:O=AX B5 a b:=by rw[←k1,eA,eB,Ts,B1]
 exact .of_eq (Ac (fun z=>sl Al z) eO)
end Go.Eng
