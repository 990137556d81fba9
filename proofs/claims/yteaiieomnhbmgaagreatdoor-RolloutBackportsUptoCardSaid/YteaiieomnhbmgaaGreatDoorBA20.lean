/- Lemmas 20. -/
import Derived.Test.YteaiieomnhbmgaaGreatDoorBA19
set_option maxHeartbeats 4000000
namespace Go.Eng
open Go.Proofs Go.Proofs.Tryz
variable {caps:List AV}{j fF:Nat}{A:A1}(s:A1)(a v:Ver)(x:Int×Int)(r:Rl)(b:Ver)(i k:Nat)
abbrev Ab6:Qz:=⟨[],[(3,0)],[(63,2)],[],[],[],[],[],[],[(112,7)],[4,6,10,11,14,16,17,18]⟩
theorem Qo:∀cs∈s.map Ag,cs.length=2:=fun cs h=>by
 grind
theorem GI{n:Nat}:∀{l:C0},(∀c∈l,c.length=n)->Bi n l
 | [],_=>trivial
 |c::_,h=>⟨h c (Af ..),GI fun d hd=>h d (Ao _ hd)⟩
abbrev N8:C0:=((s.map Ag).take (((s.map Ag).length:Nat):Int).toNat).drop ((k:Nat):Int).toNat
theorem pn:N8 s k=(s.drop k).map Ag:=by
 grind [List.take_of_length_le,List.map_drop]
theorem uv(h:s.length<=1073741824):Bi 2 (N8 s k)/\[Ag x].length=1/\([Ag x].length+(N8 s k).length)*16<=140737488355328/\[Ag x].length+(N8 s k).length<=9223372036854775807:=by
 grind [GI]
abbrev Ux:C0:=((s.map Ag).take ((k:Nat):Int).toNat).drop ((0:Int)).toNat
theorem nB:Ux s k=(s.take k).map Ag:=by
 grind [List.map_take]
theorem uw(hk:k<=s.length)(h:s.length<=1073741824):Bi 2 ([Ag x]++N8 s k)/\(Ux s k).length=((k:Nat):Int).toNat-((0:Int)).toNat/\((Ux s k).length+([Ag x]++N8 s k).length)*16<=140737488355328/\(Ux s k).length+([Ag x]++N8 s k).length<=9223372036854775807:=by
 grind [GI]
theorem AfL:Ux s k++([Ag x]++N8 s k)=(s.take k++([x]++s.drop k)).map Ag:=by
 grind [pn,nB]
theorem jV{s:A1}(h:j<s.length)(hA:A=(BI (s.take j)).reverse){y:Int×Int}(hy:A[A.length-1]?=some y)(Jr:s[j].1<=y.2):A.set (A.length-1) (y.1,max y.2 s[j].2)=(BI (s.take (j+1))).reverse:=by
 rw[Fi s j h];cases hr:BI (s.take j)with
 |nil=>simp_all
 |cons z t=>
  have eA:A=t.reverse++[z]:=by simp_all
  have eL:A.length-1=t.reverse.length:=by simp_all
  rw[eL,eA,BR (Ap _),IW]at hy;have ez:z=y:=DW hy;have e2:J8 (z::t) s[j]=(z.1,max z.2 s[j].2)::t:=by show(if s[j].1<=z.2 then _ else _)=_;simp_all
  simp_all
theorem bl{s:A1}(h:j<s.length)(hA:A=(BI (s.take j)).reverse)(hn:∀y,A[A.length-1]?=some y->¬s[j].1<=y.2):A++[s[j]]=(BI (s.take (j+1))).reverse:=by
 rw[Fi s j h];cases hr:BI (s.take j)with
 |nil=>rw[hA,hr];rfl
 |cons z t=>
  have eA:A=t.reverse++[z]:=by simp_all
  have eL:A.length-1=t.reverse.length:=by simp_all
  have:=hn z (by simp_all)
  have e2:J8 (z::t) s[j]=s[j]::z::t:=by show(if s[j].1<=z.2 then _ else _)=_;simp_all
  simp_all
theorem rl(l:A1)(hl:BJ l):PC 118 [sl Ag l] (sl Ag (canon l)):=by
 refine Ps Ab6 func118 rfl (Nz rfl) (Xi {p:Nat×A1 // p.1<=l.length/\p.2.Perm (D0 (l.take p.1))/\p.2.Pairwise fun a b=>a.1<=b.1} (Xi (fun p=>⟨[(0,sl Ag l),(3,sl Ag p.1.2),(4,vi p.1.1)],[],Ac⟩) (Xi (fun p=>l.length-p.1.1) (Yi (Xi ⟨(0,[]),Al _,.refl _,.nil⟩ ?_) ?_))))
 .exact⟨Z3,Tv,Fh,Tv⟩
 intro⟨⟨i,s⟩,i1,i2,i3⟩;have Ou:s.length<=i:=by grind [TX,List.Perm.length_eq]
 refine Yi (fun h=>?_) (fun h=>?_)
 .skip
  have h:i<l.length:=by simp_all
  have hg:l[i]?=some l[i]:=Ge h;refine Xi (Ag l[i]) (Yi (Yi ch (by simp_all)) (Yi rfl ?_));refine Xi (Ag l[i]) (Yi (Yi ch (by simp_all)) (Yi rfl ?_));refine yN (Yi Wk (Xi ⟨[(0,sl Ag l),(3,sl Ag s),(4,vi i),(5,.ref 5 0)],[(5,.cells (Ag (GU l[i])))],Ac⟩ (Yi ?_ ?_)))
  .have e0:HO.cells [vi (max 0 l[i].1),vi (min 1000000 l[i].2)]=.cells (Ag (GU l[i])):=by
    rw[Int.max_comm,Int.min_comm];rfl
   exact⟨Z4,⟨⟨e0,rfl⟩,Tv⟩,Fh,Tv⟩
  refine Yi (fun h3=>?_) (fun h3=>?_)
  .refine cU [(0,sl Ag l),(3,sl Ag s),(4,vi i)] [] Z3 Tv (Yi (by grind [Av]) ?_);have e:=TW h (show ¬(GU l[i]).1<(GU l[i]).2 by omega);refine Xi ⟨(i+1,s),by omega,by simp_all,i3⟩ ?_;exact⟨by grind,Z3,Tv,Fh,Tv⟩
  have e:=QI h (show(GU l[i]).1<(GU l[i]).2 by omega);refine Xi {k:Nat // k<=s.length/\∀j (hj:j<s.length),k<=j->(GU l[i]).1<s[j].1} (Xi (fun k=>⟨[(0,sl Ag l),(3,sl Ag s),(4,vi i),(5,.ref 5 0),(6,vi k.1)],[(5,.cells (Ag (GU l[i])))],Ac⟩) (Xi (fun k=>k.1) (Yi (Xi ⟨s.length,Ap _,fun j hj FI=>by omega⟩ ?_) ?_)))
  .have e1:vi ((s.map Ag).length:Int)=vi (s.length:Int):=by simp_all
   exact⟨⟨Zr,Zr,Zr,Zr,⟨e1,rfl⟩,Tv⟩,Z1,Fh,Tv⟩
  intro⟨k,k1,k2⟩;refine Yi (fun h4=>?_) (fun h4=>?_)
  .have h4:(0:Int)<k:=h4;refine Yi (show Av ((k:Int)-1) by grind [Av]) ?_;have hk:k-1<s.length:=by omega
   have hg:s[k-1]?=some s[k-1]:=Ge hk;have hn:((k:Int)-1).toNat=k-1:=by omega
   refine Xi (Ag s[k-1]) (Yi (Yi ch (by simp_all)) (Yi rfl ?_));refine Yi (fun h5=>?_) (fun h5=>?_)
   .refine Yi Wk (Yi (show Av ((k:Int)-1) by grind [Av]) ?_);have e1:vi ((k:Int)-1)=vi ((k-1:Nat):Int):=Aa vi ch;refine Xi ⟨k-1,by omega,fun j hj FI=>?_⟩ ?_
    .grind
    .exact⟨by grind,⟨Zr,Zr,Zr,Zr,⟨e1,rfl⟩,Tv⟩,Z1,Fh,Tv⟩
   have Qx:k=0\/∃h:k-1<s.length,s[k-1].1<=(GU l[i]).1:=.inr ⟨hk,by omega⟩;refine Yi Wk (cU [(0,sl Ag l),(3,sl Ag s),(4,vi i),(5,.ref 5 0),(6,vi k)] [(5,.cells (Ag (GU l[i])))] Z5 Z1 (Yi (show(0:Int)<=0/\(0:Int)<=k/\(k:Int)=k/\(k:Int)<=((s.map Ag).length:Nat) by simp_all) (Yi (Qo s) (yN (Yi (show(0:Int)<=k/\(k:Int)<=((s.map Ag).length:Nat)/\(((s.map Ag).length:Nat):Int)<=((s.map Ag).length:Nat) by simp_all) (Yi (Qo s) ?_))))));refine Yi (uv s (GU l[i]) k ch) (Yi (uw s (GU l[i]) k k1 ch) (Yi Wk (AX (show ∃t,t=s.take k++([GU l[i]]++s.drop k)from⟨_,rfl⟩) (fun t ht=>?_))));refine Xi ⟨[(0,sl Ag l),(3,sl Ag t),(4,vi i)],[],Ac⟩ (Yi ?_ ?_)
   .have e3:AV.slice .none (Ux s k++([Ag (GU l[i])]++N8 s k))=sl Ag t:=by grind [AfL]
    exact⟨⟨Zr,⟨e3,rfl⟩,Zr,Tv⟩,Tv,Fh,Tv⟩
   refine Yi (by grind [Av]) (Xi ⟨(i+1,t),by omega,by grind [nX],by grind [UJ]⟩ ?_);exact⟨Dl l.length i ch,Z3,Tv,Fh,Tv⟩
  .have h4:¬(0:Int)<k:=h4;have Qx:k=0\/∃h:k-1<s.length,s[k-1].1<=(GU l[i]).1:=.inl ch;refine Yi Wk (cU [(0,sl Ag l),(3,sl Ag s),(4,vi i),(5,.ref 5 0),(6,vi k)] [(5,.cells (Ag (GU l[i])))] Z5 Z1 (Yi (show(0:Int)<=0/\(0:Int)<=k/\(k:Int)=k/\(k:Int)<=((s.map Ag).length:Nat) by omega) (Yi (Qo s) (yN (Yi (show(0:Int)<=k/\(k:Int)<=((s.map Ag).length:Nat)/\(((s.map Ag).length:Nat):Int)<=((s.map Ag).length:Nat) by omega) (Yi (Qo s) ?_))))));refine Yi (uv s (GU l[i]) k ch) (Yi (uw s (GU l[i]) k k1 ch) (Yi Wk (AX (show ∃t,t=s.take k++([GU l[i]]++s.drop k)from⟨_,rfl⟩) (fun t ht=>?_))));refine Xi ⟨[(0,sl Ag l),(3,sl Ag t),(4,vi i)],[],Ac⟩ (Yi ?_ ?_)
   .have e3:AV.slice .none (Ux s k++([Ag (GU l[i])]++N8 s k))=sl Ag t:=by grind
    exact⟨⟨Zr,⟨e3,rfl⟩,Zr,Tv⟩,Tv,Fh,Tv⟩
   refine Yi (Ii i ch) (Xi ⟨(i+1,t),by omega,by grind,by show t.Pairwise _;rw[ht];exact UJ s _ k i3 k2 Qx⟩ ?_);exact⟨Dl l.length i ch,Z3,Tv,Fh,Tv⟩
 .skip
  have h:¬i<l.length:=by simp_all
  have fin:(BI s).reverse=canon l:=L5 (by grind) i3;refine cU [(3,sl Ag s)] [] Z1 Tv (Xi {p:Nat×A1 // p.1<=s.length/\p.2=(BI (s.take p.1)).reverse} (Xi (fun p=>⟨[(3,sl Ag s),(7,.msl 63 p.1.2.length),(8,vi p.1.1)],[(63,GQ p.1.2)],Ac⟩) (Xi (fun p=>s.length-p.1.1) (Yi (Xi ⟨(0,[]),Al _,rfl⟩ ?_) ?_))))
  .exact⟨Z3,Z1,Fh,Tv⟩
  intro⟨⟨j,A⟩,j1,hA⟩;have j1:j<=s.length:=j1;have hA:A=(BI (s.take j)).reverse:=hA;have hAl:A.length<=j:=by grind [OD]
  refine Yi (fun h2=>?_) (fun h2=>?_)
  .have h2:(j:Int)<((s.map Ag).length:Int):=h2;have h2:j<s.length:=by simp_all
   have hgj:s[j]?=some s[j]:=Ge h2;refine cU [(3,sl Ag s),(7,.msl 63 A.length),(8,vi j),(9,vi A.length)] [(63,GQ A)] Z4 Z1 (Yi (fun h3=>?_) (fun h3=>?_))
   .have h3:(0:Int)<A.length:=h3;have wL:Av ((A.length:Int)-1):=by grind [Av]
    have hn:((A.length:Int)-1).toNat=A.length-1:=by omega
    have lB:(0:Int)<=(A.length:Int)-1/\(A.length:Int)-1<(A.length:Int):=by omega
    have E3:A.length-1<A.length:=by omega
    have hg:A[A.length-1]?=some A[A.length-1]:=Ge E3;have yQ:(A.map Ag)[((A.length:Int)-1).toNat]?=some (Ag A[A.length-1]):=by rw[hn];grind
    have hln:A.length=(A.map Ag).length:=by simp_all
    have hsj:(0:Int)<=j/\(s.map Ag)[((j:Nat):Int).toNat]?=some (Ag s[j]):=⟨by omega,by simp_all⟩;refine Xi (Ag s[j]) (Yi hsj (Yi rfl (Yi wL (Yi lB (Yi hln (Xi (Ag A[A.length-1]) (Yi yQ (Yi (fun h4=>?_) (fun h4=>?_)))))))))
    .have h4:s[j].1<=A[A.length-1].2:=h4;refine Yi Wk (cU [(3,sl Ag s),(7,.msl 63 A.length),(8,vi j),(9,vi A.length)] [(63,GQ A)] Z4 Z1 (Yi wL (Yi wL (Yi lB (Yi hln (Xi (Ag A[A.length-1]) (Yi yQ (Xi (Ag s[j]) (Yi hsj (Yi rfl (Yi lB (Yi hln (Xi (Ag A[A.length-1]) (Yi yQ (yN (Yi Wk (AX (show ∃B,B=A.set (A.length-1) (A[A.length-1].1,max A[A.length-1].2 s[j].2)from⟨_,rfl⟩) (fun B hB=>?_))))))))))))))))));have e2:HO.arr 2 ((A.map Ag).set ((A.length:Int)-1).toNat [vi A[A.length-1].1,vi (max A[A.length-1].2 s[j].2)])=GQ B:=by simp_all
     have e1:AV.msl 63 A.length=.msl 63 B.length:=by simp_all
     refine cU [(3,sl Ag s),(7,.msl 63 B.length),(8,vi j)] [(63,GQ B)] ⟨Zr,⟨e1,rfl⟩,Zr,Tv⟩ ⟨⟨e2,rfl⟩,Tv⟩ (Yi (Ii j ch) (Xi ⟨(j+1,B),by omega,by rw[hB];exact jV h2 hA hg h4⟩ ?_));exact⟨by grind,Z3,Z1,Fh,Tv⟩
    have h4:¬s[j].1<=A[A.length-1].2:=h4;have hjn:A++[s[j]]=(BI (s.take (j+1))).reverse:=bl h2 hA fun y hy=>by
     simp_all
    refine Yi Wk (cU [(3,sl Ag s),(7,.msl 63 A.length),(8,vi j),(9,vi A.length)] [(63,GQ A)] Z4 Z1 (Xi (Ag s[j]) (Yi hsj (Yi rfl (yN ?_)))));have FZ:Bi 2 [Ag s[j]]/\(A.map Ag).length=A.length/\((A.map Ag).length+[Ag s[j]].length)*16<=140737488355328/\(A.map Ag).length+[Ag s[j]].length<=9223372036854775807:=
     ⟨⟨rfl,trivial⟩,by omega,by rw[Lm,DJ];omega,by rw[Lm,DJ];omega⟩
    refine Yi FZ (AX (show ∃B,B=A++[s[j]]from⟨_,rfl⟩) (fun B hB=>?_));have e1:AV.msl 63 ((A.map Ag).length+[Ag s[j]].length)=.msl 63 B.length:=by rw[hB];simp
    have e2:HO.arr 2 (A.map Ag++[Ag s[j]])=GQ B:=by rw[hB];simp
    refine cU [(3,sl Ag s),(7,.msl 63 B.length),(8,vi j)] [(63,GQ B)] ⟨Zr,⟨e1,rfl⟩,Zr,Tv⟩ ⟨⟨e2,rfl⟩,Tv⟩ (Yi (Ii j ch) (Xi ⟨(j+1,B),by omega,by simp_all⟩ ?_));exact⟨by grind,Z3,Z1,Fh,Tv⟩
   .have h3:¬(0:Int)<A.length:=h3;have hsj:(0:Int)<=j/\(s.map Ag)[((j:Nat):Int).toNat]?=some (Ag s[j]):=⟨by omega,by simp_all⟩;have hjn:A++[s[j]]=(BI (s.take (j+1))).reverse:=bl h2 hA fun y hy=>by
     simp_all
    refine Yi Wk (cU [(3,sl Ag s),(7,.msl 63 A.length),(8,vi j),(9,vi A.length)] [(63,GQ A)] Z4 Z1 (Xi (Ag s[j]) (Yi hsj (Yi rfl (yN ?_)))));have FZ:Bi 2 [Ag s[j]]/\(A.map Ag).length=A.length/\((A.map Ag).length+[Ag s[j]].length)*16<=140737488355328/\(A.map Ag).length+[Ag s[j]].length<=9223372036854775807:=
     ⟨⟨rfl,trivial⟩,by simp_all,by simp_all,by simp_all⟩
    refine Yi FZ (AX (show ∃B,B=A++[s[j]]from⟨_,rfl⟩) (fun B hB=>?_));have e1:AV.msl 63 ((A.map Ag).length+[Ag s[j]].length)=.msl 63 B.length:=by grind
    have e2:HO.arr 2 (A.map Ag++[Ag s[j]])=GQ B:=by grind
    refine cU [(3,sl Ag s),(7,.msl 63 B.length),(8,vi j)] [(63,GQ B)] ⟨Zr,⟨e1,rfl⟩,Zr,Tv⟩ ⟨⟨e2,rfl⟩,Tv⟩ (Yi (Ii j ch) (Xi ⟨(j+1,B),by omega,by grind⟩ ?_));exact⟨by grind,Z3,Z1,Fh,Tv⟩
  .have h2:¬(j:Int)<((s.map Ag).length:Int):=h2;have h2:¬j<s.length:=by simp_all
   refine Yi (by simp_all) ?_;exact .of_eq (Aa (sl Ag) (show A=canon l by grind))
theorem rL:zf:=rl
theorem vX(s:CS):PC 237 [vs s] (vb (Ej s)):=by
 refine Ps C3 func237 rfl (Nz rfl) (Yi (fun h=>?_) (fun h=>?_))
 .exact .of_eq (Aa vb (show true=Ej s by grind [Ej]))
 refine Yi (fun h2=>?_) (fun h2=>?_)
 .exact .of_eq (Aa vb (show true=Ej s by grind [Ej]))
 exact .of_eq (Aa vb (show false=Ej s by grind [Ej]))
def M0:Nat->Int
 |0=>v.a
 |1=>v.b
 |_=>v.c
abbrev fC:C0:=[[vi v.a],[vi v.b],[vi v.c]]
theorem Qr(h:i<3):(fC v)[((i:Nat):Int).toNat]?=some [vi (M0 v i)]:=by
 rw[Dq]
 match i,h with
 |0,_=>rfl
 |1,_=>rfl
 |2,_=>rfl
theorem my(hi:i<3)(h:∀j,j<i->M0 a j=M0 b j)(hl:M0 a i<M0 b i):Io a b=-1:=by
 match i,hi,h,hl with
 |0,_,h,hl=>
  have hl:a.a<b.a:=hl
  grind [Io,Fu]
 |1,_,h,hl=>
  have hl:a.b<b.b:=hl;have h0:a.a=b.a:=h 0 ch
  grind [Io,Fu]
 |2,_,h,hl=>
  have hl:a.c<b.c:=hl;have h0:a.a=b.a:=h 0 ch;have h1:a.b=b.b:=h 1 ch
  grind [Io,Fu]
theorem mw(hi:i<3)(h:∀j,j<i->M0 a j=M0 b j)(hl:M0 b i<M0 a i):Io a b=1:=by
 match i,hi,h,hl with
 |0,_,h,hl=>
  have hl:b.a<a.a:=hl
  grind [Io,Fu]
 |1,_,h,hl=>
  have hl:b.b<a.b:=hl;have hn:¬a.b<b.b:=by omega
  have h0:a.a=b.a:=h 0 ch
  grind [Io,Fu]
 |2,_,h,hl=>
  have hl:b.c<a.c:=hl;have hn:¬a.c<b.c:=by omega
  have h0:a.a=b.a:=h 0 ch;have h1:a.b=b.b:=h 1 ch
  grind [Io,Fu]
theorem mu(h:∀j,j<3->M0 a j=M0 b j):Io a b=0:=by
 have h0:a.a=b.a:=h 0 ch;have h1:a.b=b.b:=h 1 ch;have h2:a.c=b.c:=h 2 ch
 grind [Io,Fu]
theorem AdI:PC 238 [.agg (CC a),.agg (CC b)] (vi (Io a b)):=by
 refine Ps (Hx []) func238 rfl (Nz rfl) (Xi {i:Nat // i<=3/\∀j,j<i->M0 a j=M0 b j} (Xi (fun i=>⟨[(5,.slice (.id 14 1) (fC a)),(6,.slice (.id 21 1) (fC b)),(7,vi i.1)],[(14,.tok 1 3),(21,.tok 1 3)],Ac⟩) (Xi (fun i=>3-i.1) (Yi (Xi ⟨0,Al _,fun j h=>by omega⟩ ?_) ?_))))
 .exact⟨Z3,Z2,Fh,Tv⟩
 intro⟨i,i1,i2⟩;refine Yi (fun h=>?_) (fun h=>?_)
 .have h:(i:Int)<3:=h;have h:i<3:=by omega
  refine Xi [vi (M0 a i)] (Yi (Yi ch (Qr a i h)) (Yi rfl (Xi [vi (M0 b i)] (Yi (Yi ch (Qr b i h)) (Yi rfl (Yi (fun h2=>?_) (fun h2=>?_)))))))
  .refine Yi Wk ?_;exact .of_eq (Aa vi (my a b i h i2 h2).symm)
  refine Yi Wk (Xi [vi (M0 a i)] (Yi (Yi ch (Qr a i h)) (Yi rfl (Xi [vi (M0 b i)] (Yi (Yi ch (Qr b i h)) (Yi rfl (Yi (fun h3=>?_) (fun h3=>?_))))))))
  .refine Yi Wk ?_;exact .of_eq (Aa vi (mw a b i h i2 h3).symm)
  refine Yi Wk (Yi (by grind [Av]) (Xi ⟨i+1,by omega,fun j hj=>?_⟩ ?_))
  .grind
  exact⟨by grind,Z3,Z2,Fh,Tv⟩
 .have h:¬(i:Int)<3:=h;exact .of_eq (Aa vi (mu a b fun j hj=>i2 j ch).symm)
theorem zx(a b:Rl):PC 173 [.agg (Ah a),.agg (Ah b)] (vi (BU a b)):=by
 have hc:=AdI a.ver b.ver;refine Ps C3 func173 rfl (Nz rfl) (Yi (fun h=>?_) (fun h=>?_))
 .exact .of_eq (Aa vi (show(-1:Int)=BU a b by grind [BU,IY,Ec]))
 refine Yi (fun h2=>?_) (fun h2=>?_)
 .exact .of_eq (Aa vi (show(1:Int)=BU a b by grind [BU,IY,Ec]))
 refine Yi (Nz rfl) (yN (C1 (C2 (hc) ?_)));exact .of_eq (Aa vi (show Io a.ver b.ver=BU a b by grind [BU,IY,Ec]))
theorem o70(hs:Ch caps)(l:List (Sl))(p:Sl->Bool)(hF:∀x∈l,PC fF ([.agg (Ab x)]++caps) (vb (p x)))(hl:l.length<9223372036854775807) :
  PC 108 [sl Ab l,.clo fF caps] (vi (Je p l 0)):=by
 refine Ps C3 func108 rfl (Nz rfl) (Xi {i:Nat // i<=l.length/\∀j (hj:j<l.length),j<i->p l[j]=false} (Xi (fun i=>⟨[(0,sl Ab l),(1,.clo fF caps),(7,vi (l.map Ab).length),(8,vi i.1)],[],Ac⟩) (Xi (fun i=>l.length-i.1) (Yi (Xi ⟨0,by simp⟩ ?_) ?_))))
 .exact⟨⟨Zr,⟨rfl,hs.ids _⟩,Zr,Zr,Tv⟩,Tv,Fh,Tv⟩
 .intro⟨i,h1,h2⟩;refine Yi ?_ ?_
  .intro h;have h:i<l.length:=by simp_all
   have hg:l[i]?=some l[i]:=Ge h;refine Xi (Ab l[i]) (Yi (Yi ch (by simp_all)) (Yi rfl (yN ?_)));have BV:∀h,PC fF ([.agg (Ab l[i])]++caps.map (str0 h)) (vb (p l[i])):=fun h=>by rw[hs.map];simp_all
   cases hp:p l[i]with
   |true=>
    rw[hp]at BV;refine Xi .pure (Xi (vb true) (Yi (BV _) ?_));rw[Hh h (fun j hj FI=>h2 j hj FI) hp,Em];exact .refl _
   |false=>
    rw[hp]at BV;refine Xi .pure (Xi (vb false) (Yi (BV _) (Yi (by grind [Av]) (Xi ⟨i+1,by omega,fun j hj FI=>?_⟩ ?_))))
    .grind
    .exact⟨by grind,⟨Zr,⟨rfl,hs.ids _⟩,Zr,Zr,Tv⟩,Tv,Fh,Tv⟩
  .intro h;have h:¬i<l.length:=by simp_all
   rw[F3 fun j hj=>h2 j hj ch];exact .refl _
theorem o25(hs:Ch caps)(l:List (Sl))(p:Sl->Bool)(hF:∀x∈l,PC fF ([.agg (Ab x)]++caps) (vb (p x)))(hl:BJ l) :
  PC 79 [sl Ab l,.clo fF caps] (vb (l.any p)):=by
 refine Ps C3 func79 rfl (Nz rfl) ?_;have hi:=o70 hs l p hF ch;have BV:∀h,PC 108 [sl Ab l,.clo fF (caps.map (str0 h))] (vi (Je p l 0)):=fun h=>by grind [Ch.map]
 refine C1 (C2 (BV _) ?_);have ha:=Hc (p:=p) l 0 (Bv 0);refine Yi ?_ ?_
 .intro h;rw[<-ha,At h];exact .refl _
 .intro h;rw[<-ha,Aj h];exact .refl _
def jk(a b:Sl):Int:=if IY a.path b.path≠0 then IY a.path b.path else Io a.ver b.ver
theorem Adw(hr:CT r):PC 172 [.agg (Ah r)] (vi (CI r)):=by
 have h1:=nf r.path hr.1;have h2:=md r.ver;have h3:=c68 nf rL r.reqs hr.2;have h4:=vX r.arch;have h5:=vX r.ifc;have h6:=vX r.cert;obtain⟨N,hN⟩:∃N,N=CI r:=⟨_,rfl⟩;rw[<-hN];refine Ps C3 func172 rfl (Nz rfl) (C1 (C2 (h1) (Yi (fun h=>?_) (fun h=>?_))))
 .exact .of_eq (Aa vi (show(4:Int)=N by
   grind [br,CI]))
 refine AX (show ∃m,A5 r.path=some m by
  grind) (fun m hp=>?_)
 have em:kb r.path=m:=by grind
 have hN:N=if !Be r.ver||!decide (r.ver.a=m)then 2 else if AR r.reqs≠0 then AR r.reqs else if Ej r.arch&&Ej r.ifc&&Ej r.cert then 0 else 1:=by
  grind [CI]
 refine yN (AN (Bt (Be r.ver)).symm (fun e=>?_) (fun e=>?_))
 .rw[e]at h2;refine C1 (C2 (h2) ?_);exact .of_eq (Aa vi (show(2:Int)=N by simp_all))
 rw[e]at h2;refine C1 (C2 (h2) (Yi (fun h7=>?_) (fun h7=>?_)))
 .exact .of_eq (Aa vi (show(2:Int)=N by simp_all))
 have hN:N=if AR r.reqs≠0 then AR r.reqs else if Ej r.arch&&Ej r.ifc&&Ej r.cert then 0 else 1:=by
  simp_all
 refine C1 (C2 (h3) (Yi (fun h8=>?_) (fun h8=>?_)))
 .exact .of_eq (Aa vi (show AR r.reqs=N by omega))
 have hN:N=if Ej r.arch&&Ej r.ifc&&Ej r.cert then 0 else 1:=by omega
 refine AN (Bt (Ej r.arch)).symm (fun e1=>?_) (fun e1=>?_)
 .rw[e1]at h4;refine C1 (C2 (h4) ?_);exact .of_eq (Aa vi (show(1:Int)=N by simp_all))
 rw[e1]at h4;refine C1 (C2 (h4) (AN (Bt (Ej r.ifc)).symm (fun e2=>?_) (fun e2=>?_)))
 .rw[e2]at h5;refine C1 (C2 (h5) ?_);exact .of_eq (Aa vi (show(1:Int)=N by simp_all))
 rw[e2]at h5;refine C1 (C2 (h5) (AN (Bt (Ej r.cert)).symm (fun e3=>?_) (fun e3=>?_)))
 .rw[e3]at h6;refine C1 (C2 (h6) ?_);exact .of_eq (Aa vi (show(1:Int)=N by simp_all))
 rw[e3]at h6;refine C1 (C2 (h6) ?_);exact .of_eq (Aa vi (show(0:Int)=N by simp_all))
theorem T0{a b:Rl}(h:EL a=EL b):BU a b=0:=by
 grind [Xl,BU,IY,Io,Fu,Dk]
theorem yH(x:List Rl)(ifs:C0)(hs:∀r∈x,CT r):PC 113 [Fr x ifs] (vi (AC x)):=by
 refine Ps (Hx []) func113 rfl (Nz rfl) (AX (show ∃N,N=AC x from⟨_,rfl⟩) (fun N hN=>?_));refine Yi (fun h=>?_) (fun h=>?_)
 .exact .of_eq (Aa vi (show(7:Int)=AC x by grind [AC]))
 have hl:x.length<=256:=by grind
 have Uw:AC x=Cb none x:=by grind [AC]
 refine Xi {i:Nat // i<=x.length/\Cb none x=Cb (Yj x i) (x.drop i)} (Xi (fun i=>⟨[(3,sl Ah x),(4,vi i.1)],[],Ac⟩) (Xi (fun i=>x.length-i.1) (Yi (Xi ⟨0,Al _,rfl⟩ ?_) ?_)))
 .exact⟨Z2,Tv,Fh,Tv⟩
 intro⟨i,h1,h2⟩;refine Yi (fun h=>?_) (fun h=>?_)
 .skip
  have h:i<x.length:=by simp_all
  have hg:x[i]?=some x[i]:=Ge h;have hd:x.drop i=x[i]::x.drop (i+1):=A2 h;have hc:=Adw x[i] (hs x[i] (Ae h));have JO:Cb none x=if CI x[i]≠0 then CI x[i]else match Yj x i with
   |none=>Cb (some x[i]) (x.drop (i+1))
   |some b=>if EL b=EL x[i]then 5 else if 0<BU b x[i]then 1 else Cb (some x[i]) (x.drop (i+1)):=by rw[h2,hd];rfl
  have uO:Yj x (i+1)=some x[i]:=Ge h;refine Xi (Ah x[i]) (Yi (Yi ch (by grind)) (Yi rfl (yN (C1 (C2 (hc) (Yi (fun h3=>?_) (fun h3=>?_)))))))
  .exact .of_eq (Aa vi (show CI x[i]=AC x by omega))
  rw[Az h3]at JO;refine Yi (fun h4=>?_) (fun h4=>?_)
  .have h4:(0:Int)<i:=h4;have hk:i-1<x.length:=by omega
   have gD:x[i-1]?=some x[i-1]:=Ge hk;have hn:((i:Int)-1).toNat=i-1:=by omega
   have hb:Yj x i=some x[i-1]:=by
    grind
   rw[hb]at JO;have JO:Cb none x=if EL x[i-1]=EL x[i]then 5 else if 0<BU x[i-1] x[i]then 1 else Cb (some x[i]) (x.drop (i+1)):=JO
   have aM:=zx x[i-1] x[i];have SJ:(0:Int)<=(i:Int)-1/\(x.map Ah)[((i:Int)-1).toNat]?=some (Ah x[i-1]):=⟨by omega,by rw[hn];grind⟩;refine Yi (show Av ((i:Int)-1) by unfold Av;omega) (Xi (Ah x[i-1]) (Yi SJ (Yi rfl (yN (Xi (Ah x[i]) (Yi (Yi ch (by simp[hg])) (Yi rfl ?_)))))));refine yN (C2 (aM) (Yi (fun h5=>?_) (fun h5=>?_)))
   .have h5:BU x[i-1] x[i]=0:=h5;refine Yi Wk ?_;exact .of_eq (Aa vi (show(5:Int)=AC x by rw[Uw,JO,Ay (QJ h5)]))
   have h5:¬BU x[i-1] x[i]=0:=h5;refine Yi Wk (Yi (fun _=>?_) (fun h9=>absurd h4 h9));refine Yi (show Av ((i:Int)-1) by unfold Av;omega) (Xi (Ah x[i-1]) (Yi SJ (Yi rfl (yN (Xi (Ah x[i]) (Yi (Yi ch (by simp[hg])) (Yi rfl ?_)))))));refine yN (C2 (aM) (Yi (fun h6=>?_) (fun h6=>?_)))
   .have h6:0<BU x[i-1] x[i]:=h6;refine Yi Wk ?_;exact .of_eq (Aa vi (show(1:Int)=AC x by rw[Uw,JO,Az (fun e=>h5 (T0 e)),Ay h6]))
   have h6:¬0<BU x[i-1] x[i]:=h6;refine Yi Wk (Yi (Ii i ch) (Xi ⟨i+1,by omega,by rw[JO,Az (fun e=>h5 (T0 e)),Az h6,uO]⟩ ?_));exact⟨Dl x.length i ch,Z2,Tv,Fh,Tv⟩
  have h4:¬(0:Int)<i:=h4;have hb:Yj x i=none:=by
   grind
  rw[hb]at JO;have JO:Cb none x=Cb (some x[i]) (x.drop (i+1)):=JO;refine Yi Wk (Yi (fun h9=>absurd h9 h4) (fun _=>?_));refine Yi Wk (Yi (by grind [Av]) (Xi ⟨i+1,by omega,by grind⟩ ?_));exact⟨by grind,Z2,Tv,Fh,Tv⟩
 .skip
  have h:¬(i:Int)<(x.map Ah).length:=h;have h:¬i<x.length:=by simp_all
  have e:(0:Int)=AC x:=by rw[Uw,h2,KW ch];rfl
  exact .of_eq (Aa vi e)
abbrev Aek:Sl->Sl->Int:=fun a b=>IY a.path b.path
theorem ab{a b:CS}:IY a b<0↔Dz a b=true:=by
 unfold IY
 by_cases h:Dz a b=true
 .rw[Ay h];simp[h]
 .rw[Az h];split<;>simp[h]
theorem TY{a b:CS}:IY a b=0↔a=b:=by
 unfold IY;constructor
 .intro h;split at h
  .cases h
  .rename_i h1;split at h
   .cases h
   .rename_i h2;exact GJ (by simpa using h1) (by simpa using h2)
 .rintro rfl
  rw[Az (by rw[Dk];decide),Az (by rw[Dk];decide)]
abbrev kept{α:Type}(p:α->Bool)(l:List α):List α:=l.filter fun x=>!p x
abbrev OY:Sl:=⟨r.path,r.ver⟩
theorem o46(ifs:C0)(hl:BJ ifs)(hs:∀c∈ifs,c.length=5):PC 103 [.slice .none ifs] (.slice .none ifs):=by
 refine Ps C3 func103 rfl (Nz rfl) ?_;have FZ:Bi 5 ifs/\([]:C0).length=0/\(([]:C0).length+ifs.length)*112<=140737488355328/\([]:C0).length+ifs.length<=9223372036854775807:=by
  grind [GI]
 refine Yi ?_ ?_
 .intro _;exact Yi FZ (.refl _)
 .intro h;refine Yi ?_ ?_
  .show BM BE (.slice .none ifs)
   grind [BM.nil]
  .exact Yi FZ (.refl _)
end Go.Eng
namespace Go.Eng
variable {α:Type}{l:List α}{a b:Int}
structure OC{α β:Type}(c:α->α->Int)(R:α->α->Prop)(key:α->β):Prop where
 lt:∀a b,c a b<0↔R a b
 eq:∀a b,c a b=0↔key a=key b
 tr:∀a b d,R a b->R b d->R a d
 irr:∀a b,key a=key b->¬R a b
 tri:∀a b,¬R a b->key a≠key b->R b a
 cl:∀a b d,key a=key b->R a d->R b d
section
variable {α β:Type}{c:α->α->Int}{R:α->α->Prop}{key:α->β}
theorem QX(h:OC c R key){a:List α}(ha:a.Pairwise R):(a.map key).Nodup:=by
 unfold List.Nodup;rw[RL];exact ha.imp fun q e=>h.irr _ _ e q
end
/-! The three comparisons. -/
def ltS(a b:Sl):Prop:=Dz a.path b.path=true\/(a.path=b.path/\oh a.ver b.ver)
abbrev Xp(a b:Sl):Prop:=Dz a.path b.path=true
theorem TZ:Fu a b<0↔a<b:=by
 grind [Fu]
theorem JK:Fu a b=0↔a=b:=by
 grind [Fu]
theorem mA{a b:Ver}:Io a b<0↔oh a b:=by
 refine⟨fX,fun h=>?_⟩;unfold Io;rcases h with h | ⟨h1,h | ⟨h2,h⟩⟩
 .rw[Ay (fun c=>by grind [JK])];exact TZ.2 h
 .rw[Az (fun c=>c (JK.2 h1)),Ay (fun c=>by grind [JK])];exact TZ.2 h
 .rw[Az (fun c=>c (JK.2 h1)),Az (fun c=>c (JK.2 h2))];exact TZ.2 h
theorem MF{a b:Sl}:jk a b<0↔ltS a b:=by
 grind [jk,ltS,TY,mA,Dk,ab]
theorem sE{a b:Sl}(h:¬ltS a b)(hk:a≠b):ltS b a:=by
 unfold ltS at *
 by_cases e:a.path=b.path
 .refine .inr ⟨e.symm,?_⟩;have h2:¬oh a.ver b.ver:=fun q=>h (.inr ⟨e,q⟩);have h3:a.ver≠b.ver:=fun q=>hk (by cases a<;>simp_all)
  unfold oh at *
  by_cases q1:a.ver.a=b.ver.a
  .by_cases q2:a.ver.b=b.ver.b
   .by_cases q3:a.ver.c=b.ver.c
    .exact absurd (by cases ha:a.ver<;>simp_all) h3
    .omega
   .omega
  .omega
 grind [GJ]
theorem ocP:OC Aek Xp (fun s:Sl=>s.path) where
 lt _ _:=ab
 eq _ _:=TY
 tr _ _ _:=Ds
 irr a b e h:=by grind [Dk]
 tri a b h e:=by
  grind [GJ]
 cl a b d e h:=by grind
/-! Pins. -/
theorem eI{β:Type}{f:α->β}(h:(l.map f).Nodup):l.Nodup:=by
 grind [List.Pairwise.imp]
/-! What the reference makes of a list. -/
theorem DU{i:Nat}(h:i<l.length):l.take (i+1)=l.take i++[l[i]]:=By h
end Go.Eng
namespace Go.Eng
open Go.Proofs
variable {α:Type}{i:Nat}(l m:List Sl)(p:CS)
def gq(r:Rl):Bool:=decide (r.path=p)&&!r.yanked
def AbL(r:Rl):Int×Int:=(plc r.ver,plc r.ver+1)
theorem jb{x:List Rl}{p:CS}(h:AC x=0):B6 x p=canon ((x.filter (gq p)).map AbL):=by
 unfold B6 LR;rw[Az (not_not_intro h),List.filter_filter]
 congr 3
 grind [gq]
theorem LD{enc:α->List AV}{n:Nat}(h:∀x,(enc x).length=n)(l:List α):∀cs∈l.map enc,cs.length=n:=fun cs hc=>by
 grind
theorem Xy(o:Option α):(∃x,o=some x)\/o=none:=by
 cases o<;>simp_all
structure Mv where
 path:CS
 a:Int
 b:Int
abbrev G4(m:Mv):List AV:=[vs m.path,vi m.a,vi m.b]
abbrev plP(s:Sl):Value×AV:=(.string s.path,vi (place s.ver))
abbrev H3:List (Value×AV):=l.map plP
def JD:Int:=match Bg l p with | some s=>place s.ver | none=>-1
def MV:Option Mv:=if JD l p≠JD m p then some ⟨p,JD l p,JD m p⟩else none
abbrev I1(ps:List CS):List Mv:=ps.filterMap (MV l m)
structure Ho(l:List Sl):Prop where
 few:BJ l
 val:∀s∈l,Be s.ver=true
 inc:l.Pairwise Xp
theorem Ho.step{l:List Sl}(h:Ho l)(hi:i<l.length)(h0:0<i):Dz (l[i-1]' ch).path l[i].path=true:=(Bo.1 h.inc) (i-1) i ch hi ch
theorem xw{l:List Sl}(h:Ho l)(hi:i<l.length):∀b,(Value.string l[i].path,b)∉H3 (l.take i):=fun b hb=>by
 obtain⟨s,hs,e⟩:=Ax.1 hb;obtain⟨j,hj,rfl⟩:=Cw.1 hs;rw[List.getElem_take]at e;rw[AD]at hj;have q:=(Bo.1 h.inc) j i ch hi ch
 grind [Dk]
theorem xy{l:List Sl}(h:Ho l){p:CS}{a:AV}(ha:(Value.string p,a)∈H3 l):a=vi (JD l p):=by
 grind [JD,JM,QX,ocP,Ho.inc]
theorem xz{l:List Sl}{p:CS}(h:∀a,(Value.string p,a)∉H3 l):JD l p=-1:=by
 unfold JD;rw[show Bg l p=none from List.find?_eq_none.2 fun s hs e=>h _ (Ax.2 ⟨s,hs,by rw[<-AW e]⟩)]
theorem gP{l m:List Sl}{ps:List CS}{k:Nat}(h:k<ps.length):I1 l m (ps.take (k+1))=I1 l m (ps.take k)++(MV l m ps[k]).toList:=by
 grind [DU]
theorem sY(hl:Ho l):AP Tryz.prog 181 [sl Ab l] (Ai [] Ac) fun r h'=>r=.tup [.mref 2000,vb true]/\h'=Ai [(2000,.map B4 (H3 l))] Ac:=by
 have hfl:l.length<=1073741824:=hl.few;refine BO (LB C3) [(9,2000)] rfl Ck hm rfl Tryz.func181 Wk rfl (Nz rfl) Wk rfl (Xi {q:Nat // q<=l.length} (Xi (fun q=>⟨[(0,sl Ab l),(4,.mref 9),(10,sl Ab l),(11,vi (l.map Ab).length),(12,vi q.1)],[(9,.map B4 (H3 (l.take q.1)))],Ac⟩) (Xi (fun q=>l.length-q.1) (Yi (Xi ⟨0,Al _⟩ ?_) ?_))))
 .exact⟨Z5,Z1,Fh,A4 Wk⟩
 intro⟨i,i1⟩;refine Yi (fun h1=>?_) (fun h1=>?_)
 .have h1:(i:Int)<((l.map Ab).length:Int):=h1;have n1:=DK h1;refine Xi (Ab l[i]) (Yi (FJ n1) (Yi rfl (yN (yN (yN (C1 (C2 (by have q:=yF l[i].ver;rw[Ay (hl.val _ (Ae n1)),Ay (hl.val _ (Ae n1))]at q;exact q) ?_)))))));refine Yi (fun h=>absurd h Cl) (fun _=>?_);refine Yi (fun h2=>?_) (fun h2=>?_)
  .have h2:(0:Int)<(i:Int):=h2;refine Yi (by grind [Av]) ?_;have uK:0<i:=by omega
   refine Xi (Ab (l[i-1])) (Yi (Yi (show(0:Int)<=(i:Int)-1 by omega) (by rw[show((i:Int)-1).toNat=i-1 by omega];grind)) (Yi rfl ?_));refine Yi (fun h3=>?_) (fun h3=>?_)
   .have h3:Dz (l[i-1]).path l[i].path=false:=(Ec _ _).trans h3;exact absurd (hl.step n1 uK) (by simp_all)
   refine Yi Wk (Yi (by grind [Av]) (Xi ⟨i+1,n1⟩ ?_));exact⟨by grind,Z5,⟨⟨(show HO.map B4 (EM (H3 (l.take i)) (.string l[i].path) (vi (place l[i].ver)))=.map B4 (H3 (l.take (i+1))) by grind [Ir,xw,DU]),rfl⟩,Tv⟩,Fh,A4 Wk⟩
  refine Yi Wk (Yi (by grind [Av]) (Xi ⟨i+1,n1⟩ ?_));exact⟨by grind,Z5,⟨⟨(show HO.map B4 (EM (H3 (l.take i)) (.string l[i].path) (vi (place l[i].ver)))=.map B4 (H3 (l.take (i+1))) by grind [Ir,DU]),rfl⟩,Tv⟩,Fh,A4 Wk⟩
 have h1:¬((i:Int)<((l.map Ab).length:Int)):=h1;have n1:=B5 h1;have ei:l.take i=l:=Au ch;exact C2 (.refl _) ⟨rfl,show Ai [(2000,HO.map B4 (H3 (l.take i)))] Ac=Ai [(2000,.map B4 (H3 l))] Ac by rw[ei]⟩
theorem Ab4(hl:Ho l):PC 182 [.cmap B4 (H3 l),vs p] (vi (JD l p)):=by
 refine Ps C3 Tryz.func182 rfl (Nz rfl) (Yi (fun a ha=>?_) (fun OX=>?_))
 .have ea:=xy hl ha;subst ea;exact .refl _
 exact .of_eq (show vi (-1)=vi (JD l p) by rw[xz OX])
theorem o75(t:List CS)(hl:Ho l)(hm2:Ho m)(hfs:l.length+m.length<=1073741824)(Ek:l++m≠[])(hp:t.Perm ((l++m).map (·.path)))(ht:(t.map K4).Pairwise fun a b=>a<=b):PC 130 [sl Ab l,sl Ab m] (.tup [sl G4 (I1 l m (Ce t)),vi 0]):=by
 obtain⟨LM,hLM⟩:∃LM,LM=l++m:=⟨_,rfl⟩;have hm:=hm2;rw[<-hLM]at hp;have hLl:LM.length=l.length+m.length:=by simp_all
 refine FD (jr ⟨[],[(14,3)],[(10,1)],[(34,[12000,12500])],[],[],[],[],[],[],[6,7,8,9,11,13,14,15,16,17,18,19,21]⟩) rfl Ck Go.Eng.hm rfl Tryz.func130 Wk rfl (Nz rfl) Wk (Xi (.gen [] 1) (Yi rfl (AP.to2 (sY l hl) ?_)));refine Xi (.gen [] 1) (Yi rfl (AP.to2 (sY m hm) ?_));refine cU [(0,sl Ab l),(1,sl Ab m),(6,.mref 12000),(8,.mref 12500),(10,.msl 10 0)] [(10,.arr 1 []),(12000,.map B4 (H3 l)),(12500,.map B4 (H3 m))] Z5 Z3 (Xi (.gen [] 1) (Yi rfl (AP.to2 (wj l hl.few) ?_)));have b4:Bi 4 (m.map Ab)/\(l.map Ab).length=(l.map Ab).length/\((l.map Ab).length+(m.map Ab).length)*40<=140737488355328/\(l.map Ab).length+(m.map Ab).length<=9223372036854775807:=⟨(CJ (enc:=Ab) (n:=4) (fun _=>rfl) m),rfl,(by grind),(by grind)⟩;refine Yi b4 (Xi {q:Nat×List CS // q.1<=LM.length/\q.2=(LM.take q.1).map (·.path)} (Xi (fun q=>⟨[(6,.mref 12000),(8,.mref 12500),(10,.msl 10 q.1.2.length),(37,.slice (.id 13500 4) (LM.map Ab)),(38,vi (LM.length:Nat)),(39,vi q.1.1)],[(10,.arr 1 (q.1.2.map Ar)),(12000,.rom B4 (H3 l)),(12500,.rom B4 (H3 m)),(13500,.tok 4 LM.length)],Ac⟩) (Xi (fun q=>LM.length-q.1.1) (Yi (Xi ⟨(0,[]),Al _,rfl⟩ ?_) ?_))))
 .exact⟨⟨Zr,Zr,Zr,⟨(show AV.slice (.id 13500 4) (l.map Ab++m.map Ab)=.slice (.id 13500 4) (LM.map Ab) by simp_all),rfl⟩,⟨(show vi ((l.map Ab++m.map Ab:C0).length:Int)=vi ((LM.length:Nat):Int) by simp_all),rfl⟩,Zr,Tv⟩,⟨Zr,Zr,Zr,⟨(show HO.tok 4 ((l.map Ab).length+(m.map Ab).length)=.tok 4 LM.length by simp_all),rfl⟩,Tv⟩,Fh,Tv⟩
 intro⟨⟨i,P⟩,i1,i2⟩;have i2:P=(LM.take i).map (·.path):=i2;have i3:P.length<=i:=by simp_all
 refine cU [(6,.mref 12000),(8,.mref 12500),(10,.msl 10 P.length),(37,.slice (.id 13500 4) (LM.map Ab)),(38,vi (LM.length:Nat)),(39,vi i)] [(10,.arr 1 (P.map Ar)),(12000,.rom B4 (H3 l)),(12500,.rom B4 (H3 m)),(13500,.tok 4 LM.length)] Z6 Z4 (Yi (fun h5=>?_) (fun h5=>?_))
 .have n5:i<LM.length:=by omega
  refine cU [(6,.mref 12000),(8,.mref 12500),(10,.msl 10 P.length),(37,.slice (.id 13500 4) (LM.map Ab)),(38,vi (LM.length:Nat)),(39,vi i)] [(10,.arr 1 (P.map Ar)),(12000,.rom B4 (H3 l)),(12500,.rom B4 (H3 m)),(13500,.tok 4 LM.length)] Z6 Z4 (Xi (Ab LM[i]) (Yi (FJ n5) (Yi rfl (yN (yN (cU [(6,.mref 12000),(8,.mref 12500),(10,.msl 10 P.length),(12,.ref 12 0),(37,.slice (.id 13500 4) (LM.map Ab)),(38,vi (LM.length:Nat)),(39,vi i)] [(10,.arr 1 (P.map Ar)),(12,.cells (Ab LM[i])),(12000,.rom B4 (H3 l)),(12500,.rom B4 (H3 m)),(13500,.tok 4 LM.length)] Z7 Z5 ?_))))))
  have b6:Bi 1 [[vs LM[i].path]]/\(P.map Ar).length=P.length/\((P.map Ar).length+([[vs LM[i].path]]:C0).length)*16<=140737488355328/\(P.map Ar).length+([[vs LM[i].path]]:C0).length<=9223372036854775807:=⟨⟨rfl,trivial⟩,(by simp_all),(by grind),(by grind)⟩;refine Yi b6 (Yi (by grind [Av]) (Xi ⟨(i+1,P++[LM[i].path]),n5,by show P++[LM[i].path]=_;rw[DU n5,AF,i2];rfl⟩ ?_));exact⟨Dl LM.length i ch,⟨Zr,Zr,⟨(show AV.msl 10 ((P.map Ar).length+([[vs LM[i].path]]:C0).length)=.msl 10 (P++[LM[i].path]).length by simp_all),rfl⟩,Zr,Zr,Zr,Tv⟩,⟨⟨(show HO.arr 1 (P.map Ar++[[vs LM[i].path]])=.arr 1 ((P++[LM[i].path]).map Ar) by simp_all),rfl⟩,Zr,Zr,Zr,Tv⟩,Fh,Tv⟩
 have hPe:P=LM.map (·.path):=by grind
 have hPf:BJ P:=by omega
 have hPn:P≠[]:=fun e=>by grind
 have hPt:t.length=P.length:=by rw[hPe];exact hp.length_eq
 have htl:t.length<=1073741824:=by omega
 have htn:t≠[]:=fun e=>hPn (AT (by simp_all));have hcl:(Ce t).length<=t.length:=by unfold Ce;rw[Lm];exact AH (MG _) (by grind)
 refine cU [(6,.mref 12000),(8,.mref 12500),(10,.msl 10 P.length)] [(10,.arr 1 (P.map Ar)),(12000,.rom B4 (H3 l)),(12500,.rom B4 (H3 m))] Z3 Z3 (Xi (.gen [(10,1000)] 0) (Yi rfl (AP.to2 (Ab3 P t hPf hPn (by grind) ht) ?_)));refine cU [(6,.mref 12000),(8,.mref 12500),(10,.msl 10 P.length),(13,.v (.func (.func 182) #[] #[]))] [(10,.arr 1 (t.map Ar)),(12000,.rom B4 (H3 l)),(12500,.rom B4 (H3 m))] Z4 Z3 (cU [(6,.mref 12000),(8,.mref 12500),(10,.msl 10 t.length),(13,.v (.func (.func 182) #[] #[])),(14,.slice (.id 14 3) [])] [(10,.arr 1 (t.map Ar)),(14,.tok 3 0),(12000,.rom B4 (H3 l)),(12500,.rom B4 (H3 m))] ⟨Zr,Zr,⟨(Aa (AV.msl 10) hPt.symm),rfl⟩,Zr,Zr,Tv⟩ Z4 (Xi (.gen [(10,1000)] 1) (Yi rfl (AP.to2 (AfS t ch htn) ?_))));refine Xi {q:Nat×List Mv // q.1<=(Ce t).length/\q.2=I1 l m ((Ce t).take q.1)} (Xi (fun q=>⟨[(6,.mref 12000),(8,.mref 12500),(13,.v (.func (.func 182) #[] #[])),(14,.slice (.id 14 3) (q.1.2.map G4)),(52,.msl 15200 (Ce t).length),(53,vi (Ce t).length),(54,vi q.1.1)],[(14,.tok 3 q.1.2.length),(12000,.rom B4 (H3 l)),(12500,.rom B4 (H3 m)),(15200,.arr 1 ((Ce t).map Ar))],Ac⟩) (Xi (fun q=>(Ce t).length-q.1.1) (Yi (Xi ⟨(0,[]),Al _,rfl⟩ ?_) ?_)))
 .exact⟨Z7,Z4,Fh,Tv⟩
 intro⟨⟨k,O⟩,k1,k2⟩;have k2:O=I1 l m ((Ce t).take k):=k2;have k3:O.length<=k:=by grind
 refine cU [(6,.mref 12000),(8,.mref 12500),(13,.v (.func (.func 182) #[] #[])),(14,.slice (.id 14 3) (O.map G4)),(52,.msl 15200 (Ce t).length),(53,vi (Ce t).length),(54,vi k)] [(14,.tok 3 O.length),(12000,.rom B4 (H3 l)),(12500,.rom B4 (H3 m)),(15200,.arr 1 ((Ce t).map Ar))] Z7 Z4 (Yi (fun gt=>?_) (fun gt=>?_))
 .have nb:k<(Ce t).length:=by omega
  have n10:=nb;have gb:(Ce t)[k]?=some (Ce t)[k]:=Ge nb;refine cU [(6,.mref 12000),(8,.mref 12500),(13,.v (.func (.func 182) #[] #[])),(14,.slice (.id 14 3) (O.map G4)),(52,.msl 15200 (Ce t).length),(53,vi (Ce t).length),(54,vi k)] [(14,.tok 3 O.length),(12000,.rom B4 (H3 l)),(12500,.rom B4 (H3 m)),(15200,.arr 1 ((Ce t).map Ar))] Z7 Z4 (Yi ch (Yi (show(Ce t).length=((Ce t).map Ar).length by grind) (Xi (Ar ((Ce t)[k])) (Yi (Ed gb) (cU [(6,.mref 12000),(8,.mref 12500),(13,.v (.func (.func 182) #[] #[])),(14,.slice (.id 14 3) (O.map G4)),(16,vs ((Ce t)[k])),(52,.msl 15200 (Ce t).length),(53,vi (Ce t).length),(54,vi k)] [(14,.tok 3 O.length),(12000,.rom B4 (H3 l)),(12500,.rom B4 (H3 m)),(15200,.arr 1 ((Ce t).map Ar))] Z8 Z4 (C1 (C2 (Ab4 l (Ce t)[k] hl) (C1 (C2 (Ab4 m (Ce t)[k] hm) (yN (cU [(6,.mref 12000),(8,.mref 12500),(13,.v (.func (.func 182) #[] #[])),(14,.slice (.id 14 3) (O.map G4)),(17,.ref 17 0),(52,.msl 15200 (Ce t).length),(53,vi (Ce t).length),(54,vi k)] [(14,.tok 3 O.length),(17,.cells [vs ((Ce t)[k]),vi (JD l (Ce t)[k]),vi (JD m (Ce t)[k])]),(12000,.rom B4 (H3 l)),(12500,.rom B4 (H3 m)),(15200,.arr 1 ((Ce t).map Ar))] Z8 Z5 (Yi (fun FH=>?_) (fun FH=>?_)))))))))))))
  .refine cU [(6,.mref 12000),(8,.mref 12500),(13,.v (.func (.func 182) #[] #[])),(14,.slice (.id 14 3) (O.map G4)),(17,.ref 17 0),(52,.msl 15200 (Ce t).length),(53,vi (Ce t).length),(54,vi k)] [(14,.tok 3 O.length),(17,.cells [vs ((Ce t)[k]),vi (JD l (Ce t)[k]),vi (JD m (Ce t)[k])]),(12000,.rom B4 (H3 l)),(12500,.rom B4 (H3 m)),(15200,.arr 1 ((Ce t).map Ar))] Z8 Z5 (yN (Yi (cI rfl ch Cl) (Yi (Ii k ch) ?_)));have eO:=gP (l:=l) (m:=m) n10;have eM:MV l m (Ce t)[k]=some ⟨(Ce t)[k],(JD l (Ce t)[k]),(JD m (Ce t)[k])⟩:=Ay FH;rw[eM]at eO;refine Xi ⟨(k+1,(O++[(⟨(Ce t)[k],(JD l (Ce t)[k]),(JD m (Ce t)[k])⟩:Mv)])),n10,by grind⟩ ?_;exact⟨by show(Ce t).length-(k+1)<(Ce t).length-k;omega,⟨Zr,Zr,Zr,⟨(show AV.slice (.id 14 3) (O.map G4++[[vs (Ce t)[k],vi (JD l (Ce t)[k]),vi (JD m (Ce t)[k])]])=.slice (.id 14 3) ((O++[(⟨(Ce t)[k],(JD l (Ce t)[k]),(JD m (Ce t)[k])⟩:Mv)]).map G4) by grind),rfl⟩,Zr,Zr,Zr,Tv⟩,⟨⟨hkA,rfl⟩,Zr,Zr,Zr,Tv⟩,Fh,Tv⟩
  have FH:((JD l (Ce t)[k]):Int)=((JD m (Ce t)[k]):Int):=Aq FH;refine Yi (Ii k ch) ?_;have eO:=gP (l:=l) (m:=m) n10;have eM:MV l m (Ce t)[k]=none:=Az (fun c=>c FH);rw[eM]at eO;rw[show(none:Option Mv).toList=[]from rfl,BG]at eO;refine Xi ⟨(k+1,O),n10,by grind⟩ ?_;exact⟨by grind,Z7,Z4,Fh,Tv⟩
 refine cU [(14,.slice (.id 14 3) (O.map G4))] [(14,.tok 3 O.length)] Z1 Z1 ?_
 have ek:(Ce t).take k=Ce t:=Au ch;have eO:O=I1 l m (Ce t):=by grind
 exact .of_eq (Aa (fun z=>AV.tup [sl G4 z,vi 0]) eO)
end Go.Eng
namespace Go.Proofs
open Go.Shelf Go.RowKit Go.Lib Go.Sort
abbrev OneC:Type:={v:Value // v.oneCell'=true}
def SlA:Type:=ByteArray×OneC×OneC×OneC
instance:Inhabited SlA:=⟨⟨ByteArray.empty,⟨.bool false,rfl⟩,⟨.bool false,rfl⟩,⟨.bool false,rfl⟩⟩⟩
def encSlA(x:SlA):List Value:=[.string x.1,x.2.1.1,x.2.2.1.1,x.2.2.2.1]
def cfSlA(x y:SlA):Int:=Lib.compareBytes x.1.data.toList y.1.data.toList
abbrev CmpSlG(cf:SlA->SlA->Int)(k:Nat):Prop:=∀(x y:SlA) (W:World),Calls Tryz.prog k #[.agg #[.string x.1,x.2.1.1,x.2.2.1.1,x.2.2.2.1],.agg #[.string y.1,y.2.1.1,y.2.2.1.1,y.2.2.2.1]] W fun e w'=>e=.returned (.int .i64 (cf x y))/\∃q os',w'=grow (W.drewN q) os'
abbrev CmpSlA(k:Nat):Prop:=CmpSlG cfSlA k
theorem Tryz.closure139:CmpSlA 139:=fun x y W=>by
 have hcon:=fun W'=>Any.strings_Compare Tryz.layCompare x.1 y.1 W';obtain⟨a,⟨b,hb⟩,⟨c,hc⟩,⟨d,hd⟩⟩:=x;obtain⟨a',⟨b',uD⟩,⟨c',hc'⟩,⟨d',yP⟩⟩:=y;dsimp only at hcon
 change ∀W',Calls Tryz.prog 140 _ _ _ at hcon
 unfold cfSlA;dsimp only;generalize Lib.compareBytes a.data.toList a'.data.toList=r at hcon⊢
 go_enter Tryz.func139,Tryz.ntmps139
 go_wp2_with (go_at_call 140;refine(hcon _).mono ?_;rintro e w' ⟨rfl,rfl⟩)
 go_ret
 exact⟨rfl,0,_,by rw[alloc_eq_grow,alloc_eq_grow,grow_grow];rfl⟩
end Go.Proofs
namespace Go.Eng
open Go.Proofs Go.Proofs.Tryz Go.Shelf Go.RowKit Go.Lib Go.Sort
theorem AaV(x y:SlA):ltOf cfSlA x y=Dz x.1 y.1:=US _ _
section
variable {cf:SlA->SlA->Int}(E3:∀x y,ltOf cf x y=Dz x.1 y.1)
include E3
theorem pR:SWO (ltOf cf) where
 irrefl x:=by grind [Dk]
 trans x y z h1 h2:=by grind [Ds]
 ntrans x y z h1 h2:=by
  grind [Ds,GJ]
theorem AgX(k:Nat)(hc:CmpSlG cf k)(eg:∀args w,(callFunc k args).run Tryz.prog w=.ok (.enter k args) w)(l:List Sl)(hl:BJ l)(lim:Nat)(aP:lim<100) :
  AP Tryz.prog 184 [.msl 1000 l.length,vi 0,vi l.length,vi lim,.v (YC k)] (Ai [(1000,.arr 4 (l.map Ab))] Ac) fun r h'=>
   r=.tup []/\∃l' : List Sl,l'.Perm l/\l'.Pairwise (fun x y=>Dz y.path x.path=false)/\h'=Ai [(1000,.arr 4 (l'.map Ab))] Ac:=by
 have hl:l.length<=1073741824:=hl;have hE:Fz Tryz.prog 184:=aq 184 func184 Wk rfl;have Jb:=JG (P:=Tryz.prog) (f:=184) (α:=SlA) (rest:=[.int .i64 0,.int .i64 l.length,.int .i64 lim,YC k]) hE Ab encSlA (k:=4) (fun _=>rfl) (fun _=>rfl) (ltOf cf) (fun x a=>a.1=x.path) l ch ?_ ?_ ?_
 .refine⟨hE,fun g w vals q1 q2 q3=>(Jb.2 g w vals q1 q2 q3).mono fun _ _ ⟨v,r,h',g',e1,⟨e2,l',p1,⟨al,a1,a2,a3⟩,p2⟩,rest⟩=>⟨v,r,h',g',e1,⟨e2,l',p1,?_,p2⟩,rest⟩⟩;rw[Bo]at a3⊢;intro i j hi hj aO
  have:=a3 i j ch ch aO
  rw[E3]at this;have e1:=a2 i _ _ (Ge hi) (Ge ch);have e2:=a2 j _ _ (Ge hj) (Ge ch);simp_all
 .intro x hx g w vs hr
  match vs,hr with
  | [a,b,c,d],hr=>
   have h1:=(hr.2.2 0 (Go.Eng.vs x.path) a rfl rfl).v_eq;subst h1;exact⟨⟨x.path,⟨b,hr.2.1 b B0⟩,⟨c,hr.2.1 c B0⟩,⟨d,hr.2.1 d B0⟩⟩,rfl,rfl⟩
  | [],hr=>have:=hr.1;simp_all
  | [_],hr=>have:=hr.1;simp_all
  | [_,_],hr=>have:=hr.1;simp_all
  | [_,_,_],hr=>have:=hr.1;simp_all
  |_::_::_::_::_::_,hr=>have:=hr.1;simp_all
 .intro w b cap d hH hb Fg hdl;have nv:CmpLays Tryz.prog k #[] encSlA 4 cf b 0 d.size w:=fun _ _ _ _ x y=>hc x y _;have hp:=AnyQ.pdqsortCmpFunc_all Tryz.layPdqSel 4 isAgg48 sizeOf48 encSlA cf k #[] (pR E3) b 0 cap d w eg nv ⟨fun _=>rfl,fun x v hv=>by
    simp only[encSlA,AU,Mi,or_false]at hv;rcases hv with rfl | rfl | rfl | rfl
    .rfl
    all_goals grind,hH,hb⟩ (d.size+1) 0 d.size lim d w ch rfl (SWK.start hH) (Al _) (Ap _) Fg ch (Or.inl rfl)
  rw[hdl]at hp⊢;refine hp.mono ?_
  rintro e w' ⟨rfl,n,os,rfl⟩
  have h:=pdq_sorts (ltOf cf) (pR E3) d 0 d.size lim true true (Al _) (Ap _) (Or.inl rfl)
  grind
 .intro e w;subst e;exact AnyF.pdqsortCmpFunc_none Tryz.layPdqSel none 0 lim (YC k) w
end
theorem ID{l l' : List Sl}(h1:Tx l)(h2:Tx l')(hm:∀y,y∈l↔y∈l'):l=l':=by
 induction l generalizing l' with
 |nil=>
  cases l'<;>grind [List.mem_cons_self]
 |cons x l ih=>
  cases l'<;>grind [List.pairwise_cons,Ds,Dk]
theorem pM{l l' : List Sl}(hn:(l.map (·.path)).Nodup)(hp:l'.Perm l)(hs:l'.Pairwise fun x y=>Dz y.path x.path=false):l'=CP l:=by
 refine ID ?_ (JE hn) fun y=>by grind [FE]
 grind [List.pairwise_iff_getElem,GJ,absurd]
theorem AbI{cf:SlA->SlA->Int}(E3:∀x y,ltOf cf x y=Dz x.1 y.1)(k:Nat)(hc:CmpSlG cf k)(eg:∀args w,(callFunc k args).run Tryz.prog w=.ok (.enter k args) w)(l:List Sl)(hl:BJ l)(hn:(l.map (·.path)).Nodup) :
  AP Tryz.prog 133 [.msl 1000 l.length,.v (YC k)] (Ai [(1000,.arr 4 (l.map Ab))] Ac) fun r h'=>
   r=.tup []/\h'=Ai [(1000,.arr 4 ((CP l).map Ab))] Ac:=by
 obtain⟨lim,aP,hb⟩:=mc l.length hl;refine BO (LB C3) [(1000,1000)] rfl Ck hm rfl func133 Wk rfl (Nz rfl) Wk rfl (C1 (C2 (hb) (Xi (.gen [(1000,1000)] 0) (Yi rfl ((AgX E3 k hc eg l hl lim aP).imp ?_)))));intro r h' hq;refine AX hq.2 (fun l' SL=>?_);have e:=pM hn SL.1 SL.2.1;refine Xi (.tup []) (Yi ?_ (Yi rfl ?_))
 .exact .refl _
 .rw[SL.2.2,e];rfl
theorem s47(k:Nat)(hc:CmpSlA k)(eg:∀args w,(callFunc k args).run Tryz.prog w=.ok (.enter k args) w)(l:List Sl)(hl:BJ l)(hn:(l.map (·.path)).Nodup) :
  AP Tryz.prog 133 [.msl 1000 l.length,.v (YC k)] (Ai [(1000,.arr 4 (l.map Ab))] Ac) fun r h'=>
   r=.tup []/\h'=Ai [(1000,.arr 4 ((CP l).map Ab))] Ac:=
 AbI AaV k hc eg l hl hn
end Go.Eng
namespace Go.Eng
open Go.Proofs Go.Proofs.Tryz
variable {caps:List AV}{fF:Nat}(roots:List Rq)(C A:List (Value×AV))(s:SS)(dec:List Cd)(n:Nat)
abbrev AJ(c:Cd):List AV:=vi c.place::Ah c.rel
abbrev Bj(n:Nd):List AV:=[vs n.rq.path,sl Ag n.rq.set,vs n.path,vi n.place,vi n.number]
abbrev Bc(l:List Sk):List AV:=[sl Cj l]
abbrev CG(i:Nat):List AV:=[vi (i:Nat)]
def Fw:EU:=⟨true,[.int .i64,.str,.int .i64,.int .i64,.int .i64,.int .i64]⟩
def Ma(i:Nf):Value:=.agg [.int .i64 i.kind,.string i.path,.int .i64 i.place,.int .i64 i.number,.int .i64 i.left,.int .i64 i.right].toArray
def Fy:Nat->List Nf->List (Value×AV)
 |_,[]=>[]
 |k,i::l=>(Ma i,vi (k:Nat))::Fy (k+1) l
abbrev srC:List AV:=
 [sl As roots,.cmap B4 C,.cmap B4 A,.slice (.id 1001 6) (s.infs.map Dy),.slice (.id 1002 1) (s.drv.map Dg),.mref 1003,vb s.full,sl AJ dec,sl Ab (Aw dec),.msl 1004 n]
abbrev srM(k n:Nat):List AV:=
 [sl As roots,.cmap B4 C,.cmap B4 A,.slice (.id 1001 6) (s.infs.map Dy),.slice (.id 1002 1) (s.drv.map Dg),.mref 1003,vb s.full,sl AJ dec,sl Ab (Aw dec),.msl k n]
abbrev Jv(st:List (List Sk)):List (Nat×HO):=
 [(1000,.cells (srC roots C A s dec st.length)),(1001,.tok 6 s.infs.length),(1002,.tok 1 s.drv.length),(1003,.map Fw (Fy 0 s.infs)),(1004,.arr 1 (st.map Bc))]
theorem AgJ(hs:Ch caps)(l:List (Cd))(p:Cd->Bool)(hF:∀x∈l,PC fF ([.agg (AJ x)]++caps) (vb (p x)))(hl:l.length<9223372036854775807) :
  PC 339 [sl AJ l,.clo fF caps] (vi (Je p l 0)):=by
 refine Ps C3 func339 rfl (Nz rfl) (Xi {i:Nat // i<=l.length/\∀j (hj:j<l.length),j<i->p l[j]=false} (Xi (fun i=>⟨[(0,sl AJ l),(1,.clo fF caps),(7,vi (l.map AJ).length),(8,vi i.1)],[],Ac⟩) (Xi (fun i=>l.length-i.1) (Yi (Xi ⟨0,by simp⟩ ?_) ?_))))
 .exact⟨⟨Zr,⟨rfl,hs.ids _⟩,Zr,Zr,Tv⟩,Tv,Fh,Tv⟩
 .intro⟨i,h1,h2⟩;refine Yi ?_ ?_
  .intro h;have h:i<l.length:=by simp_all
   have hg:l[i]?=some l[i]:=Ge h;refine Xi (AJ l[i]) (Yi (Yi ch (by simp_all)) (Yi rfl (yN ?_)));have BV:∀h,PC fF ([.agg (AJ l[i])]++caps.map (str0 h)) (vb (p l[i])):=fun h=>by rw[hs.map];simp_all
   cases hp:p l[i]with
   |true=>
    rw[hp]at BV;refine Xi .pure (Xi (vb true) (Yi (BV _) ?_));rw[Hh h (fun j hj FI=>h2 j hj FI) hp,Em];exact .refl _
   |false=>
    rw[hp]at BV;refine Xi .pure (Xi (vb false) (Yi (BV _) (Yi (by grind [Av]) (Xi ⟨i+1,by omega,fun j hj FI=>?_⟩ ?_))))
    .grind
    .exact⟨by grind,⟨Zr,⟨rfl,hs.ids _⟩,Zr,Zr,Tv⟩,Tv,Fh,Tv⟩
  .intro h;have h:¬i<l.length:=by simp_all
   rw[F3 fun j hj=>h2 j hj ch];exact .refl _
theorem s86(hs:Ch caps)(l:List (Nd))(p:Nd->Bool)(hF:∀x∈l,PC fF ([.agg (Bj x)]++caps) (vb (p x)))(hl:l.length<9223372036854775807) :
  PC 187 [sl Bj l,.clo fF caps] (vi (Je p l 0)):=by
 refine Ps C3 func187 rfl (Nz rfl) (Xi {i:Nat // i<=l.length/\∀j (hj:j<l.length),j<i->p l[j]=false} (Xi (fun i=>⟨[(0,sl Bj l),(1,.clo fF caps),(7,vi (l.map Bj).length),(8,vi i.1)],[],Ac⟩) (Xi (fun i=>l.length-i.1) (Yi (Xi ⟨0,by simp⟩ ?_) ?_))))
 .exact⟨⟨Zr,⟨rfl,hs.ids _⟩,Zr,Zr,Tv⟩,Tv,Fh,Tv⟩
 .intro⟨i,h1,h2⟩;refine Yi ?_ ?_
  .intro h;have h:i<l.length:=by simp_all
   have hg:l[i]?=some l[i]:=Ge h;refine Xi (Bj l[i]) (Yi (Yi ch (by simp_all)) (Yi rfl (yN ?_)));have BV:∀h,PC fF ([.agg (Bj l[i])]++caps.map (str0 h)) (vb (p l[i])):=fun h=>by rw[hs.map];simp_all
   cases hp:p l[i]with
   |true=>
    rw[hp]at BV;refine Xi .pure (Xi (vb true) (Yi (BV _) ?_));rw[Hh h (fun j hj FI=>h2 j hj FI) hp,Em];exact .refl _
   |false=>
    rw[hp]at BV;refine Xi .pure (Xi (vb false) (Yi (BV _) (Yi (by grind [Av]) (Xi ⟨i+1,by omega,fun j hj FI=>?_⟩ ?_))))
    .grind
    .exact⟨by grind,⟨Zr,⟨rfl,hs.ids _⟩,Zr,Zr,Tv⟩,Tv,Fh,Tv⟩
  .intro h;have h:¬i<l.length:=by simp_all
   rw[F3 fun j hj=>h2 j hj ch];exact .refl _
theorem AbD(hs:Ch caps)(l:List (Cd))(p:Cd->Bool)(hF:∀x∈l,PC fF ([.agg (AJ x)]++caps) (vb (p x)))(hl:BJ l) :
  PC 302 [sl AJ l,.clo fF caps] (vb (l.any p)):=by
 refine Ps C3 func302 rfl (Nz rfl) ?_;have hi:=AgJ hs l p hF ch;have BV:∀h,PC 339 [sl AJ l,.clo fF (caps.map (str0 h))] (vi (Je p l 0)):=fun h=>by grind [Ch.map]
 refine C1 (C2 (BV _) ?_);have ha:=Hc (p:=p) l 0 (Bv 0);refine Yi ?_ ?_
 .intro h;rw[<-ha,At h];exact .refl _
 .intro h;rw[<-ha,Aj h];exact .refl _
theorem AbJ(l:List Cd)(hl:BJ l):AP Tryz.prog 192 [sl AJ l] (Ai [] Ac) fun r h'=>r=.slice (.id 2000 10) (l.map AJ)/\h'=Ai [(2000,.tok 10 (l.map AJ).length)] Ac:=by
 refine BO (LB (plT 10)) [(2,2000)] rfl Ck hm rfl func192 Wk rfl (Nz rfl) Wk rfl ?_;have FZ:Bi 10 (l.map AJ)/\([]:C0).length=0/\(([]:C0).length+(l.map AJ).length)*128<=140737488355328/\([]:C0).length+(l.map AJ).length<=9223372036854775807:=by
  refine⟨CJ (enc:=AJ) (n:=10) (fun _=>rfl) l,rfl,?_,?_⟩<;>simp only[AE,Lm]<;>unfold BJ at hl<;>omega
 have e2:HO.tok 10 (([]:C0).length+(l.map AJ).length)=.tok 10 (l.map AJ).length:=by simp_all
 have e3:AV.slice (.id 2000 10) ([]++l.map AJ)=.slice (.id 2000 10) (l.map AJ):=rfl;have full:∀st:St,(∃s:LS,St.le (LB (plT 10)) st s/\True)->True:=fun _ _=>trivial;refine Xi 0 (Xi 0 (Yi ?_ ?_))
 .intro _;refine cU [(0,sl AJ l)] [] Z1 Tv (Xi 2 (Yi FZ ?_));exact C2 (.refl _) (Yi e3 (Aa (fun o=>Ai [(2000,o)] Ac) e2))
 .intro h;refine Yi ?_ ?_
  .refine Xi ⟨[],[],Ac⟩ (Yi ⟨trivial,trivial,fun _=>.inl rfl,A4 Wk⟩ ?_);refine Xi 0 ?_;exact C2 (.refl _) (Yi (show AV.slice (.id 2000 10) []=_ by rw[h]) (show Ai [(2000,HO.tok 10 0)] Ac=_ by simp_all))
  .refine cU [(0,sl AJ l)] [] Z1 Tv (Xi 2 (Yi FZ ?_));exact C2 (.refl _) (Yi e3 (Aa (fun o=>Ai [(2000,o)] Ac) e2))
end Go.Eng
