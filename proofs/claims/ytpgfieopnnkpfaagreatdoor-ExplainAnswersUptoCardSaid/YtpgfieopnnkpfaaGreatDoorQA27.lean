/- Lemmas 27. -/
import Derived.Test.YtpgfieopnnkpfaaGreatDoorQA26
set_option maxHeartbeats 4000000
namespace Go.Eng
open Go.Proofs
variable {o:Option (List Bool)}{n:Int}{c:List Tm}{i:Int}{y:Nf}(l:List Nf)(m:Int)(p:ByteArray)(s:AF)(target:Int)
theorem VX(hi:0<=i)(h:y.left<0\/i<=y.left\/y.right<0\/i<=y.right):FE i.toNat y=true:=by
 unfold FE;have ei:((i.toNat:Nat):Int)=i:=IG hi;rw[ei];rcases h with h | h | h | h<;>simp[h]
theorem mC(hi:0<=i)(h1:¬y.left<0)(h2:¬i<=y.left)(h3:¬y.right<0)(h4:¬i<=y.right):FE i.toNat y=false:=by
 unfold FE;have ei:((i.toNat:Nat):Int)=i:=IG hi;rw[ei];simp only[Bool.or_eq_false_iff,JC];omega
def mkR:Option (List Bool)->AV
 |none=>.tup [.slice .none [],vb false]
 |some u=>.tup [sl CT u,vb true]
theorem WM(h:o=none):DC (.tup [nzA,vb false]) (mkR o):=
 (show DC (.tup [nzA,vb false]) (.tup [.slice .none [],vb false])from DC.tup ⟨.nil,.refl _,trivial⟩).trans (.of_eq (by rw[h];rfl))
theorem kC{u:List Bool}(h:o=some u):DC (.tup [sl CT u,vb true]) (mkR o):=.of_eq (by rw[h];rfl)
theorem e55(L:List Nat)(n:Int)(hl:BB L):PC 55 [sl A0 L,vi (n:Int)] (vi (EJ L n)):=by
 have hl:L.length<=1073741824:=hl;refine Ps Cu Tryz.func55 rfl (Nz rfl) (Xi {i:Nat // i<=L.length/\∀j (hj:j<L.length),j<i->¬(L[j]:Int)=n} (Xi (fun q=>⟨[(0,sl A0 L),(1,vi (n:Int)),(5,vi q.1)],[],Af⟩) (Xi (fun q=>L.length-q.1) (Yi (Xi ⟨0,Ao _,fun j _ h=>by omega⟩ ?_) ?_))))
 .exact⟨Z3,Tv,Fh,Tv⟩
 intro⟨i,i1,i2⟩;have i1:i<=L.length:=i1;have i2:∀j (hj:j<L.length),j<i->¬(L[j]:Int)=n:=i2;refine Yi (fun h1=>?_) (fun h1=>?_)
 .have h1:(i:Int)<((L.map A0).length:Int):=h1;have n1:i<L.length:=by have q:=h1;rw[Lm]at q;omega
  have g1:L[i]?=some L[i]:=Ge n1;refine Xi (A0 L[i]) (Yi (Yi (Nn i) (AM g1)) (Yi rfl (Yi (fun h2=>?_) (fun h2=>?_))))
  .have h2:(L[i]:Int)=((n:Int):Int):=h2;exact .of_eq (show vi i=vi (EJ L n) by rw[Vf n1 i2 (by have q:=h2;omega)])
  have h2:¬((L[i]:Int)=((n:Int):Int)):=h2;refine Yi (Ii i aa0) (Xi ⟨i+1,by omega,fun j hj He=>(Dq j i).elim (i2 j hj) (fun z=>by have e:j=i:=aa0;subst e;exact fun hq=>h2 hq)⟩ ?_);exact⟨Dl L.length i aa0,Z3,Tv,Fh,Tv⟩
 have h1:¬((i:Int)<((L.map A0).length:Int)):=h1;have n1:¬i<L.length:=by have q:=h1;rw[Lm]at q;omega
 exact .of_eq (show vi (-1)=vi (EJ L n) by rw[Za fun j hj=>i2 j hj aa0])
theorem e52(hl:BB l)(ht:0<=target/\target<l.length):PC 52 [sl Aj l,vi (target:Int)] (mkR (Ez l target.toNat)):=by
 have ZC:(l.map Aj).length=l.length:=Lm _;have hl:l.length<=1073741824:=hl;refine Ps ⟨[],[],[(10,1)],[],[],[],[],[],[],[(200011,6)],[7,9,10,11]⟩ Tryz.func52 rfl (Nz rfl) (Yi (show(0:Int)<=((l.map Aj).length:Nat)/\(((l.map Aj).length:Nat):Int)<=((l.map Aj).length:Nat)/\(((l.map Aj).length:Nat):Int)*1<=140737488355328/\(((l.map Aj).length:Nat):Int)<=9223372036854775807 by rw[Lm];omega) ?_);refine Yi (show(0:Int)<=target/\target<(((List.replicate (((l.map Aj).length:Nat):Int).toNat [vb false]):List (List AV)).length:Nat) by rw[FY,Cj,Lm];omega) ?_;refine Yi rfl (Xi [vb false] (Yi (show(List.replicate (((l.map Aj).length:Nat):Int).toNat [vb false])[(target:Int).toNat]?=some [vb false]from lm _ _ (by rw[Cj,Lm];omega)) (yN ?_)));refine Xi {q:Int×List Bool // (-1<=q.1/\q.1<=target)/\q.2.length=l.length/\DT l (q.1+1).toNat q.2=Ez l target.toNat} (Xi (fun q=>⟨[(0,sl Aj l),(6,.msl 10 q.1.2.length),(7,vi (q.1.1:Int))],[(10,.arr 1 (q.1.2.map CT))],Af⟩) (Xi (fun q=>(q.1.1+1).toNat) (Yi (Xi ⟨(target,u0 l target),⟨by omega,Cg _⟩,by simp,Zp aa0⟩ ?_) ?_)))
 .exact⟨⟨Zr,⟨(show AV.msl 10 ((List.replicate ((l.map Aj).length:Int).toNat [vb false]):List (List AV)).length=.msl 10 (u0 l target).length by simp),rfl⟩,Zr,Tv⟩,⟨⟨(show HO.arr 1 ((List.replicate ((l.map Aj).length:Int).toNat [vb false]).set (target:Int).toNat [vb true])=.arr 1 ((u0 l target).map CT) by rw[<-da]),rfl⟩,Tv⟩,Fh,Tv⟩
 intro⟨⟨i,u⟩,i1,i2,i3⟩;have i1:-1<=i/\i<=target:=i1;have i2:u.length=l.length:=i2;have i3:DT l (i+1).toNat u=Ez l target.toNat:=i3;refine Yi (fun h1=>?_) (fun h1=>?_)
 .have h1:(0:Int)<=((i:Int):Int):=h1;have MW:0<=i:=h1;have TZ:i.toNat<l.length:=by omega
  have Xe:i.toNat<u.length:=by omega
  have gl:l[i.toNat]?=some l[i.toNat]:=Ge TZ;have gu:u[i.toNat]?=some u[i.toNat]:=Ge Xe;refine Yi (by show(0:Int)<=(i:Int)/\((i:Int):Int)<(u.length:Nat);omega) (Yi (show u.length=(u.map CT).length by simp) (Xi (CT u[i.toNat]) (Yi (AM gu) (Yi (fun h2=>?_) (fun h2=>?_)))))
  .have h2:u[i.toNat]=true:=h2;refine Xi (Aj l[i.toNat]) (Yi (Yi MW (AM gl)) (Yi rfl (Yi (fun h3=>?_) (fun h3=>?_))))
   .have h3:(l[i.toNat].kind:Int)≠(3:Int):=h3;refine Yi (by show Al (((i:Int):Int)-(1:Int));unfold Al;omega) ?_;refine Xi ⟨(i-1,u),⟨by omega,by omega⟩,i2,by rw[<-i3,ME MW TZ Xe (.inr (fun hq=>h3 hq))]⟩ ?_;exact⟨by show(i-1+1).toNat<(i+1).toNat;omega,Z3,Z1,Fh,Tv⟩
   have h3:(l[i.toNat].kind:Int)=(3:Int):=AQ h3;refine cU [(0,sl Aj l),(6,.msl 10 u.length),(7,vi (i:Int))] [(10,.arr 1 (u.map CT))] Z3 Z1 (Xi (Aj l[i.toNat]) (Yi (Yi MW (AM gl)) (Yi rfl (Yi (fun h5=>?_) (fun h5=>?_)))))
   .have h5:(l[i.toNat].left:Int)<(0:Int):=h5;exact WM (by rw[<-i3];exact Kl MW TZ Xe h2 h3 (VX MW (.inl h5)))
   have h5:¬((l[i.toNat].left:Int)<(0:Int)):=h5;refine Xi (Aj l[i.toNat]) (Yi (Yi MW (AM gl)) (Yi rfl (Yi (fun h7=>?_) (fun h7=>?_))))
   .have h7:((i:Int):Int)<=(l[i.toNat].left:Int):=h7;exact WM (by rw[<-i3];exact Kl MW TZ Xe h2 h3 (VX MW (.inr (.inl h7))))
   have h7:¬(((i:Int):Int)<=(l[i.toNat].left:Int)):=h7;refine Xi (Aj l[i.toNat]) (Yi (Yi MW (AM gl)) (Yi rfl (Yi (fun h9=>?_) (fun h9=>?_))))
   .have h9:(l[i.toNat].right:Int)<(0:Int):=h9;exact WM (by rw[<-i3];exact Kl MW TZ Xe h2 h3 (VX MW (.inr (.inr (.inl h9)))))
   have h9:¬((l[i.toNat].right:Int)<(0:Int)):=h9;refine Xi (Aj l[i.toNat]) (Yi (Yi MW (AM gl)) (Yi rfl (Yi (fun Hd=>?_) (fun Hd=>?_))))
   .have Hd:((i:Int):Int)<=(l[i.toNat].right:Int):=Hd;exact WM (by rw[<-i3];exact Kl MW TZ Xe h2 h3 (VX MW (.inr (.inr (.inr (Hd))))))
   have Hd:¬(((i:Int):Int)<=(l[i.toNat].right:Int)):=Hd;have zS:l[i.toNat].left.toNat<u.length:=by omega
   have gk:u[l[i.toNat].left.toNat]?=some u[l[i.toNat].left.toNat]:=Ge zS;have N1:l[i.toNat].right.toNat<(u.set l[i.toNat].left.toNat true).length:=by rw[Hq];omega
   have gk2:(u.set l[i.toNat].left.toNat true)[l[i.toNat].right.toNat]?=some (u.set l[i.toNat].left.toNat true)[l[i.toNat].right.toNat]:=Ge N1;refine cU [(0,sl Aj l),(6,.msl 10 u.length),(7,vi (i:Int))] [(10,.arr 1 (u.map CT))] Z3 Z1 (Xi (Aj l[i.toNat]) (Yi (Yi MW (AM gl)) (Yi rfl (Yi (by show(0:Int)<=l[i.toNat].left/\(l[i.toNat].left:Int)<(u.length:Nat);omega) (Yi (show u.length=(u.map CT).length by simp) (Xi (CT (u[l[i.toNat].left.toNat])) (Yi (AM gk) (yN (cU [(0,sl Aj l),(6,.msl 10 u.length),(7,vi (i:Int))] [(10,.arr 1 ((u.map CT).set (l[i.toNat].left:Int).toNat [vb true]))] Z3 Z1 (Xi (Aj l[i.toNat]) (Yi (Yi MW (AM gl)) (Yi rfl (Yi (by show(0:Int)<=l[i.toNat].right/\(l[i.toNat].right:Int)<(u.length:Nat);omega) (Yi (show u.length=(((u.map CT).set (l[i.toNat].left:Int).toNat [vb true]):List (List AV)).length by simp) (Xi [vb ((u.set l[i.toNat].left.toNat true)[l[i.toNat].right.toNat])] (Yi (show((u.map CT).set l[i.toNat].left.toNat [vb true])[l[i.toNat].right.toNat]?=some [vb ((u.set l[i.toNat].left.toNat true)[l[i.toNat].right.toNat])] by rw[ON];exact AM gk2) (yN ?_)))))))))))))))));refine Yi (by show Al (((i:Int):Int)-(1:Int));unfold Al;omega) ?_;refine Xi ⟨(i-1,((u.set l[i.toNat].left.toNat true).set l[i.toNat].right.toNat true)),⟨by omega,by omega⟩,by simp[i2],by rw[<-i3,YN MW TZ Xe h2 h3 (mC MW h5 h7 h9 Hd)]⟩ ?_;exact⟨by show(i-1+1).toNat<(i+1).toNat;omega,⟨Zr,⟨(show AV.msl 10 u.length=.msl 10 ((u.set l[i.toNat].left.toNat true).set l[i.toNat].right.toNat true).length by simp),rfl⟩,Zr,Tv⟩,⟨⟨(show HO.arr 1 (((u.map CT).set l[i.toNat].left.toNat [vb true]).set l[i.toNat].right.toNat [vb true])=.arr 1 (((u.set l[i.toNat].left.toNat true).set l[i.toNat].right.toNat true).map CT) by rw[ON,ON]),rfl⟩,Tv⟩,Fh,Tv⟩
  have h2:u[i.toNat]=false:=h2;refine Yi (by show Al (((i:Int):Int)-(1:Int));unfold Al;omega) ?_;refine Xi ⟨(i-1,u),⟨by omega,by omega⟩,i2,by rw[<-i3,ME MW TZ Xe (.inl h2)]⟩ ?_;exact⟨by show(i-1+1).toNat<(i+1).toNat;omega,Z3,Z1,Fh,Tv⟩
 have h1:¬((0:Int)<=((i:Int):Int)):=h1;refine Yi (by rw[Lm]) ?_;refine cU [(6,sl CT u)] [] Z1 Tv ?_
 exact kC (by rw[<-i3];exact U5 i1.1 aa0)
theorem yQ(hl:BB l)(ht:Al target):PC 19 [sl Aj l,vi (target:Int)] (sl A0 (Dv l target)):=by
 have ZC:(l.map Aj).length=l.length:=Lm _;have hl:l.length<=1073741824:=hl;have ht:-9223372036854775808<=target/\target<9223372036854775808:=ht;refine Ps (pC [] [2,3,4,9,11]) Tryz.func19 rfl (Nz rfl) (Yi (fun h1=>?_) (fun h1=>?_))
 .have h1:((target:Int):Int)<(0:Int):=h1;refine cU [] [] Tv Tv ?_
  exact(show DC nzA (.slice .none [])from .nil).trans (.of_eq (show AV.slice .none []=sl A0 (Dv l target) by rw[Pc (.inl h1)];rfl))
 have h1:¬(((target:Int):Int)<(0:Int)):=h1;refine Yi (fun h3=>?_) (fun h3=>?_)
 .have h3:((l.map Aj).length:Int)<=((target:Int):Int):=h3;refine cU [] [] Tv Tv ?_
  exact(show DC nzA (.slice .none [])from .nil).trans (.of_eq (show AV.slice .none []=sl A0 (Dv l target) by rw[Pc (.inr (by have q:=h3;rw[ZC]at q;exact q))];rfl))
 have h3:¬(((l.map Aj).length:Int)<=((target:Int):Int)):=h3;refine cU [(0,sl Aj l),(1,vi (target:Int))] [] Z2 Tv (AG (CU (Ez l target.toNat)) (fun h5=>?_) (fun h5=>?_))
 .refine Am h5 (fun u h5=>?_);have Yj:=e52 l target hl (by have q:=h3;rw[ZC]at q;omega);rw[h5]at Yj;have AfF:u.length=l.length:=by have hq:DT l (target.toNat+1) ((List.replicate l.length false).set target.toNat true)=some u:=h5;have:=HZ hq;simpa using this
  refine Xi .pure (Xi _ (Yi Yj (cU [(5,sl CT u),(6,vb true)] [] Z2 Tv (Xi {k:Nat // k<=u.length} (Xi (fun q=>⟨[(5,sl CT u),(7,.slice (.id 25 1) ((IS u q.1).map A0)),(8,vi q.1)],[(25,.tok 1 (IS u q.1).length)],Af⟩) (Xi (fun q=>u.length-q.1) (Yi (Xi ⟨0,Ao _⟩ ?_) ?_)))))))
  .exact⟨Z3,Z1,Fh,Tv⟩
  intro⟨k,k1⟩;have k1:k<=u.length:=k1;have pF:=W7 u k;refine Yi (fun h6=>?_) (fun h6=>?_)
  .have h6:(k:Int)<((u.map CT).length:Int):=h6;have n6:k<u.length:=by have q:=h6;rw[Lm]at q;omega
   have g6:u[k]?=some u[k]:=Ge n6;refine Xi (CT u[k]) (Yi (Yi (Nn k) (AM g6)) (Yi rfl (Yi (fun h7=>?_) (fun h7=>?_))))
   .have h7:u[k]=true:=h7;refine cU [(5,sl CT u),(7,.slice (.id 25 1) ((IS u k).map A0)),(8,vi k)] [(25,.tok 1 (IS u k).length)] Z3 Z1 ?_
    have b8:AZ 1 [[vi k]]/\((IS u k).map A0).length=(IS u k).length/\(((IS u k).map A0).length+([[vi k]]:List (List AV)).length)*8<=140737488355328/\((IS u k).map A0).length+([[vi k]]:List (List AV)).length<=9223372036854775807:=⟨⟨rfl,trivial⟩,(by rw[Lm]),(by simp only[Lm,Av,AA];omega),(by simp only[Lm,Av,AA];omega)⟩;refine Yi b8 (cU [(5,sl CT u),(7,.slice (.id 25 1) (((IS u k).map A0)++[[vi k]])),(8,vi k)] [(25,.tok 1 (((IS u k).map A0).length+([[vi k]]:List (List AV)).length))] Z3 Z1 (Yi (Ii k aa0) ?_));have Ij:=O9 u k n6;rw[h7]at Ij;simp only[Qx]at Ij;refine Xi ⟨k+1,by omega⟩ ?_;exact⟨Dl u.length k aa0,⟨Zr,⟨(show AV.slice (.id 25 1) ((IS u k).map A0++[[vi k]])=.slice (.id 25 1) ((IS u (k+1)).map A0) by rw[Ij,AB];rfl),rfl⟩,Zr,Tv⟩,⟨⟨(show HO.tok 1 (((IS u k).map A0).length+([[vi k]]:List (List AV)).length)=.tok 1 (IS u (k+1)).length by rw[Ij,As,Lm];rfl),rfl⟩,Tv⟩,Fh,Tv⟩
   have h7:u[k]=false:=h7;refine cU [(5,sl CT u),(7,.slice (.id 25 1) ((IS u k).map A0)),(8,vi k)] [(25,.tok 1 (IS u k).length)] Z3 Z1 (Yi (Ii k aa0) ?_);have Ij:=O9 u k n6;rw[h7]at Ij;simp only[D4,LU]at Ij;refine Xi ⟨k+1,by omega⟩ ?_;exact⟨Dl u.length k aa0,⟨Zr,⟨(show AV.slice (.id 25 1) ((IS u k).map A0)=.slice (.id 25 1) ((IS u (k+1)).map A0) by rw[Ij]),rfl⟩,Zr,Tv⟩,⟨⟨(show HO.tok 1 (IS u k).length=.tok 1 (IS u (k+1)).length by rw[Ij]),rfl⟩,Tv⟩,Fh,Tv⟩
  have h6:¬((k:Int)<((u.map CT).length:Int)):=h6;have n6:¬k<u.length:=by have q:=h6;rw[Lm]at q;omega
  have ra:k=u.length:=by omega
  exact .of_eq (show sl A0 (IS u k)=sl A0 (Dv l target) by rw[VB aa0 h5,ra];rfl)
 have Yj:=e52 l target hl (by have q:=h3;rw[ZC]at q;omega);rw[h5]at Yj;refine Xi .pure (Xi _ (Yi Yj (cU [(5,sl CT []),(6,vb false)] [] Z2 Tv ?_)))
 exact(show DC nzA (.slice .none [])from .nil).trans (.of_eq (show AV.slice .none []=sl A0 (Dv l target) by rw[Qe h5];rfl))
theorem e22(hl:BB l)(ht:Al target):PC 22 [sl Aj l,vi (target:Int)] (sl Aj (De l target)):=by
 have nI:∀i∈Dv l target,i<l.length:=Pa;have uv:=MM (l:=l) (target:=target);have k19:=yQ l target hl ht;obtain⟨U,hU⟩:∃U,U=Dv l target:=⟨_,rfl⟩;rw[<-hU]at nI uv k19;have hl:l.length<=1073741824:=hl;have nH:BB U:=by unfold BB;omega
 refine Ps (pC [] [3,7,9]) Tryz.func22 rfl (Nz rfl) (Xi .pure (Xi _ (Yi k19 (cU [(0,sl Aj l),(5,sl A0 U),(6,.slice (.id 12 6) [])] [(12,.tok 6 0)] Z3 Z1 (Xi {i:Nat // i<=U.length} (Xi (fun q=>⟨[(0,sl Aj l),(5,sl A0 U),(6,.slice (.id 12 6) (((U.take q.1).map fun k=>BV U (l.getD k BL)).map Aj)),(7,vi q.1)],[(12,.tok 6 q.1)],Af⟩) (Xi (fun q=>U.length-q.1) (Yi (Xi ⟨0,Ao _⟩ ?_) ?_))))))))
 .exact⟨Z4,Z1,Fh,Tv⟩
 intro⟨i,i1⟩;have i1:i<=U.length:=i1;have GH:((U.take i).map fun k=>BV U (l.getD k BL)).length=i:=by rw[Lm,AC];omega
 refine Yi (fun h1=>?_) (fun h1=>?_)
 .have h1:(i:Int)<((U.map A0).length:Int):=h1;have n1:i<U.length:=by have q:=h1;rw[Lm]at q;omega
  have g1:U[i]?=some U[i]:=Ge n1;have gy:l[U[i]]?=some (l.getD U[i] BL):=Wl (nI _ (Ah n1));refine Xi (A0 U[i]) (Yi (Yi (Nn i) (AM g1)) (Yi rfl (Xi (Aj (l.getD U[i] BL)) (Yi (Yi (show(0:Int)<=(U[i]:Nat) by omega) (AM gy)) (Yi rfl (yN (yN (cU [(0,sl Aj l),(5,sl A0 U),(6,.slice (.id 12 6) (((U.take i).map fun k=>BV U (l.getD k BL)).map Aj)),(7,vi i),(8,.ref 8 0)] [(8,.cells (Aj (l.getD U[i] BL))),(12,.tok 6 i)] Z5 Z2 (Yi (fun h2=>?_) (fun h2=>?_))))))))))
  .have h2:((l.getD U[i] BL).kind:Int)=(3:Int):=h2;refine Xi _ (Yi (e55 U (l.getD U[i] BL).left nH) (Xi _ (Yi (e55 U (l.getD U[i] BL).right nH) (yN (yN (Yi aa3 (cU [(0,sl Aj l),(5,sl A0 U),(6,.slice (.id 12 6) (((U.take i).map fun k=>BV U (l.getD k BL)).map Aj)),(7,vi i),(8,.ref 8 0)] [(8,.cells [vi (l.getD U[i] BL).kind,vs (l.getD U[i] BL).path,vi (l.getD U[i] BL).place,vi (l.getD U[i] BL).number,vi (EJ U (l.getD U[i] BL).left),vi (EJ U (l.getD U[i] BL).right)]),(12,.tok 6 i)] Z5 Z2 (yN ?_))))))));have b3:AZ 6 [[vi (l.getD U[i] BL).kind,vs (l.getD U[i] BL).path,vi (l.getD U[i] BL).place,vi (l.getD U[i] BL).number,vi (EJ U (l.getD U[i] BL).left),vi (EJ U (l.getD U[i] BL).right)]]/\(((U.take i).map fun k=>BV U (l.getD k BL)).map Aj).length=i/\((((U.take i).map fun k=>BV U (l.getD k BL)).map Aj).length+([[vi (l.getD U[i] BL).kind,vs (l.getD U[i] BL).path,vi (l.getD U[i] BL).place,vi (l.getD U[i] BL).number,vi (EJ U (l.getD U[i] BL).left),vi (EJ U (l.getD U[i] BL).right)]]:List (List AV)).length)*56<=140737488355328/\(((U.take i).map fun k=>BV U (l.getD k BL)).map Aj).length+([[vi (l.getD U[i] BL).kind,vs (l.getD U[i] BL).path,vi (l.getD U[i] BL).place,vi (l.getD U[i] BL).number,vi (EJ U (l.getD U[i] BL).left),vi (EJ U (l.getD U[i] BL).right)]]:List (List AV)).length<=9223372036854775807:=⟨⟨rfl,trivial⟩,(by simp only[Lm,AC];omega),(by simp only[Lm,Av,AA,AC];omega),(by simp only[Lm,Av,AA,AC];omega)⟩;refine Yi b3 (Yi (Ii i aa0) ?_);have hy:[vi (l.getD U[i] BL).kind,vs (l.getD U[i] BL).path,vi (l.getD U[i] BL).place,vi (l.getD U[i] BL).number,vi (EJ U (l.getD U[i] BL).left),vi (EJ U (l.getD U[i] BL).right)]=Aj (BV U (l.getD U[i] BL)):=by unfold BV;rw[AE h2];try rfl
   have ht:(U.take (i+1)).map (fun k=>BV U (l.getD k BL))=(U.take i).map (fun k=>BV U (l.getD k BL))++[BV U (l.getD U[i] BL)]:=by rw[A6 n1,AB];rfl
   refine Xi ⟨i+1,by omega⟩ ?_;exact⟨Dl U.length i aa0,⟨Zr,Zr,⟨(show AV.slice (.id 12 6) (((U.take i).map fun k=>BV U (l.getD k BL)).map Aj++[[vi (l.getD U[i] BL).kind,vs (l.getD U[i] BL).path,vi (l.getD U[i] BL).place,vi (l.getD U[i] BL).number,vi (EJ U (l.getD U[i] BL).left),vi (EJ U (l.getD U[i] BL).right)]])=.slice (.id 12 6) (((U.take (i+1)).map fun k=>BV U (l.getD k BL)).map Aj) by rw[ht,AB,hy];rfl),rfl⟩,Zr,Tv⟩,⟨⟨(show HO.tok 6 ((((U.take i).map fun k=>BV U (l.getD k BL)).map Aj).length+([[vi (l.getD U[i] BL).kind,vs (l.getD U[i] BL).path,vi (l.getD U[i] BL).place,vi (l.getD U[i] BL).number,vi (EJ U (l.getD U[i] BL).left),vi (EJ U (l.getD U[i] BL).right)]]:List (List AV)).length)=.tok 6 (i+1) by rw[Lm,GH];rfl),rfl⟩,Tv⟩,Fh,Tv⟩
  have h2:¬(((l.getD U[i] BL).kind:Int)=(3:Int)):=h2;refine cU [(0,sl Aj l),(5,sl A0 U),(6,.slice (.id 12 6) (((U.take i).map fun k=>BV U (l.getD k BL)).map Aj)),(7,vi i),(8,.ref 8 0)] [(8,.cells (Aj (l.getD U[i] BL))),(12,.tok 6 i)] Z5 Z2 (yN ?_);have b5:AZ 6 [(Aj (l.getD U[i] BL))]/\(((U.take i).map fun k=>BV U (l.getD k BL)).map Aj).length=i/\((((U.take i).map fun k=>BV U (l.getD k BL)).map Aj).length+([(Aj (l.getD U[i] BL))]:List (List AV)).length)*56<=140737488355328/\(((U.take i).map fun k=>BV U (l.getD k BL)).map Aj).length+([(Aj (l.getD U[i] BL))]:List (List AV)).length<=9223372036854775807:=⟨⟨rfl,trivial⟩,(by simp only[Lm,AC];omega),(by simp only[Lm,Av,AA,AC];omega),(by simp only[Lm,Av,AA,AC];omega)⟩;refine Yi b5 (Yi (Ii i aa0) ?_);have hy:(Aj (l.getD U[i] BL))=Aj (BV U (l.getD U[i] BL)):=by unfold BV;rw[Aw h2];try rfl
  have ht:(U.take (i+1)).map (fun k=>BV U (l.getD k BL))=(U.take i).map (fun k=>BV U (l.getD k BL))++[BV U (l.getD U[i] BL)]:=by rw[A6 n1,AB];rfl
  refine Xi ⟨i+1,by omega⟩ ?_;exact⟨Dl U.length i aa0,⟨Zr,Zr,⟨(show AV.slice (.id 12 6) (((U.take i).map fun k=>BV U (l.getD k BL)).map Aj++[(Aj (l.getD U[i] BL))])=.slice (.id 12 6) (((U.take (i+1)).map fun k=>BV U (l.getD k BL)).map Aj) by rw[ht,AB,hy];rfl),rfl⟩,Zr,Tv⟩,⟨⟨(show HO.tok 6 ((((U.take i).map fun k=>BV U (l.getD k BL)).map Aj).length+([(Aj (l.getD U[i] BL))]:List (List AV)).length)=.tok 6 (i+1) by rw[Lm,GH];rfl),rfl⟩,Tv⟩,Fh,Tv⟩
 have h1:¬((i:Int)<((U.map A0).length:Int)):=h1;have n1:¬i<U.length:=by have q:=h1;rw[Lm]at q;omega
 exact .of_eq (show sl Aj ((U.take i).map fun k=>BV U (l.getD k BL))=sl Aj (De l target) by unfold De;rw[<-hU,AK aa0])
theorem SP(h0:0<=n)(h1:n<=1000000000):(Gm n).size<=21:=FV aa0 aa0
theorem V8(h0:0<=n)(h1:n<10):Gm n=⟨[UInt8.ofNat (48+n.toNat)].toArray⟩:=by
 rw[JX h0,RS aa0]
theorem bX(h0:0<=n)(h1:¬n<10):Gm n=Gm (n / 10)++Gm (n % 10):=by
 rw[JX h0,JX (show 0<=n / 10 by omega),JX (show 0<=n % 10 by omega),iL aa0,RS (n:=(n % 10).toNat) aa0];have e1:(n / 10).toNat=n.toNat / 10:=by omega
 have e2:(n % 10).toNat=n.toNat % 10:=by omega
 rw[e1,e2]
theorem bG(h0:0<=n)(h1:n<10):([[AV.v (.int .u8 (IntKind.wrap .u8 (48+n)))]]:List (List AV))=[UInt8.ofNat (48+n.toNat)].map (fun b=>[AV.v (.int .u8 b.toNat)]):=by
 have e:(IntKind.wrap .u8 (48+n):Int)=((UInt8.ofNat (48+n.toNat)).toNat:Int):=by
  have h2:(UInt8.ofNat (48+n.toNat)).toNat=48+n.toNat:=by
   rw[UInt8.toNat_ofNat'];omega
  rw[h2];unfold IntKind.wrap;simp[IntKind.bits,IntKind.signed];omega
 rw[e];rfl
theorem yS:∀(k:Nat) (n:Int),n<k->0<=n->n<=1000000000->PC 333 [vi n] (vs (Gm n)):=by
 intro k
 induction k with
 |zero=>intro n h h0;omega
 |succ k ih=>
  intro n hk h0 h1;refine Ps Cu Tryz.func333 rfl (Nz rfl) (Yi (fun h1=>?_) (fun h1=>?_))
  .have h1:(n:Int)<(10:Int):=h1;refine Yi (by show Al (48+n);unfold Al;omega) (Xi [UInt8.ofNat (48+n.toNat)] (Yi (bG h0 h1) ?_));exact .of_eq (show vs ⟨[UInt8.ofNat (48+n.toNat)].toArray⟩=vs (Gm n) by rw[V8 h0 h1])
  have h1:¬((n:Int)<(10:Int)):=h1;refine Yi ⟨by omega,by omega,(by show Al (n);unfold Al;omega)⟩ ?_;refine Xi .pure (Xi _ (Yi (ih (n / 10) aa0 aa0 aa0) (Yi ⟨by omega,by omega⟩ ?_)));refine Xi .pure (Xi _ (Yi (ih (n % 10) aa0 aa0 aa0) (Yi (G5 (AL (SP aa0 aa0) aa2) (AL (SP aa0 aa0) aa2)) ?_)));exact .of_eq (show vs (Gm (n / 10)++Gm (n % 10))=vs (Gm n) by rw[<-bX h0 h1])
theorem iU(n:Int)(h0:0<=n)(h1:n<=1000000000):PC 333 [vi n] (vs (Gm n)):=yS (n.toNat+1) n aa0 h0 h1
theorem yR(v:Ver)(hv:Bo v=true):PC 297 [.agg (Dt v)] (.tup [vs (TM v.a v.b v.c),vi 0]):=by
 have ug:=qm v;rw[hv]at ug;unfold Bo at hv;simp only[Au,Bg]at hv;obtain⟨⟨va,vb'⟩,vc⟩:=hv;unfold okPart at va vb' vc;have za:=SP (n:=v.a) aa0 aa0;have zb:=SP (n:=v.b) aa0 aa0;have zc:=SP (n:=v.c) aa0 aa0;refine Ps Cu Tryz.func297 rfl (Nz rfl) (yN (Xi .pure (Xi _ (Yi ug (Xi _ (Yi (iU v.a aa0 aa0) (Yi (by have q1:=za;have q2:=zb;have q3:=zc;have q4:(⟨#[46]⟩:ByteArray).size=1:=rfl;have q5:=AY (Gm v.a) ⟨#[46]⟩;have q6:=AY (Gm v.a++⟨#[46]⟩) (Gm v.b);have q7:=AY (Gm v.a++⟨#[46]⟩++Gm v.b) ⟨#[46]⟩;show((_+_:Nat):Int)<=_;omega) ?_)))))));refine Xi _ (Yi (iU v.b aa0 aa0) (Yi (by have q1:=za;have q2:=zb;have q3:=zc;have q4:(⟨#[46]⟩:ByteArray).size=1:=rfl;have q5:=AY (Gm v.a) ⟨#[46]⟩;have q6:=AY (Gm v.a++⟨#[46]⟩) (Gm v.b);have q7:=AY (Gm v.a++⟨#[46]⟩++Gm v.b) ⟨#[46]⟩;show((_+_:Nat):Int)<=_;omega) ?_));refine Yi (by have q1:=za;have q2:=zb;have q3:=zc;have q4:(⟨#[46]⟩:ByteArray).size=1:=rfl;have q5:=AY (Gm v.a) ⟨#[46]⟩;have q6:=AY (Gm v.a++⟨#[46]⟩) (Gm v.b);have q7:=AY (Gm v.a++⟨#[46]⟩++Gm v.b) ⟨#[46]⟩;show((_+_:Nat):Int)<=_;omega) ?_;refine Xi _ (Yi (iU v.c aa0 aa0) (Yi (by have q1:=za;have q2:=zb;have q3:=zc;have q4:(⟨#[46]⟩:ByteArray).size=1:=rfl;have q5:=AY (Gm v.a) ⟨#[46]⟩;have q6:=AY (Gm v.a++⟨#[46]⟩) (Gm v.b);have q7:=AY (Gm v.a++⟨#[46]⟩++Gm v.b) ⟨#[46]⟩;show((_+_:Nat):Int)<=_;omega) ?_));refine Yi aa3 ?_;exact .refl _
theorem d7(p:Int)(hM:0<=m/\m<=999)(hp:0<=p/\p<1000000):PC 233 [vi m,vi p] (vs (Lt m p)):=by
 have hvv:Bo ⟨m,p / 1000,p % 1000⟩=true:=by
  have h1:okPart m:=hM;have h2:okPart (p / 1000):=by unfold okPart;omega
  have h3:okPart (p % 1000):=by unfold okPart;omega
  unfold Bo;rw[A4 h1,A4 h2,A4 h3];rfl
 have y5:=yR ⟨m,p / 1000,p % 1000⟩ hvv;refine Ps Cu Tryz.func233 rfl (Nz rfl) (Yi ⟨by omega,by omega,(by show Al (p);unfold Al;omega)⟩ ?_);refine Yi ⟨by omega,by omega⟩ ?_;refine Xi .pure (Xi _ (Yi y5 ?_));exact .refl _
theorem tZ(x:Int×Int)(m:Int)(hM:0<=m/\m<=999)(h1:0<=x.1)(h2:x.1<x.2)(h3:x.2<=1000000):PC 165 [.agg (Ab x),vi m] (vs (Dn m x)):=by
 have z1:=I0 (p:=x.1) hM aa0;have z2:=I0 (p:=x.2) hM aa0;refine Ps Cu Tryz.func165 rfl (Nz rfl) (Yi (fun h1=>?_) (fun h1=>?_))
 .have h1:(x.1:Int)=(0:Int):=h1;refine Yi (fun h2=>?_) (fun h2=>?_)
  .have h2:(x.2:Int)=(1000000:Int):=h2;exact .of_eq (show vs ⟨#[42]⟩=vs (Dn m x) by unfold Dn;rw[AE aa0])
  have h2:¬((x.2:Int)=(1000000:Int)):=h2;refine Yi (by show Al ((x.1:Int)+(1:Int));unfold Al;omega) (Yi (fun h4=>?_) (fun h4=>?_))
  .have h4:(x.2:Int)=(x.1+1:Int):=h4;refine Xi .pure (Xi _ (Yi (d7 m x.1 hM aa0) ?_));exact .of_eq (show vs (Lt m x.1)=vs (Dn m x) by unfold Dn;rw[Aw aa0,AE aa0])
  have h4:¬((x.2:Int)=(x.1+1:Int)):=h4;refine Yi (fun hf=>absurd hf h2) (fun _=>?_);refine Yi (fun _=>?_) (fun hf=>absurd h1 hf);refine Xi .pure (Xi _ (Yi (d7 m x.2 hM aa0) (Yi (G5 aa2 (by have q1:=z1;have q2:=z2;have q3:(⟨#[46,46]⟩:ByteArray).size=2:=rfl;omega)) ?_)));exact .of_eq (show vs (⟨#[46,46]⟩++(Lt m x.2))=vs (Dn m x) by unfold Dn;rw[Aw aa0,Aw aa0,Aw aa0,AE aa0])
 have h1:¬((x.1:Int)=(0:Int)):=h1;refine Yi (by show Al ((x.1:Int)+(1:Int));unfold Al;omega) (Yi (fun h7=>?_) (fun h7=>?_))
 .have h7:(x.2:Int)=(x.1+1:Int):=h7;refine Xi .pure (Xi _ (Yi (d7 m x.1 hM aa0) ?_));exact .of_eq (show vs (Lt m x.1)=vs (Dn m x) by unfold Dn;rw[Aw aa0,AE aa0])
 have h7:¬((x.2:Int)=(x.1+1:Int)):=h7;refine Yi (fun h9=>?_) (fun h9=>?_)
 .have h9:(x.2:Int)=(1000000:Int):=h9;refine Xi .pure (Xi _ (Yi (d7 m x.1 hM aa0) (Yi (G5 (by have q1:=z1;have q2:=z2;have q3:(⟨#[46,46]⟩:ByteArray).size=2:=rfl;omega) aa2) ?_)));exact .of_eq (show vs ((Lt m x.1)++⟨#[46,46]⟩)=vs (Dn m x) by unfold Dn;rw[Aw aa0,Aw aa0,AE aa0])
 have h9:¬((x.2:Int)=(1000000:Int)):=h9;refine Yi (fun hf=>absurd hf h1) (fun _=>?_);refine Xi _ (Yi (d7 m x.1 hM aa0) (Yi (G5 (by have q1:=z1;have q2:=z2;have q3:(⟨#[46,46]⟩:ByteArray).size=2:=rfl;omega) aa2) ?_));refine Xi _ (Yi (d7 m x.2 hM aa0) (Yi (G5 (by simp only[AY];have q1:=z1;have q2:=z2;have q3:(⟨#[46,46]⟩:ByteArray).size=2:=rfl;omega) (by have q1:=z1;have q2:=z2;have q3:(⟨#[46,46]⟩:ByteArray).size=2:=rfl;omega)) ?_));refine Yi aa3 ?_;exact .of_eq (show vs (((Lt m x.1)++⟨#[46,46]⟩)++(Lt m x.2))=vs (Dn m x) by unfold Dn;rw[Aw aa0,Aw aa0,Aw aa0,Aw aa0])
theorem Yy{sep:ByteArray}{l:List ByteArray}(hB:∀x∈l,x.size<=1000000000)(hl:l.length<=1000000)(hs:sep.size<=100):(Bk sep l).size<=1000000100000000:=by
 have h1:=El sep 1000000000 l hB;have h2:l.length*(1000000000+sep.size)<=1000000*1000000100:=FP hl aa0;omega
theorem spJ(i:Nat)(h:i<(canon s).length):Bk GD (Fv m s (i+1))=(if 0<i then Bk GD (Fv m s i)++GD else Bk GD (Fv m s i))++Dn m (canon s)[i]:=by
 have:=NG GD (l:=(canon s).map (Dn m)) (i:=i) (by simpa using h)
 rw[List.getElem_map,<-List.map_take,<-List.map_take]at this;exact this
theorem lG{m:Int}(hm:0<=m/\m<=999)(s:AF)(i:Nat)(h:i<=(canon s).length):(Bk GD (Fv m s i)).size<=270000000:=by
 have h1:=El GD 132 (Fv m s i) (fun x hx=>by
  obtain⟨y,hy,rfl⟩:=Ay.1 hx
  have:=Mq (Bc s) y (CV hy)
  exact H3 hm this.1 this.2)
 have hl:=CK (Bc s);have e:GD.size=3:=rfl;rw[Lm,AC,e]at h1;have h2:min i (canon s).length*(132+3)<=i*135:=FP (Nat.min_le_left ..) aa0;omega
theorem yL(hp:Ew p):PC 102 [vs p] (.tup [vs (sT p),vi (Ft p),vi (me p)]):=by
 have h:=tr p hp;have e:OL PH p=.tup [vs (sT p),vi (Ft p),vi (me p)]:=by
  unfold OL sT me Ft;cases A8 p<;>rfl
 rwa [e]at h
theorem rM{p:ByteArray}(h:me p≠0):Ft p=0:=by
 unfold me at h;unfold Ft;cases e:A8 p with
 |none=>rfl
 |some m=>rw[e]at h;exact absurd rfl h
theorem e51(l:List ByteArray)(sep:ByteArray)(hB:∀x∈l,x.size<=1000000000)(hl:l.length<=1000000)(hs:sep.size<=100):PC 51 [sl Ag l,vs sep] (vs (Bk sep l)):=by
 refine Ps Cu Tryz.func51 rfl (Nz rfl) (Xi {i:Nat // i<=l.length} (Xi (fun q=>⟨[(0,sl Ag l),(1,vs sep),(5,vs (Bk sep (l.take q.1))),(6,vi q.1)],[],Af⟩) (Xi (fun q=>l.length-q.1) (Yi (Xi ⟨0,Ao _⟩ ?_) ?_))))
 .exact⟨⟨Zr,Zr,⟨(show vs ⟨#[]⟩=vs (Bk sep (l.take 0))from rfl),rfl⟩,Zr,Tv⟩,Tv,Fh,Tv⟩
 intro⟨i,i1⟩;have i1:i<=l.length:=i1;have q8:=Yy (sep:=sep) (l:=l.take i) (fun x hx=>hB x (CV hx)) (by rw[AC];omega) hs;refine Yi (fun h1=>?_) (fun h1=>?_)
 .have h1:(i:Int)<((l.map Ag).length:Int):=h1;have n1:i<l.length:=by have q:=h1;rw[Lm]at q;omega
  have g1:l[i]?=some l[i]:=Ge n1;refine Yi (fun h2=>?_) (fun h2=>?_)
  .have h2:(0:Int)<(i:Int):=h2;refine Yi (by have q1:=hB l[i] (Ah n1);have q2:=AY (Bk sep (l.take i)) sep;have q3:=q8;have q4:=hs;show(((Bk sep (l.take i)).size+sep.size:Nat):Int)<=_;omega) ?_;refine Xi (Ag l[i]) (Yi (Yi (Nn i) (AM g1)) (Yi rfl (Yi (by have q1:=hB l[i] (Ah n1);have q2:=AY (Bk sep (l.take i)) sep;have q3:=q8;have q4:=hs;show((((Bk sep (l.take i))++sep).size+l[i].size:Nat):Int)<=_;omega) ?_)));refine Yi (Ii i aa0) (Xi ⟨i+1,by omega⟩ ?_);exact⟨Dl l.length i aa0,⟨Zr,Zr,⟨(show vs (((Bk sep (l.take i))++sep)++l[i])=vs (Bk sep (l.take (i+1))) by rw[NG sep n1,AE aa0]),rfl⟩,Zr,Tv⟩,Tv,Fh,Tv⟩
  have h2:¬((0:Int)<(i:Int)):=h2;refine Xi (Ag l[i]) (Yi (Yi (Nn i) (AM g1)) (Yi rfl (Yi (by have q1:=hB l[i] (Ah n1);have q2:=AY (Bk sep (l.take i)) sep;have q3:=q8;have q4:=hs;show(((Bk sep (l.take i)).size+l[i].size:Nat):Int)<=_;omega) ?_)));refine Yi (Ii i aa0) (Xi ⟨i+1,by omega⟩ ?_);exact⟨Dl l.length i aa0,⟨Zr,Zr,⟨(show vs ((Bk sep (l.take i))++l[i])=vs (Bk sep (l.take (i+1))) by rw[NG sep n1,Aw aa0]),rfl⟩,Zr,Tv⟩,Tv,Fh,Tv⟩
 have h1:¬((i:Int)<((l.map Ag).length:Int)):=h1;have n1:¬i<l.length:=by have q:=h1;rw[Lm]at q;omega
 exact .of_eq (show vs (Bk sep (l.take i))=vs (Bk sep l) by rw[AK aa0])
theorem tX(m:Int)(hM:0<=m/\m<=999)(hs:BB s):PC 103 [sl Ab s,vi m] (.tup [vs (MZ m s),vi 0]):=by
 have hM:0<=m/\m<=999:=hM;have TY:=CK (Bc s);refine Ps (pC [] [2,3,5,6,9,10,12]) Tryz.func103 rfl (Nz rfl) (Yi (fun hf=>absurd hf (show ¬m<0 by omega)) (fun _=>?_));refine Yi (fun hf=>absurd hf (show ¬(999:Int)<m by omega)) (fun _=>?_);refine cU [(0,sl Ab s),(1,vi m)] [] ⟨Zr,Zr,Tv⟩ Tv (Xi .pure (Xi _ (Yi (XM s hs) (Yi (fun h1=>?_) (fun h1=>?_)))))
 .have h1:(((canon s).map Ab).length:Int)=(0:Int):=h1;refine cU [] [] Tv Tv ?_
  exact .of_eq (show AV.tup [vs iq,vi 0]=.tup [vs (MZ m s),vi 0] by unfold MZ;rw[AE (Az (by have q:=h1;rw[Lm]at q;omega))])
 have h1:¬((((canon s).map Ab).length:Int)=(0:Int)):=h1;refine cU [(1,vi m),(6,sl Ab (canon s))] [] ⟨Zr,Zr,Tv⟩ Tv (Xi {i:Nat // i<=(canon s).length} (Xi (fun q=>⟨[(1,vi m),(6,sl Ab (canon s)),(7,vs (Bk GD (Fv m s q.1))),(8,vi q.1)],[],Af⟩) (Xi (fun q=>(canon s).length-q.1) (Yi (Xi ⟨0,Ao _⟩ ?_) ?_))))
 .exact⟨⟨Zr,Zr,⟨(show vs ⟨#[]⟩=vs (Bk GD (Fv m s 0))from rfl),rfl⟩,Zr,Tv⟩,Tv,Fh,Tv⟩
 intro⟨i,i1⟩;have i1:i<=(canon s).length:=i1;have q8:=lG hM s i i1;refine Yi (fun h3=>?_) (fun h3=>?_)
 .have h3:(i:Int)<(((canon s).map Ab).length:Int):=h3;have n3:i<(canon s).length:=by have q:=h3;rw[Lm]at q;omega
  have g3:(canon s)[i]?=some (canon s)[i]:=Ge n3;have zA:=XO s i n3;refine cU [(1,vi m),(6,sl Ab (canon s)),(7,vs (Bk GD (Fv m s i))),(8,vi i)] [] ⟨Zr,Zr,Zr,Zr,Tv⟩ Tv (Yi (fun h4=>?_) (fun h4=>?_))
  .have h4:(0:Int)<(i:Int):=h4;refine Yi (by have q1:=H3 (x:=(canon s)[i]) hM aa0 aa0;have q2:=AY (Bk GD (Fv m s i)) ⟨#[32,124,32]⟩;have q3:=q8;have q4:(⟨#[32,124,32]⟩:ByteArray).size=3:=rfl;show((_+_:Nat):Int)<=_;omega) ?_;refine cU [(1,vi m),(6,sl Ab (canon s)),(7,vs ((Bk GD (Fv m s i))++⟨#[32,124,32]⟩)),(8,vi i)] [] ⟨Zr,Zr,Zr,Zr,Tv⟩ Tv (Xi (Ab ((canon s)[i])) (Yi (Yi (Nn i) (AM g3)) (Yi rfl (yN (Xi .pure (Xi _ (Yi (tZ (canon s)[i] m hM aa0 aa0 aa0) (Yi (by have q1:=H3 (x:=(canon s)[i]) hM aa0 aa0;have q2:=AY (Bk GD (Fv m s i)) ⟨#[32,124,32]⟩;have q3:=q8;have q4:(⟨#[32,124,32]⟩:ByteArray).size=3:=rfl;show((_+_:Nat):Int)<=_;omega) ?_))))))));refine cU [(1,vi m),(6,sl Ab (canon s)),(7,vs (((Bk GD (Fv m s i))++⟨#[32,124,32]⟩)++(Dn m (canon s)[i]))),(8,vi i)] [] ⟨Zr,Zr,Zr,Zr,Tv⟩ Tv (Yi (Ii i aa0) (Xi ⟨i+1,by omega⟩ ?_));exact⟨by show(canon s).length-(i+1)<(canon s).length-i;omega,⟨Zr,Zr,⟨(show vs (((Bk GD (Fv m s i))++⟨#[32,124,32]⟩)++(Dn m (canon s)[i]))=vs (Bk GD (Fv m s (i+1))) by rw[spJ m s i n3,AE aa0]),rfl⟩,Zr,Tv⟩,Tv,Fh,Tv⟩
  have h4:¬((0:Int)<(i:Int)):=h4;refine cU [(1,vi m),(6,sl Ab (canon s)),(7,vs (Bk GD (Fv m s i))),(8,vi i)] [] ⟨Zr,Zr,Zr,Zr,Tv⟩ Tv (Xi (Ab ((canon s)[i])) (Yi (Yi (Nn i) (AM g3)) (Yi rfl (yN (Xi .pure (Xi _ (Yi (tZ (canon s)[i] m hM aa0 aa0 aa0) (Yi (by have q1:=H3 (x:=(canon s)[i]) hM aa0 aa0;have q2:=AY (Bk GD (Fv m s i)) ⟨#[32,124,32]⟩;have q3:=q8;have q4:(⟨#[32,124,32]⟩:ByteArray).size=3:=rfl;show((_+_:Nat):Int)<=_;omega) ?_))))))));refine cU [(1,vi m),(6,sl Ab (canon s)),(7,vs ((Bk GD (Fv m s i))++(Dn m (canon s)[i]))),(8,vi i)] [] ⟨Zr,Zr,Zr,Zr,Tv⟩ Tv (Yi (Ii i aa0) (Xi ⟨i+1,by omega⟩ ?_));exact⟨by show(canon s).length-(i+1)<(canon s).length-i;omega,⟨Zr,Zr,⟨(show vs ((Bk GD (Fv m s i))++(Dn m (canon s)[i]))=vs (Bk GD (Fv m s (i+1))) by rw[spJ m s i n3,Aw aa0]),rfl⟩,Zr,Tv⟩,Tv,Fh,Tv⟩
 have h3:¬((i:Int)<(((canon s).map Ab).length:Int)):=h3;have n3:¬i<(canon s).length:=by have q:=h3;rw[Lm]at q;omega
 exact .of_eq (show AV.tup [vs (Bk GD (Fv m s i)),vi 0]=.tup [vs (MZ m s),vi 0] by unfold MZ;rw[Aw (fun h=>by have q:=h1;rw[Lm,h]at q;exact q rfl),show Fv m s i=(canon s).map (Dn m)from by unfold Fv;rw[AK aa0]])
theorem yT(hp:Ew p)(hs:BB s):PC 47 [vs p,sl Ab s] (vs (MY p s)):=by
 refine Ps Cu Tryz.func47 rfl (Nz rfl) (Xi .pure (Xi _ (Yi (yL p hp) (Yi (fun h1=>?_) (fun h1=>?_)))))
 .have h1:((me p):Int)≠(0:Int):=h1;refine Xi .pure (Xi _ (Yi (tX s 0 ⟨by decide,by decide⟩ hs) ?_));exact .of_eq (show vs (MZ 0 s)=vs (MY p s) by unfold MY;rw[rM (fun h=>absurd h h1)])
 have h1:((me p):Int)=(0:Int):=AQ h1;refine Xi .pure (Xi _ (Yi (tX s (Ft p) (HY p) hs) ?_));exact .refl _
theorem e14(t:Tm)(hp:H8 t.path)(hs:BB t.set):PC 14 [.agg (Ac t)] (vs (CZ t)):=by
 have OE:BB (BJ t.set):=by have:=CK (E0 t.set);unfold BB;omega
 refine Ps Cu Tryz.func14 rfl (Nz rfl) (Yi (fun h1=>?_) (fun h1=>?_))
 .have h1:t.absent=true:=h1;refine Yi (by have q1:t.path.size<=1048576:=hp;have q2:=AY t.path ⟨#[32]⟩;have q3:(⟨#[32]⟩:ByteArray).size=1:=rfl;have q4:=F1 t.path t.set;have q5:=F1 t.path (BJ t.set);show((_+_:Nat):Int)<=_;omega) ?_;refine Xi _ (Yi (dM t.set hs) (Xi _ (Yi (yT t.path (BJ t.set) hp.s OE) (Yi (by have q1:t.path.size<=1048576:=hp;have q2:=AY t.path ⟨#[32]⟩;have q3:(⟨#[32]⟩:ByteArray).size=1:=rfl;have q4:=F1 t.path t.set;have q5:=F1 t.path (BJ t.set);show((_+_:Nat):Int)<=_;omega) ?_))));refine Yi aa3 ?_;exact .of_eq (show vs ((t.path++⟨#[32]⟩)++(MY t.path (BJ t.set)))=vs (CZ t) by unfold CZ;rw[h1];rfl)
 have h1:t.absent=false:=h1;refine Yi (by have q1:t.path.size<=1048576:=hp;have q2:=AY t.path ⟨#[32]⟩;have q3:(⟨#[32]⟩:ByteArray).size=1:=rfl;have q4:=F1 t.path t.set;have q5:=F1 t.path (BJ t.set);show((_+_:Nat):Int)<=_;omega) ?_;refine Xi _ (Yi (yT t.path t.set hp.s hs) (Yi (by have q1:t.path.size<=1048576:=hp;have q2:=AY t.path ⟨#[32]⟩;have q3:(⟨#[32]⟩:ByteArray).size=1:=rfl;have q4:=F1 t.path t.set;have q5:=F1 t.path (BJ t.set);show((_+_:Nat):Int)<=_;omega) ?_));refine Yi aa3 ?_;exact .of_eq (show vs ((t.path++⟨#[32]⟩)++(MY t.path t.set))=vs (CZ t) by unfold CZ;rw[h1];rfl)
theorem Kf(c:List Tm):Yr c=if(Br c).length=0 then(if(A7 c).length=0 then bU else if(A7 c).length=1 then Bk IJ (A7 c)++mB else Bk IJ (A7 c)++wA)
  else if(A7 c).length=0 then Bk VW (Br c)++Q6 else if(A7 c).length=1 then Bk IJ (A7 c)++VV++Bk VW (Br c)else Bk IJ (A7 c)++bS++Bk VW (Br c):=by
 unfold Yr;simp only[Jz]
theorem jy(hp:∀t∈c,H8 t.path):∀x∈A7 c,x.size<=1000000000:=fun x hx=>by
 obtain⟨t,ht,rfl⟩:=Ke c x hx
 have:=Jm (hp t ht);omega
theorem kF(hp:∀t∈c,H8 t.path):∀x∈Br c,x.size<=1000000000:=fun x hx=>by
 obtain⟨t,ht,rfl⟩:=Kn c x hx
 have:=Jm (hp t ht);omega
theorem e16(l:List Tm)(hl:l.length<=500000)(hs:∀t∈l,BB t.set)(hp:∀t∈l,H8 t.path):PC 16 [sl Ac l] (vs (BD l)):=by
 have hl:l.length<=500000:=hl;have wJ:=MT l (by unfold BB;omega) hs;unfold G4 at wJ;obtain⟨c,Wu⟩:∃c,c=BM l:=⟨_,rfl⟩;rw[<-Wu]at wJ;refine Ps (pC [] [2,5,7,8,9,10,12,14,15,17,19,20,22]) Tryz.func16 rfl (Nz rfl) (AG (Bt (AW l).isSome) (fun h1=>?_) (fun h1=>?_))
 .have h1:(AW l).isSome=true:=h1;have OE:(AW l).isSome=true:=h1;have UO:c=BM l:=Wu;have nM:AW l=some c:=by rw[UO];exact cQ OE
  have TY:c.length<=500000:=AL (Oe nM) hl;have eU:∀t∈c,H8 t.path:=fun t ht=>by
   obtain⟨u,hu,e⟩:=KC nM t ht;rw[e];exact hp u hu
  have uS:∀t∈c,BB t.set:=fun t ht=>GG ((F0 nM).canon t ht);obtain⟨PP,cp⟩:∃PP,PP=Bk IJ (A7 c):=⟨_,rfl⟩;obtain⟨NN,eP⟩:∃NN,NN=Bk VW (Br c):=⟨_,rfl⟩;have eR:(A7 c).length<=500000->PP.size<=70000100000000:=fun h=>by rw[cp];exact GA aa2 eU (Ke c) h
  have eQ:(Br c).length<=500000->NN.size<=70000100000000:=fun h=>by rw[eP];exact GA aa2 eU (Kn c) h
  have OC:=wJ;rw[show(AW l).isSome=true from h1]at OC;refine Xi .pure (Xi _ (Yi OC (cU [(3,sl Ac c),(4,vb true)] [] Z2 Tv (cU [(3,sl Ac c),(5,.slice (.id 17 1) []),(6,.slice (.id 18 1) [])] [(17,.tok 1 0),(18,.tok 1 0)] Z3 Z2 (Xi {i:Nat // i<=c.length} (Xi (fun q=>⟨[(3,sl Ac c),(5,.slice (.id 17 1) ((A7 (c.take q.1)).map Ag)),(6,.slice (.id 18 1) ((Br (c.take q.1)).map Ag)),(7,vi q.1)],[(17,.tok 1 (A7 (c.take q.1)).length),(18,.tok 1 (Br (c.take q.1)).length)],Af⟩) (Xi (fun q=>c.length-q.1) (Yi (Xi ⟨0,Ao _⟩ ?_) ?_))))))))
  .exact⟨Z4,Z2,Fh,Tv⟩
  intro⟨i,i1⟩;have i1:i<=c.length:=i1;have rb:=Wy (c.take i);rw[AC,Nat.min_eq_left i1]at rb;have Xk:(A7 (c.take i)).length<=500000:=by omega
  have Xl:(Br (c.take i)).length<=500000:=by omega
  refine Yi (fun h3=>?_) (fun h3=>?_)
  .have h3:(i:Int)<((c.map Ac).length:Int):=h3;have n3:i<c.length:=by have q:=h3;rw[Lm]at q;omega
   have g3:c[i]?=some c[i]:=Ge n3;refine cU [(3,sl Ac c),(5,.slice (.id 17 1) ((A7 (c.take i)).map Ag)),(6,.slice (.id 18 1) ((Br (c.take i)).map Ag)),(7,vi i)] [(17,.tok 1 (A7 (c.take i)).length),(18,.tok 1 (Br (c.take i)).length)] Z4 Z2 (Xi (Ac c[i]) (Yi (Yi (Nn i) (AM g3)) (Yi rfl (Yi (fun h4=>?_) (fun h4=>?_)))))
   .have h4:c[i].absent=true:=h4;refine cU [(3,sl Ac c),(5,.slice (.id 17 1) ((A7 (c.take i)).map Ag)),(6,.slice (.id 18 1) ((Br (c.take i)).map Ag)),(7,vi i)] [(17,.tok 1 (A7 (c.take i)).length),(18,.tok 1 (Br (c.take i)).length)] Z4 Z2 (Xi (Ac c[i]) (Yi (Yi (Nn i) (AM g3)) (Yi rfl (yN (Xi .pure (Xi _ (Yi (e14 c[i] (eU _ (Ah n3)) (uS _ (Ah n3))) ?_)))))));have b5:AZ 1 [[vs (CZ c[i])]]/\((Br (c.take i)).map Ag).length=(Br (c.take i)).length/\(((Br (c.take i)).map Ag).length+([[vs (CZ c[i])]]:List (List AV)).length)*16<=140737488355328/\((Br (c.take i)).map Ag).length+([[vs (CZ c[i])]]:List (List AV)).length<=9223372036854775807:=⟨⟨rfl,trivial⟩,(by rw[Lm]),(by simp only[Lm,Av,AA];omega),(by simp only[Lm,Av,AA];omega)⟩;refine Yi b5 (cU [(3,sl Ac c),(5,.slice (.id 17 1) ((A7 (c.take i)).map Ag)),(6,.slice (.id 18 1) (((Br (c.take i)).map Ag)++[[vs (CZ c[i])]])),(7,vi i)] [(17,.tok 1 (A7 (c.take i)).length),(18,.tok 1 (((Br (c.take i)).map Ag).length+([[vs (CZ c[i])]]:List (List AV)).length))] Z4 Z2 (Yi (Ii i aa0) ?_));have SB:=Mv c i n3;have QZ:=MG c i n3;rw[show c[i].absent=true from h4]at SB QZ;simp only[Qx]at SB QZ;refine Xi ⟨i+1,by omega⟩ ?_;exact⟨Dl c.length i aa0,⟨Zr,⟨(show AV.slice (.id 17 1) ((A7 (c.take i)).map Ag)=.slice (.id 17 1) ((A7 (c.take (i+1))).map Ag) by rw[SB]),rfl⟩,⟨(show AV.slice (.id 18 1) ((Br (c.take i)).map Ag++[[vs (CZ c[i])]])=.slice (.id 18 1) ((Br (c.take (i+1))).map Ag) by rw[QZ,AB];rfl),rfl⟩,Zr,Tv⟩,⟨⟨(show HO.tok 1 (A7 (c.take i)).length=.tok 1 (A7 (c.take (i+1))).length by rw[SB]),rfl⟩,⟨(show HO.tok 1 (((Br (c.take i)).map Ag).length+([[vs (CZ c[i])]]:List (List AV)).length)=.tok 1 (Br (c.take (i+1))).length by rw[QZ,As,Lm];rfl),rfl⟩,Tv⟩,Fh,Tv⟩
   have h4:c[i].absent=false:=h4;refine cU [(3,sl Ac c),(5,.slice (.id 17 1) ((A7 (c.take i)).map Ag)),(6,.slice (.id 18 1) ((Br (c.take i)).map Ag)),(7,vi i)] [(17,.tok 1 (A7 (c.take i)).length),(18,.tok 1 (Br (c.take i)).length)] Z4 Z2 (Xi (Ac c[i]) (Yi (Yi (Nn i) (AM g3)) (Yi rfl (yN (Xi .pure (Xi _ (Yi (e14 c[i] (eU _ (Ah n3)) (uS _ (Ah n3))) ?_)))))));have b7:AZ 1 [[vs (CZ c[i])]]/\((A7 (c.take i)).map Ag).length=(A7 (c.take i)).length/\(((A7 (c.take i)).map Ag).length+([[vs (CZ c[i])]]:List (List AV)).length)*16<=140737488355328/\((A7 (c.take i)).map Ag).length+([[vs (CZ c[i])]]:List (List AV)).length<=9223372036854775807:=⟨⟨rfl,trivial⟩,(by rw[Lm]),(by simp only[Lm,Av,AA];omega),(by simp only[Lm,Av,AA];omega)⟩;refine Yi b7 (cU [(3,sl Ac c),(5,.slice (.id 17 1) (((A7 (c.take i)).map Ag)++[[vs (CZ c[i])]])),(6,.slice (.id 18 1) ((Br (c.take i)).map Ag)),(7,vi i)] [(17,.tok 1 (((A7 (c.take i)).map Ag).length+([[vs (CZ c[i])]]:List (List AV)).length)),(18,.tok 1 (Br (c.take i)).length)] Z4 Z2 (Yi (Ii i aa0) ?_));have SB:=Mv c i n3;have QZ:=MG c i n3;rw[show c[i].absent=false from h4]at SB QZ;simp only[D4,LU]at SB QZ;refine Xi ⟨i+1,by omega⟩ ?_;exact⟨Dl c.length i aa0,⟨Zr,⟨(show AV.slice (.id 17 1) ((A7 (c.take i)).map Ag++[[vs (CZ c[i])]])=.slice (.id 17 1) ((A7 (c.take (i+1))).map Ag) by rw[SB,AB];rfl),rfl⟩,⟨(show AV.slice (.id 18 1) ((Br (c.take i)).map Ag)=.slice (.id 18 1) ((Br (c.take (i+1))).map Ag) by rw[QZ]),rfl⟩,Zr,Tv⟩,⟨⟨(show HO.tok 1 (((A7 (c.take i)).map Ag).length+([[vs (CZ c[i])]]:List (List AV)).length)=.tok 1 (A7 (c.take (i+1))).length by rw[SB,As,Lm];rfl),rfl⟩,⟨(show HO.tok 1 (Br (c.take i)).length=.tok 1 (Br (c.take (i+1))).length by rw[QZ]),rfl⟩,Tv⟩,Fh,Tv⟩
  have h3:¬((i:Int)<((c.map Ac).length:Int)):=h3;have n3:¬i<c.length:=by have q:=h3;rw[Lm]at q;omega
  have ej:c.take i=c:=AK aa0;rw[ej]at Xk Xl;refine Xi .pure (Xi _ (Yi (show PC 51 [sl Ag (A7 (c.take i)),vs IJ] (vs PP) by rw[ej,cp];exact e51 (A7 c) IJ (jy eU) aa0 aa2) (Xi .pure (Xi _ (Yi (show PC 51 [sl Ag (Br (c.take i)),vs VW] (vs NN) by rw[ej,eP];exact e51 (Br c) VW (kF eU) aa0 aa2) (cU [(5,.slice (.id 17 1) ((A7 (c.take i)).map Ag)),(6,.slice (.id 18 1) ((Br (c.take i)).map Ag)),(8,vs PP),(9,vs NN)] [(17,.tok 1 (A7 (c.take i)).length),(18,.tok 1 (Br (c.take i)).length)] Z4 Z2 (Yi (fun h9=>?_) (fun h9=>?_))))))))
  .have h9:(((Br (c.take i)).map Ag).length:Int)=(0:Int):=h9;refine Yi (fun I8=>?_) (fun I8=>?_)
   .have I8:(((A7 (c.take i)).map Ag).length:Int)=(0:Int):=I8;refine cU [] [] Tv Tv ?_
    exact .of_eq (show vs ⟨#[116,104,105,115,32,105,115,32,105,109,112,111,115,115,105,98,108,101]⟩=vs (BD l) by rw[Dx OE,<-UO,Kf,AE (by have q:=h9;rw[Lm,ej]at q;omega),AE (by have q:=I8;rw[Lm,ej]at q;omega)])
   have I8:¬((((A7 (c.take i)).map Ag).length:Int)=(0:Int)):=I8;refine cU [(5,.slice (.id 17 1) ((A7 (c.take i)).map Ag)),(8,vs PP)] [(17,.tok 1 (A7 (c.take i)).length)] Z2 Z1 (Yi (fun HX=>?_) (fun HX=>?_))
   .have HX:(((A7 (c.take i)).map Ag).length:Int)=(1:Int):=HX;refine Yi (by have q1:=eR Xk;have q2:=eQ Xl;have l0:(⟨#[32,105,115,32,105,109,112,111,115,115,105,98,108,101]⟩:ByteArray).size=14:=rfl;show((PP.size+(⟨#[32,105,115,32,105,109,112,111,115,115,105,98,108,101]⟩:ByteArray).size:Nat):Int)<=_;omega) ?_;exact .of_eq (show vs (PP++⟨#[32,105,115,32,105,109,112,111,115,115,105,98,108,101]⟩)=vs (BD l) by rw[Dx OE,<-UO,Kf,AE (by have q:=h9;rw[Lm,ej]at q;omega),Aw (by have q:=I8;rw[Lm,ej]at q;omega),AE (by have q:=HX;rw[Lm,ej]at q;omega),<-cp])
   have HX:¬((((A7 (c.take i)).map Ag).length:Int)=(1:Int)):=HX;refine cU [(8,vs PP)] [] Z1 Tv (Yi (by have q1:=eR Xk;have q2:=eQ Xl;have l0:(⟨#[32,100,111,32,110,111,116,32,103,111,32,116,111,103,101,116,104,101,114]⟩:ByteArray).size=19:=rfl;show((PP.size+(⟨#[32,100,111,32,110,111,116,32,103,111,32,116,111,103,101,116,104,101,114]⟩:ByteArray).size:Nat):Int)<=_;omega) ?_);exact .of_eq (show vs (PP++⟨#[32,100,111,32,110,111,116,32,103,111,32,116,111,103,101,116,104,101,114]⟩)=vs (BD l) by rw[Dx OE,<-UO,Kf,AE (by have q:=h9;rw[Lm,ej]at q;omega),Aw (by have q:=I8;rw[Lm,ej]at q;omega),Aw (by have q:=HX;rw[Lm,ej]at q;omega),<-cp])
  have h9:¬((((Br (c.take i)).map Ag).length:Int)=(0:Int)):=h9;refine Yi (fun Js=>?_) (fun Js=>?_)
  .have Js:(((A7 (c.take i)).map Ag).length:Int)=(0:Int):=Js;refine cU [(9,vs NN)] [] Z1 Tv (Yi (by have q1:=eR Xk;have q2:=eQ Xl;have l0:(⟨#[32,105,115,32,110,101,101,100,101,100]⟩:ByteArray).size=10:=rfl;show((NN.size+(⟨#[32,105,115,32,110,101,101,100,101,100]⟩:ByteArray).size:Nat):Int)<=_;omega) ?_);exact .of_eq (show vs (NN++⟨#[32,105,115,32,110,101,101,100,101,100]⟩)=vs (BD l) by rw[Dx OE,<-UO,Kf,Aw (by have q:=h9;rw[Lm,ej]at q;omega),AE (by have q:=Js;rw[Lm,ej]at q;omega),<-eP])
  have Js:¬((((A7 (c.take i)).map Ag).length:Int)=(0:Int)):=Js;refine cU [(5,.slice (.id 17 1) ((A7 (c.take i)).map Ag)),(8,vs PP),(9,vs NN)] [(17,.tok 1 (A7 (c.take i)).length)] Z3 Z1 (Yi (fun NZ=>?_) (fun NZ=>?_))
  .have NZ:(((A7 (c.take i)).map Ag).length:Int)=(1:Int):=NZ;refine Yi (by have q1:=eR Xk;have q2:=eQ Xl;have l0:(⟨#[32,110,101,101,100,115,32]⟩:ByteArray).size=7:=rfl;show((PP.size+(⟨#[32,110,101,101,100,115,32]⟩:ByteArray).size:Nat):Int)<=_;omega) ?_;refine Yi (by have q1:=eR Xk;have q2:=eQ Xl;have l0:(⟨#[32,110,101,101,100,115,32]⟩:ByteArray).size=7:=rfl;have q0:=AY PP ⟨#[32,110,101,101,100,115,32]⟩;show(((PP++⟨#[32,110,101,101,100,115,32]⟩).size+NN.size:Nat):Int)<=_;omega) ?_;exact .of_eq (show vs ((PP++⟨#[32,110,101,101,100,115,32]⟩)++NN)=vs (BD l) by rw[Dx OE,<-UO,Kf,Aw (by have q:=h9;rw[Lm,ej]at q;omega),Aw (by have q:=Js;rw[Lm,ej]at q;omega),AE (by have q:=NZ;rw[Lm,ej]at q;omega),<-cp,<-eP])
  have NZ:¬((((A7 (c.take i)).map Ag).length:Int)=(1:Int)):=NZ;refine cU [(8,vs PP),(9,vs NN)] [] Z2 Tv (Yi (by have q1:=eR Xk;have q2:=eQ Xl;have l0:(⟨#[32,110,101,101,100,32]⟩:ByteArray).size=6:=rfl;show((PP.size+(⟨#[32,110,101,101,100,32]⟩:ByteArray).size:Nat):Int)<=_;omega) ?_);refine Yi (by have q1:=eR Xk;have q2:=eQ Xl;have l0:(⟨#[32,110,101,101,100,32]⟩:ByteArray).size=6:=rfl;have q0:=AY PP ⟨#[32,110,101,101,100,32]⟩;show(((PP++⟨#[32,110,101,101,100,32]⟩).size+NN.size:Nat):Int)<=_;omega) ?_;exact .of_eq (show vs ((PP++⟨#[32,110,101,101,100,32]⟩)++NN)=vs (BD l) by rw[Dx OE,<-UO,Kf,Aw (by have q:=h9;rw[Lm,ej]at q;omega),Aw (by have q:=Js;rw[Lm,ej]at q;omega),Aw (by have q:=NZ;rw[Lm,ej]at q;omega),<-cp,<-eP])
 have h1:(AW l).isSome=false:=h1;have Yh:=wJ;rw[show(AW l).isSome=false from h1]at Yh;refine Xi .pure (Xi _ (Yi Yh (cU [(3,sl Ac c),(4,vb false)] [] Z2 Tv ?_)))
 exact .of_eq (show vs Ob=vs (BD l) by rw[OG h1])
end Go.Eng
