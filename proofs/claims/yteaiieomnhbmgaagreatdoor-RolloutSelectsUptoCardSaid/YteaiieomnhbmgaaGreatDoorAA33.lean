/- Lemmas 33. -/
import Derived.Test.YteaiieomnhbmgaaGreatDoorAA32
set_option maxHeartbeats 4000000
namespace Go.Eng
open Go.Proofs Go.Proofs.Tryz
variable {i:Nat}(tag:CS)(v:S8)(s p:CS)(l:List CS)
theorem Kz(x n:Int)(h0:0<=n)(h1:n<=32)(e1:Cq .and .u64 (IntKind.wrap .u64 (-n)) 31=32-n)(e2:IntKind.wrap .u64 (32-(32-n))=n):PC 213 [.v (.int .u32 x),vi n] (.v (.int .u32 (HI x (-n)))):=by
 refine Ps CQ func213 rfl C4 (J (show(0:Int)<=n by omega) (J (by show Az ((32:Int)-(n:Int));unfold Az;omega) (J (show(0:Int)<=32-n by omega) (J aa1 ?_))));exact BC.of_eq (Aa EN (show(Cq .or .u32 (Cr .shr .u32 x n) (Cr .shl .u32 x (32-n)))=HI x (-n)from x8 e1 e2))
set_option maxRecDepth 100000 in
theorem ur  : PC 212 [] (sl Dk kK):=by
 refine Ps CQ func212 rfl C4 ?_;exact .refl _
theorem qy(n:Int)(h0:0<=n)(h1:n<=9223372036854775807):PC 91 [vi n] (vs (E5 (IntKind.wrap .u64 n))):=by
 refine Ps CQ func91 rfl C4 (I {q:Nat // q<=8} (I (fun q=>⟨[(0,vi n),(3,.slice (.id 5 1) ((LB n q.1).map CA)),(4,vi (7-(q.1:Int)))],[(5,.tok 1 ((LB n q.1).map CA).length)],Ae⟩) (I (fun q=>8-q.1) (J (I ⟨0,Aj _⟩ ?_) ?_))))
 .exact⟨Z3,Z1,Fh,C⟩
 intro⟨i,i1⟩;have i1:i<=8:=i1;have il:((LB n i).map CA).length<=8:=by rw[Lm,LB,Lm,RB];exact i1
 have il2:(LB n i).length<=8:=by rw[LB,Lm,RB];exact i1
 refine J (fun h1=>?_) (fun h1=>?_)
 .have h1:(0:Int)<=((7-(i:Int)):Int):=h1;refine J (by show Az ((8:Int)*((7-(i:Int)):Int));unfold Az;omega) ?_;refine J (show(0:Int)<=8*(7-(i:Int)) by omega) ?_;have b2:Bi 1 [[.v (.int .u8 (IntKind.wrap .u8 (Cr .shr .i64 n (8*(7-(i:Int))))))]]/\((LB n i).map CA).length=((LB n i).map CA).length/\(((LB n i).map CA).length+([[.v (.int .u8 (IntKind.wrap .u8 (Cr .shr .i64 n (8*(7-(i:Int))))))]]:C0).length)*1<=140737488355328/\((LB n i).map CA).length+([[.v (.int .u8 (IntKind.wrap .u8 (Cr .shr .i64 n (8*(7-(i:Int))))))]]:C0).length<=9223372036854775807:=⟨⟨rfl,trivial⟩,rfl,(by simp only[Lm,Ap,AC];omega),(by simp only[Lm,Ap,AC];omega)⟩;refine J b2 (J (by show Az (((7-(i:Int)):Int)-(1:Int));unfold Az;omega) ?_);have ew:=jS n i;refine I ⟨i+1,by omega⟩ ?_;exact⟨Dl 8 i ch,⟨B,⟨(Aa (AV.slice (.id 5 1)) ew),rfl⟩,⟨(Aa vi (show(7:Int)-(i:Int)-1=7-((i+1:Nat):Int) by omega)),rfl⟩,C⟩,⟨⟨(show HO.tok 1 (((LB n i).map CA).length+([[.v (.int .u8 (IntKind.wrap .u8 (Cr .shr .i64 n (8*(7-(i:Int))))))]]:C0).length)=.tok 1 ((LB n (i+1)).map CA).length from Aa (HO.tok 1) (Ac.symm.trans (Aa List.length ew))),rfl⟩,C⟩,Fh,C⟩
 have h1:¬((0:Int)<=((7-(i:Int)):Int)):=h1;refine I (LB n i) (J rfl ?_);exact BC.of_eq (Aa vs (show(⟨(LB n i).toArray⟩:CS)=_ by rw[show i=8 by omega];exact oq h0 ch))
theorem gt{ws:List Int}{c:Nat}(h:i-c<ws.length)(hc:c<=i):(0:Int)<=((i:Nat):Int)-(c:Nat)/\(ws.map Dk)[(((i:Nat):Int)-(c:Nat)).toNat]?=some (Dk (Fl ws (i-c))):=by
 refine⟨by omega,?_⟩;rw[show(((i:Nat):Int)-(c:Nat)).toNat=i-c by omega,B1,Vm h];rfl
theorem AcP(hs:s.size=64):PC 211 [vs s] (sl Dk (BL s 64)):=by
 refine Ps CQ func211 rfl C4 (I {q:Nat // q<=16} (I (fun q=>⟨[(0,vs s),(3,.slice (.id 10 1) ((BL s q.1).map Dk)),(4,vi (4*(q.1:Int)))],[(10,.tok 1 ((BL s q.1).map Dk).length)],Ae⟩) (I (fun q=>16-q.1) (J (I ⟨0,Aj _⟩ ?_) ?_))))
 .exact⟨Z3,Z1,Fh,C⟩
 intro⟨k,k1⟩;have k1:k<=16:=k1;have kl:((BL s k).map Dk).length<=64:=by rw[Lm,E3];omega
 have kl2:(BL s k).length<=64:=by rw[E3];omega
 refine J (fun h1=>?_) (fun h1=>?_)
 .have h1:((4*(k:Int)):Int)<(64:Int):=h1;refine I (Do s (4*k)) (J (Lh (z:=(4*(k:Int))) (show 4*k<s.size by omega) ch) (J Wk (J (by show Az (((4*(k:Int)):Int)+(1:Int));unfold Az;omega) ?_)));refine I (Do s (4*k+1)) (J (Lh (z:=(4*(k:Int))+1) (show 4*k+1<s.size by omega) ch) (J Wk (J (by show Az (((4*(k:Int)):Int)+(2:Int));unfold Az;omega) ?_)));refine I (Do s (4*k+2)) (J (Lh (z:=(4*(k:Int))+2) (show 4*k+2<s.size by omega) ch) (J Wk (J (by show Az (((4*(k:Int)):Int)+(3:Int));unfold Az;omega) ?_)));refine I (Do s (4*k+3)) (J (Lh (z:=(4*(k:Int))+3) (show 4*k+3<s.size by omega) ch) ?_);have b2:Bi 1 [[.v (.int .u32 (Cq .or .u32 (Cq .or .u32 (Cq .or .u32 (Cr .shl .u32 (IntKind.wrap .u32 ((Do s (4*k)).toNat:Int)) 24) (Cr .shl .u32 (IntKind.wrap .u32 ((Do s (4*k+1)).toNat:Int)) 16)) (Cr .shl .u32 (IntKind.wrap .u32 ((Do s (4*k+2)).toNat:Int)) 8)) (IntKind.wrap .u32 ((Do s (4*k+3)).toNat:Int))))]]/\((BL s k).map Dk).length=((BL s k).map Dk).length/\(((BL s k).map Dk).length+([[.v (.int .u32 (Cq .or .u32 (Cq .or .u32 (Cq .or .u32 (Cr .shl .u32 (IntKind.wrap .u32 ((Do s (4*k)).toNat:Int)) 24) (Cr .shl .u32 (IntKind.wrap .u32 ((Do s (4*k+1)).toNat:Int)) 16)) (Cr .shl .u32 (IntKind.wrap .u32 ((Do s (4*k+2)).toNat:Int)) 8)) (IntKind.wrap .u32 ((Do s (4*k+3)).toNat:Int))))]]:C0).length)*4<=140737488355328/\((BL s k).map Dk).length+([[.v (.int .u32 (Cq .or .u32 (Cq .or .u32 (Cq .or .u32 (Cr .shl .u32 (IntKind.wrap .u32 ((Do s (4*k)).toNat:Int)) 24) (Cr .shl .u32 (IntKind.wrap .u32 ((Do s (4*k+1)).toNat:Int)) 16)) (Cr .shl .u32 (IntKind.wrap .u32 ((Do s (4*k+2)).toNat:Int)) 8)) (IntKind.wrap .u32 ((Do s (4*k+3)).toNat:Int))))]]:C0).length<=9223372036854775807:=⟨⟨rfl,trivial⟩,rfl,(by simp only[Lm,Ap,AC];omega),(by simp only[Lm,Ap,AC];omega)⟩;refine J b2 (J aa1 (J (by show Az (((4*(k:Int)):Int)+(4:Int));unfold Az;omega) ?_));have ew:(((BL s k).map Dk)++[[.v (.int .u32 (Cq .or .u32 (Cq .or .u32 (Cq .or .u32 (Cr .shl .u32 (IntKind.wrap .u32 ((Do s (4*k)).toNat:Int)) 24) (Cr .shl .u32 (IntKind.wrap .u32 ((Do s (4*k+1)).toNat:Int)) 16)) (Cr .shl .u32 (IntKind.wrap .u32 ((Do s (4*k+2)).toNat:Int)) 8)) (IntKind.wrap .u32 ((Do s (4*k+3)).toNat:Int))))]])=(BL s (k+1)).map Dk:=by rw[BL,Ar,UJ,Ax (show k<16 by omega),<-un];rfl
  refine I ⟨k+1,by omega⟩ ?_;exact⟨Dl 16 k ch,⟨B,⟨(Aa (AV.slice (.id 10 1)) ew),rfl⟩,⟨(Aa vi (show 4*(k:Int)+4=4*((k+1:Nat):Int) by omega)),rfl⟩,C⟩,⟨⟨(show HO.tok 1 (((BL s k).map Dk).length+([[.v (.int .u32 (Cq .or .u32 (Cq .or .u32 (Cq .or .u32 (Cr .shl .u32 (IntKind.wrap .u32 ((Do s (4*k)).toNat:Int)) 24) (Cr .shl .u32 (IntKind.wrap .u32 ((Do s (4*k+1)).toNat:Int)) 16)) (Cr .shl .u32 (IntKind.wrap .u32 ((Do s (4*k+2)).toNat:Int)) 8)) (IntKind.wrap .u32 ((Do s (4*k+3)).toNat:Int))))]]:C0).length)=.tok 1 ((BL s (k+1)).map Dk).length from Aa (HO.tok 1) (Ac.symm.trans (Aa List.length ew))),rfl⟩,C⟩,Fh,C⟩
 have h1:¬(((4*(k:Int)):Int)<(64:Int)):=h1;refine I {q:Nat // 16<=q/\q<=64} (I (fun q=>⟨[(3,.slice (.id 10 1) ((BL s q.1).map Dk)),(5,vi q.1)],[(10,.tok 1 ((BL s q.1).map Dk).length)],Ae⟩) (I (fun q=>64-q.1) (J (I ⟨16,Ao _,by decide⟩ ?_) ?_)))
 .exact⟨⟨⟨(Aa (fun z:Nat=>AV.slice (.id 10 1) ((BL s z).map Dk)) (show k=16 by omega)),rfl⟩,B,C⟩,⟨⟨(Aa (fun z:Nat=>HO.tok 1 ((BL s z).map Dk).length) (show k=16 by omega)),rfl⟩,C⟩,Fh,C⟩
 intro⟨i,i0,i1⟩;have i0:16<=i:=i0;have i1:i<=64:=i1;have il:((BL s i).map Dk).length<=64:=by rw[Lm,E3];omega
 have il2:(BL s i).length<=64:=by rw[E3];omega
 refine J (fun h4=>?_) (fun h4=>?_)
 .have h4:(i:Int)<(64:Int):=h4;refine J (by show Az ((i:Int)-(15:Int));unfold Az;omega) (I (Dk (Fl (BL s i) (i-15))) (J (gt (c:=15) (show i-15<(BL s i).length by rw[E3];omega) (show 15<=i by omega)) (J rfl (J (by show Az ((i:Int)-(2:Int));unfold Az;omega) (I (Dk (Fl (BL s i) (i-2))) (J (gt (c:=2) (show i-2<(BL s i).length by rw[E3];omega) (show 2<=i by omega)) (J rfl (J aa1 (C1 (C2 (Kz (Fl (BL s i) (i-15)) 7 Wk Wk aa1 aa1) (C1 (C2 (Kz (Fl (BL s i) (i-15)) 18 Wk Wk aa1 aa1) (J Wk (C1 (C2 (Kz (Fl (BL s i) (i-2)) 17 Wk Wk aa1 aa1) (C1 (C2 (Kz (Fl (BL s i) (i-2)) 19 Wk Wk aa1 aa1) (J Wk (J (by show Az ((i:Int)-(7:Int));unfold Az;omega) (I (Dk (Fl (BL s i) (i-7))) (J (gt (c:=7) (show i-7<(BL s i).length by rw[E3];omega) (show 7<=i by omega)) (J rfl (J (by show Az ((i:Int)-(16:Int));unfold Az;omega) (I (Dk (Fl (BL s i) (i-16))) (J (gt (c:=16) (show i-16<(BL s i).length by rw[E3];omega) (show 16<=i by omega)) (J rfl ?_))))))))))))))))))))))))));have b5:Bi 1 [[.v (.int .u32 (IntKind.wrap .u32 ((IntKind.wrap .u32 ((IntKind.wrap .u32 ((Cq .xor .u32 (Cq .xor .u32 (HI (Fl (BL s i) (i-2)) (-17)) (HI (Fl (BL s i) (i-2)) (-19))) (Cr .shr .u32 (Fl (BL s i) (i-2)) 10))+(Fl (BL s i) (i-7))))+(Cq .xor .u32 (Cq .xor .u32 (HI (Fl (BL s i) (i-15)) (-7)) (HI (Fl (BL s i) (i-15)) (-18))) (Cr .shr .u32 (Fl (BL s i) (i-15)) 3))))+(Fl (BL s i) (i-16)))))]]/\((BL s i).map Dk).length=((BL s i).map Dk).length/\(((BL s i).map Dk).length+([[.v (.int .u32 (IntKind.wrap .u32 ((IntKind.wrap .u32 ((IntKind.wrap .u32 ((Cq .xor .u32 (Cq .xor .u32 (HI (Fl (BL s i) (i-2)) (-17)) (HI (Fl (BL s i) (i-2)) (-19))) (Cr .shr .u32 (Fl (BL s i) (i-2)) 10))+(Fl (BL s i) (i-7))))+(Cq .xor .u32 (Cq .xor .u32 (HI (Fl (BL s i) (i-15)) (-7)) (HI (Fl (BL s i) (i-15)) (-18))) (Cr .shr .u32 (Fl (BL s i) (i-15)) 3))))+(Fl (BL s i) (i-16)))))]]:C0).length)*4<=140737488355328/\((BL s i).map Dk).length+([[.v (.int .u32 (IntKind.wrap .u32 ((IntKind.wrap .u32 ((IntKind.wrap .u32 ((Cq .xor .u32 (Cq .xor .u32 (HI (Fl (BL s i) (i-2)) (-17)) (HI (Fl (BL s i) (i-2)) (-19))) (Cr .shr .u32 (Fl (BL s i) (i-2)) 10))+(Fl (BL s i) (i-7))))+(Cq .xor .u32 (Cq .xor .u32 (HI (Fl (BL s i) (i-15)) (-7)) (HI (Fl (BL s i) (i-15)) (-18))) (Cr .shr .u32 (Fl (BL s i) (i-15)) 3))))+(Fl (BL s i) (i-16)))))]]:C0).length<=9223372036854775807:=⟨⟨rfl,trivial⟩,rfl,(by simp only[Lm,Ap,AC];omega),(by simp only[Lm,Ap,AC];omega)⟩
  refine J b5 (J aa1 (J (Ii i ch) ?_));have ew:(((BL s i).map Dk)++[[.v (.int .u32 (IntKind.wrap .u32 ((IntKind.wrap .u32 ((IntKind.wrap .u32 ((Cq .xor .u32 (Cq .xor .u32 (HI (Fl (BL s i) (i-2)) (-17)) (HI (Fl (BL s i) (i-2)) (-19))) (Cr .shr .u32 (Fl (BL s i) (i-2)) 10))+(Fl (BL s i) (i-7))))+(Cq .xor .u32 (Cq .xor .u32 (HI (Fl (BL s i) (i-15)) (-7)) (HI (Fl (BL s i) (i-15)) (-18))) (Cr .shr .u32 (Fl (BL s i) (i-15)) 3))))+(Fl (BL s i) (i-16)))))]])=(BL s (i+1)).map Dk:=by rw[BL,Ar,UJ,AA (show ¬i<16 by omega)];rfl
  refine I ⟨i+1,by omega,by omega⟩ ?_;exact⟨Dl 64 i ch,⟨⟨(Aa (AV.slice (.id 10 1)) ew),rfl⟩,B,C⟩,⟨⟨(show HO.tok 1 (((BL s i).map Dk).length+([[.v (.int .u32 (IntKind.wrap .u32 ((IntKind.wrap .u32 ((IntKind.wrap .u32 ((Cq .xor .u32 (Cq .xor .u32 (HI (Fl (BL s i) (i-2)) (-17)) (HI (Fl (BL s i) (i-2)) (-19))) (Cr .shr .u32 (Fl (BL s i) (i-2)) 10))+(Fl (BL s i) (i-7))))+(Cq .xor .u32 (Cq .xor .u32 (HI (Fl (BL s i) (i-15)) (-7)) (HI (Fl (BL s i) (i-15)) (-18))) (Cr .shr .u32 (Fl (BL s i) (i-15)) 3))))+(Fl (BL s i) (i-16)))))]]:C0).length)=.tok 1 ((BL s (i+1)).map Dk).length from Aa (HO.tok 1) (Ac.symm.trans (Aa List.length ew))),rfl⟩,C⟩,Fh,C⟩
 have h4:¬((i:Int)<(64:Int)):=h4;exact BC.of_eq (show sl Dk (BL s i)=sl Dk (BL s 64) by rw[show i=64 by omega])
set_option maxRecDepth 100000 in
theorem uq(W Kk:List Int)(r8:S8)(hW:W.length=64)(hK:Kk.length=64)(hr:Ed W Kk v 64=r8)(hc:PC 211 [vs s] (sl Dk W))(hk:PC 212 [] (sl Dk Kk)):PC 153 [sl Dk (S8.l v),vs s] (sl Dk (S8.l (qU v r8))):=by
 refine Ps (pC [] [3,9]) func153 rfl C4 (C1 (C2 hc (C1 (C2 hk (I (Dk v.a) (J ⟨by decide,rfl⟩ (J rfl ?_)))))));refine I (Dk v.b) (J ⟨by decide,rfl⟩ (J rfl ?_));refine I (Dk v.c) (J ⟨by decide,rfl⟩ (J rfl ?_));refine I (Dk v.d) (J ⟨by decide,rfl⟩ (J rfl ?_));refine I (Dk v.e) (J ⟨by decide,rfl⟩ (J rfl ?_));refine I (Dk v.f) (J ⟨by decide,rfl⟩ (J rfl ?_));refine I (Dk v.g) (J ⟨by decide,rfl⟩ (J rfl ?_));refine I (Dk v.h) (J ⟨by decide,rfl⟩ (J rfl ?_));refine J aa1 (cU [(0,sl Dk (S8.l v)),(5,sl Dk W),(6,sl Dk Kk),(7,.v (.int .u32 v.a)),(8,.v (.int .u32 v.b)),(9,.v (.int .u32 v.c)),(10,.v (.int .u32 v.d)),(11,.v (.int .u32 v.e)),(12,.v (.int .u32 v.f)),(13,.v (.int .u32 v.g)),(14,.v (.int .u32 v.h))] [] Z11 C (I {q:Nat // q<=64} (I (fun q=>⟨[(0,sl Dk (S8.l v)),(5,sl Dk W),(6,sl Dk Kk),(7,.v (.int .u32 (Ed W Kk v q.1).a)),(8,.v (.int .u32 (Ed W Kk v q.1).b)),(9,.v (.int .u32 (Ed W Kk v q.1).c)),(10,.v (.int .u32 (Ed W Kk v q.1).d)),(11,.v (.int .u32 (Ed W Kk v q.1).e)),(12,.v (.int .u32 (Ed W Kk v q.1).f)),(13,.v (.int .u32 (Ed W Kk v q.1).g)),(14,.v (.int .u32 (Ed W Kk v q.1).h)),(15,vi q.1)],[],Ae⟩) (I (fun q=>64-q.1) (J (I ⟨0,Aj _⟩ ?_) ?_)))))
 .exact⟨Z12,C,Fh,C⟩
 intro⟨i,i1⟩;have i1:i<=64:=i1;refine J (fun h1=>?_) (fun h1=>?_)
 .have h1:(i:Int)<(64:Int):=h1;refine C2 (Kz (Ed W Kk v i).e 6 Wk Wk aa1 aa1) (C2 (Kz (Ed W Kk v i).e 11 Wk Wk aa1 aa1) (C2 (Kz (Ed W Kk v i).e 25 Wk Wk aa1 aa1) (I (Dk (Fl Kk i)) (J (zG (show i<Kk.length by omega)) (J rfl (I (Dk (Fl W i)) (J (zG (show i<W.length by omega)) (J rfl (J aa1 (C1 (C2 (Kz (Ed W Kk v i).a 2 Wk Wk aa1 aa1) (C1 (C2 (Kz (Ed W Kk v i).a 13 Wk Wk aa1 aa1) (C1 (C2 (Kz (Ed W Kk v i).a 22 Wk Wk aa1 aa1) (J (Ii i ch) (I ⟨i+1,by omega⟩ ?_)))))))))))))))));exact⟨Dl 64 i ch,Z12,C,Fh,C⟩
 have h1:¬((i:Int)<(64:Int)):=h1;refine cU [(0,sl Dk (S8.l v)),(7,.v (.int .u32 (Ed W Kk v i).a)),(8,.v (.int .u32 (Ed W Kk v i).b)),(9,.v (.int .u32 (Ed W Kk v i).c)),(10,.v (.int .u32 (Ed W Kk v i).d)),(11,.v (.int .u32 (Ed W Kk v i).e)),(12,.v (.int .u32 (Ed W Kk v i).f)),(13,.v (.int .u32 (Ed W Kk v i).g)),(14,.v (.int .u32 (Ed W Kk v i).h))] [] Z9 C (I (Dk v.a) (J ⟨by decide,rfl⟩ (J rfl ?_)));refine I (Dk v.b) (J ⟨by decide,rfl⟩ (J rfl ?_));refine I (Dk v.c) (J ⟨by decide,rfl⟩ (J rfl ?_));refine I (Dk v.d) (J ⟨by decide,rfl⟩ (J rfl ?_));refine I (Dk v.e) (J ⟨by decide,rfl⟩ (J rfl ?_));refine I (Dk v.f) (J ⟨by decide,rfl⟩ (J rfl ?_));refine I (Dk v.g) (J ⟨by decide,rfl⟩ (J rfl ?_));refine I (Dk v.h) (J ⟨by decide,rfl⟩ (J rfl ?_));refine J aa1 ?_;have e64:i=64:=ch
 have er:(Ed W Kk v i)=r8:=by rw[e64,hr]
 exact BC.of_eq (show .slice .none [[.v (.int .u32 (IntKind.wrap .u32 (v.a+(Ed W Kk v i).a)))],[.v (.int .u32 (IntKind.wrap .u32 (v.b+(Ed W Kk v i).b)))],[.v (.int .u32 (IntKind.wrap .u32 (v.c+(Ed W Kk v i).c)))],[.v (.int .u32 (IntKind.wrap .u32 (v.d+(Ed W Kk v i).d)))],[.v (.int .u32 (IntKind.wrap .u32 (v.e+(Ed W Kk v i).e)))],[.v (.int .u32 (IntKind.wrap .u32 (v.f+(Ed W Kk v i).f)))],[.v (.int .u32 (IntKind.wrap .u32 (v.g+(Ed W Kk v i).g)))],[.v (.int .u32 (IntKind.wrap .u32 (v.h+(Ed W Kk v i).h)))]]=sl Dk (S8.l (qU v r8)) by rw[er];rfl)
theorem yY(hs:s.size=64):PC 153 [sl Dk (S8.l v),vs s] (sl Dk (S8.l (bT v s))):=
 uq v s (BL s 64) kK _ (E3 s 64) rfl rfl (AcP s hs) ur
theorem bG:s.data.toList.map CA++[[AV.v (.int .u8 128)]]=(HG s 0).map CA:=by
 rw[HG,List.replicate_zero,Bg,Ar];rfl
theorem xO:HO.tok 1 ((s.data.toList.map CA).length+([[AV.v (.int .u8 128)]]:C0).length)=.tok 1 ((HG s 0).map CA).length:=
 Aa (HO.tok 1) (Ac.symm.trans (Aa List.length (bG s)))
theorem AcN(hs:s.size<=1000000000000):PC 152 [vs s] (vs (VP s)):=by
 have hdl:(s.data.toList.map CA).length=s.size:=by rw[Lm,Ja];rfl
 have AaN:s.data.toList.length=s.size:=by rw[Ja];rfl
 refine Ps CQ func152 rfl C4 ?_;have b1:Bi 1 [[.v (.int .u8 128)]]/\(s.data.toList.map CA).length=(s.data.toList.map CA).length/\((s.data.toList.map CA).length+([[.v (.int .u8 128)]]:C0).length)*1<=140737488355328/\(s.data.toList.map CA).length+([[.v (.int .u8 128)]]:C0).length<=9223372036854775807:=⟨⟨rfl,trivial⟩,rfl,(by simp only[Lm,Ap,AC];omega),(by simp only[Lm,Ap,AC];omega)⟩;refine J b1 (I {q:Nat // q<=((119-(s.size:Int)) % 64).toNat} (I (fun q=>⟨[(0,vs s),(3,.slice (.id 5 1) ((HG s q.1).map CA))],[(5,.tok 1 ((HG s q.1).map CA).length)],Ae⟩) (I (fun q=>((119-(s.size:Int)) % 64).toNat-q.1) (J (I ⟨0,Aj _⟩ ?_) ?_))))
 .exact⟨⟨B,⟨(Aa (AV.slice (.id 5 1)) (bG s)),rfl⟩,C⟩,⟨⟨(xO s),rfl⟩,C⟩,Fh,C⟩
 intro⟨k,k1⟩;have k1:k<=((119-(s.size:Int)) % 64).toNat:=k1;have kl:((HG s k).map CA).length=s.size+1+k:=by rw[Lm,US]
 have kl2:(HG s k).length=s.size+1+k:=US _ _;refine J ⟨by omega,by omega⟩ ?_;refine J (fun h2=>?_) (fun h2=>?_)
 .have h2:(((HG s k).map CA).length % 64:Int)≠(56:Int):=h2;have b3:Bi 1 [[.v (.int .u8 0)]]/\((HG s k).map CA).length=((HG s k).map CA).length/\(((HG s k).map CA).length+([[.v (.int .u8 0)]]:C0).length)*1<=140737488355328/\((HG s k).map CA).length+([[.v (.int .u8 0)]]:C0).length<=9223372036854775807:=⟨⟨rfl,trivial⟩,rfl,(by simp only[Lm,Ap,AC];omega),(by simp only[Lm,Ap,AC];omega)⟩;refine J b3 ?_;have ew:(((HG s k).map CA)++[[.v (.int .u8 0)]])=(HG s (k+1)).map CA:=by rw[<-kr,Ar];rfl
  refine I ⟨k+1,by have q:=h2;rw[kl]at q;omega⟩ ?_;exact⟨by show((119-(s.size:Int)) % 64).toNat-(k+1)<((119-(s.size:Int)) % 64).toNat-k;have q:=h2;rw[kl]at q;omega,⟨B,⟨(Aa (AV.slice (.id 5 1)) ew),rfl⟩,C⟩,⟨⟨(show HO.tok 1 (((HG s k).map CA).length+([[.v (.int .u8 0)]]:C0).length)=.tok 1 ((HG s (k+1)).map CA).length from Aa (HO.tok 1) (Ac.symm.trans (Aa List.length ew))),rfl⟩,C⟩,Fh,C⟩
 have h2:(((HG s k).map CA).length % 64:Int)=(56:Int):=Aq h2;refine I (HG s k) (J rfl (J (by show Az ((8:Int)*(s.size:Int));unfold Az;omega) (C2 (qy (8*(s.size:Int)) ch ch) (J (show(((⟨(HG s k).toArray⟩:CS).size+(E5 (IntKind.wrap .u64 (8*(s.size:Int)))).size:Nat):Int)<=9223372036854775807 by rw[F9,show(⟨(HG s k).toArray⟩:CS).size=s.size+1+k by show(HG s k).toArray.size=_;rw[KF,US]];omega) ?_))));refine J aa1 ?_;have ek:k=((119-(s.size:Int)) % 64).toNat:=by have q:=h2;rw[kl]at q;omega
 exact BC.of_eq (Aa vs (show(⟨(HG s k).toArray⟩:CS)++E5 (IntKind.wrap .u64 (8*(s.size:Int)))=VP s by rw[tj,VP,ek]))
theorem rM:p.extract 0 p.size=p:=by
 apply ByteArray.ext;simp only[ByteArray.data_extract];have h:p.size=p.data.size:=rfl;rw[h];simp
theorem y6(hp:VP s=p)(AkB:p.size % 64=0)(dE:p.size<=1000000000100)(Af1:PC 152 [vs s] (vs p)):PC 92 [vs s] (vs (Y0 s)):=by
 refine Ps (pT [] [(3,0)] []) func92 rfl C4 (C1 (C2 Af1 (I {q:S8×Nat // 64*q.2<=p.size/\CZ q.1 (p.extract (64*q.2) p.size)=CZ aP p} (I (fun q=>⟨[(3,sl Dk (S8.l q.1.1)),(4,vs p),(5,vi (64*(q.1.2:Int)))],[],Ae⟩) (I (fun q=>p.size-64*q.1.2) (J (I ⟨(aP,0),Aj _,by rw[Nat.mul_zero,rM]⟩ ?_) ?_))))))
 .exact⟨Z3,C,Fh,C⟩
 intro⟨⟨v,k⟩,k1,k2⟩;have k1:64*k<=p.size:=k1;have k2:CZ v (p.extract (64*k) p.size)=CZ aP p:=k2;refine J (fun h1=>?_) (fun h1=>?_)
 .have h1:((64*(k:Int)):Int)<(p.size:Int):=h1;refine J (by show Az (((64*(k:Int)):Int)+(64:Int));unfold Az;omega) ?_;have Ab0:64*k+64<=p.size:=ch
  have eb:(p.extract (64*(k:Int)).toNat (64*(k:Int)+64).toNat)=p.extract (64*k) (64*k+64):=by rw[show(64*(k:Int)).toNat=64*k by omega,show(64*(k:Int)+64).toNat=64*k+64 by omega]
  refine J (show(0:Int)<=64*(k:Int)/\64*(k:Int)<=64*(k:Int)+64/\64*(k:Int)+64<=(p.size:Int) by omega) (C1 (C2 (yY v (p.extract (64*(k:Int)).toNat (64*(k:Int)+64).toNat) (by rw[eb,FP];omega)) ?_));refine J (by show Az (((64*(k:Int)):Int)+(64:Int));unfold Az;omega) ?_;refine I ⟨(bT v (p.extract (64*k) (64*k+64)),k+1),by have q:=Ab0;omega,by rw[<-Zv Ab0];exact k2⟩ ?_;exact⟨by show p.size-64*(k+1)<p.size-64*k;omega,⟨⟨(show sl Dk (S8.l (bT v (p.extract (64*(k:Int)).toNat (64*(k:Int)+64).toNat)))=sl Dk (S8.l (bT v (p.extract (64*k) (64*k+64)))) by rw[eb]),rfl⟩,B,⟨(Aa vi (show 64*(k:Int)+64=64*((k+1:Nat):Int) by omega)),rfl⟩,C⟩,C,Fh,C⟩
 have h1:¬(((64*(k:Int)):Int)<(p.size:Int)):=h1;refine I {q:Nat // q<=8} (I (fun q=>⟨[(3,sl Dk (S8.l v)),(6,.slice (.id 24 1) ((((S8.l v).take q.1).flatMap Ee).map CA)),(7,vi q.1)],[(24,.tok 1 ((((S8.l v).take q.1).flatMap Ee).map CA).length)],Ae⟩) (I (fun q=>8-q.1) (J (I ⟨0,Aj _⟩ ?_) ?_)))
 .exact⟨Z3,Z1,Fh,C⟩
 intro⟨j,j1⟩;have j1:j<=8:=j1;have hlw:=cp (S8.l v) j j1;have hlm:((((S8.l v).take j).flatMap Ee).map CA).length<=32:=by rw[Lm];exact hlw
 refine J (fun h3=>?_) (fun h3=>?_)
 .have h3:(j:Int)<(8:Int):=h3;refine I (Dk (Fl (S8.l v) j)) (J (zG (show j<(S8.l v).length from by show j<8;omega)) (J rfl (J Wk (I (Dk (Fl (S8.l v) j)) (J (zG (show j<(S8.l v).length from by show j<8;omega)) (J rfl (J Wk (I (Dk (Fl (S8.l v) j)) (J (zG (show j<(S8.l v).length from by show j<8;omega)) (J rfl (J Wk (I (Dk (Fl (S8.l v) j)) (J (zG (show j<(S8.l v).length from by show j<8;omega)) (J rfl ?_))))))))))))));have b4:Bi 1 [[.v (.int .u8 (IntKind.wrap .u8 (Cr .shr .u32 (Fl (S8.l v) j) 24)))],[.v (.int .u8 (IntKind.wrap .u8 (Cr .shr .u32 (Fl (S8.l v) j) 16)))],[.v (.int .u8 (IntKind.wrap .u8 (Cr .shr .u32 (Fl (S8.l v) j) 8)))],[.v (.int .u8 (IntKind.wrap .u8 (Fl (S8.l v) j)))]]/\((((S8.l v).take j).flatMap Ee).map CA).length=((((S8.l v).take j).flatMap Ee).map CA).length/\(((((S8.l v).take j).flatMap Ee).map CA).length+([[.v (.int .u8 (IntKind.wrap .u8 (Cr .shr .u32 (Fl (S8.l v) j) 24)))],[.v (.int .u8 (IntKind.wrap .u8 (Cr .shr .u32 (Fl (S8.l v) j) 16)))],[.v (.int .u8 (IntKind.wrap .u8 (Cr .shr .u32 (Fl (S8.l v) j) 8)))],[.v (.int .u8 (IntKind.wrap .u8 (Fl (S8.l v) j)))]]:C0).length)*1<=140737488355328/\((((S8.l v).take j).flatMap Ee).map CA).length+([[.v (.int .u8 (IntKind.wrap .u8 (Cr .shr .u32 (Fl (S8.l v) j) 24)))],[.v (.int .u8 (IntKind.wrap .u8 (Cr .shr .u32 (Fl (S8.l v) j) 16)))],[.v (.int .u8 (IntKind.wrap .u8 (Cr .shr .u32 (Fl (S8.l v) j) 8)))],[.v (.int .u8 (IntKind.wrap .u8 (Fl (S8.l v) j)))]]:C0).length<=9223372036854775807:=⟨⟨rfl,rfl,rfl,rfl,trivial⟩,rfl,(by simp only[Lm,Ap,AC];omega),(by simp only[Lm,Ap,AC];omega)⟩;refine J b4 (J aa1 (J (Ii j ch) ?_));have ew:(((((S8.l v).take j).flatMap Ee).map CA)++[[.v (.int .u8 (IntKind.wrap .u8 (Cr .shr .u32 (Fl (S8.l v) j) 24)))],[.v (.int .u8 (IntKind.wrap .u8 (Cr .shr .u32 (Fl (S8.l v) j) 16)))],[.v (.int .u8 (IntKind.wrap .u8 (Cr .shr .u32 (Fl (S8.l v) j) 8)))],[.v (.int .u8 (IntKind.wrap .u8 (Fl (S8.l v) j)))]])=(((S8.l v).take (j+1)).flatMap Ee).map CA:=by rw[co,<-Ar];exact Aa (List.map CA) (Vo (l:=(S8.l v)) (show j<8 by omega))
  refine I ⟨j+1,by omega⟩ ?_;exact⟨Dl 8 j ch,⟨B,⟨(Aa (AV.slice (.id 24 1)) ew),rfl⟩,B,C⟩,⟨⟨(show HO.tok 1 (((((S8.l v).take j).flatMap Ee).map CA).length+([[.v (.int .u8 (IntKind.wrap .u8 (Cr .shr .u32 (Fl (S8.l v) j) 24)))],[.v (.int .u8 (IntKind.wrap .u8 (Cr .shr .u32 (Fl (S8.l v) j) 16)))],[.v (.int .u8 (IntKind.wrap .u8 (Cr .shr .u32 (Fl (S8.l v) j) 8)))],[.v (.int .u8 (IntKind.wrap .u8 (Fl (S8.l v) j)))]]:C0).length)=.tok 1 ((((S8.l v).take (j+1)).flatMap Ee).map CA).length from Aa (HO.tok 1) (Ac.symm.trans (Aa List.length ew))),rfl⟩,C⟩,Fh,C⟩
 have h3:¬((j:Int)<(8:Int)):=h3;refine I ((S8.l v).flatMap Ee) (J (show((((S8.l v).take j).flatMap Ee).map CA)=((S8.l v).flatMap Ee).map CA by rw[show j=8 by omega];rfl) ?_);have ev:v=(CZ aP p).1:=by rw[<-k2];exact(cM (by have q:=h1;omega)).symm
 exact BC.of_eq (Aa vs (show(⟨((S8.l v).flatMap Ee).toArray⟩:CS)=Y0 s by rw[Y0,hp,ev]))
theorem AcQ(hs:s.size<=1000000000000):PC 92 [vs s] (vs (Y0 s)):=
 y6 s _ rfl (Xa s).1 (by have q:=(Xa s).2;omega) (AcN s hs)
theorem li{tag:CS}{l:List CS}(ht:tag.size<=100000)(hl:∀s∈l,s.size<=100000)(hn:l.length<=1000)(i:Nat):(OD (E5 (IntKind.wrap .u64 (tag.size:Int))++tag) (l.take i)).size<=200000000000:=by
 have q:=lh (E5 (IntKind.wrap .u64 (tag.size:Int))++tag) (l:=l.take i) fun s hs=>Av (hl s (CF hs)) Wk;rw[A2,F9,AF]at q;have q2:min i l.length*100000008<=1000*100000008:=Bl _ ch;omega
theorem y7(ht:tag.size<=100000)(hl:∀s∈l,s.size<=100000)(hn:l.length<=1000):PC 49 [vs tag,sl Af l] (vs (Y0 (OD (E5 (IntKind.wrap .u64 (tag.size:Int))++tag) l))):=by
 refine Ps CQ func49 rfl C4 (C1 (C2 (qy tag.size ch ch) (J (show((((E5 (IntKind.wrap .u64 (tag.size:Int))):CS).size+(tag:CS).size:Nat):Int)<=9223372036854775807 by simp only[F9];omega) ?_)));refine I {q:Nat // q<=l.length} (I (fun q=>⟨[(1,sl Af l),(5,vs (OD (E5 (IntKind.wrap .u64 (tag.size:Int))++tag) (l.take q.1))),(6,vi q.1)],[],Ae⟩) (I (fun q=>l.length-q.1) (J (I ⟨0,Aj _⟩ ?_) ?_)))
 .exact⟨Z3,C,Fh,C⟩
 intro⟨i,i1⟩;have i1:i<=l.length:=i1;have hti:(OD (E5 (IntKind.wrap .u64 (tag.size:Int))++tag) (l.take i)).size<=200000000000:=li ht hl hn i;refine J (fun h1=>?_) (fun h1=>?_)
 .have h1:(i:Int)<((l.map Af).length:Int):=h1;have n1:=Dh h1;have hsi:=hl _ (Ai n1);refine I (Af l[i]) (J (DC n1) (J rfl (C2 (qy l[i].size ch ch) (J (show((((OD (E5 (IntKind.wrap .u64 (tag.size:Int))++tag) (l.take i)):CS).size+((E5 (IntKind.wrap .u64 (l[i].size:Int))):CS).size:Nat):Int)<=9223372036854775807 by simp only[F9];omega) ?_))));refine I (Af l[i]) (J (DC n1) (J rfl (J (show((((OD (E5 (IntKind.wrap .u64 (tag.size:Int))++tag) (l.take i))++(E5 (IntKind.wrap .u64 (l[i].size:Int))):CS).size+(l[i]:CS).size:Nat):Int)<=9223372036854775807 by simp only[A2,F9];omega) ?_)));refine J aa1 (J (Ii i ch) (I ⟨i+1,n1⟩ ?_));exact⟨Dl l.length i ch,⟨B,⟨(Aa vs (lg (E5 (IntKind.wrap .u64 (tag.size:Int))++tag) n1).symm),rfl⟩,B,C⟩,C,Fh,C⟩
 have h1:¬((i:Int)<((l.map Af).length:Int)):=h1;have n1:=BB h1;refine C1 (C2 (AcQ (OD (E5 (IntKind.wrap .u64 (tag.size:Int))++tag) (l.take i)) (Av hti Wk)) ?_);exact BC.of_eq (Aa vs (show Y0 (OD (E5 (IntKind.wrap .u64 (tag.size:Int))++tag) (l.take i))=_ by rw[As (AE (BB h1))]))
theorem qA(ht:tag.size<=100000)(hl:∀s∈l,s.size<=100000)(hn:l.length<=1000):PC 49 [vs tag,sl Af l] (vs (Qm tag l)):=by
 rw[lj (Av ht Wk) (fun s hs=>Av (hl s hs) Wk) (Av hn Wk)];exact y7 tag l ht hl hn
def Gr(l:List Vt):Nat->Int
 |0=>-1
 |i+1=>match l[i]? with
  |some s=>s.t
  |none=>-1
theorem PG{l:List Vt}(h:i-1<l.length)(h0:0<i):Gr l i=l[i-1].t:=by
 obtain⟨k,rfl⟩:∃k,i=k+1:=⟨i-1,by omega⟩;have e:k+1-1=k:=rfl;simp only[e]at h⊢;rw[Gr,Ge h]
theorem LA{l:List Vt}(h:i<l.length):Gr l (i+1)=l[i].t:=by rw[Gr,Ge h]
theorem cq(l:List Vt)(hl:BD l):PC 14 [sl CG l] (vi (BA l)):=by
 have hl:l.length<=1073741824:=hl;refine Ps (pC [] [5,7]) func14 rfl C4 (J (fun h1=>?_) (fun h1=>?_))
 .have h1:(1024:Int)<((l.map CG).length:Int):=h1;have n1:1024<l.length:=by have q:=h1;rw[Lm]at q;omega
  exact BC.of_eq (Aa vi (show 7=BA l by rw[BA,Ax (by have q:=h1;rw[Lm]at q;omega)]))
 have h1:¬((1024:Int)<((l.map CG).length:Int)):=h1;have n1:¬1024<l.length:=by have q:=h1;rw[Lm]at q;omega
 refine I {q:Nat // q<=l.length/\-1<=Gr l q/\NC (Gr l q) (l.drop q)=NC (-1) l} (I (fun q=>⟨[(0,sl CG l),(3,vi q.1)],[],Ae⟩) (I (fun q=>l.length-q.1) (J (I ⟨0,Aj _,Bs _,rfl⟩ ?_) ?_)))
 .exact⟨Z2,C,Fh,C⟩
 intro⟨i,i1,i2,i3⟩;have i1:i<=l.length:=i1;have i2:-1<=Gr l i:=i2;have i3:NC (Gr l i) (l.drop i)=NC (-1) l:=i3;refine J (fun h3=>?_) (fun h3=>?_)
 .have h3:(i:Int)<((l.map CG).length:Int):=h3;have n3:=Dh h3;refine I (CG l[i]) (J (DC n3) (J rfl (J (fun h4=>?_) (fun h4=>?_))))
  .have h4:(l[i].t:Int)<(0:Int):=h4;refine J aa1 (cU [] [] C C ?_)
   have EU:-1<=Gr l i:=i2;have Uh:l[i].t<=Gr l i\/l[i].p<0\/100<l[i].p:=ch
   exact BC.of_eq (Aa vi (show 1=BA l by rw[BA,AA (by have q:=h1;rw[Lm]at q;omega),<-i3,LN n3 Uh]))
  have h4:¬((l[i].t:Int)<(0:Int)):=h4;refine J (fun h6=>?_) (fun h6=>?_)
  .have h6:(0:Int)<(i:Int):=h6;refine I (CG l[i]) (J (DC n3) (J rfl (J (by show Az ((i:Int)-(1:Int));unfold Az;omega) (I (CG (l[i-1]' ch)) (J (J (show(0:Int)<=(i:Int)-1 by omega) (by rw[show((i:Int)-1).toNat=i-1 by omega];exact El (Ge ch))) (J rfl ?_))))));refine J (fun h7=>?_) (fun h7=>?_)
   .have h7:(l[i].t:Int)<=((l[i-1]' ch).t:Int):=h7;refine J aa1 (cU [] [] C C ?_)
    have EU:Gr l i=l[i-1].t:=PG ch (by have q:=h6;omega);have Uh:l[i].t<=Gr l i\/l[i].p<0\/100<l[i].p:=ch
    exact BC.of_eq (Aa vi (show 1=BA l by rw[BA,AA (by have q:=h1;rw[Lm]at q;omega),<-i3,LN n3 Uh]))
   have h7:¬((l[i].t:Int)<=((l[i-1]' ch).t:Int)):=h7;refine I (CG l[i]) (J (DC n3) (J rfl (J (fun h9=>?_) (fun h9=>?_))))
   .have h9:(l[i].p:Int)<(0:Int):=h9;refine J aa1 (cU [] [] C C ?_)
    have EU:Gr l i=l[i-1].t:=PG ch (by have q:=h6;omega);have Uh:l[i].t<=Gr l i\/l[i].p<0\/100<l[i].p:=ch
    exact BC.of_eq (Aa vi (show 1=BA l by rw[BA,AA (by have q:=h1;rw[Lm]at q;omega),<-i3,LN n3 Uh]))
   have h9:¬((l[i].p:Int)<(0:Int)):=h9;refine I (CG l[i]) (J (DC n3) (J rfl (J (fun IM=>?_) (fun IM=>?_))))
   .have IM:(100:Int)<(l[i].p:Int):=IM;refine J aa1 (cU [] [] C C ?_)
    have EU:Gr l i=l[i-1].t:=PG ch (by have q:=h6;omega);have Uh:l[i].t<=Gr l i\/l[i].p<0\/100<l[i].p:=ch
    exact BC.of_eq (Aa vi (show 1=BA l by rw[BA,AA (by have q:=h1;rw[Lm]at q;omega),<-i3,LN n3 Uh]))
   have IM:¬((100:Int)<(l[i].p:Int)):=IM;refine J aa1 (cU [(0,sl CG l),(3,vi i)] [] Z2 C (J (Ii i ch) ?_));have EU:Gr l i=l[i-1].t:=PG ch (by have q:=h6;omega);have GX:¬(l[i].t<=Gr l i\/l[i].p<0\/100<l[i].p):=ch
   refine I ⟨i+1,n3,by rw[LA n3];omega,by rw[LA n3,<-YZ n3 GX];exact i3⟩ ?_;exact⟨Dl l.length i ch,Z2,C,Fh,C⟩
  have h6:¬((0:Int)<(i:Int)):=h6;refine I (CG l[i]) (J (DC n3) (J rfl (J (fun Ny=>?_) (fun Ny=>?_))))
  .have Ny:(l[i].p:Int)<(0:Int):=Ny;refine J aa1 (cU [] [] C C ?_)
   have EU:Gr l i=-1:=by have q:=h6;rw[show i=0 by omega];rfl
   have Uh:l[i].t<=Gr l i\/l[i].p<0\/100<l[i].p:=ch
   exact BC.of_eq (Aa vi (show 1=BA l by rw[BA,AA (by have q:=h1;rw[Lm]at q;omega),<-i3,LN n3 Uh]))
  have Ny:¬((l[i].p:Int)<(0:Int)):=Ny;refine I (CG l[i]) (J (DC n3) (J rfl (J (fun Ei=>?_) (fun Ei=>?_))))
  .have Ei:(100:Int)<(l[i].p:Int):=Ei;refine J aa1 (cU [] [] C C ?_)
   have EU:Gr l i=-1:=by have q:=h6;rw[show i=0 by omega];rfl
   have Uh:l[i].t<=Gr l i\/l[i].p<0\/100<l[i].p:=ch
   exact BC.of_eq (Aa vi (show 1=BA l by rw[BA,AA (by have q:=h1;rw[Lm]at q;omega),<-i3,LN n3 Uh]))
  have Ei:¬((100:Int)<(l[i].p:Int)):=Ei;refine J aa1 (cU [(0,sl CG l),(3,vi i)] [] Z2 C (J (Ii i ch) ?_));have EU:Gr l i=-1:=by have q:=h6;rw[show i=0 by omega];rfl
  have GX:¬(l[i].t<=Gr l i\/l[i].p<0\/100<l[i].p):=ch
  refine I ⟨i+1,n3,by rw[LA n3];omega,by rw[LA n3,<-YZ n3 GX];exact i3⟩ ?_;exact⟨Dl l.length i ch,Z2,C,Fh,C⟩
 have h3:¬((i:Int)<((l.map CG).length:Int)):=h3;have n3:=BB h3;exact BC.of_eq (Aa vi (show 0=BA l by rw[BA,AA (by have q:=h1;rw[Lm]at q;omega),<-i3,AN (AE (BB h3)),NC]))
theorem AcO(l:List Vt)(AK:Int)(hl:BD l):PC 12 [sl CG l,vi AK] (.tup [vi (UU l AK),vi (BA l)]):=by
 have hl:l.length<=1073741824:=hl;refine Ps (pC [] [4,7,9]) func12 rfl C4 (C1 (C2 (cq l hl) (J (fun h1=>?_) (fun h1=>?_))))
 .have h1:((BA l):Int)≠(0:Int):=h1;exact BC.of_eq (show AV.tup [vi 0,vi (BA l)]=_ by rw[UU,AA h1])
 have h1:((BA l):Int)=(0:Int):=Aq h1;refine cU [(0,sl CG l),(1,vi AK)] [] Z2 C (I {q:Nat // q<=l.length} (I (fun q=>⟨[(0,sl CG l),(1,vi AK),(7,vi (HH (l.take q.1) AK)),(8,vi q.1)],[],Ae⟩) (I (fun q=>l.length-q.1) (J (I ⟨0,Aj _⟩ ?_) ?_))))
 .exact⟨Z4,C,Fh,C⟩
 intro⟨i,i1⟩;have i1:i<=l.length:=i1;refine J (fun h3=>?_) (fun h3=>?_)
 .have h3:(i:Int)<((l.map CG).length:Int):=h3;have n3:=Dh h3;refine I (CG l[i]) (J (DC n3) (J rfl (J (fun h4=>?_) (fun h4=>?_))))
  .have h4:(l[i].t:Int)<=(AK:Int):=h4;refine cU [(0,sl CG l),(1,vi AK),(8,vi i)] [] Z3 C (I (CG l[i]) (J (DC n3) (J rfl (cU [(0,sl CG l),(1,vi AK),(7,vi l[i].p),(8,vi i)] [] Z4 C (J (Ii i ch) (I ⟨i+1,n3⟩ ?_))))));exact⟨Dl l.length i ch,⟨B,B,⟨(show vi l[i].p=vi (HH (l.take (i+1)) AK) by rw[PZ n3,Nr,Ax h4]),rfl⟩,B,C⟩,C,Fh,C⟩
  have h4:¬((l[i].t:Int)<=(AK:Int)):=h4;refine cU [(0,sl CG l),(1,vi AK),(7,vi (HH (l.take i) AK)),(8,vi i)] [] Z4 C (J (Ii i ch) (I ⟨i+1,n3⟩ ?_));exact⟨Dl l.length i ch,⟨B,B,⟨(show vi (HH (l.take i) AK)=vi (HH (l.take (i+1)) AK) by rw[PZ n3,Nr,AA h4]),rfl⟩,B,C⟩,C,Fh,C⟩
 have h3:¬((i:Int)<((l.map CG).length:Int)):=h3;have n3:=BB h3;exact BC.of_eq (show AV.tup [vi (HH (l.take i) AK),vi 0]=_ by rw[As (AE (BB h3)),UU,Ax h1,h1])
theorem yX(name user d:CS)(hs:d.size=32)(hd:PC 49 [vs (⟨#[99,111,104,111,114,116]⟩:CS),sl Af [name,user]] (vs d)):PC 16 [vs name,vs user] (vi (KM d 8 % 100)):=by
 refine Ps CQ func16 rfl C4 (C1 (C2 hd (I {q:Nat // q<=8} (I (fun q=>⟨[(5,vs d),(6,.v (.int .u64 (KM d q.1))),(7,vi q.1)],[],Ae⟩) (I (fun q=>8-q.1) (J (I ⟨0,Aj _⟩ ?_) ?_))))))
 .exact⟨Z3,C,Fh,C⟩
 intro⟨i,i1⟩;have i1:i<=8:=i1;refine J (fun h1=>?_) (fun h1=>?_)
 .have h1:(i:Int)<(8:Int):=h1;refine I (Do d i) (J (Lh (z:=i) (show i<d.size by omega) rfl) (J (Ii i ch) (I ⟨i+1,by omega⟩ ?_)));exact⟨Dl 8 i ch,⟨B,⟨(Aa (fun z:Int=>AV.v (.int .u64 z)) (mE d i)),rfl⟩,B,C⟩,C,Fh,C⟩
 have h1:¬((i:Int)<(8:Int)):=h1;refine J (show 0<=KM d i/\(0:Int)<100 from⟨ZL _ _,by decide⟩) (J (show Az (KM d i % 100) by unfold Az;have q1:=Nw (KM d i) (show(100:Int)≠0 by decide);have q2:=OK (KM d i) (show(0:Int)<100 by decide);omega) ?_);exact BC.of_eq (Aa vi (show KM d i % 100=KM d 8 % 100 by rw[show i=8 by omega]))
theorem AcL(name user:CS)(h1:name.size<=100000)(h2:user.size<=100000):PC 16 [vs name,vs user] (vi (X4 name user)):=
 yX name user _ (Xu _) (qA _ [name,user] Wk (A4.2 ⟨h1,A4.2 ⟨h2,B2 _⟩⟩) (show 2<=1000 by decide))
end Go.Eng
