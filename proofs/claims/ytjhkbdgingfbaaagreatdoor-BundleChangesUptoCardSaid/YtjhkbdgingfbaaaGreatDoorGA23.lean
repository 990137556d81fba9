/- Lemmas 23. -/
import Derived.Test.YtjhkbdgingfbaaaGreatDoorGA22
set_option maxHeartbeats 4000000
namespace Go.Eng
open Go.Proofs
variable {Cs:List AV}{v:Ver}{j fF:Nat}(x:List Rl)(D:List ByteArray)(ifs:List (List AV))(a s:ByteArray)(l:List ByteArray)
theorem Hv(x n:Int)(h0:0<=n)(h1:n<=32)(e1:BV .and .u64 (IntKind.wrap .u64 (-n)) 31=32-n)(e2:IntKind.wrap .u64 (32-(32-n))=n):PC 150 [.v (.int .u32 x),vi n] (.v (.int .u32 (FB x (-n)))):=by
 refine Ps Dj Tryz.func150 rfl (Nz rfl) (Yi (show(0:Int)<=n by omega) (Yi (by show AE ((32:Int)-(n:Int));unfold AE;omega) (Yi (show(0:Int)<=32-n by omega) (Yi sT ?_))));exact D7.of_eq (Aa Dt (show(BV .or .u32 (B0 .shr .u32 x n) (B0 .shl .u32 x (32-n)))=FB x (-n)from gW e1 e2))
set_option maxRecDepth 100000 in
theorem dx  : PC 149 [] (sl Cu kK):=by
 refine Ps Dj Tryz.func149 rfl (Nz rfl) ?_;exact .refl _
theorem lF(n:Int)(h0:0<=n)(h1:n<=9223372036854775807):PC 147 [vi n] (vs (MW (IntKind.wrap .u64 n))):=by
 refine Ps Dj Tryz.func147 rfl (Nz rfl) (Xi {q:Nat // q<=8} (Xi (fun q=>⟨[(0,vi n),(3,.slice (.id 5 1) ((HT n q.1).map Bj)),(4,vi (7-(q.1:Int)))],[(5,.tok 1 ((HT n q.1).map Bj).length)],Ao⟩) (Xi (fun q=>8-q.1) (Yi (Xi ⟨0,Ar _⟩ ?_) ?_))))
 .exact⟨Z3,Z1,Fh,Tv⟩
 intro⟨i,i1⟩;have i1:i<=8:=i1;have il:((HT n i).map Bj).length<=8:=by rw[Lm,HT,Lm,FZ];exact i1
 have rS:(HT n i).length<=8:=by rw[HT,Lm,FZ];exact i1
 refine Yi (fun h1=>?_) (fun h1=>?_)
 .have h1:(0:Int)<=((7-(i:Int)):Int):=h1;refine Yi (by show AE ((8:Int)*((7-(i:Int)):Int));unfold AE;omega) ?_;refine Yi (show(0:Int)<=8*(7-(i:Int)) by omega) ?_;have b2:Cn 1 [[.v (.int .u8 (IntKind.wrap .u8 (B0 .shr .i64 n (8*(7-(i:Int))))))]]/\((HT n i).map Bj).length=((HT n i).map Bj).length/\(((HT n i).map Bj).length+([[.v (.int .u8 (IntKind.wrap .u8 (B0 .shr .i64 n (8*(7-(i:Int))))))]]:List (List AV)).length)*1<=140737488355328/\((HT n i).map Bj).length+([[.v (.int .u8 (IntKind.wrap .u8 (B0 .shr .i64 n (8*(7-(i:Int))))))]]:List (List AV)).length<=9223372036854775807:=⟨⟨rfl,trivial⟩,rfl,(by simp only[Lm,Am,Aw];omega),(by simp only[Lm,Am,Aw];omega)⟩;refine Yi b2 (Yi (by show AE (((7-(i:Int)):Int)-(1:Int));unfold AE;omega) ?_);have ew:=WK n i;refine Xi ⟨i+1,by omega⟩ ?_;exact⟨Dl 8 i sP,⟨Zr,⟨(Aa (AV.slice (.id 5 1)) ew),rfl⟩,⟨(Aa vi (show(7:Int)-(i:Int)-1=7-((i+1:Nat):Int) by omega)),rfl⟩,Tv⟩,⟨⟨(show HO.tok 1 (((HT n i).map Bj).length+([[.v (.int .u8 (IntKind.wrap .u8 (B0 .shr .i64 n (8*(7-(i:Int))))))]]:List (List AV)).length)=.tok 1 ((HT n (i+1)).map Bj).length from Aa (HO.tok 1) (Ac.symm.trans (Aa List.length ew))),rfl⟩,Tv⟩,Fh,Tv⟩
 have h1:¬((0:Int)<=((7-(i:Int)):Int)):=h1;refine Xi (HT n i) (Yi rfl ?_);exact D7.of_eq (Aa vs (show(⟨(HT n i).toArray⟩:ByteArray)=_ by rw[show i=8 by omega];exact Zv h0 sP))
theorem Vl{ws:List Int}{i c:Nat}(h:i-c<ws.length)(hc:c<=i):(0:Int)<=((i:Nat):Int)-(c:Nat)/\(ws.map Cu)[(((i:Nat):Int)-(c:Nat)).toNat]?=some (Cu (DR ws (i-c))):=by
 refine⟨by omega,?_⟩;rw[show(((i:Nat):Int)-(c:Nat)).toNat=i-c by omega,Ap,OS h];rfl
theorem lI(hs:s.size=64):PC 148 [vs s] (sl Cu (BE s 64)):=by
 refine Ps Dj Tryz.func148 rfl (Nz rfl) (Xi {q:Nat // q<=16} (Xi (fun q=>⟨[(0,vs s),(3,.slice (.id 10 1) ((BE s q.1).map Cu)),(4,vi (4*(q.1:Int)))],[(10,.tok 1 ((BE s q.1).map Cu).length)],Ao⟩) (Xi (fun q=>16-q.1) (Yi (Xi ⟨0,Ar _⟩ ?_) ?_))))
 .exact⟨Z3,Z1,Fh,Tv⟩
 intro⟨k,k1⟩;have k1:k<=16:=k1;have kl:((BE s k).map Cu).length<=64:=by rw[Lm,DD];omega
 have rT:(BE s k).length<=64:=by rw[DD];omega
 refine Yi (fun h1=>?_) (fun h1=>?_)
 .have h1:((4*(k:Int)):Int)<(64:Int):=h1;refine Xi (Bl s (4*k)) (Yi (FG (z:=(4*(k:Int))) (show 4*k<s.size by omega) sP) (Yi sR (Yi (by show AE (((4*(k:Int)):Int)+(1:Int));unfold AE;omega) ?_)));refine Xi (Bl s (4*k+1)) (Yi (FG (z:=(4*(k:Int))+1) (show 4*k+1<s.size by omega) sP) (Yi sR (Yi (by show AE (((4*(k:Int)):Int)+(2:Int));unfold AE;omega) ?_)));refine Xi (Bl s (4*k+2)) (Yi (FG (z:=(4*(k:Int))+2) (show 4*k+2<s.size by omega) sP) (Yi sR (Yi (by show AE (((4*(k:Int)):Int)+(3:Int));unfold AE;omega) ?_)));refine Xi (Bl s (4*k+3)) (Yi (FG (z:=(4*(k:Int))+3) (show 4*k+3<s.size by omega) sP) ?_);have b2:Cn 1 [[.v (.int .u32 (BV .or .u32 (BV .or .u32 (BV .or .u32 (B0 .shl .u32 (IntKind.wrap .u32 ((Bl s (4*k)).toNat:Int)) 24) (B0 .shl .u32 (IntKind.wrap .u32 ((Bl s (4*k+1)).toNat:Int)) 16)) (B0 .shl .u32 (IntKind.wrap .u32 ((Bl s (4*k+2)).toNat:Int)) 8)) (IntKind.wrap .u32 ((Bl s (4*k+3)).toNat:Int))))]]/\((BE s k).map Cu).length=((BE s k).map Cu).length/\(((BE s k).map Cu).length+([[.v (.int .u32 (BV .or .u32 (BV .or .u32 (BV .or .u32 (B0 .shl .u32 (IntKind.wrap .u32 ((Bl s (4*k)).toNat:Int)) 24) (B0 .shl .u32 (IntKind.wrap .u32 ((Bl s (4*k+1)).toNat:Int)) 16)) (B0 .shl .u32 (IntKind.wrap .u32 ((Bl s (4*k+2)).toNat:Int)) 8)) (IntKind.wrap .u32 ((Bl s (4*k+3)).toNat:Int))))]]:List (List AV)).length)*4<=140737488355328/\((BE s k).map Cu).length+([[.v (.int .u32 (BV .or .u32 (BV .or .u32 (BV .or .u32 (B0 .shl .u32 (IntKind.wrap .u32 ((Bl s (4*k)).toNat:Int)) 24) (B0 .shl .u32 (IntKind.wrap .u32 ((Bl s (4*k+1)).toNat:Int)) 16)) (B0 .shl .u32 (IntKind.wrap .u32 ((Bl s (4*k+2)).toNat:Int)) 8)) (IntKind.wrap .u32 ((Bl s (4*k+3)).toNat:Int))))]]:List (List AV)).length<=9223372036854775807:=⟨⟨rfl,trivial⟩,rfl,(by simp only[Lm,Am,Aw];omega),(by simp only[Lm,Am,Aw];omega)⟩;refine Yi b2 (Yi sT (Yi (by show AE (((4*(k:Int)):Int)+(4:Int));unfold AE;omega) ?_));have ew:(((BE s k).map Cu)++[[.v (.int .u32 (BV .or .u32 (BV .or .u32 (BV .or .u32 (B0 .shl .u32 (IntKind.wrap .u32 ((Bl s (4*k)).toNat:Int)) 24) (B0 .shl .u32 (IntKind.wrap .u32 ((Bl s (4*k+1)).toNat:Int)) 16)) (B0 .shl .u32 (IntKind.wrap .u32 ((Bl s (4*k+2)).toNat:Int)) 8)) (IntKind.wrap .u32 ((Bl s (4*k+3)).toNat:Int))))]])=(BE s (k+1)).map Cu:=by rw[BE,AK,Oj,Av (show k<16 by omega),<-dt];rfl
  refine Xi ⟨k+1,by omega⟩ ?_;exact⟨Dl 16 k sP,⟨Zr,⟨(Aa (AV.slice (.id 10 1)) ew),rfl⟩,⟨(Aa vi (show 4*(k:Int)+4=4*((k+1:Nat):Int) by omega)),rfl⟩,Tv⟩,⟨⟨(show HO.tok 1 (((BE s k).map Cu).length+([[.v (.int .u32 (BV .or .u32 (BV .or .u32 (BV .or .u32 (B0 .shl .u32 (IntKind.wrap .u32 ((Bl s (4*k)).toNat:Int)) 24) (B0 .shl .u32 (IntKind.wrap .u32 ((Bl s (4*k+1)).toNat:Int)) 16)) (B0 .shl .u32 (IntKind.wrap .u32 ((Bl s (4*k+2)).toNat:Int)) 8)) (IntKind.wrap .u32 ((Bl s (4*k+3)).toNat:Int))))]]:List (List AV)).length)=.tok 1 ((BE s (k+1)).map Cu).length from Aa (HO.tok 1) (Ac.symm.trans (Aa List.length ew))),rfl⟩,Tv⟩,Fh,Tv⟩
 have h1:¬(((4*(k:Int)):Int)<(64:Int)):=h1;refine Xi {q:Nat // 16<=q/\q<=64} (Xi (fun q=>⟨[(3,.slice (.id 10 1) ((BE s q.1).map Cu)),(5,vi q.1)],[(10,.tok 1 ((BE s q.1).map Cu).length)],Ao⟩) (Xi (fun q=>64-q.1) (Yi (Xi ⟨16,Ad _,by decide⟩ ?_) ?_)))
 .exact⟨⟨⟨(Aa (fun z:Nat=>AV.slice (.id 10 1) ((BE s z).map Cu)) (show k=16 by omega)),rfl⟩,Zr,Tv⟩,⟨⟨(Aa (fun z:Nat=>HO.tok 1 ((BE s z).map Cu).length) (show k=16 by omega)),rfl⟩,Tv⟩,Fh,Tv⟩
 intro⟨i,i0,i1⟩;have i0:16<=i:=i0;have i1:i<=64:=i1;have il:((BE s i).map Cu).length<=64:=by rw[Lm,DD];omega
 have rS:(BE s i).length<=64:=by rw[DD];omega
 refine Yi (fun h4=>?_) (fun h4=>?_)
 .have h4:(i:Int)<(64:Int):=h4;refine Yi (by show AE ((i:Int)-(15:Int));unfold AE;omega) (Xi (Cu (DR (BE s i) (i-15))) (Yi (Vl (c:=15) (show i-15<(BE s i).length by rw[DD];omega) (show 15<=i by omega)) (Yi rfl (Yi (by show AE ((i:Int)-(2:Int));unfold AE;omega) (Xi (Cu (DR (BE s i) (i-2))) (Yi (Vl (c:=2) (show i-2<(BE s i).length by rw[DD];omega) (show 2<=i by omega)) (Yi rfl (Yi sT (Xi .pure (Xi _ (Yi (Hv (DR (BE s i) (i-15)) 7 sR sR sT sT) (Xi .pure (Xi _ (Yi (Hv (DR (BE s i) (i-15)) 18 sR sR sT sT) (Yi sR (Xi .pure (Xi _ (Yi (Hv (DR (BE s i) (i-2)) 17 sR sR sT sT) (Xi .pure (Xi _ (Yi (Hv (DR (BE s i) (i-2)) 19 sR sR sT sT) (Yi sR (Yi (by show AE ((i:Int)-(7:Int));unfold AE;omega) (Xi (Cu (DR (BE s i) (i-7))) (Yi (Vl (c:=7) (show i-7<(BE s i).length by rw[DD];omega) (show 7<=i by omega)) (Yi rfl (Yi (by show AE ((i:Int)-(16:Int));unfold AE;omega) (Xi (Cu (DR (BE s i) (i-16))) (Yi (Vl (c:=16) (show i-16<(BE s i).length by rw[DD];omega) (show 16<=i by omega)) (Yi rfl ?_))))))))))))))))))))))))))))));have b5:Cn 1 [[.v (.int .u32 (IntKind.wrap .u32 ((IntKind.wrap .u32 ((IntKind.wrap .u32 ((BV .xor .u32 (BV .xor .u32 (FB (DR (BE s i) (i-2)) (-17)) (FB (DR (BE s i) (i-2)) (-19))) (B0 .shr .u32 (DR (BE s i) (i-2)) 10))+(DR (BE s i) (i-7))))+(BV .xor .u32 (BV .xor .u32 (FB (DR (BE s i) (i-15)) (-7)) (FB (DR (BE s i) (i-15)) (-18))) (B0 .shr .u32 (DR (BE s i) (i-15)) 3))))+(DR (BE s i) (i-16)))))]]/\((BE s i).map Cu).length=((BE s i).map Cu).length/\(((BE s i).map Cu).length+([[.v (.int .u32 (IntKind.wrap .u32 ((IntKind.wrap .u32 ((IntKind.wrap .u32 ((BV .xor .u32 (BV .xor .u32 (FB (DR (BE s i) (i-2)) (-17)) (FB (DR (BE s i) (i-2)) (-19))) (B0 .shr .u32 (DR (BE s i) (i-2)) 10))+(DR (BE s i) (i-7))))+(BV .xor .u32 (BV .xor .u32 (FB (DR (BE s i) (i-15)) (-7)) (FB (DR (BE s i) (i-15)) (-18))) (B0 .shr .u32 (DR (BE s i) (i-15)) 3))))+(DR (BE s i) (i-16)))))]]:List (List AV)).length)*4<=140737488355328/\((BE s i).map Cu).length+([[.v (.int .u32 (IntKind.wrap .u32 ((IntKind.wrap .u32 ((IntKind.wrap .u32 ((BV .xor .u32 (BV .xor .u32 (FB (DR (BE s i) (i-2)) (-17)) (FB (DR (BE s i) (i-2)) (-19))) (B0 .shr .u32 (DR (BE s i) (i-2)) 10))+(DR (BE s i) (i-7))))+(BV .xor .u32 (BV .xor .u32 (FB (DR (BE s i) (i-15)) (-7)) (FB (DR (BE s i) (i-15)) (-18))) (B0 .shr .u32 (DR (BE s i) (i-15)) 3))))+(DR (BE s i) (i-16)))))]]:List (List AV)).length<=9223372036854775807:=⟨⟨rfl,trivial⟩,rfl,(by simp only[Lm,Am,Aw];omega),(by simp only[Lm,Am,Aw];omega)⟩
  refine Yi b5 (Yi sT (Yi (Ii i sP) ?_));have ew:(((BE s i).map Cu)++[[.v (.int .u32 (IntKind.wrap .u32 ((IntKind.wrap .u32 ((IntKind.wrap .u32 ((BV .xor .u32 (BV .xor .u32 (FB (DR (BE s i) (i-2)) (-17)) (FB (DR (BE s i) (i-2)) (-19))) (B0 .shr .u32 (DR (BE s i) (i-2)) 10))+(DR (BE s i) (i-7))))+(BV .xor .u32 (BV .xor .u32 (FB (DR (BE s i) (i-15)) (-7)) (FB (DR (BE s i) (i-15)) (-18))) (B0 .shr .u32 (DR (BE s i) (i-15)) 3))))+(DR (BE s i) (i-16)))))]])=(BE s (i+1)).map Cu:=by rw[BE,AK,Oj,Aj (show ¬i<16 by omega)];rfl
  refine Xi ⟨i+1,by omega,by omega⟩ ?_;exact⟨Dl 64 i sP,⟨⟨(Aa (AV.slice (.id 10 1)) ew),rfl⟩,Zr,Tv⟩,⟨⟨(show HO.tok 1 (((BE s i).map Cu).length+([[.v (.int .u32 (IntKind.wrap .u32 ((IntKind.wrap .u32 ((IntKind.wrap .u32 ((BV .xor .u32 (BV .xor .u32 (FB (DR (BE s i) (i-2)) (-17)) (FB (DR (BE s i) (i-2)) (-19))) (B0 .shr .u32 (DR (BE s i) (i-2)) 10))+(DR (BE s i) (i-7))))+(BV .xor .u32 (BV .xor .u32 (FB (DR (BE s i) (i-15)) (-7)) (FB (DR (BE s i) (i-15)) (-18))) (B0 .shr .u32 (DR (BE s i) (i-15)) 3))))+(DR (BE s i) (i-16)))))]]:List (List AV)).length)=.tok 1 ((BE s (i+1)).map Cu).length from Aa (HO.tok 1) (Ac.symm.trans (Aa List.length ew))),rfl⟩,Tv⟩,Fh,Tv⟩
 have h4:¬((i:Int)<(64:Int)):=h4;exact D7.of_eq (show sl Cu (BE s i)=sl Cu (BE s 64) by rw[show i=64 by omega])
set_option maxRecDepth 100000 in
theorem dw(v:S8)(s:ByteArray)(W Kk:List Int)(r8:S8)(hW:W.length=64)(hK:Kk.length=64)(hr:Dk W Kk v 64=r8)(hc:PC 148 [vs s] (sl Cu W))(hk:PC 149 [] (sl Cu Kk)):PC 87 [sl Cu (S8.l v),vs s] (sl Cu (S8.l (bt v r8))):=by
 refine Ps (pC [] [3,9]) Tryz.func87 rfl (Nz rfl) (Xi .pure (Xi _ (Yi hc (Xi .pure (Xi _ (Yi hk (Xi (Cu v.a) (Yi ⟨by decide,rfl⟩ (Yi rfl ?_)))))))));refine Xi (Cu v.b) (Yi ⟨by decide,rfl⟩ (Yi rfl ?_));refine Xi (Cu v.c) (Yi ⟨by decide,rfl⟩ (Yi rfl ?_));refine Xi (Cu v.d) (Yi ⟨by decide,rfl⟩ (Yi rfl ?_));refine Xi (Cu v.e) (Yi ⟨by decide,rfl⟩ (Yi rfl ?_));refine Xi (Cu v.f) (Yi ⟨by decide,rfl⟩ (Yi rfl ?_));refine Xi (Cu v.g) (Yi ⟨by decide,rfl⟩ (Yi rfl ?_));refine Xi (Cu v.h) (Yi ⟨by decide,rfl⟩ (Yi rfl ?_));refine Yi sT (cU [(0,sl Cu (S8.l v)),(5,sl Cu W),(6,sl Cu Kk),(7,.v (.int .u32 v.a)),(8,.v (.int .u32 v.b)),(9,.v (.int .u32 v.c)),(10,.v (.int .u32 v.d)),(11,.v (.int .u32 v.e)),(12,.v (.int .u32 v.f)),(13,.v (.int .u32 v.g)),(14,.v (.int .u32 v.h))] [] Z11 Tv (Xi {q:Nat // q<=64} (Xi (fun q=>⟨[(0,sl Cu (S8.l v)),(5,sl Cu W),(6,sl Cu Kk),(7,.v (.int .u32 (Dk W Kk v q.1).a)),(8,.v (.int .u32 (Dk W Kk v q.1).b)),(9,.v (.int .u32 (Dk W Kk v q.1).c)),(10,.v (.int .u32 (Dk W Kk v q.1).d)),(11,.v (.int .u32 (Dk W Kk v q.1).e)),(12,.v (.int .u32 (Dk W Kk v q.1).f)),(13,.v (.int .u32 (Dk W Kk v q.1).g)),(14,.v (.int .u32 (Dk W Kk v q.1).h)),(15,vi q.1)],[],Ao⟩) (Xi (fun q=>64-q.1) (Yi (Xi ⟨0,Ar _⟩ ?_) ?_)))))
 .exact⟨Z12,Tv,Fh,Tv⟩
 intro⟨i,i1⟩;have i1:i<=64:=i1;refine Yi (fun h1=>?_) (fun h1=>?_)
 .have h1:(i:Int)<(64:Int):=h1;refine Xi _ (Yi (Hv (Dk W Kk v i).e 6 sR sR sT sT) (Xi _ (Yi (Hv (Dk W Kk v i).e 11 sR sR sT sT) (Xi _ (Yi (Hv (Dk W Kk v i).e 25 sR sR sT sT) (Xi (Cu (DR Kk i)) (Yi (iR (show i<Kk.length by omega)) (Yi rfl (Xi (Cu (DR W i)) (Yi (iR (show i<W.length by omega)) (Yi rfl (Yi sT (Xi .pure (Xi _ (Yi (Hv (Dk W Kk v i).a 2 sR sR sT sT) (Xi .pure (Xi _ (Yi (Hv (Dk W Kk v i).a 13 sR sR sT sT) (Xi .pure (Xi _ (Yi (Hv (Dk W Kk v i).a 22 sR sR sT sT) (Yi (Ii i sP) (Xi ⟨i+1,by omega⟩ ?_)))))))))))))))))))))));exact⟨Dl 64 i sP,Z12,Tv,Fh,Tv⟩
 have h1:¬((i:Int)<(64:Int)):=h1;refine cU [(0,sl Cu (S8.l v)),(7,.v (.int .u32 (Dk W Kk v i).a)),(8,.v (.int .u32 (Dk W Kk v i).b)),(9,.v (.int .u32 (Dk W Kk v i).c)),(10,.v (.int .u32 (Dk W Kk v i).d)),(11,.v (.int .u32 (Dk W Kk v i).e)),(12,.v (.int .u32 (Dk W Kk v i).f)),(13,.v (.int .u32 (Dk W Kk v i).g)),(14,.v (.int .u32 (Dk W Kk v i).h))] [] Z9 Tv (Xi (Cu v.a) (Yi ⟨by decide,rfl⟩ (Yi rfl ?_)));refine Xi (Cu v.b) (Yi ⟨by decide,rfl⟩ (Yi rfl ?_));refine Xi (Cu v.c) (Yi ⟨by decide,rfl⟩ (Yi rfl ?_));refine Xi (Cu v.d) (Yi ⟨by decide,rfl⟩ (Yi rfl ?_));refine Xi (Cu v.e) (Yi ⟨by decide,rfl⟩ (Yi rfl ?_));refine Xi (Cu v.f) (Yi ⟨by decide,rfl⟩ (Yi rfl ?_));refine Xi (Cu v.g) (Yi ⟨by decide,rfl⟩ (Yi rfl ?_));refine Xi (Cu v.h) (Yi ⟨by decide,rfl⟩ (Yi rfl ?_));refine Yi sT ?_;have qQ:i=64:=by omega
 have er:(Dk W Kk v i)=r8:=by rw[qQ,hr]
 exact D7.of_eq (show .slice .none [[.v (.int .u32 (IntKind.wrap .u32 (v.a+(Dk W Kk v i).a)))],[.v (.int .u32 (IntKind.wrap .u32 (v.b+(Dk W Kk v i).b)))],[.v (.int .u32 (IntKind.wrap .u32 (v.c+(Dk W Kk v i).c)))],[.v (.int .u32 (IntKind.wrap .u32 (v.d+(Dk W Kk v i).d)))],[.v (.int .u32 (IntKind.wrap .u32 (v.e+(Dk W Kk v i).e)))],[.v (.int .u32 (IntKind.wrap .u32 (v.f+(Dk W Kk v i).f)))],[.v (.int .u32 (IntKind.wrap .u32 (v.g+(Dk W Kk v i).g)))],[.v (.int .u32 (IntKind.wrap .u32 (v.h+(Dk W Kk v i).h)))]]=sl Cu (S8.l (bt v r8)) by rw[er];rfl)
theorem io(v:S8)(s:ByteArray)(hs:s.size=64):PC 87 [sl Cu (S8.l v),vs s] (sl Cu (S8.l (RB v s))):=
 dw v s (BE s 64) kK _ (DD s 64) rfl rfl (lI s hs) dx
theorem Tp:s.data.toList.map Bj++[[AV.v (.int .u8 128)]]=(Fj s 0).map Bj:=by
 rw[Fj,List.replicate_zero,BR,AK];rfl
theorem gV:HO.tok 1 ((s.data.toList.map Bj).length+([[AV.v (.int .u8 128)]]:List (List AV)).length)=.tok 1 ((Fj s 0).map Bj).length:=
 Aa (HO.tok 1) (Ac.symm.trans (Aa List.length (Tp s)))
theorem lH(hs:s.size<=1000000000000):PC 86 [vs s] (vs (Pn s)):=by
 have Y4:(s.data.toList.map Bj).length=s.size:=by rw[Lm,A4];rfl
 have rf:s.data.toList.length=s.size:=by rw[A4];rfl
 refine Ps Dj Tryz.func86 rfl (Nz rfl) ?_;have b1:Cn 1 [[.v (.int .u8 128)]]/\(s.data.toList.map Bj).length=(s.data.toList.map Bj).length/\((s.data.toList.map Bj).length+([[.v (.int .u8 128)]]:List (List AV)).length)*1<=140737488355328/\(s.data.toList.map Bj).length+([[.v (.int .u8 128)]]:List (List AV)).length<=9223372036854775807:=⟨⟨rfl,trivial⟩,rfl,(by simp only[Lm,Am,Aw];omega),(by simp only[Lm,Am,Aw];omega)⟩;refine Yi b1 (Xi {q:Nat // q<=((119-(s.size:Int)) % 64).toNat} (Xi (fun q=>⟨[(0,vs s),(3,.slice (.id 5 1) ((Fj s q.1).map Bj))],[(5,.tok 1 ((Fj s q.1).map Bj).length)],Ao⟩) (Xi (fun q=>((119-(s.size:Int)) % 64).toNat-q.1) (Yi (Xi ⟨0,Ar _⟩ ?_) ?_))))
 .exact⟨⟨Zr,⟨(Aa (AV.slice (.id 5 1)) (Tp s)),rfl⟩,Tv⟩,⟨⟨(gV s),rfl⟩,Tv⟩,Fh,Tv⟩
 intro⟨k,k1⟩;have k1:k<=((119-(s.size:Int)) % 64).toNat:=k1;have kl:((Fj s k).map Bj).length=s.size+1+k:=by rw[Lm,Ot]
 have rT:(Fj s k).length=s.size+1+k:=Ot _ _;refine Yi ⟨by omega,by omega⟩ ?_;refine Yi (fun h2=>?_) (fun h2=>?_)
 .have h2:(((Fj s k).map Bj).length % 64:Int)≠(56:Int):=h2;have b3:Cn 1 [[.v (.int .u8 0)]]/\((Fj s k).map Bj).length=((Fj s k).map Bj).length/\(((Fj s k).map Bj).length+([[.v (.int .u8 0)]]:List (List AV)).length)*1<=140737488355328/\((Fj s k).map Bj).length+([[.v (.int .u8 0)]]:List (List AV)).length<=9223372036854775807:=⟨⟨rfl,trivial⟩,rfl,(by simp only[Lm,Am,Aw];omega),(by simp only[Lm,Am,Aw];omega)⟩;refine Yi b3 ?_;have ew:(((Fj s k).map Bj)++[[.v (.int .u8 0)]])=(Fj s (k+1)).map Bj:=by rw[<-W8,AK];rfl
  refine Xi ⟨k+1,by have q:=h2;rw[kl]at q;omega⟩ ?_;exact⟨by show((119-(s.size:Int)) % 64).toNat-(k+1)<((119-(s.size:Int)) % 64).toNat-k;have q:=h2;rw[kl]at q;omega,⟨Zr,⟨(Aa (AV.slice (.id 5 1)) ew),rfl⟩,Tv⟩,⟨⟨(show HO.tok 1 (((Fj s k).map Bj).length+([[.v (.int .u8 0)]]:List (List AV)).length)=.tok 1 ((Fj s (k+1)).map Bj).length from Aa (HO.tok 1) (Ac.symm.trans (Aa List.length ew))),rfl⟩,Tv⟩,Fh,Tv⟩
 have h2:(((Fj s k).map Bj).length % 64:Int)=(56:Int):=Ax h2;refine Xi (Fj s k) (Yi rfl (Yi (by show AE ((8:Int)*(s.size:Int));unfold AE;omega) (Xi _ (Yi (lF (8*(s.size:Int)) sP sP) (Yi (show(((⟨(Fj s k).toArray⟩:ByteArray).size+(MW (IntKind.wrap .u64 (8*(s.size:Int)))).size:Nat):Int)<=9223372036854775807 by rw[Tj,show(⟨(Fj s k).toArray⟩:ByteArray).size=s.size+1+k by show(Fj s k).toArray.size=_;rw[CF,Ot]];omega) ?_)))));refine Yi sT ?_;have ek:k=((119-(s.size:Int)) % 64).toNat:=by have q:=h2;rw[kl]at q;omega
 exact D7.of_eq (Aa vs (show(⟨(Fj s k).toArray⟩:ByteArray)++MW (IntKind.wrap .u64 (8*(s.size:Int)))=Pn s by rw[cY,Pn,ek]))
theorem bV(p:ByteArray):p.extract 0 p.size=p:=by
 apply DW;simp only[Fu];have h:p.size=p.data.size:=rfl;rw[h];simp
theorem iv(p:ByteArray)(hp:Pn s=p)(rI:p.size % 64=0)(dX:p.size<=1000000000100)(nG:PC 86 [vs s] (vs p)):PC 46 [vs s] (vs (UM s)):=by
 refine Ps (pT [] [(3,0)] []) Tryz.func46 rfl (Nz rfl) (Xi .pure (Xi _ (Yi nG (Xi {q:S8×Nat // 64*q.2<=p.size/\Ca q.1 (p.extract (64*q.2) p.size)=Ca SN p} (Xi (fun q=>⟨[(3,sl Cu (S8.l q.1.1)),(4,vs p),(5,vi (64*(q.1.2:Int)))],[],Ao⟩) (Xi (fun q=>p.size-64*q.1.2) (Yi (Xi ⟨(SN,0),Ar _,by rw[Nat.mul_zero,bV]⟩ ?_) ?_)))))))
 .exact⟨Z3,Tv,Fh,Tv⟩
 intro⟨⟨v,k⟩,k1,k2⟩;have k1:64*k<=p.size:=k1;have k2:Ca v (p.extract (64*k) p.size)=Ca SN p:=k2;refine Yi (fun h1=>?_) (fun h1=>?_)
 .have h1:((64*(k:Int)):Int)<(p.size:Int):=h1;refine Yi (by show AE (((64*(k:Int)):Int)+(64:Int));unfold AE;omega) ?_;have kg:64*k+64<=p.size:=by omega
  have eb:(p.extract (64*(k:Int)).toNat (64*(k:Int)+64).toNat)=p.extract (64*k) (64*k+64):=by rw[show(64*(k:Int)).toNat=64*k by omega,show(64*(k:Int)+64).toNat=64*k+64 by omega]
  refine Yi (show(0:Int)<=64*(k:Int)/\64*(k:Int)<=64*(k:Int)+64/\64*(k:Int)+64<=(p.size:Int) by omega) (Xi .pure (Xi _ (Yi (io v (p.extract (64*(k:Int)).toNat (64*(k:Int)+64).toNat) (by rw[eb,BO];omega)) ?_)));refine Yi (by show AE (((64*(k:Int)):Int)+(64:Int));unfold AE;omega) ?_;refine Xi ⟨(RB v (p.extract (64*k) (64*k+64)),k+1),by have q:=kg;omega,by rw[<-RT kg];exact k2⟩ ?_;exact⟨by show p.size-64*(k+1)<p.size-64*k;omega,⟨⟨(show sl Cu (S8.l (RB v (p.extract (64*(k:Int)).toNat (64*(k:Int)+64).toNat)))=sl Cu (S8.l (RB v (p.extract (64*k) (64*k+64)))) by rw[eb]),rfl⟩,Zr,⟨(Aa vi (show 64*(k:Int)+64=64*((k+1:Nat):Int) by omega)),rfl⟩,Tv⟩,Tv,Fh,Tv⟩
 have h1:¬(((64*(k:Int)):Int)<(p.size:Int)):=h1;refine Xi {q:Nat // q<=8} (Xi (fun q=>⟨[(3,sl Cu (S8.l v)),(6,.slice (.id 24 1) ((((S8.l v).take q.1).flatMap Db).map Bj)),(7,vi q.1)],[(24,.tok 1 ((((S8.l v).take q.1).flatMap Db).map Bj).length)],Ao⟩) (Xi (fun q=>8-q.1) (Yi (Xi ⟨0,Ar _⟩ ?_) ?_)))
 .exact⟨Z3,Z1,Fh,Tv⟩
 intro⟨j,j1⟩;have j1:j<=8:=j1;have qd:=TL (S8.l v) j j1;have sF:((((S8.l v).take j).flatMap Db).map Bj).length<=32:=by rw[Lm];exact qd
 refine Yi (fun h3=>?_) (fun h3=>?_)
 .have h3:(j:Int)<(8:Int):=h3;refine Xi (Cu (DR (S8.l v) j)) (Yi (iR (show j<(S8.l v).length from by show j<8;omega)) (Yi rfl (Yi sR (Xi (Cu (DR (S8.l v) j)) (Yi (iR (show j<(S8.l v).length from by show j<8;omega)) (Yi rfl (Yi sR (Xi (Cu (DR (S8.l v) j)) (Yi (iR (show j<(S8.l v).length from by show j<8;omega)) (Yi rfl (Yi sR (Xi (Cu (DR (S8.l v) j)) (Yi (iR (show j<(S8.l v).length from by show j<8;omega)) (Yi rfl ?_))))))))))))));have b4:Cn 1 [[.v (.int .u8 (IntKind.wrap .u8 (B0 .shr .u32 (DR (S8.l v) j) 24)))],[.v (.int .u8 (IntKind.wrap .u8 (B0 .shr .u32 (DR (S8.l v) j) 16)))],[.v (.int .u8 (IntKind.wrap .u8 (B0 .shr .u32 (DR (S8.l v) j) 8)))],[.v (.int .u8 (IntKind.wrap .u8 (DR (S8.l v) j)))]]/\((((S8.l v).take j).flatMap Db).map Bj).length=((((S8.l v).take j).flatMap Db).map Bj).length/\(((((S8.l v).take j).flatMap Db).map Bj).length+([[.v (.int .u8 (IntKind.wrap .u8 (B0 .shr .u32 (DR (S8.l v) j) 24)))],[.v (.int .u8 (IntKind.wrap .u8 (B0 .shr .u32 (DR (S8.l v) j) 16)))],[.v (.int .u8 (IntKind.wrap .u8 (B0 .shr .u32 (DR (S8.l v) j) 8)))],[.v (.int .u8 (IntKind.wrap .u8 (DR (S8.l v) j)))]]:List (List AV)).length)*1<=140737488355328/\((((S8.l v).take j).flatMap Db).map Bj).length+([[.v (.int .u8 (IntKind.wrap .u8 (B0 .shr .u32 (DR (S8.l v) j) 24)))],[.v (.int .u8 (IntKind.wrap .u8 (B0 .shr .u32 (DR (S8.l v) j) 16)))],[.v (.int .u8 (IntKind.wrap .u8 (B0 .shr .u32 (DR (S8.l v) j) 8)))],[.v (.int .u8 (IntKind.wrap .u8 (DR (S8.l v) j)))]]:List (List AV)).length<=9223372036854775807:=⟨⟨rfl,rfl,rfl,rfl,trivial⟩,rfl,(by simp only[Lm,Am,Aw];omega),(by simp only[Lm,Am,Aw];omega)⟩;refine Yi b4 (Yi sT (Yi (Ii j sP) ?_));have ew:(((((S8.l v).take j).flatMap Db).map Bj)++[[.v (.int .u8 (IntKind.wrap .u8 (B0 .shr .u32 (DR (S8.l v) j) 24)))],[.v (.int .u8 (IntKind.wrap .u8 (B0 .shr .u32 (DR (S8.l v) j) 16)))],[.v (.int .u8 (IntKind.wrap .u8 (B0 .shr .u32 (DR (S8.l v) j) 8)))],[.v (.int .u8 (IntKind.wrap .u8 (DR (S8.l v) j)))]])=(((S8.l v).take (j+1)).flatMap Db).map Bj:=by rw[TK,<-AK];exact Aa (List.map Bj) (OT (l:=(S8.l v)) (show j<8 by omega))
  refine Xi ⟨j+1,by omega⟩ ?_;exact⟨Dl 8 j sP,⟨Zr,⟨(Aa (AV.slice (.id 24 1)) ew),rfl⟩,Zr,Tv⟩,⟨⟨(show HO.tok 1 (((((S8.l v).take j).flatMap Db).map Bj).length+([[.v (.int .u8 (IntKind.wrap .u8 (B0 .shr .u32 (DR (S8.l v) j) 24)))],[.v (.int .u8 (IntKind.wrap .u8 (B0 .shr .u32 (DR (S8.l v) j) 16)))],[.v (.int .u8 (IntKind.wrap .u8 (B0 .shr .u32 (DR (S8.l v) j) 8)))],[.v (.int .u8 (IntKind.wrap .u8 (DR (S8.l v) j)))]]:List (List AV)).length)=.tok 1 ((((S8.l v).take (j+1)).flatMap Db).map Bj).length from Aa (HO.tok 1) (Ac.symm.trans (Aa List.length ew))),rfl⟩,Tv⟩,Fh,Tv⟩
 have h3:¬((j:Int)<(8:Int)):=h3;refine Xi ((S8.l v).flatMap Db) (Yi (show((((S8.l v).take j).flatMap Db).map Bj)=((S8.l v).flatMap Db).map Bj by rw[show j=8 by omega];rfl) ?_);have ev:v=(Ca SN p).1:=by rw[<-k2];exact(TT (by have q:=h1;omega)).symm
 exact D7.of_eq (Aa vs (show(⟨((S8.l v).flatMap Db).toArray⟩:ByteArray)=UM s by rw[UM,hp,ev]))
theorem lJ(hs:s.size<=1000000000000):PC 46 [vs s] (vs (UM s)):=
 iv s _ rfl (Qg s).1 (by have q:=(Qg s).2;omega) (lH s hs)
theorem XV{cx:Cx}{c:Code}{Q:Ex->St->Prop}{s s' : LS}(h:s=s')(hk:RH cx c Q s'.st):RH cx c Q s.st:=by subst h;exact hk
theorem U5{x:List Rl}{p:ByteArray}(h:BA x=0):CM x ⟨p,v⟩=x.find? fun r=>decide (Ej r=⟨p,v⟩):=Aj (not_not_intro h)
theorem K9{r:Rl}{p:ByteArray}:Ej r=⟨p,v⟩↔r.path=p/\r.ver.a=v.a/\r.ver.b=v.b/\r.ver.c=v.c:=by
 unfold Ej;constructor
 .intro h;cases h;exact⟨rfl,rfl,rfl,rfl⟩
 .rintro⟨rfl,h1,h2,h3⟩
  cases hr:r.ver;cases v
  rw[hr]at h1 h2 h3;cases h1;cases h2;cases h3;rfl
theorem lP(p:ByteArray)(v:Ver)(hx:∀r∈x,KF r)(dZ:CC x):PC 47 [.agg (Ic x ifs),vs p,.agg (Dy v)] (MA (CM x ⟨p,v⟩)):=by
 refine Ps Dj Tryz.func47 rfl (Nz rfl) (yN (Xi .pure (Xi _ (Yi (nh x ifs hx) (Yi (fun h1=>?_) (fun h1=>?_))))))
 .refine yN (yN ?_);exact .of_eq (show AV.tup [.agg bo,vb false]=MA (CM x ⟨p,v⟩) by rw[show CM x ⟨p,v⟩=none from Av h1])
 have h1:(BA x:Int)=(0:Int):=Ax h1;refine Xi {i:Nat // i<=x.length/\∀j (h:j<x.length),j<i->decide (Ej x[j]=⟨p,v⟩)=false} (Xi (fun q=>⟨[(1,vs p),(3,.ref 3 0),(5,.ref 5 0),(6,.ref 6 0),(8,vi q.1)],[(3,.cells (Ic x ifs)),(5,.cells (Dy v)),(6,.cells [vs ⟨#[]⟩,vi 0,vi 0,vi 0,nzA,vs ⟨#[]⟩,vs ⟨#[]⟩,vs ⟨#[]⟩,vb false])],Ao⟩) (Xi (fun q=>x.length-q.1) (Yi (Xi ⟨0,Ar _,fun j _ h=>by omega⟩ ?_) ?_)))
 .exact⟨Z5,Z3,Fh,Tv⟩
 intro⟨i,i1,i2⟩;refine Yi (fun h3=>?_) (fun h3=>?_)
 .have h3:(i:Int)<((x.map Bb).length:Int):=h3;have n3:=FL h3;refine Xi (Bb x[i]) (Yi (GR n3) (Yi rfl (Yi (fun h4=>?_) (fun h4=>?_))))
  .refine Xi (Bb x[i]) (Yi (GR n3) (Yi rfl (yN (yN (Yi (fun h5=>?_) (fun h5=>?_))))))
   .refine Yi sT (Xi (Bb x[i]) (Yi (GR n3) (Yi rfl (yN (yN (yN ?_))))));exact .of_eq (show AV.tup [.agg (Bb x[i]),vb true]=MA (CM x ⟨p,v⟩) by rw[U5 h1,YK n3 i2 (Ah (K9.2 ⟨h4,h5.1,h5.2.1,h5.2.2.1⟩))])
   refine Yi sT (Yi (Ii i sP) (Xi ⟨i+1,by omega,fun j hj Gn=>(Be j i).elim (i2 j hj) (fun z=>by have e:j=i:=sP;subst e;exact Ae (fun h=>h5 ⟨(K9.1 h).2.1,(K9.1 h).2.2.1,(K9.1 h).2.2.2,trivial⟩))⟩ ?_));exact⟨Dl x.length i sP,Z5,Z3,Fh,Tv⟩
  refine Yi sT (Yi (Ii i sP) (Xi ⟨i+1,by omega,fun j hj Gn=>(Be j i).elim (i2 j hj) (fun z=>by have e:j=i:=sP;subst e;exact Ae (fun h=>h4 (K9.1 h).1))⟩ ?_));exact⟨Dl x.length i sP,Z5,Z3,Fh,Tv⟩
 have h3:¬((i:Int)<((x.map Bb).length:Int)):=h3;have n3:=DC h3;refine yN (yN ?_);exact .of_eq (show AV.tup [.agg bo,vb false]=MA (CM x ⟨p,v⟩) by rw[U5 h1,Wl fun j hj=>i2 j hj sP])
theorem ay{s:ByteArray}(h:s.size<=1000000000):Bu s=UM s:=by
 unfold Bu;have e:(⟨#[]⟩:ByteArray)++s=s:=DW sS;rw[gO,lE (by show 0+s.size<_;omega),e,g6]
theorem eF(h:s.size<=1000000000):PC 46 [vs s] (vs (Bu s)):=by
 rw[ay h];exact lJ s sP
theorem Vj{α β:Type}(f:α->β)(p:β->Bool):∀(l:List α) (k:Int),Hw p (l.map f) k=Hw (fun a=>p (f a)) l k
 | [],_=>rfl
 |a::l,k=>by
  show(if p (f a)=true then k else Hw p (l.map f) (k+1))=if p (f a)=true then k else Hw (fun a=>p (f a)) l (k+1)
  rw[Vj f p l]
abbrev iW:ByteArray->Bool:=fun d=>decide (d=a)
def Mn(j:Nat):Int:=Hw (iW a) (D.drop j) j
theorem UU{D:List ByteArray}{a:ByteArray}(h:j<D.length)(e:D[j]=a):Mn D a j=(j:Int):=by
 unfold Mn;rw[AG h];show(if iW a D[j]=true then(j:Int)else _)=_;rw[Av (Ah e)]
theorem RY{D:List ByteArray}{a:ByteArray}(h:j<D.length)(e:¬D[j]=a):Mn D a j=Mn D a (j+1):=by
 unfold Mn;rw[AG h];show(if iW a D[j]=true then(j:Int)else Hw (iW a) (D.drop (j+1)) ((j:Int)+1))=_;rw[Aj (by rw[iW,Ae e];decide)];rfl
theorem US:Mn D a D.length=-1:=by
 unfold Mn;rw[List.drop_length];rfl
theorem UT(a:ByteArray):(Mn (l.map Bu) a 0=-1/\KC l a=none)\/∃i x,Mn (l.map Bu) a 0=(i:Nat)/\l[i]?=some x/\KC l a=some x:=by
 unfold Mn KC;rw[KH,Vj];rcases SJ (p:=fun b=>iW a (Bu b)) l ((0:Nat):Int)with h | ⟨i,x,h1,h2,h3⟩
 .exact .inl h
 .exact .inr ⟨i,x,by rw[h1];omega,h2,h3⟩
theorem iq(s:List Sl)(l:List ByteArray)(hx:∀r∈x,KF r)(dZ:CC x)(hs:CC s)(hl:CC l)(ha:∀a∈l,a.size<=100000000):PC 13 [.agg (Ic x ifs),sl Ag s,sl encStr l] (qk (Is x l s)):=by
 have kD:s.length<=1073741824:=hs;have Ww:l.length<=1073741824:=hl;refine Ps (pC [3] [10]) Tryz.func13 rfl (Nz rfl) (yN (Xi .pure (Xi _ (Yi (nh x ifs hx) (Yi (fun h1=>?_) (fun h1=>?_))))))
 .have h1:((BA x):Int)≠(0:Int):=h1;have e:Is x l s=(none,1):=by rw[Is,Av (.inl h1)]
  rw[e];exact .tup ⟨.nil,.refl _,trivial⟩
 have h1:((BA x):Int)=(0:Int):=Ax h1;refine Bn (Bt (Bw s)) (fun h3=>?_) (fun h3=>?_)
 .have h3:(Bw s)=true:=h3;refine Xi .pure (Xi _ (Yi (cb h3 (c80 s hs)) (Yi (fun h4=>?_) (fun h4=>?_))))
  .have h4:(1024:Int)<((s.map Ag).length:Int):=h4;have n4:1024<s.length:=by have q:=h4;rw[Lm]at q;omega
   have e:Is x l s=(none,7):=by rw[Is,Aj (fun c=>c.elim (fun c=>c h1) (fun c=>by rw[h3]at c;cases c)),Av (by have q:=h4;rw[Lm]at q;exact q)]
   rw[e];exact .tup ⟨.nil,.refl _,trivial⟩
  have h4:¬((1024:Int)<((s.map Ag).length:Int)):=h4;have n4:¬1024<s.length:=by have q:=h4;rw[Lm]at q;omega
  refine Xi {q:Nat // q<=l.length} (Xi (fun q=>⟨[(1,sl Ag s),(2,sl encStr l),(3,.ref 3 0),(8,.slice (.id 27 1) (((l.take q.1).map Bu).map encStr)),(9,vi q.1)],[(3,.ro (Ic x ifs)),(27,.tok 1 (((l.take q.1).map Bu).map encStr).length)],Ao⟩) (Xi (fun q=>l.length-q.1) (Yi (Xi ⟨0,Ar _⟩ ?_) ?_)))
  .exact⟨Z5,Z2,Fh,Tv⟩
  intro⟨i,i1⟩;have i1:i<=l.length:=i1;have fY:=ZB Bu encStr l i;refine Yi (fun h6=>?_) (fun h6=>?_)
  .have h6:(i:Int)<((l.map encStr).length:Int):=h6;have n6:=FL h6;refine Xi (encStr l[i]) (Yi (GR n6) (Yi rfl (Xi .pure (Xi _ (Yi (eF l[i] (AP (ha _ (Af n6)) sR)) ?_)))));have b7:Cn 1 [[vs (Bu l[i])]]/\(((l.take i).map Bu).map encStr).length=(((l.take i).map Bu).map encStr).length/\((((l.take i).map Bu).map encStr).length+([[vs (Bu l[i])]]:List (List AV)).length)*16<=140737488355328/\(((l.take i).map Bu).map encStr).length+([[vs (Bu l[i])]]:List (List AV)).length<=9223372036854775807:=⟨⟨rfl,trivial⟩,rfl,(by simp only[Lm,Am,Aw,Al];omega),(by simp only[Lm,Am,Aw,Al];omega)⟩;refine Yi b7 (Yi (Ii i sP) ?_);have ew:=ZC Bu encStr n6;refine Xi ⟨i+1,n6⟩ ?_;exact⟨Dl l.length i sP,⟨Zr,Zr,Zr,⟨(Aa (AV.slice (.id 27 1)) ew),rfl⟩,Zr,Tv⟩,⟨Zr,⟨(show HO.tok 1 ((((l.take i).map Bu).map encStr).length+([[vs (Bu l[i])]]:List (List AV)).length)=.tok 1 (((l.take (i+1)).map Bu).map encStr).length from Aa (HO.tok 1) (Ac.symm.trans (Aa List.length ew))),rfl⟩,Tv⟩,Fh,Tv⟩
  have h6:¬((i:Int)<((l.map encStr).length:Int)):=h6;have n6:=DC h6;have ei:l.take i=l:=As (BI (DC h6));refine cU [(1,sl Ag s),(2,sl encStr l),(3,.ref 3 0),(8,.slice (.id 27 1) ((l.map Bu).map encStr))] [(3,.ro (Ic x ifs)),(27,.tok 1 ((l.map Bu).map encStr).length)] ⟨Zr,Zr,Zr,⟨(Aa (fun z:List ByteArray=>AV.slice (.id 27 1) ((z.map Bu).map encStr)) ei),rfl⟩,Tv⟩ ⟨Zr,⟨(Aa (fun z:List ByteArray=>HO.tok 1 ((z.map Bu).map encStr).length) ei),rfl⟩,Tv⟩ (Xi {q:Nat×List Cp // q.1<=s.length/\MU x l (s.take q.1)=some q.2} (Xi (fun q=>⟨[(1,sl Ag s),(2,sl encStr l),(3,.ref 3 0),(8,.slice (.id 27 1) ((l.map Bu).map encStr)),(10,.slice (.id 42 5) (q.1.2.map Aq)),(11,vi q.1.1)],[(3,.ro (Ic x ifs)),(27,.tok 1 ((l.map Bu).map encStr).length),(42,.tok 5 q.1.2.length)],Ao⟩) (Xi (fun q=>s.length-q.1.1) (Yi (Xi ⟨(0,[]),Ar _,rfl⟩ ?_) ?_))))
  .exact⟨Z6,Z3,Fh,Tv⟩
  intro⟨⟨m,N⟩,m1,m2⟩;have nK:((l.map Bu).map encStr).length=l.length:=by rw[Lm,Lm]
  have m1:m<=s.length:=m1;have m2:MU x l (s.take m)=some N:=m2;have m3:N.length<=s.length:=by rw[M8 m2,Al];omega
  refine Yi (fun h9=>?_) (fun h9=>?_)
  .have h9:(m:Int)<((s.map Ag).length:Int):=h9;have n9:=FL h9;refine yN (Xi (Ag s[m]) (Yi (GR n9) (Yi rfl (Xi (Ag s[m]) (Yi (GR n9) (Yi rfl (yN (Bn (H6 (CM x ⟨s[m].path,s[m].ver⟩)) (fun MO=>?_) (fun MO=>?_)))))))))
   .refine BF MO (fun r MO=>?_);have Y1:=lP x ifs s[m].path s[m].ver hx dZ;rw[MO]at Y1;refine Xi _ (Yi Y1 (yN (Yi sT (Yi (by show AE ((((l.map Bu).map encStr).length:Int)-(1:Int));unfold AE;omega) ?_))));refine Xi {q:Nat // q<=l.length} (Xi (fun q=>⟨[(1,sl Ag s),(2,sl encStr l),(3,.ref 3 0),(8,.slice (.id 27 1) ((l.map Bu).map encStr)),(10,.slice (.id 42 5) (N.map Aq)),(11,vi m),(12,.ref 12 0),(13,vb true),(14,vi (Mn (l.map Bu) r.arch q.1)),(15,vi ((q.1:Int)-1))],[(3,.ro (Ic x ifs)),(12,.cells (Bb r)),(27,.tok 1 ((l.map Bu).map encStr).length),(42,.tok 5 N.length)],Ao⟩) (Xi (fun q=>q.1) (Yi (Xi ⟨l.length,Ad _⟩ ?_) ?_)))
    .exact⟨⟨Zr,Zr,Zr,Zr,Zr,Zr,Zr,Zr,⟨(Aa vi (show(-1:Int)=Mn (l.map Bu) r.arch l.length from by have q:=US (l.map Bu) r.arch;rw[Lm]at q;exact q.symm)),rfl⟩,⟨(show AV.v (.int .i64 (((l.map Bu).map encStr).length-1))=vi ((l.length:Int)-1) by rw[Lm,Lm]),rfl⟩,Tv⟩,Z4,Fh,Tv⟩
    intro⟨j,j1⟩;have j1:j<=l.length:=j1;refine Yi (fun NU=>?_) (fun NU=>?_)
    .have NU:(0:Int)<=(((j:Int)-1):Int):=NU;refine Xi (encStr (Bu (l[j-1]' sP))) (Yi (Yi (show(0:Int)<=(j:Int)-1 by omega) (by rw[show((j:Int)-1).toNat=j-1 by omega];exact CQ (show(l.map Bu)[j-1]?=some (Bu (l[j-1]' sP)) by rw[Ap,Ge sP];rfl))) (Yi rfl ?_));refine Yi (fun Kn=>?_) (fun Kn=>?_)
     .have Kn:((Bu (l[j-1]' sP)):ByteArray)=r.arch:=Kn;refine Yi sT (Yi (by show AE ((((j:Int)-1):Int)-(1:Int));unfold AE;omega) ?_);refine Xi ⟨j-1,by omega⟩ ?_;exact⟨by show j-1<j;omega,⟨Zr,Zr,Zr,Zr,Zr,Zr,Zr,Zr,⟨(Aa vi (show((j:Int)-1)=Mn (l.map Bu) r.arch (j-1)from by rw[UU (by rw[Lm];omega) (by rw[BD];exact Kn)];omega)),rfl⟩,⟨(show vi ((j:Int)-1-1)=vi (((j-1:Nat):Int)-1)from Aa vi sP),rfl⟩,Tv⟩,Z4,Fh,Tv⟩
     have Kn:¬((Bu (l[j-1]' sP)):ByteArray)=r.arch:=Kn;refine Yi sT (Yi (by show AE ((((j:Int)-1):Int)-(1:Int));unfold AE;omega) ?_);refine Xi ⟨j-1,by omega⟩ ?_;exact⟨by show j-1<j;omega,⟨Zr,Zr,Zr,Zr,Zr,Zr,Zr,Zr,⟨(Aa vi (show(Mn (l.map Bu) r.arch j)=Mn (l.map Bu) r.arch (j-1)from by have q:=RY (D:=(l.map Bu)) (a:=r.arch) (j:=j-1) (by rw[Lm];omega) (by rw[BD];exact Kn);rw[show j-1+1=j by omega]at q;exact q.symm)),rfl⟩,⟨(show vi ((j:Int)-1-1)=vi (((j-1:Nat):Int)-1)from Aa vi sP),rfl⟩,Tv⟩,Z4,Fh,Tv⟩
    have NU:¬((0:Int)<=(((j:Int)-1):Int)):=NU;have ej:j=0:=by have q:=NU;omega
    have YZ:=UT l r.arch;refine Yi (fun U8=>?_) (fun U8=>?_)
    .have U8:((Mn (l.map Bu) r.arch j):Int)<(0:Int):=U8;have rg:KC l r.arch=none:=by
      rcases YZ with ⟨_,q⟩ | ⟨i9,x9,q1,_,_⟩
      .exact q
      .rw[<-ej]at q1;exact absurd U8 (by rw[q1];omega)
     have e:Is x l s=(none,6):=by rw[Is,Aj (fun c=>c.elim (fun c=>c h1) (fun c=>by rw[h3]at c;cases c)),Aj (by have q:=h4;rw[Lm]at q;exact q),Jb n9 (by rw[Ro,show CM x s[m]=some r from MO];show Option.map _ (KC l r.arch)=_;rw[rg];rfl)]
     rw[e];exact .tup ⟨.nil,.refl _,trivial⟩
    have U8:¬(((Mn (l.map Bu) r.arch j):Int)<(0:Int)):=U8;refine BF (show ∃(ii:Nat) (bb:ByteArray),Mn (l.map Bu) r.arch j=(ii:Int)/\l[ii]?=some bb/\KC l r.arch=some bb from by
     rcases YZ with ⟨q,_⟩ | ⟨i9,x9,q1,q2,q3⟩
     .rw[<-ej]at q;exact absurd (show Mn (l.map Bu) r.arch j<0 by rw[q];decide) U8
     .rw[<-ej]at q1;exact⟨i9,x9,q1,q2,q3⟩) (fun ii rr=>?_)
    refine BF rr (fun bb nU=>?_);have MP:=nU.1;have q9:=nU.2.1;have j6:=nU.2.2;refine Xi (Ag s[m]) (Yi (GR n9) (Yi rfl (Xi (Ag s[m]) (Yi (GR n9) (Yi rfl (yN (Xi (encStr bb) (Yi (Yi (show(0:Int)<=(Mn (l.map Bu) r.arch j) by rw[MP];omega) (by rw[show((Mn (l.map Bu) r.arch j)).toNat=ii by rw[MP];omega];exact CQ q9)) (Yi rfl ?_)))))))));refine Yi (jq rfl sP sR) (Yi sT (Yi (Ii m sP) (Xi ⟨(m+1,N++[(⟨s[m].path,s[m].ver,bb⟩:Cp)]),n9,Te n9 m2 (by rw[Ro,show CM x s[m]=some r from MO];show Option.map _ (KC l r.arch)=_;rw[j6];rfl)⟩ ?_)));exact⟨Dl s.length m sP,⟨Zr,Zr,Zr,Zr,⟨(show AV.slice (.id 42 5) ((N.map Aq)++[[vs s[m].path,vi s[m].ver.a,vi s[m].ver.b,vi s[m].ver.c,vs bb]])=.slice (.id 42 5) ((N++[(⟨s[m].path,s[m].ver,bb⟩:Cp)]).map Aq) by rw[AK];rfl),rfl⟩,Zr,Tv⟩,⟨Zr,Zr,⟨l5,rfl⟩,Tv⟩,Fh,Tv⟩
   have Y1:=lP x ifs s[m].path s[m].ver hx dZ;rw[MO]at Y1;refine Xi _ (Yi Y1 (yN (Yi sT (Yi (by show AE ((((l.map Bu).map encStr).length:Int)-(1:Int));unfold AE;omega) ?_))));refine Xi {q:Nat // q<=l.length} (Xi (fun q=>⟨[(1,sl Ag s),(2,sl encStr l),(3,.ref 3 0),(8,.slice (.id 27 1) ((l.map Bu).map encStr)),(10,.slice (.id 42 5) (N.map Aq)),(11,vi m),(12,.ref 12 0),(13,vb false),(14,vi (Mn (l.map Bu) ⟨#[]⟩ q.1)),(15,vi ((q.1:Int)-1))],[(3,.ro (Ic x ifs)),(12,.cells [vs ⟨#[]⟩,vi 0,vi 0,vi 0,nzA,vs ⟨#[]⟩,vs ⟨#[]⟩,vs ⟨#[]⟩,vb false]),(27,.tok 1 ((l.map Bu).map encStr).length),(42,.tok 5 N.length)],Ao⟩) (Xi (fun q=>q.1) (Yi (Xi ⟨l.length,Ad _⟩ ?_) ?_)))
   .exact⟨⟨Zr,Zr,Zr,Zr,Zr,Zr,Zr,Zr,⟨(Aa vi (show(-1:Int)=Mn (l.map Bu) ⟨#[]⟩ l.length from by have q:=US (l.map Bu) ⟨#[]⟩;rw[Lm]at q;exact q.symm)),rfl⟩,⟨(show AV.v (.int .i64 (((l.map Bu).map encStr).length-1))=vi ((l.length:Int)-1) by rw[Lm,Lm]),rfl⟩,Tv⟩,Z4,Fh,Tv⟩
   intro⟨j,j1⟩;have j1:j<=l.length:=j1;refine Yi (fun dO=>?_) (fun dO=>?_)
   .have dO:(0:Int)<=(((j:Int)-1):Int):=dO;refine Xi (encStr (Bu (l[j-1]' sP))) (Yi (Yi (show(0:Int)<=(j:Int)-1 by omega) (by rw[show((j:Int)-1).toNat=j-1 by omega];exact CQ (show(l.map Bu)[j-1]?=some (Bu (l[j-1]' sP)) by rw[Ap,Ge sP];rfl))) (Yi rfl ?_));refine Yi (fun U9=>?_) (fun U9=>?_)
    .have U9:((Bu (l[j-1]' sP)):ByteArray)=⟨#[]⟩:=U9;refine Yi sT (Yi (by show AE ((((j:Int)-1):Int)-(1:Int));unfold AE;omega) ?_);refine Xi ⟨j-1,by omega⟩ ?_;exact⟨by show j-1<j;omega,⟨Zr,Zr,Zr,Zr,Zr,Zr,Zr,Zr,⟨(Aa vi (show((j:Int)-1)=Mn (l.map Bu) ⟨#[]⟩ (j-1)from by rw[UU (by rw[Lm];omega) (by rw[BD];exact U9)];omega)),rfl⟩,⟨(show vi ((j:Int)-1-1)=vi (((j-1:Nat):Int)-1)from Aa vi sP),rfl⟩,Tv⟩,Z4,Fh,Tv⟩
    have U9:¬((Bu (l[j-1]' sP)):ByteArray)=⟨#[]⟩:=U9;refine Yi sT (Yi (by show AE ((((j:Int)-1):Int)-(1:Int));unfold AE;omega) ?_);refine Xi ⟨j-1,by omega⟩ ?_;exact⟨by show j-1<j;omega,⟨Zr,Zr,Zr,Zr,Zr,Zr,Zr,Zr,⟨(Aa vi (show(Mn (l.map Bu) ⟨#[]⟩ j)=Mn (l.map Bu) ⟨#[]⟩ (j-1)from by have q:=RY (D:=(l.map Bu)) (a:=⟨#[]⟩) (j:=j-1) (by rw[Lm];omega) (by rw[BD];exact U9);rw[show j-1+1=j by omega]at q;exact q.symm)),rfl⟩,⟨(show vi ((j:Int)-1-1)=vi (((j-1:Nat):Int)-1)from Aa vi sP),rfl⟩,Tv⟩,Z4,Fh,Tv⟩
   have dO:¬((0:Int)<=(((j:Int)-1):Int)):=dO;have ej:j=0:=by have q:=dO;omega
   have YZ:=UT l ⟨#[]⟩;have e:Is x l s=(none,6):=by rw[Is,Aj (fun c=>c.elim (fun c=>c h1) (fun c=>by rw[h3]at c;cases c)),Aj (by have q:=h4;rw[Lm]at q;exact q),Jb n9 (by rw[Ro,show CM x s[m]=none from MO];rfl)]
   rw[e];exact .tup ⟨.nil,.refl _,trivial⟩
  have h9:¬((m:Int)<((s.map Ag).length:Int)):=h9;have n9:=DC h9;have m4:MU x l s=some N:=by rw[As (BI (DC h9))]at m2;exact m2
  have e:Is x l s=(some N,0):=by rw[Is,Aj (fun c=>c.elim (fun c=>c h1) (fun c=>by rw[h3]at c;cases c)),Aj (by have q:=h4;rw[Lm]at q;exact q),m4]
  rw[e];exact .refl _
 have h3:(Bw s)=false:=h3;refine Xi .pure (Xi _ (Yi (cb h3 (c80 s hs)) ?_));have e:Is x l s=(none,1):=by rw[Is,Av (.inr h3)]
 rw[e];exact .tup ⟨.nil,.refl _,trivial⟩
theorem sn(hs:DY Cs)(l:List (ByteArray))(p:ByteArray->Bool)(hF:∀x∈l,PC fF ([vs x]++Cs) (vb (p x)))(hl:l.length<9223372036854775807) :
  PC 78 [sl encStr l,.clo fF Cs] (vi (Hw p l 0)):=by
 refine Ps Dj Tryz.func78 rfl (Nz rfl) (Xi {i:Nat // i<=l.length/\∀j (hj:j<l.length),j<i->p l[j]=false} (Xi (fun i=>⟨[(0,sl encStr l),(1,.clo fF Cs),(7,vi (l.map encStr).length),(8,vi i.1)],[],Ao⟩) (Xi (fun i=>l.length-i.1) (Yi (Xi ⟨0,by simp⟩ ?_) ?_))))
 .exact⟨⟨Zr,⟨rfl,hs.ids _⟩,Zr,Zr,Tv⟩,Tv,Fh,Tv⟩
 .intro⟨i,h1,h2⟩;refine Yi ?_ ?_
  .intro h;have h:(i:Int)<(l.map encStr).length:=h;have h:i<l.length:=by simpa using h
   have hg:l[i]?=some l[i]:=Ge h;refine Xi (encStr l[i]) (Yi (Yi (Nn i) (by simp[hg])) (Yi rfl ?_));have Du:∀h,PC fF ([vs l[i]]++Cs.map (str0 h)) (vb (p l[i])):=fun h=>by rw[hs.map];exact hF l[i] (Af _)
   cases hp:p l[i]with
   |true=>
    rw[hp]at Du;refine Xi .pure (Xi (vb true) (Yi (Du _) ?_));rw[Ip h (fun j hj Gn=>h2 j hj Gn) hp,Gr];exact .refl _
   |false=>
    rw[hp]at Du;refine Xi .pure (Xi (vb false) (Yi (Du _) (Yi (Ii i sP) (Xi ⟨i+1,by omega,fun j hj Gn=>?_⟩ ?_))))
    .by_cases e:j=i
     .subst e;exact hp
     .exact h2 j hj sP
    .exact⟨Dl l.length i sP,⟨Zr,⟨rfl,hs.ids _⟩,Zr,Zr,Tv⟩,Tv,Fh,Tv⟩
  .intro h;have h:¬(i:Int)<(l.map encStr).length:=h;have h:¬i<l.length:=by simpa using h
   rw[FJ fun j hj=>h2 j hj sP];exact .refl _
theorem sm(hs:DY Cs)(l:List (ByteArray))(p:ByteArray->Bool)(hF:∀x∈l,PC fF ([vs x]++Cs) (vb (p x)))(hl:CC l) :
  PC 38 [sl encStr l,.clo fF Cs] (vb (l.any p)):=by
 refine Ps Dj Tryz.func38 rfl (Nz rfl) ?_;have hi:=sn hs l p hF (by unfold CC at hl;omega);have Du:∀h,PC 78 [sl encStr l,.clo fF (Cs.map (str0 h))] (vi (Hw p l 0)):=fun h=>by rw[hs.map];exact hi
 refine Xi .pure (Xi _ (Yi (Du _) ?_));have ha:=Jt (p:=p) l 0 (CR 0);refine Yi ?_ ?_
 .intro h;have h:(0:Int)<=Hw p l 0:=h;rw[<-ha,Ah h];exact .refl _
 .intro h;have h:¬(0:Int)<=Hw p l 0:=h;rw[<-ha,Ae h];exact .refl _
def Ja:Bool:=decide (200<(s.size:Int))
def Gy:Bool:=decide ((l.length:Int)<=12)&&!l.any Ja
theorem Xq{l:List ByteArray}(h:Gy l=true):l.length<=12/\∀a∈l,a.size<=200:=by
 unfold Gy at h;rw[Ak,CE,A3,HD]at h;refine⟨by omega,fun a ha=>?_⟩;have q:¬decide (200<(a.size:Int))=true:=h.2 a ha;rw[A3]at q;omega
theorem eZ(hs:CT s):PC 39 [vs s] (vb (Ja s)):=by
 have hs:s.size<=1073741824:=hs;refine Ps Dj Tryz.func39 rfl (Nz rfl) (Yi (fun h1=>?_) (fun h1=>?_))
 .have h1:(200:Int)<(s.size:Int):=h1;exact D7.of_eq (Aa vb (show true=Ja s by rw[Ja];simp only[h1,decide_true]))
 have h1:¬((200:Int)<(s.size:Int)):=h1;exact D7.of_eq (Aa vb (show false=Ja s by rw[Ja];simp only[h1,decide_false]))
theorem XY(hl:CC l)(hs:∀s∈l,CT s):PC 38 [sl encStr l,.v (.func (.func 39) #[] #[])] (vb (l.any Ja)):=
 (sm (fF:=39) DY.nil l Ja (fun s h=>eZ s (hs s h)) hl).args ⟨.refl _,.fn _,trivial⟩
theorem UW(hl:CC l)(hs:∀s∈l,CT s):PC 11 [sl encStr l] (vb (Gy l)):=by
 have Ww:l.length<=1073741824:=hl;refine Ps Dj Tryz.func11 rfl (Nz rfl) (Yi (fun h1=>?_) (fun h1=>?_))
 .have h1:((l.map encStr).length:Int)<=(12:Int):=h1;refine Bn (Bt (l.any Ja)) (fun h2=>?_) (fun h2=>?_)
  .have h2:(l.any Ja)=true:=h2;refine Xi .pure (Xi _ (Yi (cb h2 (XY l hl hs)) ?_));exact D7.of_eq (Aa vb (show false=Gy l by rw[Gy,Ah (p:=(l.length:Int)<=12) (by have q:=h1;rw[Lm]at q;exact q),h2];rfl))
  have h2:(l.any Ja)=false:=h2;refine Xi .pure (Xi _ (Yi (cb h2 (XY l hl hs)) ?_));exact D7.of_eq (Aa vb (show true=Gy l by rw[Gy,Ah (p:=(l.length:Int)<=12) (by have q:=h1;rw[Lm]at q;exact q),h2];rfl))
 have h1:¬(((l.map encStr).length:Int)<=(12:Int)):=h1;exact D7.of_eq (Aa vb (show false=Gy l by rw[Gy,Ae (p:=(l.length:Int)<=12) (by have q:=h1;rw[Lm]at q;exact q)];rfl))
theorem cL(s:List Sl)(hs:CC s):CC ((Is x l s).1.getD []):=by
 have hz:CC ([]:List Cp):=Ar _;unfold Is;split
 .exact hz
 split
 .exact hz
 cases h:MU x l s with
 |none=>exact hz
 |some N=>exact AP (Nat.le_of_eq (M8 h)) hs
theorem oQ(s:List Sl)(l:List ByteArray)(hL:bq x [])(kD:CC s)(hl:CC l)(hs:∀a∈l,CT a):PC 3 [.agg (Ic x ifs),sl Ag s,sl encStr l] (vb true):=by
 refine Ps (pC [3] [4,5,7]) Tryz.func3 rfl (Nz rfl) (Xi .pure (Xi _ (Yi Hg (yN (Bn (Bt (E0 x 16&&D6 [])) (fun h1=>?_) (fun h1=>?_))))))
 .have h1:(E0 x 16&&D6 [])=true:=h1;refine Xi .pure (Xi _ (Yi (cb h1 ((hL.c11 ifs).args ⟨.refl _,.nil,trivial⟩)) (Yi (fun h2=>?_) (fun h2=>?_))))
  .have h2:(20:Int)<((s.map Ag).length:Int):=h2;have n2:20<s.length:=by have q:=h2;rw[Lm]at q;omega
   refine cU [] [] Tv Tv ?_
   exact .refl _
  have h2:¬((20:Int)<((s.map Ag).length:Int)):=h2;have n2:¬20<s.length:=by have q:=h2;rw[Lm]at q;omega
  refine Bn (Bt (Gy l)) (fun h4=>?_) (fun h4=>?_)
  .have h4:(Gy l)=true:=h4;have hq:=Xq h4;have hb:∀a∈l,a.size<=100000000:=fun a ha=>AP (hq.2 a ha) sR;have hm:CC ((Is x l s).1.getD []):=cL x l s kD;refine Xi .pure (Xi _ (Yi (cb h4 (UW l hl hs)) (cU [(1,sl Ag s),(2,sl encStr l),(3,.ref 3 0)] [(3,.ro (Ic x ifs))] Z3 Z1 (yN (Xi .pure (Xi _ (Yi (Yc x ifs s l hL.x kD hl hb) (yN (Xi .pure (Xi _ (Yi (iq x ifs s l hL.x hL.ix kD hl hb) (cU [(7,sl Aq ((Is x l s).1.getD [])),(8,vi (Is x l s).2),(9,sl Aq ((Is x l s).1.getD [])),(10,vi (Is x l s).2)] [] Z4 Tv (Xi .pure (Xi _ (Yi (show PC 14 _ (vb true)from by have q:=Yh ((Is x l s).1.getD []) ((Is x l s).1.getD []) hm;rw[Ah rfl]at q;exact q) (Yi (fun _=>?_) (fun hf=>absurd rfl hf)))))))))))))))));exact .refl _
  have h4:(Gy l)=false:=h4;refine Xi .pure (Xi _ (Yi (cb h4 (UW l hl hs)) (cU [] [] Tv Tv ?_)))
  exact .refl _
 have h1:(E0 x 16&&D6 [])=false:=h1;refine Xi .pure (Xi _ (Yi (cb h1 ((hL.c11 ifs).args ⟨.refl _,.nil,trivial⟩)) (cU [] [] Tv Tv ?_)))
 exact .refl _
end Go.Eng
