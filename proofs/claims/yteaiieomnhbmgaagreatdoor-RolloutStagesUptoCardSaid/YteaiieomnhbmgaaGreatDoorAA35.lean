/- Lemmas 35. -/
import Derived.Test.YteaiieomnhbmgaaGreatDoorAA34
set_option maxHeartbeats 4000000
namespace Go.Eng
open Go.Proofs
variable {i:Nat}(tag:ByteArray)(v:S8)(l:List Ud)(s p:ByteArray)(Bn:Int)
theorem Lr(x n:Int)(h0:0<=n)(h1:n<=32)(e1:CW .and .u64 (IntKind.wrap .u64 (-n)) 31=32-n)(e2:IntKind.wrap .u64 (32-(32-n))=n):PC 213 [.v (.int .u32 x),vi n] (.v (.int .u32 (Il x (-n)))):=by
 refine Ps El Tryz.func213 rfl (Nz rfl) (Yi (show(0:Int)<=n by omega) (Yi (by show AX ((32:Int)-(n:Int));unfold AX;omega) (Yi (show(0:Int)<=32-n by omega) (Yi Wk ?_))));exact CV.of_eq (Aa E4 (show(CW .or .u32 (CZ .shr .u32 x n) (CZ .shl .u32 x (32-n)))=Il x (-n)from vI e1 e2))
set_option maxRecDepth 100000 in
theorem sf  : PC 212 [] (sl DK kK):=by
 refine Ps El Tryz.func212 rfl (Nz rfl) ?_;exact .refl _
theorem pi(n:Int)(h0:0<=n)(h1:n<=9223372036854775807):PC 91 [vi n] (vs (Fl (IntKind.wrap .u64 n))):=by
 refine Ps El Tryz.func91 rfl (Nz rfl) (Xi {q:Nat // q<=8} (Xi (fun q=>⟨[(0,vi n),(3,.slice (.id 5 1) ((LN n q.1).map CX)),(4,vi (7-(q.1:Int)))],[(5,.tok 1 ((LN n q.1).map CX).length)],Ae⟩) (Xi (fun q=>8-q.1) (Yi (Xi ⟨0,Ax _⟩ ?_) ?_))))
 .exact⟨Z3,Z1,Fh,Tv⟩
 intro⟨i,i1⟩;have i1:i<=8:=i1;have il:((LN n i).map CX).length<=8:=by rw[Lm,LN,Lm,GV];exact i1
 have il2:(LN n i).length<=8:=by rw[LN,Lm,GV];exact i1
 refine Yi (fun h1=>?_) (fun h1=>?_)
 .have h1:(0:Int)<=((7-(i:Int)):Int):=h1;refine Yi (by show AX ((8:Int)*((7-(i:Int)):Int));unfold AX;omega) ?_;refine Yi (show(0:Int)<=8*(7-(i:Int)) by omega) ?_;have b2:B5 1 [[.v (.int .u8 (IntKind.wrap .u8 (CZ .shr .i64 n (8*(7-(i:Int))))))]]/\((LN n i).map CX).length=((LN n i).map CX).length/\(((LN n i).map CX).length+([[.v (.int .u8 (IntKind.wrap .u8 (CZ .shr .i64 n (8*(7-(i:Int))))))]]:List (List AV)).length)*1<=140737488355328/\((LN n i).map CX).length+([[.v (.int .u8 (IntKind.wrap .u8 (CZ .shr .i64 n (8*(7-(i:Int))))))]]:List (List AV)).length<=9223372036854775807:=⟨⟨rfl,trivial⟩,rfl,(by simp only[Lm,Ag,Ao];omega),(by simp only[Lm,Ag,Ao];omega)⟩;refine Yi b2 (Yi (by show AX (((7-(i:Int)):Int)-(1:Int));unfold AX;omega) ?_);have ew:=jr n i;refine Xi ⟨i+1,by omega⟩ ?_;exact⟨Dl 8 i ch,⟨Zr,⟨(Aa (AV.slice (.id 5 1)) ew),rfl⟩,⟨(Aa vi (show(7:Int)-(i:Int)-1=7-((i+1:Nat):Int) by omega)),rfl⟩,Tv⟩,⟨⟨(show HO.tok 1 (((LN n i).map CX).length+([[.v (.int .u8 (IntKind.wrap .u8 (CZ .shr .i64 n (8*(7-(i:Int))))))]]:List (List AV)).length)=.tok 1 ((LN n (i+1)).map CX).length from Aa (HO.tok 1) (Ac.symm.trans (Aa List.length ew))),rfl⟩,Tv⟩,Fh,Tv⟩
 have h1:¬((0:Int)<=((7-(i:Int)):Int)):=h1;refine Xi (LN n i) (Yi rfl ?_);exact CV.of_eq (Aa vs (show(⟨(LN n i).toArray⟩:ByteArray)=_ by rw[show i=8 by omega];exact na h0 ch))
theorem fS{ws:List Int}{c:Nat}(h:i-c<ws.length)(hc:c<=i):(0:Int)<=((i:Nat):Int)-(c:Nat)/\(ws.map DK)[(((i:Nat):Int)-(c:Nat)).toNat]?=some (DK (FD ws (i-c))):=by
 refine⟨by omega,?_⟩;rw[show(((i:Nat):Int)-(c:Nat)).toNat=i-c by omega,AG,We h];rfl
theorem Aap(hs:s.size=64):PC 211 [vs s] (sl DK (B8 s 64)):=by
 refine Ps El Tryz.func211 rfl (Nz rfl) (Xi {q:Nat // q<=16} (Xi (fun q=>⟨[(0,vs s),(3,.slice (.id 10 1) ((B8 s q.1).map DK)),(4,vi (4*(q.1:Int)))],[(10,.tok 1 ((B8 s q.1).map DK).length)],Ae⟩) (Xi (fun q=>16-q.1) (Yi (Xi ⟨0,Ax _⟩ ?_) ?_))))
 .exact⟨Z3,Z1,Fh,Tv⟩
 intro⟨k,k1⟩;have k1:k<=16:=k1;have kl:((B8 s k).map DK).length<=64:=by rw[Lm,Fi];omega
 have kl2:(B8 s k).length<=64:=by rw[Fi];omega
 refine Yi (fun h1=>?_) (fun h1=>?_)
 .have h1:((4*(k:Int)):Int)<(64:Int):=h1;refine Xi (DB s (4*k)) (Yi (L7 (z:=(4*(k:Int))) (show 4*k<s.size by omega) ch) (Yi Cl (Yi (by show AX (((4*(k:Int)):Int)+(1:Int));unfold AX;omega) ?_)));refine Xi (DB s (4*k+1)) (Yi (L7 (z:=(4*(k:Int))+1) (show 4*k+1<s.size by omega) ch) (Yi Cl (Yi (by show AX (((4*(k:Int)):Int)+(2:Int));unfold AX;omega) ?_)));refine Xi (DB s (4*k+2)) (Yi (L7 (z:=(4*(k:Int))+2) (show 4*k+2<s.size by omega) ch) (Yi Cl (Yi (by show AX (((4*(k:Int)):Int)+(3:Int));unfold AX;omega) ?_)));refine Xi (DB s (4*k+3)) (Yi (L7 (z:=(4*(k:Int))+3) (show 4*k+3<s.size by omega) ch) ?_);have b2:B5 1 [[.v (.int .u32 (CW .or .u32 (CW .or .u32 (CW .or .u32 (CZ .shl .u32 (IntKind.wrap .u32 ((DB s (4*k)).toNat:Int)) 24) (CZ .shl .u32 (IntKind.wrap .u32 ((DB s (4*k+1)).toNat:Int)) 16)) (CZ .shl .u32 (IntKind.wrap .u32 ((DB s (4*k+2)).toNat:Int)) 8)) (IntKind.wrap .u32 ((DB s (4*k+3)).toNat:Int))))]]/\((B8 s k).map DK).length=((B8 s k).map DK).length/\(((B8 s k).map DK).length+([[.v (.int .u32 (CW .or .u32 (CW .or .u32 (CW .or .u32 (CZ .shl .u32 (IntKind.wrap .u32 ((DB s (4*k)).toNat:Int)) 24) (CZ .shl .u32 (IntKind.wrap .u32 ((DB s (4*k+1)).toNat:Int)) 16)) (CZ .shl .u32 (IntKind.wrap .u32 ((DB s (4*k+2)).toNat:Int)) 8)) (IntKind.wrap .u32 ((DB s (4*k+3)).toNat:Int))))]]:List (List AV)).length)*4<=140737488355328/\((B8 s k).map DK).length+([[.v (.int .u32 (CW .or .u32 (CW .or .u32 (CW .or .u32 (CZ .shl .u32 (IntKind.wrap .u32 ((DB s (4*k)).toNat:Int)) 24) (CZ .shl .u32 (IntKind.wrap .u32 ((DB s (4*k+1)).toNat:Int)) 16)) (CZ .shl .u32 (IntKind.wrap .u32 ((DB s (4*k+2)).toNat:Int)) 8)) (IntKind.wrap .u32 ((DB s (4*k+3)).toNat:Int))))]]:List (List AV)).length<=9223372036854775807:=⟨⟨rfl,trivial⟩,rfl,(by simp only[Lm,Ag,Ao];omega),(by simp only[Lm,Ag,Ao];omega)⟩;refine Yi b2 (Yi Wk (Yi (by show AX (((4*(k:Int)):Int)+(4:Int));unfold AX;omega) ?_));have ew:(((B8 s k).map DK)++[[.v (.int .u32 (CW .or .u32 (CW .or .u32 (CW .or .u32 (CZ .shl .u32 (IntKind.wrap .u32 ((DB s (4*k)).toNat:Int)) 24) (CZ .shl .u32 (IntKind.wrap .u32 ((DB s (4*k+1)).toNat:Int)) 16)) (CZ .shl .u32 (IntKind.wrap .u32 ((DB s (4*k+2)).toNat:Int)) 8)) (IntKind.wrap .u32 ((DB s (4*k+3)).toNat:Int))))]])=(B8 s (k+1)).map DK:=by rw[B8,As,Vv,Al (show k<16 by omega),<-sc];rfl
  refine Xi ⟨k+1,by omega⟩ ?_;exact⟨Dl 16 k ch,⟨Zr,⟨(Aa (AV.slice (.id 10 1)) ew),rfl⟩,⟨(Aa vi (show 4*(k:Int)+4=4*((k+1:Nat):Int) by omega)),rfl⟩,Tv⟩,⟨⟨(show HO.tok 1 (((B8 s k).map DK).length+([[.v (.int .u32 (CW .or .u32 (CW .or .u32 (CW .or .u32 (CZ .shl .u32 (IntKind.wrap .u32 ((DB s (4*k)).toNat:Int)) 24) (CZ .shl .u32 (IntKind.wrap .u32 ((DB s (4*k+1)).toNat:Int)) 16)) (CZ .shl .u32 (IntKind.wrap .u32 ((DB s (4*k+2)).toNat:Int)) 8)) (IntKind.wrap .u32 ((DB s (4*k+3)).toNat:Int))))]]:List (List AV)).length)=.tok 1 ((B8 s (k+1)).map DK).length from Aa (HO.tok 1) (Ac.symm.trans (Aa List.length ew))),rfl⟩,Tv⟩,Fh,Tv⟩
 have h1:¬(((4*(k:Int)):Int)<(64:Int)):=h1;refine Xi {q:Nat // 16<=q/\q<=64} (Xi (fun q=>⟨[(3,.slice (.id 10 1) ((B8 s q.1).map DK)),(5,vi q.1)],[(10,.tok 1 ((B8 s q.1).map DK).length)],Ae⟩) (Xi (fun q=>64-q.1) (Yi (Xi ⟨16,Ak _,by decide⟩ ?_) ?_)))
 .exact⟨⟨⟨(Aa (fun z:Nat=>AV.slice (.id 10 1) ((B8 s z).map DK)) (show k=16 by omega)),rfl⟩,Zr,Tv⟩,⟨⟨(Aa (fun z:Nat=>HO.tok 1 ((B8 s z).map DK).length) (show k=16 by omega)),rfl⟩,Tv⟩,Fh,Tv⟩
 intro⟨i,i0,i1⟩;have i0:16<=i:=i0;have i1:i<=64:=i1;have il:((B8 s i).map DK).length<=64:=by rw[Lm,Fi];omega
 have il2:(B8 s i).length<=64:=by rw[Fi];omega
 refine Yi (fun h4=>?_) (fun h4=>?_)
 .have h4:(i:Int)<(64:Int):=h4;refine Yi (by show AX ((i:Int)-(15:Int));unfold AX;omega) (Xi (DK (FD (B8 s i) (i-15))) (Yi (fS (c:=15) (show i-15<(B8 s i).length by rw[Fi];omega) (show 15<=i by omega)) (Yi rfl (Yi (by show AX ((i:Int)-(2:Int));unfold AX;omega) (Xi (DK (FD (B8 s i) (i-2))) (Yi (fS (c:=2) (show i-2<(B8 s i).length by rw[Fi];omega) (show 2<=i by omega)) (Yi rfl (Yi Wk (Xi .pure (Xi _ (Yi (Lr (FD (B8 s i) (i-15)) 7 Cl Cl Wk Wk) (Xi .pure (Xi _ (Yi (Lr (FD (B8 s i) (i-15)) 18 Cl Cl Wk Wk) (Yi Cl (Xi .pure (Xi _ (Yi (Lr (FD (B8 s i) (i-2)) 17 Cl Cl Wk Wk) (Xi .pure (Xi _ (Yi (Lr (FD (B8 s i) (i-2)) 19 Cl Cl Wk Wk) (Yi Cl (Yi (by show AX ((i:Int)-(7:Int));unfold AX;omega) (Xi (DK (FD (B8 s i) (i-7))) (Yi (fS (c:=7) (show i-7<(B8 s i).length by rw[Fi];omega) (show 7<=i by omega)) (Yi rfl (Yi (by show AX ((i:Int)-(16:Int));unfold AX;omega) (Xi (DK (FD (B8 s i) (i-16))) (Yi (fS (c:=16) (show i-16<(B8 s i).length by rw[Fi];omega) (show 16<=i by omega)) (Yi rfl ?_))))))))))))))))))))))))))))));have b5:B5 1 [[.v (.int .u32 (IntKind.wrap .u32 ((IntKind.wrap .u32 ((IntKind.wrap .u32 ((CW .xor .u32 (CW .xor .u32 (Il (FD (B8 s i) (i-2)) (-17)) (Il (FD (B8 s i) (i-2)) (-19))) (CZ .shr .u32 (FD (B8 s i) (i-2)) 10))+(FD (B8 s i) (i-7))))+(CW .xor .u32 (CW .xor .u32 (Il (FD (B8 s i) (i-15)) (-7)) (Il (FD (B8 s i) (i-15)) (-18))) (CZ .shr .u32 (FD (B8 s i) (i-15)) 3))))+(FD (B8 s i) (i-16)))))]]/\((B8 s i).map DK).length=((B8 s i).map DK).length/\(((B8 s i).map DK).length+([[.v (.int .u32 (IntKind.wrap .u32 ((IntKind.wrap .u32 ((IntKind.wrap .u32 ((CW .xor .u32 (CW .xor .u32 (Il (FD (B8 s i) (i-2)) (-17)) (Il (FD (B8 s i) (i-2)) (-19))) (CZ .shr .u32 (FD (B8 s i) (i-2)) 10))+(FD (B8 s i) (i-7))))+(CW .xor .u32 (CW .xor .u32 (Il (FD (B8 s i) (i-15)) (-7)) (Il (FD (B8 s i) (i-15)) (-18))) (CZ .shr .u32 (FD (B8 s i) (i-15)) 3))))+(FD (B8 s i) (i-16)))))]]:List (List AV)).length)*4<=140737488355328/\((B8 s i).map DK).length+([[.v (.int .u32 (IntKind.wrap .u32 ((IntKind.wrap .u32 ((IntKind.wrap .u32 ((CW .xor .u32 (CW .xor .u32 (Il (FD (B8 s i) (i-2)) (-17)) (Il (FD (B8 s i) (i-2)) (-19))) (CZ .shr .u32 (FD (B8 s i) (i-2)) 10))+(FD (B8 s i) (i-7))))+(CW .xor .u32 (CW .xor .u32 (Il (FD (B8 s i) (i-15)) (-7)) (Il (FD (B8 s i) (i-15)) (-18))) (CZ .shr .u32 (FD (B8 s i) (i-15)) 3))))+(FD (B8 s i) (i-16)))))]]:List (List AV)).length<=9223372036854775807:=⟨⟨rfl,trivial⟩,rfl,(by simp only[Lm,Ag,Ao];omega),(by simp only[Lm,Ag,Ao];omega)⟩
  refine Yi b5 (Yi Wk (Yi (Ii i ch) ?_));have ew:(((B8 s i).map DK)++[[.v (.int .u32 (IntKind.wrap .u32 ((IntKind.wrap .u32 ((IntKind.wrap .u32 ((CW .xor .u32 (CW .xor .u32 (Il (FD (B8 s i) (i-2)) (-17)) (Il (FD (B8 s i) (i-2)) (-19))) (CZ .shr .u32 (FD (B8 s i) (i-2)) 10))+(FD (B8 s i) (i-7))))+(CW .xor .u32 (CW .xor .u32 (Il (FD (B8 s i) (i-15)) (-7)) (Il (FD (B8 s i) (i-15)) (-18))) (CZ .shr .u32 (FD (B8 s i) (i-15)) 3))))+(FD (B8 s i) (i-16)))))]])=(B8 s (i+1)).map DK:=by rw[B8,As,Vv,Aj (show ¬i<16 by omega)];rfl
  refine Xi ⟨i+1,by omega,by omega⟩ ?_;exact⟨Dl 64 i ch,⟨⟨(Aa (AV.slice (.id 10 1)) ew),rfl⟩,Zr,Tv⟩,⟨⟨(show HO.tok 1 (((B8 s i).map DK).length+([[.v (.int .u32 (IntKind.wrap .u32 ((IntKind.wrap .u32 ((IntKind.wrap .u32 ((CW .xor .u32 (CW .xor .u32 (Il (FD (B8 s i) (i-2)) (-17)) (Il (FD (B8 s i) (i-2)) (-19))) (CZ .shr .u32 (FD (B8 s i) (i-2)) 10))+(FD (B8 s i) (i-7))))+(CW .xor .u32 (CW .xor .u32 (Il (FD (B8 s i) (i-15)) (-7)) (Il (FD (B8 s i) (i-15)) (-18))) (CZ .shr .u32 (FD (B8 s i) (i-15)) 3))))+(FD (B8 s i) (i-16)))))]]:List (List AV)).length)=.tok 1 ((B8 s (i+1)).map DK).length from Aa (HO.tok 1) (Ac.symm.trans (Aa List.length ew))),rfl⟩,Tv⟩,Fh,Tv⟩
 have h4:¬((i:Int)<(64:Int)):=h4;exact CV.of_eq (show sl DK (B8 s i)=sl DK (B8 s 64) by rw[show i=64 by omega])
set_option maxRecDepth 100000 in
theorem se(W Kk:List Int)(r8:S8)(hW:W.length=64)(hK:Kk.length=64)(hr:Eu W Kk v 64=r8)(hc:PC 211 [vs s] (sl DK W))(hk:PC 212 [] (sl DK Kk)):PC 153 [sl DK (S8.l v),vs s] (sl DK (S8.l (pM v r8))):=by
 refine Ps (pC [] [3,9]) Tryz.func153 rfl (Nz rfl) (Xi .pure (Xi _ (Yi hc (Xi .pure (Xi _ (Yi hk (Xi (DK v.a) (Yi ⟨by decide,rfl⟩ (Yi rfl ?_)))))))));refine Xi (DK v.b) (Yi ⟨by decide,rfl⟩ (Yi rfl ?_));refine Xi (DK v.c) (Yi ⟨by decide,rfl⟩ (Yi rfl ?_));refine Xi (DK v.d) (Yi ⟨by decide,rfl⟩ (Yi rfl ?_));refine Xi (DK v.e) (Yi ⟨by decide,rfl⟩ (Yi rfl ?_));refine Xi (DK v.f) (Yi ⟨by decide,rfl⟩ (Yi rfl ?_));refine Xi (DK v.g) (Yi ⟨by decide,rfl⟩ (Yi rfl ?_));refine Xi (DK v.h) (Yi ⟨by decide,rfl⟩ (Yi rfl ?_));refine Yi Wk (cU [(0,sl DK (S8.l v)),(5,sl DK W),(6,sl DK Kk),(7,.v (.int .u32 v.a)),(8,.v (.int .u32 v.b)),(9,.v (.int .u32 v.c)),(10,.v (.int .u32 v.d)),(11,.v (.int .u32 v.e)),(12,.v (.int .u32 v.f)),(13,.v (.int .u32 v.g)),(14,.v (.int .u32 v.h))] [] Z11 Tv (Xi {q:Nat // q<=64} (Xi (fun q=>⟨[(0,sl DK (S8.l v)),(5,sl DK W),(6,sl DK Kk),(7,.v (.int .u32 (Eu W Kk v q.1).a)),(8,.v (.int .u32 (Eu W Kk v q.1).b)),(9,.v (.int .u32 (Eu W Kk v q.1).c)),(10,.v (.int .u32 (Eu W Kk v q.1).d)),(11,.v (.int .u32 (Eu W Kk v q.1).e)),(12,.v (.int .u32 (Eu W Kk v q.1).f)),(13,.v (.int .u32 (Eu W Kk v q.1).g)),(14,.v (.int .u32 (Eu W Kk v q.1).h)),(15,vi q.1)],[],Ae⟩) (Xi (fun q=>64-q.1) (Yi (Xi ⟨0,Ax _⟩ ?_) ?_)))))
 .exact⟨Z12,Tv,Fh,Tv⟩
 intro⟨i,i1⟩;have i1:i<=64:=i1;refine Yi (fun h1=>?_) (fun h1=>?_)
 .have h1:(i:Int)<(64:Int):=h1;refine Xi _ (Yi (Lr (Eu W Kk v i).e 6 Cl Cl Wk Wk) (Xi _ (Yi (Lr (Eu W Kk v i).e 11 Cl Cl Wk Wk) (Xi _ (Yi (Lr (Eu W Kk v i).e 25 Cl Cl Wk Wk) (Xi (DK (FD Kk i)) (Yi (xb (show i<Kk.length by omega)) (Yi rfl (Xi (DK (FD W i)) (Yi (xb (show i<W.length by omega)) (Yi rfl (Yi Wk (Xi .pure (Xi _ (Yi (Lr (Eu W Kk v i).a 2 Cl Cl Wk Wk) (Xi .pure (Xi _ (Yi (Lr (Eu W Kk v i).a 13 Cl Cl Wk Wk) (Xi .pure (Xi _ (Yi (Lr (Eu W Kk v i).a 22 Cl Cl Wk Wk) (Yi (Ii i ch) (Xi ⟨i+1,by omega⟩ ?_)))))))))))))))))))))));exact⟨Dl 64 i ch,Z12,Tv,Fh,Tv⟩
 have h1:¬((i:Int)<(64:Int)):=h1;refine cU [(0,sl DK (S8.l v)),(7,.v (.int .u32 (Eu W Kk v i).a)),(8,.v (.int .u32 (Eu W Kk v i).b)),(9,.v (.int .u32 (Eu W Kk v i).c)),(10,.v (.int .u32 (Eu W Kk v i).d)),(11,.v (.int .u32 (Eu W Kk v i).e)),(12,.v (.int .u32 (Eu W Kk v i).f)),(13,.v (.int .u32 (Eu W Kk v i).g)),(14,.v (.int .u32 (Eu W Kk v i).h))] [] Z9 Tv (Xi (DK v.a) (Yi ⟨by decide,rfl⟩ (Yi rfl ?_)));refine Xi (DK v.b) (Yi ⟨by decide,rfl⟩ (Yi rfl ?_));refine Xi (DK v.c) (Yi ⟨by decide,rfl⟩ (Yi rfl ?_));refine Xi (DK v.d) (Yi ⟨by decide,rfl⟩ (Yi rfl ?_));refine Xi (DK v.e) (Yi ⟨by decide,rfl⟩ (Yi rfl ?_));refine Xi (DK v.f) (Yi ⟨by decide,rfl⟩ (Yi rfl ?_));refine Xi (DK v.g) (Yi ⟨by decide,rfl⟩ (Yi rfl ?_));refine Xi (DK v.h) (Yi ⟨by decide,rfl⟩ (Yi rfl ?_));refine Yi Wk ?_;have e64:i=64:=by omega
 have er:(Eu W Kk v i)=r8:=by rw[e64,hr]
 exact CV.of_eq (show .slice .none [[.v (.int .u32 (IntKind.wrap .u32 (v.a+(Eu W Kk v i).a)))],[.v (.int .u32 (IntKind.wrap .u32 (v.b+(Eu W Kk v i).b)))],[.v (.int .u32 (IntKind.wrap .u32 (v.c+(Eu W Kk v i).c)))],[.v (.int .u32 (IntKind.wrap .u32 (v.d+(Eu W Kk v i).d)))],[.v (.int .u32 (IntKind.wrap .u32 (v.e+(Eu W Kk v i).e)))],[.v (.int .u32 (IntKind.wrap .u32 (v.f+(Eu W Kk v i).f)))],[.v (.int .u32 (IntKind.wrap .u32 (v.g+(Eu W Kk v i).g)))],[.v (.int .u32 (IntKind.wrap .u32 (v.h+(Eu W Kk v i).h)))]]=sl DK (S8.l (pM v r8)) by rw[er];rfl)
theorem wz(hs:s.size=64):PC 153 [sl DK (S8.l v),vs s] (sl DK (S8.l (bY v s))):=
 se v s (B8 s 64) kK _ (Fi s 64) rfl rfl (Aap s hs) sf
theorem bK:s.data.toList.map CX++[[AV.v (.int .u8 128)]]=(HX s 0).map CX:=by
 rw[HX,List.replicate_zero,BP,As];rfl
theorem vu:HO.tok 1 ((s.data.toList.map CX).length+([[AV.v (.int .u8 128)]]:List (List AV)).length)=.tok 1 ((HX s 0).map CX).length:=
 Aa (HO.tok 1) (Ac.symm.trans (Aa List.length (bK s)))
theorem Aao(hs:s.size<=1000000000000):PC 152 [vs s] (vs (WL s)):=by
 have hdl:(s.data.toList.map CX).length=s.size:=by rw[Lm,Br];rfl
 have yo:s.data.toList.length=s.size:=by rw[Br];rfl
 refine Ps El Tryz.func152 rfl (Nz rfl) ?_;have b1:B5 1 [[.v (.int .u8 128)]]/\(s.data.toList.map CX).length=(s.data.toList.map CX).length/\((s.data.toList.map CX).length+([[.v (.int .u8 128)]]:List (List AV)).length)*1<=140737488355328/\(s.data.toList.map CX).length+([[.v (.int .u8 128)]]:List (List AV)).length<=9223372036854775807:=⟨⟨rfl,trivial⟩,rfl,(by simp only[Lm,Ag,Ao];omega),(by simp only[Lm,Ag,Ao];omega)⟩;refine Yi b1 (Xi {q:Nat // q<=((119-(s.size:Int)) % 64).toNat} (Xi (fun q=>⟨[(0,vs s),(3,.slice (.id 5 1) ((HX s q.1).map CX))],[(5,.tok 1 ((HX s q.1).map CX).length)],Ae⟩) (Xi (fun q=>((119-(s.size:Int)) % 64).toNat-q.1) (Yi (Xi ⟨0,Ax _⟩ ?_) ?_))))
 .exact⟨⟨Zr,⟨(Aa (AV.slice (.id 5 1)) (bK s)),rfl⟩,Tv⟩,⟨⟨(vu s),rfl⟩,Tv⟩,Fh,Tv⟩
 intro⟨k,k1⟩;have k1:k<=((119-(s.size:Int)) % 64).toNat:=k1;have kl:((HX s k).map CX).length=s.size+1+k:=by rw[Lm,VF]
 have kl2:(HX s k).length=s.size+1+k:=VF _ _;refine Yi ⟨by omega,by omega⟩ ?_;refine Yi (fun h2=>?_) (fun h2=>?_)
 .have h2:(((HX s k).map CX).length % 64:Int)≠(56:Int):=h2;have b3:B5 1 [[.v (.int .u8 0)]]/\((HX s k).map CX).length=((HX s k).map CX).length/\(((HX s k).map CX).length+([[.v (.int .u8 0)]]:List (List AV)).length)*1<=140737488355328/\((HX s k).map CX).length+([[.v (.int .u8 0)]]:List (List AV)).length<=9223372036854775807:=⟨⟨rfl,trivial⟩,rfl,(by simp only[Lm,Ag,Ao];omega),(by simp only[Lm,Ag,Ao];omega)⟩;refine Yi b3 ?_;have ew:(((HX s k).map CX)++[[.v (.int .u8 0)]])=(HX s (k+1)).map CX:=by rw[<-jP,As];rfl
  refine Xi ⟨k+1,by have q:=h2;rw[kl]at q;omega⟩ ?_;exact⟨by show((119-(s.size:Int)) % 64).toNat-(k+1)<((119-(s.size:Int)) % 64).toNat-k;have q:=h2;rw[kl]at q;omega,⟨Zr,⟨(Aa (AV.slice (.id 5 1)) ew),rfl⟩,Tv⟩,⟨⟨(show HO.tok 1 (((HX s k).map CX).length+([[.v (.int .u8 0)]]:List (List AV)).length)=.tok 1 ((HX s (k+1)).map CX).length from Aa (HO.tok 1) (Ac.symm.trans (Aa List.length ew))),rfl⟩,Tv⟩,Fh,Tv⟩
 have h2:(((HX s k).map CX).length % 64:Int)=(56:Int):=AJ h2;refine Xi (HX s k) (Yi rfl (Yi (by show AX ((8:Int)*(s.size:Int));unfold AX;omega) (Xi _ (Yi (pi (8*(s.size:Int)) ch ch) (Yi (show(((⟨(HX s k).toArray⟩:ByteArray).size+(Fl (IntKind.wrap .u64 (8*(s.size:Int)))).size:Nat):Int)<=9223372036854775807 by rw[GC,show(⟨(HX s k).toArray⟩:ByteArray).size=s.size+1+k by show(HX s k).toArray.size=_;rw[DV,VF]];omega) ?_)))));refine Yi Wk ?_;have ek:k=((119-(s.size:Int)) % 64).toNat:=by have q:=h2;rw[kl]at q;omega
 exact CV.of_eq (Aa vs (show(⟨(HX s k).toArray⟩:ByteArray)++Fl (IntKind.wrap .u64 (8*(s.size:Int)))=WL s by rw[rp,WL,ek]))
theorem qm:p.extract 0 p.size=p:=by
 apply MY;simp only[Ig];have h:p.size=p.data.size:=rfl;rw[h];simp
theorem wA(hp:WL s=p)(Ahw:p.size % 64=0)(pA:p.size<=1000000000100)(Ach:PC 152 [vs s] (vs p)):PC 92 [vs s] (vs (Zs s)):=by
 refine Ps (pT [] [(3,0)] []) Tryz.func92 rfl (Nz rfl) (Xi .pure (Xi _ (Yi Ach (Xi {q:S8×Nat // 64*q.2<=p.size/\Dv q.1 (p.extract (64*q.2) p.size)=Dv bh p} (Xi (fun q=>⟨[(3,sl DK (S8.l q.1.1)),(4,vs p),(5,vi (64*(q.1.2:Int)))],[],Ae⟩) (Xi (fun q=>p.size-64*q.1.2) (Yi (Xi ⟨(bh,0),Ax _,by rw[Nat.mul_zero,qm]⟩ ?_) ?_)))))))
 .exact⟨Z3,Tv,Fh,Tv⟩
 intro⟨⟨v,k⟩,k1,k2⟩;have k1:64*k<=p.size:=k1;have k2:Dv v (p.extract (64*k) p.size)=Dv bh p:=k2;refine Yi (fun h1=>?_) (fun h1=>?_)
 .have h1:((64*(k:Int)):Int)<(p.size:Int):=h1;refine Yi (by show AX (((64*(k:Int)):Int)+(64:Int));unfold AX;omega) ?_;have yD:64*k+64<=p.size:=by omega
  have eb:(p.extract (64*(k:Int)).toNat (64*(k:Int)+64).toNat)=p.extract (64*k) (64*k+64):=by rw[show(64*(k:Int)).toNat=64*k by omega,show(64*(k:Int)+64).toNat=64*k+64 by omega]
  refine Yi (show(0:Int)<=64*(k:Int)/\64*(k:Int)<=64*(k:Int)+64/\64*(k:Int)+64<=(p.size:Int) by omega) (Xi .pure (Xi _ (Yi (wz v (p.extract (64*(k:Int)).toNat (64*(k:Int)+64).toNat) (by rw[eb,CP];omega)) ?_)));refine Yi (by show AX (((64*(k:Int)):Int)+(64:Int));unfold AX;omega) ?_;refine Xi ⟨(bY v (p.extract (64*k) (64*k+64)),k+1),by have q:=yD;omega,by rw[<-ZR yD];exact k2⟩ ?_;exact⟨by show p.size-64*(k+1)<p.size-64*k;omega,⟨⟨(show sl DK (S8.l (bY v (p.extract (64*(k:Int)).toNat (64*(k:Int)+64).toNat)))=sl DK (S8.l (bY v (p.extract (64*k) (64*k+64)))) by rw[eb]),rfl⟩,Zr,⟨(Aa vi (show 64*(k:Int)+64=64*((k+1:Nat):Int) by omega)),rfl⟩,Tv⟩,Tv,Fh,Tv⟩
 have h1:¬(((64*(k:Int)):Int)<(p.size:Int)):=h1;refine Xi {q:Nat // q<=8} (Xi (fun q=>⟨[(3,sl DK (S8.l v)),(6,.slice (.id 24 1) ((((S8.l v).take q.1).flatMap Ev).map CX)),(7,vi q.1)],[(24,.tok 1 ((((S8.l v).take q.1).flatMap Ev).map CX).length)],Ae⟩) (Xi (fun q=>8-q.1) (Yi (Xi ⟨0,Ax _⟩ ?_) ?_)))
 .exact⟨Z3,Z1,Fh,Tv⟩
 intro⟨j,j1⟩;have j1:j<=8:=j1;have hlw:=cr (S8.l v) j j1;have hlm:((((S8.l v).take j).flatMap Ev).map CX).length<=32:=by rw[Lm];exact hlw
 refine Yi (fun h3=>?_) (fun h3=>?_)
 .have h3:(j:Int)<(8:Int):=h3;refine Xi (DK (FD (S8.l v) j)) (Yi (xb (show j<(S8.l v).length from by show j<8;omega)) (Yi rfl (Yi Cl (Xi (DK (FD (S8.l v) j)) (Yi (xb (show j<(S8.l v).length from by show j<8;omega)) (Yi rfl (Yi Cl (Xi (DK (FD (S8.l v) j)) (Yi (xb (show j<(S8.l v).length from by show j<8;omega)) (Yi rfl (Yi Cl (Xi (DK (FD (S8.l v) j)) (Yi (xb (show j<(S8.l v).length from by show j<8;omega)) (Yi rfl ?_))))))))))))));have b4:B5 1 [[.v (.int .u8 (IntKind.wrap .u8 (CZ .shr .u32 (FD (S8.l v) j) 24)))],[.v (.int .u8 (IntKind.wrap .u8 (CZ .shr .u32 (FD (S8.l v) j) 16)))],[.v (.int .u8 (IntKind.wrap .u8 (CZ .shr .u32 (FD (S8.l v) j) 8)))],[.v (.int .u8 (IntKind.wrap .u8 (FD (S8.l v) j)))]]/\((((S8.l v).take j).flatMap Ev).map CX).length=((((S8.l v).take j).flatMap Ev).map CX).length/\(((((S8.l v).take j).flatMap Ev).map CX).length+([[.v (.int .u8 (IntKind.wrap .u8 (CZ .shr .u32 (FD (S8.l v) j) 24)))],[.v (.int .u8 (IntKind.wrap .u8 (CZ .shr .u32 (FD (S8.l v) j) 16)))],[.v (.int .u8 (IntKind.wrap .u8 (CZ .shr .u32 (FD (S8.l v) j) 8)))],[.v (.int .u8 (IntKind.wrap .u8 (FD (S8.l v) j)))]]:List (List AV)).length)*1<=140737488355328/\((((S8.l v).take j).flatMap Ev).map CX).length+([[.v (.int .u8 (IntKind.wrap .u8 (CZ .shr .u32 (FD (S8.l v) j) 24)))],[.v (.int .u8 (IntKind.wrap .u8 (CZ .shr .u32 (FD (S8.l v) j) 16)))],[.v (.int .u8 (IntKind.wrap .u8 (CZ .shr .u32 (FD (S8.l v) j) 8)))],[.v (.int .u8 (IntKind.wrap .u8 (FD (S8.l v) j)))]]:List (List AV)).length<=9223372036854775807:=⟨⟨rfl,rfl,rfl,rfl,trivial⟩,rfl,(by simp only[Lm,Ag,Ao];omega),(by simp only[Lm,Ag,Ao];omega)⟩;refine Yi b4 (Yi Wk (Yi (Ii j ch) ?_));have ew:(((((S8.l v).take j).flatMap Ev).map CX)++[[.v (.int .u8 (IntKind.wrap .u8 (CZ .shr .u32 (FD (S8.l v) j) 24)))],[.v (.int .u8 (IntKind.wrap .u8 (CZ .shr .u32 (FD (S8.l v) j) 16)))],[.v (.int .u8 (IntKind.wrap .u8 (CZ .shr .u32 (FD (S8.l v) j) 8)))],[.v (.int .u8 (IntKind.wrap .u8 (FD (S8.l v) j)))]])=(((S8.l v).take (j+1)).flatMap Ev).map CX:=by rw[cq,<-As];exact Aa (List.map CX) (Wf (l:=(S8.l v)) (show j<8 by omega))
  refine Xi ⟨j+1,by omega⟩ ?_;exact⟨Dl 8 j ch,⟨Zr,⟨(Aa (AV.slice (.id 24 1)) ew),rfl⟩,Zr,Tv⟩,⟨⟨(show HO.tok 1 (((((S8.l v).take j).flatMap Ev).map CX).length+([[.v (.int .u8 (IntKind.wrap .u8 (CZ .shr .u32 (FD (S8.l v) j) 24)))],[.v (.int .u8 (IntKind.wrap .u8 (CZ .shr .u32 (FD (S8.l v) j) 16)))],[.v (.int .u8 (IntKind.wrap .u8 (CZ .shr .u32 (FD (S8.l v) j) 8)))],[.v (.int .u8 (IntKind.wrap .u8 (FD (S8.l v) j)))]]:List (List AV)).length)=.tok 1 ((((S8.l v).take (j+1)).flatMap Ev).map CX).length from Aa (HO.tok 1) (Ac.symm.trans (Aa List.length ew))),rfl⟩,Tv⟩,Fh,Tv⟩
 have h3:¬((j:Int)<(8:Int)):=h3;refine Xi ((S8.l v).flatMap Ev) (Yi (show((((S8.l v).take j).flatMap Ev).map CX)=((S8.l v).flatMap Ev).map CX by rw[show j=8 by omega];rfl) ?_);have ev:v=(Dv bh p).1:=by rw[<-k2];exact(cH (by have q:=h1;omega)).symm
 exact CV.of_eq (Aa vs (show(⟨((S8.l v).flatMap Ev).toArray⟩:ByteArray)=Zs s by rw[Zs,hp,ev]))
theorem Aaq(hs:s.size<=1000000000000):PC 92 [vs s] (vs (Zs s)):=
 wA s _ rfl (XR s).1 (by have q:=(XR s).2;omega) (Aao s hs)
theorem kr{tag:ByteArray}{l:List ByteArray}(ht:tag.size<=100000)(hl:∀s∈l,s.size<=100000)(hn:l.length<=1000)(i:Nat):(Pt (Fl (IntKind.wrap .u64 (tag.size:Int))++tag) (l.take i)).size<=200000000000:=by
 have q:=kq (Fl (IntKind.wrap .u64 (tag.size:Int))++tag) (l:=l.take i) fun s hs=>AI (hl s (CU hs)) Cl;rw[A2,GC,Au]at q;have q2:min i l.length*100000008<=1000*100000008:=A9 _ ch;omega
theorem wB(l:List ByteArray)(ht:tag.size<=100000)(hl:∀s∈l,s.size<=100000)(hn:l.length<=1000):PC 49 [vs tag,sl AB l] (vs (Zs (Pt (Fl (IntKind.wrap .u64 (tag.size:Int))++tag) l))):=by
 refine Ps El Tryz.func49 rfl (Nz rfl) (Xi .pure (Xi _ (Yi (pi tag.size ch ch) (Yi (show((((Fl (IntKind.wrap .u64 (tag.size:Int))):ByteArray).size+(tag:ByteArray).size:Nat):Int)<=9223372036854775807 by simp only[GC];omega) ?_))));refine Xi {q:Nat // q<=l.length} (Xi (fun q=>⟨[(1,sl AB l),(5,vs (Pt (Fl (IntKind.wrap .u64 (tag.size:Int))++tag) (l.take q.1))),(6,vi q.1)],[],Ae⟩) (Xi (fun q=>l.length-q.1) (Yi (Xi ⟨0,Ax _⟩ ?_) ?_)))
 .exact⟨Z3,Tv,Fh,Tv⟩
 intro⟨i,i1⟩;have i1:i<=l.length:=i1;have hti:(Pt (Fl (IntKind.wrap .u64 (tag.size:Int))++tag) (l.take i)).size<=200000000000:=kr ht hl hn i;refine Yi (fun h1=>?_) (fun h1=>?_)
 .have h1:(i:Int)<((l.map AB).length:Int):=h1;have n1:=FO h1;have hsi:=hl _ (Aq n1);refine Xi (AB l[i]) (Yi (JL n1) (Yi rfl (Xi _ (Yi (pi l[i].size ch ch) (Yi (show((((Pt (Fl (IntKind.wrap .u64 (tag.size:Int))++tag) (l.take i)):ByteArray).size+((Fl (IntKind.wrap .u64 (l[i].size:Int))):ByteArray).size:Nat):Int)<=9223372036854775807 by simp only[GC];omega) ?_)))));refine Xi (AB l[i]) (Yi (JL n1) (Yi rfl (Yi (show((((Pt (Fl (IntKind.wrap .u64 (tag.size:Int))++tag) (l.take i))++(Fl (IntKind.wrap .u64 (l[i].size:Int))):ByteArray).size+(l[i]:ByteArray).size:Nat):Int)<=9223372036854775807 by simp only[A2,GC];omega) ?_)));refine Yi Wk (Yi (Ii i ch) (Xi ⟨i+1,n1⟩ ?_));exact⟨Dl l.length i ch,⟨Zr,⟨(Aa vs (kp (Fl (IntKind.wrap .u64 (tag.size:Int))++tag) n1).symm),rfl⟩,Zr,Tv⟩,Tv,Fh,Tv⟩
 have h1:¬((i:Int)<((l.map AB).length:Int)):=h1;have n1:=DP h1;refine Xi .pure (Xi _ (Yi (Aaq (Pt (Fl (IntKind.wrap .u64 (tag.size:Int))++tag) (l.take i)) (AI hti Cl)) ?_));exact CV.of_eq (Aa vs (show Zs (Pt (Fl (IntKind.wrap .u64 (tag.size:Int))++tag) (l.take i))=_ by rw[At (Bm (DP h1))]))
theorem pj(l:List ByteArray)(ht:tag.size<=100000)(hl:∀s∈l,s.size<=100000)(hn:l.length<=1000):PC 49 [vs tag,sl AB l] (vs (Rc tag l)):=by
 rw[ku (AI ht Cl) (fun s hs=>AI (hl s hs) Cl) (AI hn Cl)];exact wB tag l ht hl hn
def GQ:Nat->Int
 |0=>-1
 |i+1=>match l[i]? with
  |some s=>s.t
  |none=>-1
theorem Qy{l:List Ud}(h:i-1<l.length)(h0:0<i):GQ l i=l[i-1].t:=by
 obtain⟨k,rfl⟩:∃k,i=k+1:=⟨i-1,by omega⟩;have e:k+1-1=k:=rfl;simp only[e]at h⊢;rw[GQ,Ge h]
theorem Mq{l:List Ud}(h:i<l.length):GQ l (i+1)=l[i].t:=by rw[GQ,Ge h]
theorem Wi(hl:Cb l):PC 14 [sl Cr l] (vi (BI l)):=by
 have hl:l.length<=1073741824:=hl;refine Ps (pC [] [5,7]) Tryz.func14 rfl (Nz rfl) (Yi (fun h1=>?_) (fun h1=>?_))
 .have h1:(1024:Int)<((l.map Cr).length:Int):=h1;have n1:1024<l.length:=by have q:=h1;rw[Lm]at q;omega
  exact CV.of_eq (Aa vi (show 7=BI l by rw[BI,Al (by have q:=h1;rw[Lm]at q;omega)]))
 have h1:¬((1024:Int)<((l.map Cr).length:Int)):=h1;have n1:¬1024<l.length:=by have q:=h1;rw[Lm]at q;omega
 refine Xi {q:Nat // q<=l.length/\-1<=GQ l q/\Og (GQ l q) (l.drop q)=Og (-1) l} (Xi (fun q=>⟨[(0,sl Cr l),(3,vi q.1)],[],Ae⟩) (Xi (fun q=>l.length-q.1) (Yi (Xi ⟨0,Ax _,Bu _,rfl⟩ ?_) ?_)))
 .exact⟨Z2,Tv,Fh,Tv⟩
 intro⟨i,i1,i2,i3⟩;have i1:i<=l.length:=i1;have i2:-1<=GQ l i:=i2;have i3:Og (GQ l i) (l.drop i)=Og (-1) l:=i3;refine Yi (fun h3=>?_) (fun h3=>?_)
 .have h3:(i:Int)<((l.map Cr).length:Int):=h3;have n3:=FO h3;refine Xi (Cr l[i]) (Yi (JL n3) (Yi rfl (Yi (fun h4=>?_) (fun h4=>?_))))
  .have h4:(l[i].t:Int)<(0:Int):=h4;refine Yi Wk (cU [] [] Tv Tv ?_)
   have Du:-1<=GQ l i:=i2;have UY:l[i].t<=GQ l i\/l[i].p<0\/100<l[i].p:=by omega
   exact CV.of_eq (Aa vi (show 1=BI l by rw[BI,Aj (by have q:=h1;rw[Lm]at q;omega),<-i3,MA n3 UY]))
  have h4:¬((l[i].t:Int)<(0:Int)):=h4;refine Yi (fun h6=>?_) (fun h6=>?_)
  .have h6:(0:Int)<(i:Int):=h6;refine Xi (Cr l[i]) (Yi (JL n3) (Yi rfl (Yi (by show AX ((i:Int)-(1:Int));unfold AX;omega) (Xi (Cr (l[i-1]' ch)) (Yi (Yi (show(0:Int)<=(i:Int)-1 by omega) (by rw[show((i:Int)-1).toNat=i-1 by omega];exact Eo (Ge ch))) (Yi rfl ?_))))));refine Yi (fun h7=>?_) (fun h7=>?_)
   .have h7:(l[i].t:Int)<=((l[i-1]' ch).t:Int):=h7;refine Yi Wk (cU [] [] Tv Tv ?_)
    have Du:GQ l i=l[i-1].t:=Qy ch (by have q:=h6;omega);have UY:l[i].t<=GQ l i\/l[i].p<0\/100<l[i].p:=by omega
    exact CV.of_eq (Aa vi (show 1=BI l by rw[BI,Aj (by have q:=h1;rw[Lm]at q;omega),<-i3,MA n3 UY]))
   have h7:¬((l[i].t:Int)<=((l[i-1]' ch).t:Int)):=h7;refine Xi (Cr l[i]) (Yi (JL n3) (Yi rfl (Yi (fun h9=>?_) (fun h9=>?_))))
   .have h9:(l[i].p:Int)<(0:Int):=h9;refine Yi Wk (cU [] [] Tv Tv ?_)
    have Du:GQ l i=l[i-1].t:=Qy ch (by have q:=h6;omega);have UY:l[i].t<=GQ l i\/l[i].p<0\/100<l[i].p:=by omega
    exact CV.of_eq (Aa vi (show 1=BI l by rw[BI,Aj (by have q:=h1;rw[Lm]at q;omega),<-i3,MA n3 UY]))
   have h9:¬((l[i].p:Int)<(0:Int)):=h9;refine Xi (Cr l[i]) (Yi (JL n3) (Yi rfl (Yi (fun KV=>?_) (fun KV=>?_))))
   .have KV:(100:Int)<(l[i].p:Int):=KV;refine Yi Wk (cU [] [] Tv Tv ?_)
    have Du:GQ l i=l[i-1].t:=Qy ch (by have q:=h6;omega);have UY:l[i].t<=GQ l i\/l[i].p<0\/100<l[i].p:=by omega
    exact CV.of_eq (Aa vi (show 1=BI l by rw[BI,Aj (by have q:=h1;rw[Lm]at q;omega),<-i3,MA n3 UY]))
   have KV:¬((100:Int)<(l[i].p:Int)):=KV;refine Yi Wk (cU [(0,sl Cr l),(3,vi i)] [] Z2 Tv (Yi (Ii i ch) ?_));have Du:GQ l i=l[i-1].t:=Qy ch (by have q:=h6;omega);have GM:¬(l[i].t<=GQ l i\/l[i].p<0\/100<l[i].p):=by omega
   refine Xi ⟨i+1,n3,by rw[Mq n3];omega,by rw[Mq n3,<-Zq n3 GM];exact i3⟩ ?_;exact⟨Dl l.length i ch,Z2,Tv,Fh,Tv⟩
  have h6:¬((0:Int)<(i:Int)):=h6;refine Xi (Cr l[i]) (Yi (JL n3) (Yi rfl (Yi (fun US=>?_) (fun US=>?_))))
  .have US:(l[i].p:Int)<(0:Int):=US;refine Yi Wk (cU [] [] Tv Tv ?_)
   have Du:GQ l i=-1:=by have q:=h6;rw[show i=0 by omega];rfl
   have UY:l[i].t<=GQ l i\/l[i].p<0\/100<l[i].p:=by omega
   exact CV.of_eq (Aa vi (show 1=BI l by rw[BI,Aj (by have q:=h1;rw[Lm]at q;omega),<-i3,MA n3 UY]))
  have US:¬((l[i].p:Int)<(0:Int)):=US;refine Xi (Cr l[i]) (Yi (JL n3) (Yi rfl (Yi (fun Jn=>?_) (fun Jn=>?_))))
  .have Jn:(100:Int)<(l[i].p:Int):=Jn;refine Yi Wk (cU [] [] Tv Tv ?_)
   have Du:GQ l i=-1:=by have q:=h6;rw[show i=0 by omega];rfl
   have UY:l[i].t<=GQ l i\/l[i].p<0\/100<l[i].p:=by omega
   exact CV.of_eq (Aa vi (show 1=BI l by rw[BI,Aj (by have q:=h1;rw[Lm]at q;omega),<-i3,MA n3 UY]))
  have Jn:¬((100:Int)<(l[i].p:Int)):=Jn;refine Yi Wk (cU [(0,sl Cr l),(3,vi i)] [] Z2 Tv (Yi (Ii i ch) ?_));have Du:GQ l i=-1:=by have q:=h6;rw[show i=0 by omega];rfl
  have GM:¬(l[i].t<=GQ l i\/l[i].p<0\/100<l[i].p):=by omega
  refine Xi ⟨i+1,n3,by rw[Mq n3];omega,by rw[Mq n3,<-Zq n3 GM];exact i3⟩ ?_;exact⟨Dl l.length i ch,Z2,Tv,Fh,Tv⟩
 have h3:¬((i:Int)<((l.map Cr).length:Int)):=h3;have n3:=DP h3;exact CV.of_eq (Aa vi (show 0=BI l by rw[BI,Aj (by have q:=h1;rw[Lm]at q;omega),<-i3,Ce (Bm (DP h3)),Og]))
theorem tj(hl:Cb l):PC 12 [sl Cr l,vi Bn] (.tup [vi (J3 l Bn),vi (BI l)]):=by
 have hl:l.length<=1073741824:=hl;refine Ps (pC [] [4,7,9]) Tryz.func12 rfl (Nz rfl) (Xi .pure (Xi _ (Yi (Wi l hl) (Yi (fun h1=>?_) (fun h1=>?_)))))
 .have h1:((BI l):Int)≠(0:Int):=h1;exact CV.of_eq (show AV.tup [vi 0,vi (BI l)]=_ by rw[J3,Aj h1])
 have h1:((BI l):Int)=(0:Int):=AJ h1;refine cU [(0,sl Cr l),(1,vi Bn)] [] Z2 Tv (Xi {q:Nat // q<=l.length} (Xi (fun q=>⟨[(0,sl Cr l),(1,vi Bn),(7,vi (I3 (l.take q.1) Bn)),(8,vi q.1)],[],Ae⟩) (Xi (fun q=>l.length-q.1) (Yi (Xi ⟨0,Ax _⟩ ?_) ?_))))
 .exact⟨Z4,Tv,Fh,Tv⟩
 intro⟨i,i1⟩;have i1:i<=l.length:=i1;refine Yi (fun h3=>?_) (fun h3=>?_)
 .have h3:(i:Int)<((l.map Cr).length:Int):=h3;have n3:=FO h3;refine Xi (Cr l[i]) (Yi (JL n3) (Yi rfl (Yi (fun h4=>?_) (fun h4=>?_))))
  .have h4:(l[i].t:Int)<=(Bn:Int):=h4;refine cU [(0,sl Cr l),(1,vi Bn),(8,vi i)] [] Z3 Tv (Xi (Cr l[i]) (Yi (JL n3) (Yi rfl (cU [(0,sl Cr l),(1,vi Bn),(7,vi l[i].p),(8,vi i)] [] Z4 Tv (Yi (Ii i ch) (Xi ⟨i+1,n3⟩ ?_))))));exact⟨Dl l.length i ch,⟨Zr,Zr,⟨(show vi l[i].p=vi (I3 (l.take (i+1)) Bn) by rw[QP n3,N5,Al h4]),rfl⟩,Zr,Tv⟩,Tv,Fh,Tv⟩
  have h4:¬((l[i].t:Int)<=(Bn:Int)):=h4;refine cU [(0,sl Cr l),(1,vi Bn),(7,vi (I3 (l.take i) Bn)),(8,vi i)] [] Z4 Tv (Yi (Ii i ch) (Xi ⟨i+1,n3⟩ ?_));exact⟨Dl l.length i ch,⟨Zr,Zr,⟨(show vi (I3 (l.take i) Bn)=vi (I3 (l.take (i+1)) Bn) by rw[QP n3,N5,Aj h4]),rfl⟩,Zr,Tv⟩,Tv,Fh,Tv⟩
 have h3:¬((i:Int)<((l.map Cr).length:Int)):=h3;have n3:=DP h3;exact CV.of_eq (show AV.tup [vi (I3 (l.take i) Bn),vi 0]=_ by rw[At (Bm (DP h3)),J3,Al h1,h1])
theorem wy(name user d:ByteArray)(hs:d.size=32)(hd:PC 49 [vs (⟨#[99,111,104,111,114,116]⟩:ByteArray),sl AB [name,user]] (vs d)):PC 16 [vs name,vs user] (vi (LH d 8 % 100)):=by
 refine Ps El Tryz.func16 rfl (Nz rfl) (Xi .pure (Xi _ (Yi hd (Xi {q:Nat // q<=8} (Xi (fun q=>⟨[(5,vs d),(6,.v (.int .u64 (LH d q.1))),(7,vi q.1)],[],Ae⟩) (Xi (fun q=>8-q.1) (Yi (Xi ⟨0,Ax _⟩ ?_) ?_)))))))
 .exact⟨Z3,Tv,Fh,Tv⟩
 intro⟨i,i1⟩;have i1:i<=8:=i1;refine Yi (fun h1=>?_) (fun h1=>?_)
 .have h1:(i:Int)<(8:Int):=h1;refine Xi (DB d i) (Yi (L7 (z:=i) (show i<d.size by omega) rfl) (Yi (Ii i ch) (Xi ⟨i+1,by omega⟩ ?_)));exact⟨Dl 8 i ch,⟨Zr,⟨(Aa (fun z:Int=>AV.v (.int .u64 z)) (lL d i)),rfl⟩,Zr,Tv⟩,Tv,Fh,Tv⟩
 have h1:¬((i:Int)<(8:Int)):=h1;refine Yi (show 0<=LH d i/\(0:Int)<100 from⟨ac _ _,by decide⟩) (Yi (show AX (LH d i % 100) by unfold AX;have q1:=In (LH d i) (show(100:Int)≠0 by decide);have q2:=PA (LH d i) (show(0:Int)<100 by decide);omega) ?_);exact CV.of_eq (Aa vi (show LH d i % 100=LH d 8 % 100 by rw[show i=8 by omega]))
theorem ti(name user:ByteArray)(h1:name.size<=100000)(h2:user.size<=100000):PC 16 [vs name,vs user] (vi (OW name user)):=
 wy name user _ (X8 _) (pj _ [name,user] Cl (Bc.2 ⟨h1,Bc.2 ⟨h2,Ci _⟩⟩) (show 2<=1000 by decide))
theorem Adr(name user:ByteArray)(hl:Cb l):PC 3 [sl Cr l,vi Bn,vs name,vs user] (vb true):=by
 refine Ps (pC [] [4,5,6,7]) Tryz.func3 rfl (Nz rfl) (Xi .pure (Xi _ (Yi rX (Yi (fun h1=>?_) (fun h1=>?_)))))
 .have h1:(12:Int)<((l.map Cr).length:Int):=h1;have n1:12<l.length:=by have q:=h1;rw[Lm]at q;omega
  refine Yi (fun h2=>?_) (fun h2=>?_)
  .have h2:((l.map Cr).length:Int)<=(1024:Int):=h2;refine cU [] [] Tv Tv ?_
   exact .refl _
  have h2:¬(((l.map Cr).length:Int)<=(1024:Int)):=h2;refine Yi (fun h4=>?_) (fun h4=>?_)
  .have h4:(100:Int)<(name.size:Int):=h4;refine cU [] [] Tv Tv ?_
   exact .refl _
  have h4:¬((100:Int)<(name.size:Int)):=h4;refine Yi (fun h6=>?_) (fun h6=>?_)
  .have h6:(100:Int)<(user.size:Int):=h6;refine cU [] [] Tv Tv ?_
   exact .refl _
  have h6:¬((100:Int)<(user.size:Int)):=h6;refine cU [(0,sl Cr l),(1,vi Bn),(2,vs name),(3,vs user)] [] Z4 Tv (Xi .pure (Xi _ (Yi (gT l Bn hl) (cU [(0,sl Cr l),(1,vi Bn),(2,vs name),(3,vs user),(9,vi (J3 l Bn)),(10,vi (BI l))] [] Z6 Tv (Xi .pure (Xi _ (Yi (tj l Bn hl) (cU [(0,sl Cr l),(2,vs name),(3,vs user),(9,vi (J3 l Bn)),(10,vi (BI l)),(11,vi (J3 l Bn)),(12,vi (BI l))] [] Z7 Tv (Yi (fun h8=>?_) (fun h8=>?_))))))))))
  .have h8:((J3 l Bn):Int)=((J3 l Bn):Int):=h8;refine Yi (fun h9=>?_) (fun h9=>?_)
   .have h9:((BI l):Int)=((BI l):Int):=h9;refine Xi .pure (Xi _ (Yi (NF l hl) (Xi .pure (Xi _ (Yi (Wi l hl) (Yi (fun _=>?_) (fun hf=>absurd h9 hf)))))));refine Xi .pure (Xi _ (Yi (oW name user ch ch) (Xi .pure (Xi _ (Yi (ti name user ch ch) (Yi (fun Wz=>?_) (fun Wz=>?_)))))))
    .have Wz:((OW name user):Int)=((OW name user):Int):=Wz;exact .refl _
    have Wz:¬(((OW name user):Int)=((OW name user):Int)):=Wz;exact absurd rfl Wz
   have h9:¬(((BI l):Int)=((BI l):Int)):=h9;exact absurd rfl h9
  have h8:¬(((J3 l Bn):Int)=((J3 l Bn):Int)):=h8;exact absurd rfl h8
 have h1:¬((12:Int)<((l.map Cr).length:Int)):=h1;have n1:¬12<l.length:=by have q:=h1;rw[Lm]at q;omega
 refine Yi (fun ml=>?_) (fun ml=>?_)
 .have ml:(100:Int)<(name.size:Int):=ml;refine cU [] [] Tv Tv ?_
  exact .refl _
 have ml:¬((100:Int)<(name.size:Int)):=ml;refine Yi (fun xV=>?_) (fun xV=>?_)
 .have xV:(100:Int)<(user.size:Int):=xV;refine cU [] [] Tv Tv ?_
  exact .refl _
 have xV:¬((100:Int)<(user.size:Int)):=xV;refine cU [(0,sl Cr l),(1,vi Bn),(2,vs name),(3,vs user)] [] Z4 Tv (Xi .pure (Xi _ (Yi (gT l Bn hl) (cU [(0,sl Cr l),(1,vi Bn),(2,vs name),(3,vs user),(9,vi (J3 l Bn)),(10,vi (BI l))] [] Z6 Tv (Xi .pure (Xi _ (Yi (tj l Bn hl) (cU [(0,sl Cr l),(2,vs name),(3,vs user),(9,vi (J3 l Bn)),(10,vi (BI l)),(11,vi (J3 l Bn)),(12,vi (BI l))] [] Z7 Tv (Yi (fun sA=>?_) (fun sA=>?_))))))))))
 .have sA:((J3 l Bn):Int)=((J3 l Bn):Int):=sA;refine Yi (fun mn=>?_) (fun mn=>?_)
  .have mn:((BI l):Int)=((BI l):Int):=mn;refine Xi .pure (Xi _ (Yi (NF l hl) (Xi .pure (Xi _ (Yi (Wi l hl) (Yi (fun _=>?_) (fun hf=>absurd mn hf)))))));refine Xi .pure (Xi _ (Yi (oW name user ch ch) (Xi .pure (Xi _ (Yi (ti name user ch ch) (Yi (fun du=>?_) (fun du=>?_)))))))
   .have du:((OW name user):Int)=((OW name user):Int):=du;exact .refl _
   have du:¬(((OW name user):Int)=((OW name user):Int)):=du;exact absurd rfl du
  have mn:¬(((BI l):Int)=((BI l):Int)):=mn;exact absurd rfl mn
 have sA:¬(((J3 l Bn):Int)=((J3 l Bn):Int)):=sA;exact absurd rfl sA
end Go.Eng
