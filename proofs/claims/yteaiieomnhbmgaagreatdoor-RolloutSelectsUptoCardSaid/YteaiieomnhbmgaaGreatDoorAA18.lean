/- Lemmas 18. -/
import Derived.Test.YteaiieomnhbmgaaGreatDoorAA17
import Derived.Shelf.Strconv.Itoa3
import Derived.Shelf.Strings.Repeat
import Derived.Shelf.Pu.Clone
import Derived.Ground.NamesProg
import Derived.Ground.MpProg
import Derived.Lib.RepeatB
import Derived.Shelf.Sort.Plain
import Derived.Shelf.Slices.CompactS
set_option maxHeartbeats 4000000
namespace Go.Eng
open Go.Proofs
variable (x:HS)(s:CS)
set_option maxRecDepth 100000 in
theorem uf  : PC 203 [] (.agg (kK.map EN)):=by
 refine Ps CQ Tryz.func203 rfl (Nz rfl) (yN (yN ?_));exact .refl _
theorem AcC(hs:s.size=64):PC 202 [vs s] (.agg ((BL s 64).map EN)):=by
 refine Ps CQ Tryz.func202 rfl (Nz rfl) (Xi {q:Nat // q<=64} (Xi (fun q=>⟨[(0,vs s),(2,.ref 2 0),(3,.ref 3 0),(4,.v (.func (.func 266) #[] #[])),(7,vi q.1)],[(2,.cells (List.replicate 64 (EN 0))),(3,.cells ((BL s q.1).map EN++List.replicate (64-q.1) (EN 0)))],Ae⟩) (Xi (fun q=>64-q.1) (Yi (Xi ⟨0,Aj _⟩ ?_) ?_))))
 .exact⟨Z5,⟨Zr,⟨rfl,(xt _ _ _)⟩,Tv⟩,Fh,Tv⟩
 intro⟨i,i1⟩;have i1:i<=64:=i1;refine Yi (fun h1=>?_) (fun h1=>?_)
 .have h1:(i:Int)<(64:Int):=h1;refine Yi (fun h2=>?_) (fun h2=>?_)
  .have h2:(i:Int)<(16:Int):=h2;refine Xi {q:Nat // q<=4} (Xi (fun q=>⟨[(0,vs s),(2,.ref 2 0),(3,.ref 3 0),(4,.v (.func (.func 266) #[] #[])),(5,vi i),(7,vi i),(12,vi q.1)],[(2,.cells (List.replicate 64 (EN 0))),(3,.cells ((BL s i).map EN++EN (NZ s i q.1)::List.replicate (64-(i+1)) (EN 0)))],Ae⟩) (Xi (fun q=>4-q.1) (Yi (Xi ⟨0,Aj _⟩ ?_) ?_)))
   .exact⟨Z7,⟨Zr,⟨(Aa (fun z=>HO.cells ((BL s i).map EN++z)) (gV (show i<64 by omega))),(Abo _ _ _ _)⟩,Tv⟩,Fh,Tv⟩
   intro⟨k,k1⟩;have k1:k<=4:=k1;refine Yi (fun h3=>?_) (fun h3=>?_)
   .have h3:(k:Int)<(4:Int):=h3;refine Yi (show(0:Int)<=i/\(i:Int)<(64:Nat)from by omega) (G7 (Pf (vU (U9 s i)) (show(0+(i:Int).toNat*1)=i by omega)) (Yi Wk (Yi (by show Az ((4:Int)*(i:Int));unfold Az;omega) (Yi (by show Az ((4*i:Int)+(k:Int));unfold Az;omega) (Xi (Do s (4*i+k)) (Yi (Lh (z:=(4*i)+k) (show 4*i+k<s.size by omega) ch) (Yi (show(0:Int)<=i/\(i:Int)<(64:Nat)from by omega) (Yi (show(0+(i:Int).toNat*1)+1<=(((BL s i).map EN++EN (NZ s i k)::List.replicate (64-(i+1)) (EN 0))).length from by rw[Ac,U9];simp only[Ap,Cu];omega) ?_))))))));refine Yi aa1 (Yi (Ii k ch) (Xi ⟨k+1,by omega⟩ ?_));exact⟨Dl 4 k ch,Z7,⟨Zr,⟨(show HO.cells (over ((BL s i).map EN++EN (NZ s i k)::List.replicate (64-(i+1)) (EN 0)) (0+(i:Int).toNat*1) [.v (.int .u32 (Cq .or .u32 (Cr .shl .u32 (NZ s i k) 8) (IntKind.wrap .u32 ((Do s (4*i+k)).toNat:Int))))])=.cells ((BL s i).map EN++EN (NZ s i (k+1))::List.replicate (64-(i+1)) (EN 0))from Aa HO.cells (PX (by rw[U9];omega))),(Abo _ _ _ _)⟩,Tv⟩,Fh,Tv⟩
   have h3:¬((k:Int)<(4:Int)):=h3;refine Yi (Ii i ch) (Xi ⟨i+1,by omega⟩ ?_);exact⟨Dl 64 i ch,Z5,⟨Zr,⟨(Aa HO.cells (bR (show NZ s i k=UJ s (BL s i) i by rw[UJ,Ax ch,show k=4 by omega]))),(xt _ _ _)⟩,Tv⟩,Fh,Tv⟩
  have h2:¬((i:Int)<(16:Int)):=h2;refine Yi (by show Az ((i:Int)-(2:Int));unfold Az;omega) (Yi (show(0:Int)<=i-2/\(i-2:Int)<(64:Nat)from by omega) (G7 (Pf (YE (show i-2<(BL s i).length by rw[E3];omega)) (show(0+(i-2:Int).toNat*1)=i-2 by omega)) (C2 (qk (Fl (BL s i) (i-2)) 17 19 10 Wk Wk Wk) (Yi (by show Az ((i:Int)-(7:Int));unfold Az;omega) (Yi (show(0:Int)<=i-7/\(i-7:Int)<(64:Nat)from by omega) (G7 (Pf (YE (show i-7<(BL s i).length by rw[E3];omega)) (show(0+(i-7:Int).toNat*1)=i-7 by omega)) (Yi (by show Az ((i:Int)-(15:Int));unfold Az;omega) (Yi (show(0:Int)<=i-15/\(i-15:Int)<(64:Nat)from by omega) (G7 (Pf (YE (show i-15<(BL s i).length by rw[E3];omega)) (show(0+(i-15:Int).toNat*1)=i-15 by omega)) (C2 (qk (Fl (BL s i) (i-15)) 7 18 3 Wk Wk Wk) (Yi (by show Az ((i:Int)-(16:Int));unfold Az;omega) (Yi (show(0:Int)<=i-16/\(i-16:Int)<(64:Nat)from by omega) (G7 (Pf (YE (show i-16<(BL s i).length by rw[E3];omega)) (show(0+(i-16:Int).toNat*1)=i-16 by omega)) (Yi (show(0:Int)<=i/\(i:Int)<(64:Nat)from by omega) (Yi (show(0+(i:Int).toNat*1)+1<=(((BL s i).map EN++List.replicate (64-i) (EN 0))).length from by rw[Ac,U9];simp only[Cu];omega) ?_)))))))))))))));refine Yi aa1 (Yi (Ii i ch) (Xi ⟨i+1,by omega⟩ ?_));exact⟨Dl 64 i ch,Z5,⟨Zr,⟨(show HO.cells (over ((BL s i).map EN++List.replicate (64-i) (EN 0)) (0+(i:Int).toNat*1) [.v (.int .u32 (IntKind.wrap .u32 ((IntKind.wrap .u32 ((IntKind.wrap .u32 ((oz (Fl (BL s i) (i-2)) 17 19 10)+(Fl (BL s i) (i-7))))+(oz (Fl (BL s i) (i-15)) 7 18 3)))+(Fl (BL s i) (i-16)))))])=.cells ((BL s (i+1)).map EN++List.replicate (64-(i+1)) (EN 0))from Aa HO.cells (by rw[gV (show i<64 by omega),PX (by rw[U9];omega)];exact bR (by rw[UJ,AA ch];rfl))),(xt _ _ _)⟩,Tv⟩,Fh,Tv⟩
 have h1:¬((i:Int)<(64:Int)):=h1;refine Yi (show 64<=((BL s i).map EN++List.replicate (64-i) (EN 0)).length by rw[Ac,U9,Cu];omega) ?_
 conv=>whnf
 refine mq (show Nat.beq (((BL s i).map EN++List.replicate (64-i) (EN 0)).take 64).length 64=true from by rw[show(((BL s i).map EN++List.replicate (64-i) (EN 0)).take 64).length=64 by rw[AF,Ac,U9,Cu];omega];rfl) ?_;refine Yi (show 0+(((BL s i).map EN++List.replicate (64-i) (EN 0)).take 64).length<=64 from by rw[AF];omega) ?_;refine Yi (show 64<=(over (List.replicate 64 (EN 0)) 0 (((BL s i).map EN++List.replicate (64-i) (EN 0)).take 64)).length by rw[MP (by rw[AF,Ac,U9,Cu,Cu];omega),AF,Ac,U9,Cu];omega) ?_;exact Aha (show(over (List.replicate 64 (EN 0)) 0 (((BL s i).map EN++List.replicate (64-i) (EN 0)).take 64)).take 64=(BL s 64).map EN from by rw[show i=64 by omega,MP (by rw[AF,Ac,U9];rfl),List.take_take,Nat.min_self,JY (U9 s 64)])
theorem yu(W Kk:List Int)(r8:S8)(hW:W.length=64)(hK:Kk.length=64)(hr:Ed W Kk x.v 64=r8)(hc:PC 202 [vs s] (.agg (W.map EN)))(hk:PC 203 [] (.agg (Kk.map EN))):AU Tryz.prog 148 [.ref 1000 0,vs s] (Ak [(1000,.cells (Gp x))] Ae) fun r h'=>r=.tup []/\h'=Ak [(1000,.cells (Gp ⟨qU x.v r8,x.rest,x.tot⟩))] Ae:=by
 refine BX (Ms (pC [] [2,11])) [(1000,1000)] rfl Ct hm rfl Tryz.func148 aa1 rfl (Nz rfl) aa1 rfl (C1 (C2 hc (C1 (C2 hk ?_))))
 conv=>whnf
 refine mq (show Nat.beq (W.map EN).length 64=true from by rw[Lm,hW];rfl) (Yi (show 0+(W.map EN).length<=64 from by rw[Lm];omega) ?_)
 conv=>whnf
 refine mq (show Nat.beq (Kk.map EN).length 64=true from by rw[Lm,hK];rfl) (Yi (show 0+(Kk.map EN).length<=64 from by rw[Lm];omega) (cU [(0,.ref 1000 0),(4,.v (.func (.func 200) #[] #[])),(5,.ref 5 0),(6,.ref 6 0)] [(5,.cells (W.map EN)),(6,.cells (Kk.map EN)),(1000,.cells (Gp x))] Z4 ⟨⟨(Aa HO.cells (MP (show 64=(W.map EN).length by rw[Lm,hW]))),(dF _ _)⟩,⟨(Aa HO.cells (MP (show 64=(Kk.map EN).length by rw[Lm,hK]))),(dF _ _)⟩,Zr,Tv⟩ ?_))
 refine yN (yN (Xi {q:Nat // q<=64} (Xi (fun q=>⟨[(0,.ref 1000 0),(4,.v (.func (.func 200) #[] #[])),(5,.ref 5 0),(6,.ref 6 0),(7,.ref 7 0),(26,vi q.1)],[(5,.cells (W.map EN)),(6,.cells (Kk.map EN)),(7,.cells (ZV (Ed W Kk x.v q.1))),(1000,.cells (Gp x))],Ae⟩) (Xi (fun q=>64-q.1) (Yi (Xi ⟨0,Aj _⟩ ?_) ?_)))))
 .exact⟨Z6,⟨⟨rfl,(dF _ _)⟩,⟨rfl,(dF _ _)⟩,Zr,Zr,Tv⟩,Fh,Bu aa1⟩
 intro⟨i,i1⟩;have i1:i<=64:=i1;refine Yi (fun h1=>?_) (fun h1=>?_)
 .have h1:(i:Int)<(64:Int):=h1;refine Yi ⟨by decide,by decide⟩ ?_;refine Yi ⟨by decide,by decide⟩ ?_;refine Yi ⟨by decide,by decide⟩ ?_;refine Yi ⟨by decide,by decide⟩ ?_;refine Yi ⟨by decide,by decide⟩ ?_;refine Yi ⟨by decide,by decide⟩ ?_;refine Yi aa1 (Yi ⟨by decide,by decide⟩ ?_);refine C2 (qj (Ed W Kk x.v i).e 6 11 25 Wk Wk Wk Wk) (Yi (show(0:Int)<=i/\(i:Int)<(64:Nat)from by omega) (G7 (Pf (YF (show i<Kk.length by omega)) (show(0+(i:Int).toNat*1)=i by omega)) (Yi (show(0:Int)<=i/\(i:Int)<(64:Nat)from by omega) (G7 (Pf (YF (show i<W.length by omega)) (show(0+(i:Int).toNat*1)=i by omega)) (Yi aa1 (C1 (C2 (qj (Ed W Kk x.v i).a 2 13 22 Wk Wk Wk Wk) (Yi ⟨by decide,by decide⟩ ?_))))))));refine yN (Yi (Ii i ch) (Xi ⟨i+1,by omega⟩ ?_));exact⟨Dl 64 i ch,Z6,⟨⟨rfl,(dF _ _)⟩,⟨rfl,(dF _ _)⟩,Zr,Zr,Tv⟩,Fh,Bu aa1⟩
 have h1:¬((i:Int)<(64:Int)):=h1;refine cU [(0,.ref 1000 0),(7,.ref 7 0)] [(7,.cells (ZV r8)),(1000,.cells (Gp x))] Z2 ⟨⟨(Aa (fun z=>HO.cells (ZV z)) (show Ed W Kk x.v i=r8 by rw[show i=64 by omega,hr])),rfl⟩,Zr,Tv⟩ (yN (Xi {q:Nat // q<=8} (Xi (fun q=>⟨[(0,.ref 1000 0),(94,.agg [.v (.int .u32 r8.a),.v (.int .u32 r8.b),.v (.int .u32 r8.c),.v (.int .u32 r8.d),.v (.int .u32 r8.e),.v (.int .u32 r8.f),.v (.int .u32 r8.g),.v (.int .u32 r8.h)]),(95,vi q.1)],[(1000,.cells (RY x.v r8 q.1 [vs x.rest,.v (.int .u64 x.tot)]))],Ae⟩) (Xi (fun q=>8-q.1) (Yi (Xi ⟨0,Aj _⟩ ?_) ?_)))))
 .exact⟨Z3,Z1,Fh,Bu aa1⟩
 intro⟨j,j1⟩;have j1:j<=8:=j1;refine Yi (fun h3=>?_) (fun h3=>?_)
 .have h3:(j:Int)<(8:Int):=h3;refine Yi (show(0:Int)<=j/\(j:Int)<(8:Nat)from by omega) (G7 (uG (v:=r8) (show j<8 by omega) (show((j:Int).toNat*1)=j by omega)) (Yi (show(0:Int)<=j/\(j:Int)<(8:Nat)from by omega) (G7 (mM (show j<8 by omega) (show(0+(j:Int).toNat*1)=j by omega)) (Yi (show(0:Int)<=j/\(j:Int)<(8:Nat)from by omega) (Yi (show(0+(j:Int).toNat*1)+1<=((RY x.v r8 j [vs x.rest,.v (.int .u64 x.tot)])).length from by show(0+(j:Int).toNat*1)+1<=10;omega) ?_)))));refine Yi aa1 (Yi (Ii j ch) (Xi ⟨j+1,by omega⟩ ?_));exact⟨Dl 8 j ch,Z3,⟨⟨(show HO.cells (over (RY x.v r8 j [vs x.rest,.v (.int .u64 x.tot)]) (0+(j:Int).toNat*1) [.v (.int .u32 (IntKind.wrap .u32 ((S8.n x.v j)+(S8.n r8 j))))])=.cells (RY x.v r8 (j+1) [vs x.rest,.v (.int .u64 x.tot)])from Aa HO.cells (o7 (show j<8 by omega) ch)),rfl⟩,Tv⟩,Fh,Bu aa1⟩
 have h3:¬((j:Int)<(8:Int)):=h3;have e8:j=8:=ch
 subst e8;exact C2 (.refl _) Zr
theorem Acm(hs:s.size=64):AU Tryz.prog 148 [.ref 1000 0,vs s] (Ak [(1000,.cells (Gp x))] Ae) fun r h'=>r=.tup []/\h'=Ak [(1000,.cells (Gp ⟨bT x.v s,x.rest,x.tot⟩))] Ae:=
 yu x s (BL s 64) kK _ (E3 s 64) rfl rfl (AcC s hs) uf
end Go.Eng
namespace Go.Proofs
open Go.Proofs.Tryz
open Go.Shelf
def Tryz.layItoa_ren:Go.Shelf.Ren:=⟨fun | 171=>53 | 243=>93 | 246=>154 | 283=>214 | 284=>215 | 285=>216 | 286=>217 | 129=>229 | 317=>272 | 318=>273 | 319=>274 | 320=>275 | 337=>317 | 338=>318 | n=>n,fun | 3=>3 | 9=>9 | 2=>2 | 4=>4 | 171=>308 | 0=>0 | 53=>98 | 37=>164 | 5=>5 | 173=>311 | 212=>355 | 51=>229 | 20=>20 | 213=>356 | 46=>99 | 232=>414 | 233=>415 | n=>n,fun | 17=>1 | 18=>2 | 19=>3 | n=>n⟩
theorem Tryz.layItoa:Go.Proofs.LaysM.n171 Tryz.prog Tryz.layItoa_ren:={
 mixed:=by kernel_rfl
 f129:=Go.Eng.A0a func229
 f171:=Go.Eng.A0a func53
 f243:=Go.Eng.A0a func93
 f246:=Go.Eng.A0a func154
 f283:=Go.Eng.A0a func214
 f284:=Go.Eng.A0a func215
 f285:=Go.Eng.A0a func216
 f286:=Go.Eng.A0a func217
 f317:=Go.Eng.A0a func272
 f318:=Go.Eng.A0a func273
 f319:=Go.Eng.A0a func274
 f320:=Go.Eng.A0a func275
 f337:=Go.Eng.A0a func317
 f338:=Go.Eng.A0a func318
 t0:=underlying0
 a0:=isAgg0
 z0:=sizeOf0
 v0:=zeroValue0
 t2:=underlying2
 a2:=isAgg2
 z2:=sizeOf2
 v2:=zeroValue2
 t3:=underlying3
 a3:=isAgg3
 z3:=sizeOf3
 v3:=zeroValue3
 t4:=underlying4
 a4:=isAgg4
 z4:=sizeOf4
 v4:=zeroValue4
 t5:=underlying5
 a5:=isAgg5
 z5:=sizeOf5
 v5:=zeroValue5
 t9:=underlying9
 a9:=isAgg9
 z9:=sizeOf9
 v9:=zeroValue9
 t20:=underlying20
 a20:=isAgg20
 z20:=sizeOf20
 v20:=zeroValue20
 t37:=underlying164
 a37:=isAgg164
 z37:=sizeOf164
 v37:=zeroValue164
 t46:=underlying99
 a46:=isAgg99
 z46:=sizeOf99
 v46:=zeroValue99
 t51:=underlying229
 a51:=isAgg229
 z51:=sizeOf229
 v51:=zeroValue229
 t53:=underlying98
 a53:=isAgg98
 z53:=sizeOf98
 v53:=zeroValue98
 t171:=underlying308
 a171:=isAgg308
 z171:=sizeOf308
 v171:=zeroValue308
 t173:=underlying311
 a173:=isAgg311
 z173:=sizeOf311
 v173:=zeroValue311
 t212:=underlying355
 a212:=isAgg355
 z212:=sizeOf355
 v212:=zeroValue355
 t213:=underlying356
 a213:=isAgg356
 z213:=sizeOf356
 t232:=underlying414
 a232:=isAgg414
 z232:=sizeOf414
 v232:=zeroValue414
 t233:=underlying415
 a233:=isAgg415
 z233:=sizeOf415
 v233:=zeroValue415
 g17:=by kernel_rfl
 g18:=by kernel_rfl
 g19:=by kernel_rfl
 i0:=by kernel_rfl
 i2:=by kernel_rfl
 i3:=by kernel_rfl
 i4:=by kernel_rfl
 i5:=by kernel_rfl
 i9:=by kernel_rfl
 i20:=by kernel_rfl
 i37:=by kernel_rfl
 i46:=by kernel_rfl
 i51:=by kernel_rfl
 i53:=by kernel_rfl
 i171:=by kernel_rfl
 i173:=by kernel_rfl
 i212:=by kernel_rfl
 i232:=by kernel_rfl
 i233:=by kernel_rfl
 m17:=by kernel_rfl
 m18:=by kernel_rfl
 m19:=by kernel_rfl }
def Tryz.layRepeat_ren:Go.Shelf.Ren:=⟨fun | 105=>151 | 212=>205 | 99=>206 | 165=>207 | 166=>208 | 170=>209 | 169=>210 | 263=>267 | 264=>268 | 206=>269 | 240=>270 | 241=>271 | 276=>315 | 277=>316 | n=>n,fun | 9=>9 | 3=>3 | 4=>4 | 20=>20 | 0=>0 | 46=>99 | 109=>295 | 5=>5 | 72=>299 | 76=>303 | 51=>229 | 146=>349 | 53=>98 | 148=>351 | 70=>297 | 37=>164 | 75=>302 | 127=>348 | 164=>386 | 80=>162 | n=>n,fun | n=>n⟩
theorem Tryz.layRepeat:Go.Proofs.Lays.n105 Tryz.prog Tryz.layRepeat_ren:={
 mixed:=by kernel_rfl
 f99:=Go.Eng.A0a func206
 f105:=Go.Eng.A0a func151
 f165:=Go.Eng.A0a func207
 f166:=Go.Eng.A0a func208
 f169:=Go.Eng.A0a func210
 f170:=Go.Eng.A0a func209
 f206:=Go.Eng.A0a func269
 f212:=Go.Eng.A0a func205
 f240:=Go.Eng.A0a func270
 f241:=Go.Eng.A0a func271
 f263:=Go.Eng.A0a func267
 f264:=Go.Eng.A0a func268
 f276:=Go.Eng.A0a func315
 f277:=Go.Eng.A0a func316
 t0:=underlying0
 a0:=isAgg0
 z0:=sizeOf0
 v0:=zeroValue0
 t3:=underlying3
 a3:=isAgg3
 z3:=sizeOf3
 v3:=zeroValue3
 t4:=underlying4
 a4:=isAgg4
 z4:=sizeOf4
 v4:=zeroValue4
 t5:=underlying5
 a5:=isAgg5
 z5:=sizeOf5
 v5:=zeroValue5
 t9:=underlying9
 a9:=isAgg9
 z9:=sizeOf9
 v9:=zeroValue9
 t20:=underlying20
 a20:=isAgg20
 z20:=sizeOf20
 v20:=zeroValue20
 t37:=underlying164
 a37:=isAgg164
 z37:=sizeOf164
 v37:=zeroValue164
 t46:=underlying99
 a46:=isAgg99
 z46:=sizeOf99
 v46:=zeroValue99
 t51:=underlying229
 a51:=isAgg229
 z51:=sizeOf229
 v51:=zeroValue229
 t53:=underlying98
 a53:=isAgg98
 z53:=sizeOf98
 v53:=zeroValue98
 t70:=underlying297
 a70:=isAgg297
 z70:=sizeOf297
 v70:=zeroValue297
 t72:=underlying299
 a72:=isAgg299
 z72:=sizeOf299
 v72:=zeroValue299
 t75:=underlying302
 a75:=isAgg302
 z75:=sizeOf302
 v75:=zeroValue302
 t76:=underlying303
 a76:=isAgg303
 z76:=sizeOf303
 v76:=zeroValue303
 t109:=underlying295
 a109:=isAgg295
 z109:=sizeOf295
 v109:=zeroValue295
 t127:=underlying348
 a127:=isAgg348
 z127:=sizeOf348
 v127:=zeroValue348
 t146:=underlying349
 a146:=isAgg349
 z146:=sizeOf349
 v146:=zeroValue349
 t148:=underlying351
 a148:=isAgg351
 z148:=sizeOf351
 v148:=zeroValue351
 t164:=underlying386
 a164:=isAgg386
 z164:=sizeOf386
 v164:=zeroValue386 }
def Tryz.layClone_ren:Go.Shelf.Ren:=⟨fun | 25=>204 | n=>n,fun | 9=>9 | 3=>3 | 4=>4 | 37=>164 | 0=>0 | 47=>348 | 5=>5 | n=>n,fun | n=>n⟩
theorem Tryz.layClone:Go.Proofs.LaysPu.n25 Tryz.prog Tryz.layClone_ren:={
 mixed:=by kernel_rfl
 f25:=Go.Eng.A0a func204
 t0:=underlying0
 a0:=isAgg0
 z0:=sizeOf0
 v0:=zeroValue0
 i0:=by kernel_rfl
 t3:=underlying3
 a3:=isAgg3
 z3:=sizeOf3
 v3:=zeroValue3
 i3:=by kernel_rfl
 t4:=underlying4
 a4:=isAgg4
 z4:=sizeOf4
 v4:=zeroValue4
 i4:=by kernel_rfl
 t5:=underlying5
 a5:=isAgg5
 z5:=sizeOf5
 v5:=zeroValue5
 i5:=by kernel_rfl
 t9:=underlying9
 a9:=isAgg9
 z9:=sizeOf9
 v9:=zeroValue9
 i9:=by kernel_rfl
 t37:=underlying164
 a37:=isAgg164
 z37:=sizeOf164
 v37:=zeroValue164
 i37:=by kernel_rfl
 t47:=underlying348
 a47:=isAgg348
 z47:=sizeOf348
 v47:=zeroValue348
 i47:=by kernel_rfl }
theorem Tryz.layRepeatX:Builder.Extra Tryz.prog Tryz.layRepeat_ren:={
 sizeBuilder:=by kernel_rfl
 liesBuilder:=by kernel_rfl
 t5:=underlying5
 a5:=isAgg5
 z5:=sizeOf5
 v5:=zeroValue5
 infoByte:=by kernel_rfl
 cellsByte:=by kernel_rfl
 sizeByte:=by kernel_rfl
 neB5:=by decide }
end Go.Proofs
namespace Go.Eng
open Go.Proofs Go.Proofs.Tryz
variable {last:Int}(name:CS)(x:HS)(n:Int)(s user:CS)(i:Nat)
theorem px(n:Nat):(⟨(Go.Lib.repeatL (ByteArray.mk #[0]).data.toList n).toArray⟩:CS)=lD n:=by
 show(⟨(Go.Lib.repeatL (List.replicate 1 0) n).toArray⟩:CS)=_;rw[Go.Lib.repeatL_replicate,lD];simp
theorem qn(h0:0<=n)(h:n<=100):PC 151 [vs ⟨#[0]⟩,vi n] (vs (lD n.toNat)):=by
 refine MQ [.string ⟨#[0]⟩,.int .i64 n] (.string (lD n.toNat)) (ZX 151 func151 aa1 rfl) rfl (fun g w=>.v _ _) fun w _ _=>?_;have q:=Any.strings_Repeat Tryz.layRepeat Tryz.layRepeatX ⟨#[0]⟩ n.toNat w ch (by show 1*n.toNat<=_;omega);rw[px,Int.toNat_of_nonneg h0]at q;exact q
theorem qe(h:s.size<=1000000000):PC 204 [vs s] (vs s):=
 MQ [.string s] (.string s) (ZX 204 func204 aa1 rfl) rfl (fun g w=>.v _ _) fun w _ _=>AnyPu.stringslite_Clone Tryz.layClone s w ch
theorem uc(h:s.size<=1000000000):PC 149 [vs s] (vs s):=by
 refine Ps CQ func149 rfl (Nz rfl) (C1 (C2 (qe s h) ?_));exact .refl _
theorem Acz  : AU Tryz.prog 87 [] (Ak [] Ae) fun r h'=>r=.ref 2000 0/\h'=Ak [(2000,.cells (Gp PN))] Ae:=by
 refine BX (Ms CQ) [(3,2000)] rfl Ct hm rfl func87 aa1 rfl (Nz rfl) aa1 rfl ?_;exact C2 (.refl _) Zr
theorem qh:AU Tryz.prog 150 [.ref 1000 0] (Ak [(1000,.cells (Gp x))] Ae) fun r h'=>r=.ref 2000 0/\h'=Ak [(1000,.cells (Gp x)),(2000,.cells (Gp x))] Ae:=by
 refine BX (Ms CQ) [(1000,1000),(3,2000)] rfl Ct hm rfl func150 aa1 rfl (Nz rfl) aa1 rfl (yN (yN ?_));exact C2 (.refl _) Zr
abbrev u8(x:Int):AV:=.v (.int .u8 x)
def bt:List AV:=(List.range i).map fun(j:Nat)=>u8 (IntKind.wrap .u8 (Cr .shr .u64 n (56-8*(j:Int))))
def oO:List UInt8:=(List.range 8).map fun(i:Nat)=>UInt8.ofNat (IntKind.wrap .u8 (Cr .shr .u64 n (56-8*(i:Int)))).toNat
theorem gG:(bt n i).length=i:=by rw[bt,Lm,RB]
theorem Abp(h:Nat->HO)(n:Int)(i:Nat):SA h (.cells (bt n i++List.replicate (8-i) (u8 0)))=true:=by
 have e:∀l:List Int,Yv h (l.map u8++List.replicate (8-i) (u8 0))=true:=fun l=>by
  induction l with
  |nil=>show Yv h (List.replicate (8-i) (u8 0))=true;induction (8-i)with |zero=>rfl |succ k ih=>exact ih
  |cons a l ih=>exact ih
 have q:=e ((List.range i).map fun(j:Nat)=>IntKind.wrap .u8 (Cr .shr .u64 n (56-8*(j:Int))));rw[Bw]at q;exact q
theorem oP{n:Int}{i m:Nat}(h:i<8)(e:m=i):over (bt n i++List.replicate (8-i) (u8 0)) m [u8 (IntKind.wrap .u8 (Cr .shr .u64 n (56-8*(i:Int))))]=bt n (i+1)++List.replicate (8-(i+1)) (u8 0):=by
 rw[show 8-i=(8-(i+1))+1 by omega,List.replicate_succ,PX (by rw[gG];exact e.symm),bt,bt,List.range_succ,Ar,BT];rfl
theorem qu(z:Int):((UInt8.ofNat (IntKind.wrap .u8 z).toNat).toNat:Int)=IntKind.wrap .u8 z:=by
 have h1:0<=IntKind.wrap .u8 z:=Nw _ Wk;have h2:IntKind.wrap .u8 z<256:=OK _ Wk;rw[UInt8.toNat_ofNat',Nat.mod_eq_of_lt ch];omega
theorem kh(h:Nat->HO)(n:Int):(((bt n 8).map (str h)).map fun c=>[c])=(oO n).map fun b=>[AV.v (.int .u8 b.toNat)]:=by
 rw[bt,oO,Bw,Bw,Bw];refine CC fun i _=>?_;show [AV.v (.int .u8 _)]=[AV.v (.int .u8 _)];rw[qu]
theorem ql:PC 89 [.v (.int .u64 n)] (vs (E5 n)):=by
 refine Ps ⟨[],[(17,1)],[],[(17,[3])],[],[],[],[],[],[],[7]⟩ func89 rfl (Nz rfl) (Xi {q:Nat // q<=8} (Xi (fun q=>⟨[(0,.v (.int .u64 n)),(3,.ref 3 0),(5,vi q.1)],[(3,.cells (bt n q.1++List.replicate (8-q.1) (u8 0)))],Ae⟩) (Xi (fun q=>8-q.1) (Yi (Xi ⟨0,Aj _⟩ ?_) ?_))))
 .exact⟨Z3,⟨⟨rfl,(Abp _ _ _)⟩,Tv⟩,Fh,Tv⟩
 intro⟨i,i1⟩;have i1:i<=8:=i1;refine Yi (fun h1=>?_) (fun h1=>?_)
 .have h1:(i:Int)<(8:Int):=h1;refine Yi (by show Az ((8:Int)*(i:Int));unfold Az;omega) (Yi (by show Az ((56:Int)-(8*i:Int));unfold Az;omega) (Yi (show(0:Int)<=56-(8*i) by omega) (Yi (show(0:Int)<=i/\(i:Int)<(8:Nat)from by omega) (Yi (show(0+(i:Int).toNat*1)+1<=((bt n i++List.replicate (8-i) (u8 0))).length from by rw[Ac,gG,Cu];omega) ?_))));refine Yi (Ii i ch) (Xi ⟨i+1,by omega⟩ ?_);exact⟨Dl 8 i ch,Z3,⟨⟨(show HO.cells (over (bt n i++List.replicate (8-i) (u8 0)) (0+(i:Int).toNat*1) [.v (.int .u8 (IntKind.wrap .u8 (Cr .shr .u64 n (56-(8*i)))))])=.cells (bt n (i+1)++List.replicate (8-(i+1)) (u8 0))from Aa HO.cells (oP (show i<8 by omega) ch)),(Abp _ _ _)⟩,Tv⟩,Fh,Tv⟩
 have h1:¬((i:Int)<(8:Int)):=h1;refine cU [(3,.ref 3 0)] [(3,.cells (bt n 8))] Z1 ⟨⟨(show HO.cells (bt n i++List.replicate (8-i) (u8 0))=.cells (bt n 8) by rw[show i=8 by omega];rfl),rfl⟩,Tv⟩ ?_
 refine Yi (show 8=((bt n 8).map (str _)).length from rfl) (Xi (oO n) (Yi (kh _ n) ?_));exact .refl _
theorem SY(hb:(x.rest++s).size<=1000000000):AU Tryz.prog 88 [.ref 1000 0,vs s] (Ak [(1000,.cells (Gp x))] Ae) fun r h'=>r=.tup []/\h'=Ak [(1000,.cells (Gp (GJ x s)))] Ae:=by
 refine BX (Ms CQ) [(1000,1000)] rfl Ct hm rfl func88 aa1 rfl (Nz rfl) aa1 rfl (yN (Yi (show((x.rest.size+s.size:Nat):Int)<=9223372036854775807 by have q:=hb;rw[A2]at q;omega) (Xi {q:S8×CS // CZ q.1 q.2=CZ x.v (x.rest++s)/\q.2.size<=1000000000} (Xi (fun q=>⟨[(0,.ref 1000 0),(1,vs q.1.2)],[(1000,.cells [.v (.int .u32 q.1.1.a),.v (.int .u32 q.1.1.b),.v (.int .u32 q.1.1.c),.v (.int .u32 q.1.1.d),.v (.int .u32 q.1.1.e),.v (.int .u32 q.1.1.f),.v (.int .u32 q.1.1.g),.v (.int .u32 q.1.1.h),vs x.rest,.v (.int .u64 (IntKind.wrap .u64 (x.tot+(IntKind.wrap .u64 (s.size:Int)))))])],Ae⟩) (Xi (fun q=>q.1.2.size) (Yi (Xi ⟨(x.v,x.rest++s),rfl,hb⟩ ?_) ?_))))))
 .exact⟨Z2,Z1,Fh,Bu aa1⟩
 intro⟨⟨v,b⟩,v1,v2⟩;have v1:CZ v b=CZ x.v (x.rest++s):=v1;have v2:b.size<=1000000000:=v2;refine Yi (fun h1=>?_) (fun h1=>?_)
 .have h1:(64:Int)<=(b.size:Int):=h1;refine Yi (show(0:Int)<=0/\(0:Int)<=64/\(64:Int)<=(b.size:Int)from by omega) (Xi (.gen [(1000,1000)] 0) (Yi rfl (AU.to2 (Acm ⟨v,x.rest,(IntKind.wrap .u64 (x.tot+(IntKind.wrap .u64 (s.size:Int))))⟩ (b.extract 0 64) (by simp only[FP];omega)) ?_)));refine Yi (show(0:Int)<=64/\(64:Int)<=(b.size:Int)/\(b.size:Int)<=(b.size:Int)from by omega) (Xi ⟨(bT v (b.extract 0 64),b.extract 64 b.size),by rw[<-v1,CZ.eq_1 v b,Ax ch],by simp only[FP];omega⟩ ?_);exact⟨by show(b.extract 64 b.size).size<b.size;simp only[FP];omega,Z2,Z1,Fh,Bu aa1⟩
 have h1:¬((64:Int)<=(b.size:Int)):=h1;refine C1 (C2 (uc b v2) (yN ?_));exact C2 (.refl _) ⟨rfl,show Ak [(1000,HO.cells [.v (.int .u32 v.a),.v (.int .u32 v.b),.v (.int .u32 v.c),.v (.int .u32 v.d),.v (.int .u32 v.e),.v (.int .u32 v.f),.v (.int .u32 v.g),.v (.int .u32 v.h),vs b,.v (.int .u64 (IntKind.wrap .u64 (x.tot+(IntKind.wrap .u64 (s.size:Int)))))])] Ae=Ak [(1000,.cells (Gp (GJ x s)))] Ae from by rw[GJ,<-v1,CZ.eq_1 v b,AA ch]⟩
abbrev CA(b:UInt8):List AV:=[.v (.int .u8 b.toNat)]
theorem Vr(n:Nat):(lD n).size=n:=by show(List.replicate n (0:UInt8)).toArray.size=n;simp
theorem KW:(E5 n).size=8:=by show(List.map _ (List.range 8)).toArray.size=8;simp
theorem kq:(EE x).size<=80:=by
 rw[EE,A2,A2,Vr,KW];show 1+_+8<=80;omega
theorem co(x:Int):[[AV.v (.int .u8 (IntKind.wrap .u8 (Cr .shr .u32 x 24)))],[.v (.int .u8 (IntKind.wrap .u8 (Cr .shr .u32 x 16)))],[.v (.int .u8 (IntKind.wrap .u8 (Cr .shr .u32 x 8)))],[.v (.int .u8 (IntKind.wrap .u8 x))]]=(Ee x).map CA:=by
 simp only[Ee,Bq,FQ,CA,qu]
theorem cp(l:List Int)(i:Nat)(h:i<=8):((l.take i).flatMap Ee).length<=32:=by
 have e:∀m:List Int,(m.flatMap Ee).length=4*m.length:=fun m=>by
  induction m with
  |nil=>rfl
  |cons a m ih=>rw[Ib,Ac,ih];show 4+_=4*(_+1);omega
 rw[e,AF];omega
theorem Vo{l:List Int}{i:Nat}(h:i<l.length):(l.take i).flatMap Ee++Ee (Fl l i)=(l.take (i+1)).flatMap Ee:=by
 rw[DI,Vm h,List.flatMap_append];simp
theorem yG(hx:x.rest.size<64):AU Tryz.prog 90 [.ref 1000 0] (Ak [(1000,.cells (Gp x))] Ae) fun r h'=>r=vs (lc x)/\h'=Ak [(1000,.cells (Gp x))] Ae:=by
 refine BX (Ms ⟨[],[(5,1)],[],[],[],[],[],[],[(28,5)],[],[]⟩) [(1000,1000)] rfl Ct hm rfl func90 aa1 rfl (Nz rfl) aa1 rfl (Xi (.gen [(1000,1000)] 1) (Yi rfl (AU.to2 (qh x) ?_)));refine Yi (by show Az ((119:Int)-(x.rest.size:Int));unfold Az;omega) (Yi ⟨by omega,by omega⟩ ?_);refine C2 (qn (((119-x.rest.size) % 64:Int)) ch ch) (Yi (show(((⟨#[128]⟩:CS).size+(lD (((119-x.rest.size) % 64:Int)).toNat).size:Nat):Int)<=9223372036854775807 by have q:(⟨#[128]⟩:CS).size=1:=rfl;simp only[Vr];omega) ?_);refine C2 (ql (IntKind.wrap .u64 (8*x.tot))) (Yi (show(((⟨#[128]⟩++(lD (((119-x.rest.size) % 64:Int)).toNat):CS).size+(E5 (IntKind.wrap .u64 (8*x.tot))).size:Nat):Int)<=9223372036854775807 by have q:(⟨#[128]⟩:CS).size=1:=rfl;simp only[A2,Vr,KW];omega) ?_);refine Xi [(10900,1000)] (Xi [(1000,.cells (Gp x))] (Xi [(1000,.cells (Gp (GJ x (EE x))))] (Xi [.ref 1000 0,vs (EE x)] (Xi (.tup []:AV) (Yi (fun h2 hh=>Yi ((Aa (fun o:HO=>Ak [(1000,o.ren (Cw [(10900,1000)]) h2)] Ae) (show h2 10900=.cells (Gp x)from hh 10900 Wk)).trans rfl) rfl) (Yi aa1 (Yi (SY x (EE x) (by rw[A2];have q:=kq x;omega)) ?_)))))));refine Yi aa1 (yN (Xi {q:Nat // q<=8} (Xi (fun q=>⟨[(5,.slice (.id 5 1) ((((S8.l (GJ x (EE x)).v).take q.1).flatMap Ee).map CA)),(32,.agg [.v (.int .u32 (GJ x (EE x)).v.a),.v (.int .u32 (GJ x (EE x)).v.b),.v (.int .u32 (GJ x (EE x)).v.c),.v (.int .u32 (GJ x (EE x)).v.d),.v (.int .u32 (GJ x (EE x)).v.e),.v (.int .u32 (GJ x (EE x)).v.f),.v (.int .u32 (GJ x (EE x)).v.g),.v (.int .u32 (GJ x (EE x)).v.h)]),(33,vi q.1)],[(5,.tok 1 ((((S8.l (GJ x (EE x)).v).take q.1).flatMap Ee).map CA).length),(1000,.cells (Gp x))],Ae⟩) (Xi (fun q=>8-q.1) (Yi (Xi ⟨0,Aj _⟩ ?_) ?_)))))
 .exact⟨Z3,Z2,Fh,Bu aa1⟩
 intro⟨i,i1⟩;have i1:i<=8:=i1;refine Yi (fun h1=>?_) (fun h1=>?_)
 .have h1:(i:Int)<(8:Int):=h1;have hlw:=cp (S8.l (GJ x (EE x)).v) i i1;refine Yi (show(0:Int)<=i/\(i:Int)<(8:Nat)from by omega) (G7 (uG (v:=(GJ x (EE x)).v) (show i<8 by omega) (show((i:Int).toNat*1)=i by omega)) (Yi Wk (Yi Wk (Yi Wk ?_))));have b2:Bi 1 [[.v (.int .u8 (IntKind.wrap .u8 (Cr .shr .u32 (S8.n (GJ x (EE x)).v i) 24)))],[.v (.int .u8 (IntKind.wrap .u8 (Cr .shr .u32 (S8.n (GJ x (EE x)).v i) 16)))],[.v (.int .u8 (IntKind.wrap .u8 (Cr .shr .u32 (S8.n (GJ x (EE x)).v i) 8)))],[.v (.int .u8 (IntKind.wrap .u8 (S8.n (GJ x (EE x)).v i)))]]/\((((S8.l (GJ x (EE x)).v).take i).flatMap Ee).map CA).length=((((S8.l (GJ x (EE x)).v).take i).flatMap Ee).map CA).length/\(((((S8.l (GJ x (EE x)).v).take i).flatMap Ee).map CA).length+([[.v (.int .u8 (IntKind.wrap .u8 (Cr .shr .u32 (S8.n (GJ x (EE x)).v i) 24)))],[.v (.int .u8 (IntKind.wrap .u8 (Cr .shr .u32 (S8.n (GJ x (EE x)).v i) 16)))],[.v (.int .u8 (IntKind.wrap .u8 (Cr .shr .u32 (S8.n (GJ x (EE x)).v i) 8)))],[.v (.int .u8 (IntKind.wrap .u8 (S8.n (GJ x (EE x)).v i)))]]:C0).length)*1<=140737488355328/\((((S8.l (GJ x (EE x)).v).take i).flatMap Ee).map CA).length+([[.v (.int .u8 (IntKind.wrap .u8 (Cr .shr .u32 (S8.n (GJ x (EE x)).v i) 24)))],[.v (.int .u8 (IntKind.wrap .u8 (Cr .shr .u32 (S8.n (GJ x (EE x)).v i) 16)))],[.v (.int .u8 (IntKind.wrap .u8 (Cr .shr .u32 (S8.n (GJ x (EE x)).v i) 8)))],[.v (.int .u8 (IntKind.wrap .u8 (S8.n (GJ x (EE x)).v i)))]]:C0).length<=9223372036854775807:=⟨⟨rfl,rfl,rfl,rfl,trivial⟩,rfl,(by simp only[Lm,Ap,AC];omega),(by simp only[Lm,Ap,AC];omega)⟩;refine Yi b2 (Yi (Ii i ch) ?_);have ew:(((((S8.l (GJ x (EE x)).v).take i).flatMap Ee).map CA++[[AV.v (.int .u8 (IntKind.wrap .u8 (Cr .shr .u32 (S8.n (GJ x (EE x)).v i) 24)))],[.v (.int .u8 (IntKind.wrap .u8 (Cr .shr .u32 (S8.n (GJ x (EE x)).v i) 16)))],[.v (.int .u8 (IntKind.wrap .u8 (Cr .shr .u32 (S8.n (GJ x (EE x)).v i) 8)))],[.v (.int .u8 (IntKind.wrap .u8 (S8.n (GJ x (EE x)).v i)))]])=(((S8.l (GJ x (EE x)).v).take (i+1)).flatMap Ee).map CA):=by rw[co,<-Ar];exact Aa (List.map CA) (Vo (show i<8 by omega))
  refine Xi ⟨i+1,by omega⟩ ?_;exact⟨Dl 8 i ch,⟨⟨(Aa (AV.slice (.id 5 1)) ew),rfl⟩,Zr,Zr,Tv⟩,⟨⟨(show HO.tok 1 (((((S8.l (GJ x (EE x)).v).take i).flatMap Ee).map CA).length+([[.v (.int .u8 (IntKind.wrap .u8 (Cr .shr .u32 (S8.n (GJ x (EE x)).v i) 24)))],[.v (.int .u8 (IntKind.wrap .u8 (Cr .shr .u32 (S8.n (GJ x (EE x)).v i) 16)))],[.v (.int .u8 (IntKind.wrap .u8 (Cr .shr .u32 (S8.n (GJ x (EE x)).v i) 8)))],[.v (.int .u8 (IntKind.wrap .u8 (S8.n (GJ x (EE x)).v i)))]]:C0).length)=.tok 1 ((((S8.l (GJ x (EE x)).v).take (i+1)).flatMap Ee).map CA).length from Aa (HO.tok 1) (Ac.symm.trans (Aa List.length ew))),rfl⟩,Zr,Tv⟩,Fh,Bu aa1⟩
 have h1:¬((i:Int)<(8:Int)):=h1;refine Xi (((S8.l (GJ x (EE x)).v)).flatMap Ee) (Yi (show((((S8.l (GJ x (EE x)).v).take i).flatMap Ee).map CA)=(((S8.l (GJ x (EE x)).v)).flatMap Ee).map CA by rw[show i=8 by omega];rfl) ?_);exact C2 (.refl _) Zr
theorem VZ:∀(n:Nat) (v:S8) (b:CS),b.size<=n->(CZ v b).2.size<64
 |0,v,b,h=>by rw[CZ,AA ch];show b.size<64;omega
 |n+1,v,b,h=>by
  rw[CZ];split
  .exact VZ n _ _ (by simp only[FP];omega)
  .show b.size<64;omega
theorem Za:(GJ x s).rest.size<64:=VZ _ _ _ (Ao _)
theorem ig{x:HS}(hx:x.rest.size<64):∀l:List CS,(ND x l).rest.size<64:=fun l=>by
 unfold ND
 induction l generalizing x with
 |nil=>exact hx
 |cons a l ih=>exact ih (Za _ _)
theorem ld(l:List CS)(i:Nat)(h:i<l.length):ND x (l.take (i+1))=GJ (GJ (ND x (l.take i)) (E5 (IntKind.wrap .u64 (l[i].size:Int)))) l[i]:=by
 rw[A6 h,ND,List.foldl_append];rfl
theorem Xu:(lc x).size=32:=by
 have e:∀m:List Int,(m.flatMap Ee).length=4*m.length:=fun m=>by
  induction m with
  |nil=>rfl
  |cons a m ih=>rw[Ib,Ac,ih];show 4+_=4*(_+1);omega
 show((((GJ x (EE x)).v.l).flatMap Ee).toArray).size=32;rw[KF,e];rfl
def KM(d:CS):Nat->Int
 |0=>0
 |i+1=>Cq .or .u64 (Cr .shl .u64 (KM d i) 8) (IntKind.wrap .u64 ((Do d i).toNat:Int))
def X4:Int:=KM (Qm ⟨#[99,111,104,111,114,116]⟩ [name,user]) 8 % 100
theorem ZL(d:CS)(i:Nat):0<=KM d i:=by
 cases i with
 |zero=>exact Bs 0
 |succ i=>exact Vp _
theorem fJ:0<=X4 name user/\X4 name user<100:=⟨Nw _ Wk,OK _ Wk⟩
theorem qq(tag:CS)(l:List CS)(hn:l.length<=1000000)(ht:tag.size<=100000000)(hl:∀s∈l,s.size<=100000000):PC 48 [vs tag,sl Af l] (vs (Qm tag l)):=by
 refine Ps CQ func48 rfl (Nz rfl) (Xi (.gen [] 1) (Yi rfl (AU.to2 Acz ?_)));refine C1 (C2 (ql (IntKind.wrap .u64 tag.size)) (Yi (show(((E5 (IntKind.wrap .u64 (tag.size:Int))).size+tag.size:Nat):Int)<=9223372036854775807 by rw[KW];omega) ?_));refine Xi (.gen [(10800,1000)] 0) (Yi rfl (AU.to2 (SY PN ((E5 (IntKind.wrap .u64 tag.size))++tag) (by rw[A2];have q:=KW (IntKind.wrap .u64 (tag.size:Int));rw[A2];show 0+_<=_;omega)) ?_));refine Xi {q:Nat // q<=l.length} (Xi (fun q=>⟨[(5,.ref 10800 0),(17,sl Af l),(18,vi (l.map Af).length),(19,vi q.1)],[(10800,.cells (Gp (ND (GJ PN (E5 (IntKind.wrap .u64 (tag.size:Int))++tag)) (l.take q.1))))],Ae⟩) (Xi (fun q=>l.length-q.1) (Yi (Xi ⟨0,Aj _⟩ ?_) ?_)))
 .exact⟨Z4,Z1,Fh,Tv⟩
 intro⟨i,i1⟩;have i1:i<=l.length:=i1;refine Yi (fun h1=>?_) (fun h1=>?_)
 .have h1:(i:Int)<((l.map Af).length:Int):=h1;have n1:=Dh h1;refine Xi (Af l[i]) (Yi (DC n1) (Yi rfl (C1 (C2 (ql (IntKind.wrap .u64 l[i].size)) (Xi (.gen [(10800,1000)] 0) (Yi rfl (AU.to2 (SY (ND (GJ PN (E5 (IntKind.wrap .u64 (tag.size:Int))++tag)) (l.take i)) (E5 (IntKind.wrap .u64 l[i].size)) (by rw[A2];have q:=ig (Za PN (E5 (IntKind.wrap .u64 (tag.size:Int))++tag)) (l.take i);have q2:=KW (IntKind.wrap .u64 (l[i].size:Int));omega)) ?_)))))));refine Xi (.gen [(10800,1000)] 0) (Yi rfl (AU.to2 (SY (GJ (ND (GJ PN (E5 (IntKind.wrap .u64 (tag.size:Int))++tag)) (l.take i)) (E5 (IntKind.wrap .u64 l[i].size))) l[i] (by rw[A2];have q:=Za (ND (GJ PN (E5 (IntKind.wrap .u64 (tag.size:Int))++tag)) (l.take i)) (E5 (IntKind.wrap .u64 (l[i].size:Int)));have q2:=hl l[i] (Ai n1);omega)) ?_));refine Yi (Ii i ch) (Xi ⟨i+1,by omega⟩ ?_);exact⟨Dl l.length i ch,Z4,⟨⟨(show HO.cells (Gp (GJ (GJ (ND (GJ PN (E5 (IntKind.wrap .u64 (tag.size:Int))++tag)) (l.take i)) (E5 (IntKind.wrap .u64 l[i].size))) l[i]))=.cells (Gp (ND (GJ PN (E5 (IntKind.wrap .u64 (tag.size:Int))++tag)) (l.take (i+1))))from Aa (fun z=>HO.cells (Gp z)) (ld _ l i n1).symm),rfl⟩,Tv⟩,Fh,Tv⟩
 have h1:¬((i:Int)<((l.map Af).length:Int)):=h1;have n1:=BB h1;refine Xi (.gen [(10800,1000)] 0) (Yi rfl (AU.to2 (yG (ND (GJ PN (E5 (IntKind.wrap .u64 (tag.size:Int))++tag)) (l.take i)) (ig (Za _ _) _)) ?_));have e:l.take i=l:=As ch;exact BC.of_eq (Aa (fun z=>vs (lc (ND (GJ PN (E5 (IntKind.wrap .u64 (tag.size:Int))++tag)) z))) e)
theorem yB(d:CS)(hs:d.size=32)(hd:PC 48 [vs ⟨#[99,111,104,111,114,116]⟩,sl Af [name,user]] (vs d)):PC 15 [vs name,vs user] (vi (KM d 8 % 100)):=by
 refine Ps CQ func15 rfl (Nz rfl) (C1 (C2 hd (Xi {q:Nat // q<=8} (Xi (fun q=>⟨[(5,vs d),(6,.v (.int .u64 (KM d q.1))),(14,vi (min 8 d.size)),(15,vi q.1)],[],Ae⟩) (Xi (fun q=>8-q.1) (Yi (Xi ⟨0,Aj _⟩ ?_) ?_))))))
 .exact⟨Z4,Tv,Fh,Tv⟩
 intro⟨i,i1⟩;have i1:i<=8:=i1;refine Yi (fun h1=>?_) (fun h1=>?_)
 .have h1:(i:Int)<(min 8 d.size:Int):=h1;refine Yi Wk (Xi (Do d i) (Yi (Lh (z:=(i:Int)) (show i<d.size by omega) rfl) (Yi (Ii i ch) (Xi ⟨i+1,by omega⟩ ?_))));exact⟨Dl 8 i ch,Z4,Tv,Fh,Tv⟩
 have h1:¬((i:Int)<(min 8 d.size:Int)):=h1;refine Yi (show 0<=KM d i/\(0:Int)<100 from⟨ZL _ _,by decide⟩) (Yi (show Az (KM d i % 100) by unfold Az;have q1:=Nw (KM d i) (show(100:Int)≠0 by decide);have q2:=OK (KM d i) (show(0:Int)<100 by decide);omega) ?_);have e:i=8:=ch
 subst e;exact .refl _
theorem Acv(h1:name.size<=100000000)(h2:user.size<=100000000):PC 15 [vs name,vs user] (vi (X4 name user)):=
 yB name user _ (Xu _) (qq _ _ (show 2<=1000000 by omega) Wk (fun s hs=>by
  rcases AZ.1 hs with e | hs
  .rw[e];exact h1
  .rw[AQ.1 hs];exact h2))
structure Vt where
 (t p:Int)
variable (l:List Vt)
abbrev CG(s:Vt):List AV:=[vi s.t,vi s.p]
def NC(last:Int):List Vt->Int
 | []=>0
 |s::r=>if s.t<=last\/s.p<0\/100<s.p then 1 else NC s.t r
def BA:Int:=if 1024<l.length then 7 else NC (-1) l
def Nr(AK o:Int)(s:Vt):Int:=if s.t<=AK then s.p else o
def HH(AK:Int):Int:=l.foldl (Nr AK) 0
theorem PZ{l:List Vt}{AK:Int}{i:Nat}(h:i<l.length):HH (l.take (i+1)) AK=Nr AK (HH (l.take i) AK) l[i]:=by
 rw[A6 h,HH,List.foldl_append];rfl
theorem YZ{l:List Vt}{i:Nat}(h:i<l.length)(h1:¬(l[i].t<=last\/l[i].p<0\/100<l[i].p)):NC last (l.drop i)=NC l[i].t (l.drop (i+1)):=by
 rw[AD h,NC,AA h1]
theorem LN{l:List Vt}{i:Nat}(h:i<l.length)(h1:l[i].t<=last\/l[i].p<0\/100<l[i].p):NC last (l.drop i)=1:=by
 rw[AD h,NC,Ax h1]
theorem Vn(hl:BD l):PC 13 [sl CG l] (vi (BA l)):=by
 have hl:l.length<=1073741824:=hl;refine Ps CQ func13 rfl (Nz rfl) (Yi (fun h1=>?_) (fun h1=>?_))
 .have h1:(1024:Int)<((l.map CG).length:Int):=h1;have n1:1024<l.length:=by have q:=h1;rw[Lm]at q;omega
  exact BC.of_eq (Aa vi (show 7=BA l by rw[BA,Ax ch]))
 have h1:¬((1024:Int)<((l.map CG).length:Int)):=h1;have n1:¬1024<l.length:=by have q:=h1;rw[Lm]at q;omega
 refine Xi {q:Nat×Int // q.1<=l.length/\NC q.2 (l.drop q.1)=NC (-1) l} (Xi (fun q=>⟨[(3,vi q.1.2),(9,sl CG l),(10,vi (l.map CG).length),(11,vi q.1.1)],[],Ae⟩) (Xi (fun q=>l.length-q.1.1) (Yi (Xi ⟨(0,-1),Aj _,rfl⟩ ?_) ?_)))
 .exact⟨Z4,Tv,Fh,Tv⟩
 intro⟨⟨i,la⟩,i1,i2⟩;have i1:i<=l.length:=i1;have i2:NC la (l.drop i)=NC (-1) l:=i2;refine Yi (fun h3=>?_) (fun h3=>?_)
 .have h3:(i:Int)<((l.map CG).length:Int):=h3;have n3:=Dh h3;refine Xi (CG l[i]) (Yi (DC n3) (Yi rfl (yN (yN (Yi (fun h4=>?_) (fun h4=>?_))))))
  .have h4:(l[i].t:Int)<=(la:Int):=h4;exact BC.of_eq (Aa vi (show 1=BA l by rw[BA,AA ch,<-i2,LN n3 ch]))
  have h4:¬((l[i].t:Int)<=(la:Int)):=h4;refine Yi (fun h6=>?_) (fun h6=>?_)
  .have h6:(l[i].p:Int)<(0:Int):=h6;exact BC.of_eq (Aa vi (show 1=BA l by rw[BA,AA ch,<-i2,LN n3 ch]))
  have h6:¬((l[i].p:Int)<(0:Int)):=h6;refine Yi (fun h8=>?_) (fun h8=>?_)
  .have h8:(100:Int)<(l[i].p:Int):=h8;exact BC.of_eq (Aa vi (show 1=BA l by rw[BA,AA ch,<-i2,LN n3 ch]))
  have h8:¬((100:Int)<(l[i].p:Int)):=h8;refine Yi (Ii i ch) (Xi ⟨(i+1,l[i].t),n3,by rw[<-i2,YZ n3 ch]⟩ ?_);exact⟨Dl l.length i ch,Z4,Tv,Fh,Tv⟩
 have h3:¬((i:Int)<((l.map CG).length:Int)):=h3;have n3:=BB h3;exact BC.of_eq (Aa vi (show 0=BA l by rw[BA,AA ch,<-i2,AN ch];rfl))
theorem vC(AK:Int)(hl:BD l):PC 47 [sl CG l,vi AK] (vi (HH l AK)):=by
 have hl:l.length<=1073741824:=hl;refine Ps CQ func47 rfl (Nz rfl) (Xi {q:Nat // q<=l.length} (Xi (fun q=>⟨[(1,vi AK),(5,vi (HH (l.take q.1) AK)),(8,sl CG l),(9,vi (l.map CG).length),(10,vi q.1)],[],Ae⟩) (Xi (fun q=>l.length-q.1) (Yi (Xi ⟨0,Aj _⟩ ?_) ?_))))
 .exact⟨Z5,Tv,Fh,Tv⟩
 intro⟨i,i1⟩;have i1:i<=l.length:=i1;refine Yi (fun h1=>?_) (fun h1=>?_)
 .have h1:(i:Int)<((l.map CG).length:Int):=h1;have n1:=Dh h1;refine Xi (CG l[i]) (Yi (DC n1) (Yi rfl (yN (yN (Yi (fun h2=>?_) (fun h2=>?_))))))
  .have h2:(l[i].t:Int)<=(AK:Int):=h2;refine Yi (Ii i ch) (Xi ⟨i+1,n1⟩ ?_);exact⟨Dl l.length i ch,⟨Zr,⟨(Aa vi (show l[i].p=HH (l.take (i+1)) AK by rw[PZ n1,Nr,Ax h2])),rfl⟩,Zr,Zr,Zr,Tv⟩,Tv,Fh,Tv⟩
  have h2:¬((l[i].t:Int)<=(AK:Int)):=h2;refine Yi (Ii i ch) (Xi ⟨i+1,n1⟩ ?_);exact⟨Dl l.length i ch,⟨Zr,⟨(Aa vi (show(HH (l.take i) AK)=HH (l.take (i+1)) AK by rw[PZ n1,Nr,AA h2])),rfl⟩,Zr,Zr,Zr,Tv⟩,Tv,Fh,Tv⟩
 have h1:¬((i:Int)<((l.map CG).length:Int)):=h1;have n1:=BB h1;exact BC.of_eq (Aa (fun z=>vi (HH z AK)) (As (AE (BB h1))))
def UU(AK:Int):Int:=if BA l=0 then HH l AK else 0
theorem vv(AK:Int)(hl:BD l):PC 11 [sl CG l,vi AK] (.tup [vi (UU l AK),vi (BA l)]):=by
 refine Ps CQ func11 rfl (Nz rfl) (C1 (C2 (Vn l hl) (Yi (fun h1=>?_) (fun h1=>?_))))
 .have h1:((BA l):Int)≠(0:Int):=h1;exact BC.of_eq (show AV.tup [vi 0,vi (BA l)]=.tup [vi (UU l AK),vi (BA l)] by rw[UU,AA h1])
 have h1:((BA l):Int)=(0:Int):=Aq h1;refine C1 (C2 (vC l AK hl) ?_);exact BC.of_eq (show AV.tup [vi (HH l AK),vi 0]=.tup [vi (UU l AK),vi (BA l)] by rw[UU,Ax h1,h1])
end Go.Eng
namespace Go.Proofs
open Go.Proofs.Tryz
open Go.Shelf
def Tryz.laySortStr_ren:Go.Shelf.Ren:=⟨fun | 190=>99 | 125=>161 | 258=>160 | 128=>228 | 129=>229 | 302=>220 | 303=>221 | 304=>222 | 305=>223 | 306=>224 | 307=>225 | 308=>159 | 309=>226 | 310=>227 | 333=>276 | 329=>277 | 330=>278 | 334=>279 | 335=>280 | 336=>198 | 344=>319 | n=>n,fun | 31=>52 | 9=>9 | 3=>3 | 46=>99 | 0=>0 | 51=>229 | 53=>98 | 4=>4 | 183=>316 | 182=>315 | 131=>214 | 5=>5 | 218=>357 | 222=>361 | 228=>389 | 229=>390 | n=>n,fun | n=>n⟩
theorem Tryz.laySortStr:Go.Proofs.Lays.n190 Tryz.prog Tryz.laySortStr_ren:={
 mixed:=by kernel_rfl
 f125:=Go.Eng.A0a func161
 f128:=Go.Eng.A0a func228
 f129:=Go.Eng.A0a func229
 f190:=Go.Eng.A0a func99
 f258:=Go.Eng.A0a func160
 f302:=Go.Eng.A0a func220
 f303:=Go.Eng.A0a func221
 f304:=Go.Eng.A0a func222
 f305:=Go.Eng.A0a func223
 f306:=Go.Eng.A0a func224
 f307:=Go.Eng.A0a func225
 f308:=Go.Eng.A0a func159
 f309:=Go.Eng.A0a func226
 f310:=Go.Eng.A0a func227
 f329:=Go.Eng.A0a func277
 f330:=Go.Eng.A0a func278
 f333:=Go.Eng.A0a func276
 f334:=Go.Eng.A0a func279
 f335:=Go.Eng.A0a func280
 f336:=Go.Eng.A0a func198
 f344:=Go.Eng.A0a func319
 t0:=underlying0
 a0:=isAgg0
 z0:=sizeOf0
 v0:=zeroValue0
 t3:=underlying3
 a3:=isAgg3
 z3:=sizeOf3
 v3:=zeroValue3
 t4:=underlying4
 a4:=isAgg4
 z4:=sizeOf4
 v4:=zeroValue4
 t5:=underlying5
 a5:=isAgg5
 z5:=sizeOf5
 v5:=zeroValue5
 t9:=underlying9
 a9:=isAgg9
 z9:=sizeOf9
 v9:=zeroValue9
 t31:=underlying52
 a31:=isAgg52
 z31:=sizeOf52
 v31:=zeroValue52
 t46:=underlying99
 a46:=isAgg99
 z46:=sizeOf99
 v46:=zeroValue99
 t51:=underlying229
 a51:=isAgg229
 z51:=sizeOf229
 v51:=zeroValue229
 t53:=underlying98
 a53:=isAgg98
 z53:=sizeOf98
 v53:=zeroValue98
 t131:=underlying214
 a131:=isAgg214
 z131:=sizeOf214
 v131:=zeroValue214
 t182:=underlying315
 a182:=isAgg315
 z182:=sizeOf315
 v182:=zeroValue315
 t183:=underlying316
 a183:=isAgg316
 z183:=sizeOf316
 v183:=zeroValue316
 t218:=underlying357
 a218:=isAgg357
 z218:=sizeOf357
 v218:=zeroValue357
 t222:=underlying361
 a222:=isAgg361
 z222:=sizeOf361
 v222:=zeroValue361
 t228:=underlying389
 a228:=isAgg389
 z228:=sizeOf389
 v228:=zeroValue389
 t229:=underlying390
 a229:=isAgg390
 z229:=sizeOf390
 v229:=zeroValue390 }
def Tryz.layCompactStr_ren:Go.Shelf.Ren:=⟨fun | 194=>183 | n=>n,fun | 31=>52 | 9=>9 | 3=>3 | 4=>4 | 0=>0 | n=>n,fun | n=>n⟩
theorem Tryz.layCompactStr:Go.Proofs.Lays.n194 Tryz.prog Tryz.layCompactStr_ren:={
 mixed:=by kernel_rfl
 f194:=Go.Eng.A0a func183
 t0:=underlying0
 a0:=isAgg0
 z0:=sizeOf0
 v0:=zeroValue0
 t3:=underlying3
 a3:=isAgg3
 z3:=sizeOf3
 v3:=zeroValue3
 t4:=underlying4
 a4:=isAgg4
 z4:=sizeOf4
 v4:=zeroValue4
 t9:=underlying9
 a9:=isAgg9
 z9:=sizeOf9
 v9:=zeroValue9
 t31:=underlying52
 a31:=isAgg52
 z31:=sizeOf52
 v31:=zeroValue52 }
end Go.Proofs
namespace Go.Eng
open Go.Proofs Go.Shelf Go.RowKit Go.Lib Go.Sort
variable (ss:List CS)(zs:List (List UInt8))(s:CS)
abbrev Ks:List UInt8:=s.data.toList
abbrev Sr(l:List UInt8):CS:=⟨l.toArray⟩
theorem rl:Sr (Ks s)=s:=B0
theorem M6:((zs.map Sr).map Af).flatten=(zs.map Go.Proofs.encStr).map AV.v:=by
 induction zs<;>simp_all
theorem XY:(ss.map Ks).map Sr=ss:=by
 rw[Bw,show Sr ∘ Ks=id from funext rl,Hp]
theorem AbB(t:List CS)(hl:BD ss)(Ef:ss≠[])(hp:t.Perm ss)(ht:(t.map Ks).Pairwise fun a b=>a<=b) :
  AU Tryz.prog 99 [.msl 1000 ss.length] (Ak [(1000,.arr 1 (ss.map Af))] Ae) fun r h'=>r=.tup []/\h'=Ak [(1000,.arr 1 (t.map Af))] Ae:=by
 have hE:FL Tryz.prog 99:=ZX 99 Tryz.func99 aa1 rfl;obtain⟨zs,hz⟩:∃zs,zs=ss.map Ks:=⟨_,rfl⟩;have FE:ss=zs.map Sr:=by rw[hz,XY]
 have I4:=Qz (P:=Tryz.prog) (f:=99) (es:=ss.map Af) (sz:=1) (rest:=[]) (Q:=fun FR=>FR=t.map Af) hE ?_ ?_
 .rw[Lm]at I4;refine⟨hE,fun g w vals q1 q2 q3=>(I4.2 g w vals q1 q2 q3).mono fun _ _ ⟨v,r,h',g',e1,⟨e2,FR,p1,p3⟩,rest⟩=>⟨v,r,h',g',e1,⟨e2,by grind⟩,rest⟩⟩
 .intro e;exact absurd (Eg.1 e) Ef
 .intro g w b cap F hr hF hH hb;have hFl:F.toList=zs.map Go.Proofs.encStr:=LJ (by rw[<-M6,<-FE];exact hr);have hFz:F=zs.toArray.map Go.Proofs.encStr:=Tb.1 aa0;have aG:zs.length=ss.length:=aa0
  have hH2:Holds Go.Proofs.encStr w b 0 zs.toArray:=fun j hj=>by
   have:=hH j aa0
   grind
  have hc:=Any.slices_Sort_string Tryz.laySortStr b 0 cap zs w hH2 hb ch;have htz:(zs.mergeSort fun x y=>decide (x<=y))=t.map Ks:=by
   have I6:(zs.mergeSort fun x y=>decide (x<=y)).Perm zs:=NG _ _;have Abm:=Tf (le:=fun x y:List UInt8=>decide (x<=y)) (fun a b c h1 h2=>by grind) (fun a b=>by grind) zs;refine List.Perm.eq_of_pairwise (le:=fun a b=>a<=b) (fun a b _ _ h k=>List.le_antisymm h k) (Abm.imp fun h=>AT h) ht (I6.trans ?_)
   grind
  rw[htz,aG]at hc;rw[Lm];refine hc.mono ?_
  rintro e w' ⟨rfl,n,os,rfl⟩
  have EU:t.length=ss.length:=hp.length_eq;refine⟨rfl,(t.map Ks).toArray.map Go.Proofs.encStr,t.map Af,n,os,?_,rfl,by grind,fun cs hcs=>?_,fun g w _=>?_,by rw[Re]⟩
  .grind
  .obtain⟨x,_,rfl⟩:=Ay.1 hcs;rfl
  .have e1:t.map Af=((t.map Ks).map Sr).map Af:=by rw[XY]
   rw[e1,M6];have e:(((t.map Ks).toArray.map Go.Proofs.encStr).toList)=(t.map Ks).map Go.Proofs.encStr:=Cl
   rw[e];exact Nt _ _ _ _ fun x hx=>by
    obtain⟨z,_,rfl⟩:=Ay.1 hx;rfl
def B8:List CS:=(Lib.compact (ss.map Ks)).map Sr
theorem Mq:(Lib.compact zs).length<=zs.length:=by
 grind [Lib.compact,Lib.compactUpTo]
theorem Agd(hl:BD ss)(Ef:ss≠[]) :
  AU Tryz.prog 183 [.msl 1000 ss.length] (Ak [(1000,.arr 1 (ss.map Af))] Ae) fun r h'=>r=.msl 2000 (B8 ss).length/\h'=Ak [(1000,.dead),(2000,.arr 1 ((B8 ss).map Af))] Ae:=by
 have hE:FL Tryz.prog 183:=ZX 183 Tryz.func183 aa1 rfl;obtain⟨zs,hz⟩:∃zs,zs=ss.map Ks:=⟨_,rfl⟩;have FE:ss=zs.map Sr:=by rw[hz,XY]
 have aG:zs.length=ss.length:=aa0
 have hcl:=Mq zs;have I4:=Wa (P:=Tryz.prog) (f:=183) (es:=ss.map Af) (sz:=1) (rest:=[]) (n':=(Lib.compact zs).length) (Q:=fun FR=>FR=((Lib.compact zs++List.replicate (zs.length-(Lib.compact zs).length) []).map Sr).map Af) hE (fun e=>Ef (Eg.1 e)) aa0 ?_
 .rw[Lm]at I4;have ez:B8 ss=(Lib.compact zs).map Sr:=by unfold B8;rw[hz]
  refine⟨hE,fun g w vals q1 q2 q3=>(I4.2 g w vals q1 q2 q3).mono fun _ _ ⟨x,r,h',g',e1,⟨e2,FR,p1,p2⟩,rest⟩=>⟨x,r,h',g',e1,⟨by grind,by
   rw[p2,p1,ez,Ar,Ar,List.take_append_of_le_length aa0,As aa0]⟩,rest⟩⟩
 .intro g w b cap F hr hF hH hb hc;rw[Lm]at hF hc⊢;have hFl:F.toList=zs.map Go.Proofs.encStr:=LJ (by rw[<-M6,<-FE];exact hr);have hFz:F=zs.toArray.map Go.Proofs.encStr:=Tb.1 aa0;have hH2:Holds Go.Proofs.encStr w b 0 zs.toArray:=fun j hj=>by
   have:=hH j aa0
   grind
  have hcon:=Any.slices_Compact_string Tryz.layCompactStr b 0 cap zs w hH2 ch ch;rw[aG]at hcon;refine hcon.mono ?_
  rintro e w' ⟨rfl,q,rfl⟩
  refine⟨rfl,(Lib.compact zs++List.replicate (zs.length-(Lib.compact zs).length) []).toArray.map Go.Proofs.encStr,_,q,#[],?_,rfl,?_,fun cs hcs=>?_,fun g w _=>?_,?_⟩
  .rw[hFz];simp;omega
  .simp;omega
  .obtain⟨x,_,rfl⟩:=Ay.1 hcs;rfl
  .rw[M6];have e:((Lib.compact zs++List.replicate (zs.length-(Lib.compact zs).length) []).toArray.map Go.Proofs.encStr).toList=(Lib.compact zs++List.replicate (zs.length-(Lib.compact zs).length) []).map Go.Proofs.encStr:=Cl
   rw[e];exact Nt _ _ _ _ fun x hx=>by
    obtain⟨z,_,rfl⟩:=Ay.1 hx;rfl
  .rw[Re,grow_empty,aG]
end Go.Eng
namespace Go.Eng
open Go.Proofs
abbrev Agi(n:Nat):Qx:=⟨[],[],[(2,n),(5,n)],[],[],[],[5],[],[],[],[2,3]⟩
theorem Ah4(l:List Sl)(hl:BD l):AU Tryz.prog 138 [sl Ab l] (Ak [] Ae) fun r h'=>r=.msl 2000 l.length/\h'=Ak [(2000,.arr 4 (l.map Ab))] Ae:=by
 refine BX (Ms (Agi 4)) [(2,2000)] rfl Ct hm rfl Tryz.func138 aa1 rfl (Nz rfl) aa1 rfl ?_;have F5:Bi 4 (l.map Ab)/\([]:C0).length=0/\(([]:C0).length+(l.map Ab).length)*40<=140737488355328/\([]:C0).length+(l.map Ab).length<=9223372036854775807:=by
  refine⟨BV (enc:=Ab) (n:=4) (fun _=>rfl) l,rfl,?_,?_⟩<;>simp only[AC,Lm]<;>unfold BD at hl<;>omega
 have e1:AV.msl 2000 (([]:C0).length+(l.map Ab).length)=.msl 2000 l.length:=Cl
 refine Xi 0 (Xi 0 (Yi ?_ ?_))
 .intro _;refine cU [(0,sl Ab l)] [] Z1 Tv (Xi 2 (Yi F5 ?_));exact C2 (.refl _) (Yi e1 rfl)
 .intro h;refine Yi ?_ ?_
  .refine Xi ⟨[],[],Ae⟩ (Yi ⟨trivial,trivial,fun _=>.inl rfl,Bu aa1⟩ ?_);refine Xi 2 ?_;exact C2 (.refl _) (Yi (show AV.msl 2000 0=_ by rw[Eg.1 h];rfl) (show Ak [(2000,HO.arr 4 [])] Ae=_ by rw[h]))
  .refine cU [(0,sl Ab l)] [] Z1 Tv (Xi 2 (Yi F5 ?_));exact C2 (.refl _) (Yi e1 rfl)
end Go.Eng
