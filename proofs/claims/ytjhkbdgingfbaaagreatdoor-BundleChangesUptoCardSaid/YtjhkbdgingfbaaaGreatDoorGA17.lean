/- Lemmas 17. -/
import Derived.Test.YtjhkbdgingfbaaaGreatDoorGA16
import Derived.Shelf.Strconv.Itoa3
import Derived.Shelf.Strings.Repeat
import Derived.Shelf.Pu.Clone
import Derived.Ground.NamesProg
import Derived.Ground.MpProg
import Derived.Lib.RepeatB
set_option maxHeartbeats 4000000
namespace Go.Eng
open Go.Proofs
variable (x:HS)(s:ByteArray)
theorem ib(W Kk:List Int)(r8:S8)(hW:W.length=64)(hK:Kk.length=64)(hr:Dk W Kk x.v 64=r8)(hc:PC 170 [vs s] (.agg (W.map Dt)))(hk:PC 171 [] (.agg (Kk.map Dt))):BL Tryz.prog 107 [.ref 1000 0,vs s] (AC [(1000,.cells (Fo x))] Ao) fun r h'=>r=.tup []/\h'=AC [(1000,.cells (Fo ⟨bt x.v r8,x.rest,x.tot⟩))] Ao:=by
 refine DK (Wd (pC [] [2,11])) [(1000,1000)] rfl DZ hm rfl Tryz.func107 sT rfl (Nz rfl) sT rfl (Xi .pure (Xi _ (Yi hc (Xi .pure (Xi _ (Yi hk ?_))))))
 conv=>whnf
 refine Yw (show Nat.beq (W.map Dt).length 64=true from by rw[Lm,hW];rfl) (Yi (show 0+(W.map Dt).length<=64 from by rw[Lm];omega) ?_)
 conv=>whnf
 refine Yw (show Nat.beq (Kk.map Dt).length 64=true from by rw[Lm,hK];rfl) (Yi (show 0+(Kk.map Dt).length<=64 from by rw[Lm];omega) (cU [(0,.ref 1000 0),(4,.v (.func (.func 168) #[] #[])),(5,.ref 5 0),(6,.ref 6 0)] [(5,.cells (W.map Dt)),(6,.cells (Kk.map Dt)),(1000,.cells (Fo x))] Z4 ⟨⟨(Aa HO.cells (Jd (show 64=(W.map Dt).length by rw[Lm,hW]))),(Us _ _)⟩,⟨(Aa HO.cells (Jd (show 64=(Kk.map Dt).length by rw[Lm,hK]))),(Us _ _)⟩,Zr,Tv⟩ ?_))
 refine yN (yN (Xi {q:Nat // q<=64} (Xi (fun q=>⟨[(0,.ref 1000 0),(4,.v (.func (.func 168) #[] #[])),(5,.ref 5 0),(6,.ref 6 0),(7,.ref 7 0),(26,vi q.1)],[(5,.cells (W.map Dt)),(6,.cells (Kk.map Dt)),(7,.cells (Sm (Dk W Kk x.v q.1))),(1000,.cells (Fo x))],Ao⟩) (Xi (fun q=>64-q.1) (Yi (Xi ⟨0,Ar _⟩ ?_) ?_)))))
 .exact⟨Z6,⟨⟨rfl,(Us _ _)⟩,⟨rfl,(Us _ _)⟩,Zr,Zr,Tv⟩,Fh,ED sT⟩
 intro⟨i,i1⟩;have i1:i<=64:=i1;refine Yi (fun h1=>?_) (fun h1=>?_)
 .have h1:(i:Int)<(64:Int):=h1;refine Yi ⟨by decide,by decide⟩ ?_;refine Yi ⟨by decide,by decide⟩ ?_;refine Yi ⟨by decide,by decide⟩ ?_;refine Yi ⟨by decide,by decide⟩ ?_;refine Yi ⟨by decide,by decide⟩ ?_;refine Yi ⟨by decide,by decide⟩ ?_;refine Yi sT (Yi ⟨by decide,by decide⟩ ?_);refine Xi _ (Yi (aM (Dk W Kk x.v i).e 6 11 25 sR sR sR sR) (Yi (show(0:Int)<=i/\(i:Int)<(64:Nat)from by omega) (E6 (KU (Rn (show i<Kk.length by omega)) (show(0+(i:Int).toNat*1)=i by omega)) (Yi (show(0:Int)<=i/\(i:Int)<(64:Nat)from by omega) (E6 (KU (Rn (show i<W.length by omega)) (show(0+(i:Int).toNat*1)=i by omega)) (Yi sT (Xi .pure (Xi _ (Yi (aM (Dk W Kk x.v i).a 2 13 22 sR sR sR sR) (Yi ⟨by decide,by decide⟩ ?_))))))))));refine yN (Yi (Ii i sP) (Xi ⟨i+1,by omega⟩ ?_));exact⟨Dl 64 i sP,Z6,⟨⟨rfl,(Us _ _)⟩,⟨rfl,(Us _ _)⟩,Zr,Zr,Tv⟩,Fh,ED sT⟩
 have h1:¬((i:Int)<(64:Int)):=h1;refine cU [(0,.ref 1000 0),(7,.ref 7 0)] [(7,.cells (Sm r8)),(1000,.cells (Fo x))] Z2 ⟨⟨(Aa (fun z=>HO.cells (Sm z)) (show Dk W Kk x.v i=r8 by rw[show i=64 by omega,hr])),rfl⟩,Zr,Tv⟩ (yN (Xi {q:Nat // q<=8} (Xi (fun q=>⟨[(0,.ref 1000 0),(94,.agg [.v (.int .u32 r8.a),.v (.int .u32 r8.b),.v (.int .u32 r8.c),.v (.int .u32 r8.d),.v (.int .u32 r8.e),.v (.int .u32 r8.f),.v (.int .u32 r8.g),.v (.int .u32 r8.h)]),(95,vi q.1)],[(1000,.cells (My x.v r8 q.1 [vs x.rest,.v (.int .u64 x.tot)]))],Ao⟩) (Xi (fun q=>8-q.1) (Yi (Xi ⟨0,Ar _⟩ ?_) ?_)))))
 .exact⟨Z3,Z1,Fh,ED sT⟩
 intro⟨j,j1⟩;have j1:j<=8:=j1;refine Yi (fun h3=>?_) (fun h3=>?_)
 .have h3:(j:Int)<(8:Int):=h3;refine Yi (show(0:Int)<=j/\(j:Int)<(8:Nat)from by omega) (E6 (dK (v:=r8) (show j<8 by omega) (show((j:Int).toNat*1)=j by omega)) (Yi (show(0:Int)<=j/\(j:Int)<(8:Nat)from by omega) (E6 (YH (show j<8 by omega) (show(0+(j:Int).toNat*1)=j by omega)) (Yi (show(0:Int)<=j/\(j:Int)<(8:Nat)from by omega) (Yi (show(0+(j:Int).toNat*1)+1<=((My x.v r8 j [vs x.rest,.v (.int .u64 x.tot)])).length from by show(0+(j:Int).toNat*1)+1<=10;omega) ?_)))));refine Yi sT (Yi (Ii j sP) (Xi ⟨j+1,by omega⟩ ?_));exact⟨Dl 8 j sP,Z3,⟨⟨(show HO.cells (over (My x.v r8 j [vs x.rest,.v (.int .u64 x.tot)]) (0+(j:Int).toNat*1) [.v (.int .u32 (IntKind.wrap .u32 ((S8.n x.v j)+(S8.n r8 j))))])=.cells (My x.v r8 (j+1) [vs x.rest,.v (.int .u64 x.tot)])from Aa HO.cells (ZW (show j<8 by omega) sP)),rfl⟩,Tv⟩,Fh,ED sT⟩
 have h3:¬((j:Int)<(8:Int)):=h3;have e8:j=8:=by omega
 subst e8;exact Xi _ (Yi (.refl _) Zr)
theorem lA(hs:s.size=64):BL Tryz.prog 107 [.ref 1000 0,vs s] (AC [(1000,.cells (Fo x))] Ao) fun r h'=>r=.tup []/\h'=AC [(1000,.cells (Fo ⟨RB x.v s,x.rest,x.tot⟩))] Ao:=
 ib x s (BE s 64) kK _ (DD s 64) rfl rfl (lD s hs) dp
end Go.Eng
namespace Go.Proofs
open Go.Shelf
def Tryz.layItoa_ren:Go.Shelf.Ren:=⟨fun | 171=>101 | 243=>161 | 246=>211 | 283=>259 | 284=>260 | 285=>261 | 286=>262 | 129=>121 | 317=>295 | 318=>296 | 319=>297 | 320=>298 | 337=>325 | 338=>326 | n=>n,fun | 3=>3 | 9=>9 | 2=>2 | 4=>4 | 171=>317 | 0=>0 | 53=>177 | 37=>68 | 5=>5 | 173=>319 | 212=>345 | 51=>155 | 20=>20 | 213=>346 | 46=>127 | 232=>382 | 233=>383 | n=>n,fun | 17=>1 | 18=>6 | 19=>7 | n=>n⟩
theorem Tryz.layItoa:Go.Proofs.LaysM.n171 Tryz.prog Tryz.layItoa_ren:={
 mixed:=by kernel_rfl
 f129:=Tryz.func121.trans (congrArg some Go.Eng.sT)
 f171:=Tryz.func101.trans (congrArg some Go.Eng.sT)
 f243:=Tryz.func161.trans (congrArg some Go.Eng.sT)
 f246:=Tryz.func211.trans (congrArg some Go.Eng.sT)
 f283:=Tryz.func259.trans (congrArg some Go.Eng.sT)
 f284:=Tryz.func260.trans (congrArg some Go.Eng.sT)
 f285:=Tryz.func261.trans (congrArg some Go.Eng.sT)
 f286:=Tryz.func262.trans (congrArg some Go.Eng.sT)
 f317:=Tryz.func295.trans (congrArg some Go.Eng.sT)
 f318:=Tryz.func296.trans (congrArg some Go.Eng.sT)
 f319:=Tryz.func297.trans (congrArg some Go.Eng.sT)
 f320:=Tryz.func298.trans (congrArg some Go.Eng.sT)
 f337:=Tryz.func325.trans (congrArg some Go.Eng.sT)
 f338:=Tryz.func326.trans (congrArg some Go.Eng.sT)
 t0:=Tryz.underlying0
 a0:=Tryz.isAgg0
 z0:=Tryz.sizeOf0
 v0:=Tryz.zeroValue0
 t2:=Tryz.underlying2
 a2:=Tryz.isAgg2
 z2:=Tryz.sizeOf2
 v2:=Tryz.zeroValue2
 t3:=Tryz.underlying3
 a3:=Tryz.isAgg3
 z3:=Tryz.sizeOf3
 v3:=Tryz.zeroValue3
 t4:=Tryz.underlying4
 a4:=Tryz.isAgg4
 z4:=Tryz.sizeOf4
 v4:=Tryz.zeroValue4
 t5:=Tryz.underlying5
 a5:=Tryz.isAgg5
 z5:=Tryz.sizeOf5
 v5:=Tryz.zeroValue5
 t9:=Tryz.underlying9
 a9:=Tryz.isAgg9
 z9:=Tryz.sizeOf9
 v9:=Tryz.zeroValue9
 t20:=Tryz.underlying20
 a20:=Tryz.isAgg20
 z20:=Tryz.sizeOf20
 v20:=Tryz.zeroValue20
 t37:=Tryz.underlying68
 a37:=Tryz.isAgg68
 z37:=Tryz.sizeOf68
 v37:=Tryz.zeroValue68
 t46:=Tryz.underlying127
 a46:=Tryz.isAgg127
 z46:=Tryz.sizeOf127
 v46:=Tryz.zeroValue127
 t51:=Tryz.underlying155
 a51:=Tryz.isAgg155
 z51:=Tryz.sizeOf155
 v51:=Tryz.zeroValue155
 t53:=Tryz.underlying177
 a53:=Tryz.isAgg177
 z53:=Tryz.sizeOf177
 v53:=Tryz.zeroValue177
 t171:=Tryz.underlying317
 a171:=Tryz.isAgg317
 z171:=Tryz.sizeOf317
 v171:=Tryz.zeroValue317
 t173:=Tryz.underlying319
 a173:=Tryz.isAgg319
 z173:=Tryz.sizeOf319
 v173:=Tryz.zeroValue319
 t212:=Tryz.underlying345
 a212:=Tryz.isAgg345
 z212:=Tryz.sizeOf345
 v212:=Tryz.zeroValue345
 t213:=Tryz.underlying346
 a213:=Tryz.isAgg346
 z213:=Tryz.sizeOf346
 t232:=Tryz.underlying382
 a232:=Tryz.isAgg382
 z232:=Tryz.sizeOf382
 v232:=Tryz.zeroValue382
 t233:=Tryz.underlying383
 a233:=Tryz.isAgg383
 z233:=Tryz.sizeOf383
 v233:=Tryz.zeroValue383
 g17:=by kernel_rfl
 g18:=by kernel_rfl
 g19:=by kernel_rfl
 i0:=by kernel_rfl
 i2:=by kernel_rfl
 i3:=by kernel_rfl
 i4:=by kernel_rfl
 i5:=by kernel_rfl
 i9:=by kernel_rfl
 i20:=by kernel_rfl
 i37:=by kernel_rfl
 i46:=by kernel_rfl
 i51:=by kernel_rfl
 i53:=by kernel_rfl
 i171:=by kernel_rfl
 i173:=by kernel_rfl
 i212:=by kernel_rfl
 i232:=by kernel_rfl
 i233:=by kernel_rfl
 m17:=by kernel_rfl
 m18:=by kernel_rfl
 m19:=by kernel_rfl }
def Tryz.layRepeat_ren:Go.Shelf.Ren:=⟨fun | 105=>110 | 212=>173 | 99=>174 | 165=>99 | 166=>57 | 170=>175 | 169=>61 | 263=>223 | 264=>224 | 206=>225 | 240=>98 | 241=>160 | 276=>159 | 277=>210 | n=>n,fun | 9=>9 | 3=>3 | 4=>4 | 20=>20 | 0=>0 | 46=>127 | 109=>245 | 5=>5 | 72=>104 | 76=>107 | 51=>155 | 146=>285 | 53=>177 | 148=>287 | 70=>102 | 37=>68 | 75=>106 | 127=>170 | 164=>235 | 80=>112 | n=>n,fun | n=>n⟩
theorem Tryz.layRepeat:Go.Proofs.Lays.n105 Tryz.prog Tryz.layRepeat_ren:={
 mixed:=by kernel_rfl
 f99:=Tryz.func174.trans (congrArg some Go.Eng.sT)
 f105:=Tryz.func110.trans (congrArg some Go.Eng.sT)
 f165:=Tryz.func99.trans (congrArg some Go.Eng.sT)
 f166:=Tryz.func57.trans (congrArg some Go.Eng.sT)
 f169:=Tryz.func61.trans (congrArg some Go.Eng.sT)
 f170:=Tryz.func175.trans (congrArg some Go.Eng.sT)
 f206:=Tryz.func225.trans (congrArg some Go.Eng.sT)
 f212:=Tryz.func173.trans (congrArg some Go.Eng.sT)
 f240:=Tryz.func98.trans (congrArg some Go.Eng.sT)
 f241:=Tryz.func160.trans (congrArg some Go.Eng.sT)
 f263:=Tryz.func223.trans (congrArg some Go.Eng.sT)
 f264:=Tryz.func224.trans (congrArg some Go.Eng.sT)
 f276:=Tryz.func159.trans (congrArg some Go.Eng.sT)
 f277:=Tryz.func210.trans (congrArg some Go.Eng.sT)
 t0:=Tryz.underlying0
 a0:=Tryz.isAgg0
 z0:=Tryz.sizeOf0
 v0:=Tryz.zeroValue0
 t3:=Tryz.underlying3
 a3:=Tryz.isAgg3
 z3:=Tryz.sizeOf3
 v3:=Tryz.zeroValue3
 t4:=Tryz.underlying4
 a4:=Tryz.isAgg4
 z4:=Tryz.sizeOf4
 v4:=Tryz.zeroValue4
 t5:=Tryz.underlying5
 a5:=Tryz.isAgg5
 z5:=Tryz.sizeOf5
 v5:=Tryz.zeroValue5
 t9:=Tryz.underlying9
 a9:=Tryz.isAgg9
 z9:=Tryz.sizeOf9
 v9:=Tryz.zeroValue9
 t20:=Tryz.underlying20
 a20:=Tryz.isAgg20
 z20:=Tryz.sizeOf20
 v20:=Tryz.zeroValue20
 t37:=Tryz.underlying68
 a37:=Tryz.isAgg68
 z37:=Tryz.sizeOf68
 v37:=Tryz.zeroValue68
 t46:=Tryz.underlying127
 a46:=Tryz.isAgg127
 z46:=Tryz.sizeOf127
 v46:=Tryz.zeroValue127
 t51:=Tryz.underlying155
 a51:=Tryz.isAgg155
 z51:=Tryz.sizeOf155
 v51:=Tryz.zeroValue155
 t53:=Tryz.underlying177
 a53:=Tryz.isAgg177
 z53:=Tryz.sizeOf177
 v53:=Tryz.zeroValue177
 t70:=Tryz.underlying102
 a70:=Tryz.isAgg102
 z70:=Tryz.sizeOf102
 v70:=Tryz.zeroValue102
 t72:=Tryz.underlying104
 a72:=Tryz.isAgg104
 z72:=Tryz.sizeOf104
 v72:=Tryz.zeroValue104
 t75:=Tryz.underlying106
 a75:=Tryz.isAgg106
 z75:=Tryz.sizeOf106
 v75:=Tryz.zeroValue106
 t76:=Tryz.underlying107
 a76:=Tryz.isAgg107
 z76:=Tryz.sizeOf107
 v76:=Tryz.zeroValue107
 t109:=Tryz.underlying245
 a109:=Tryz.isAgg245
 z109:=Tryz.sizeOf245
 v109:=Tryz.zeroValue245
 t127:=Tryz.underlying170
 a127:=Tryz.isAgg170
 z127:=Tryz.sizeOf170
 v127:=Tryz.zeroValue170
 t146:=Tryz.underlying285
 a146:=Tryz.isAgg285
 z146:=Tryz.sizeOf285
 v146:=Tryz.zeroValue285
 t148:=Tryz.underlying287
 a148:=Tryz.isAgg287
 z148:=Tryz.sizeOf287
 v148:=Tryz.zeroValue287
 t164:=Tryz.underlying235
 a164:=Tryz.isAgg235
 z164:=Tryz.sizeOf235
 v164:=Tryz.zeroValue235 }
def Tryz.layClone_ren:Go.Shelf.Ren:=⟨fun | 25=>172 | n=>n,fun | 9=>9 | 3=>3 | 4=>4 | 37=>68 | 0=>0 | 47=>170 | 5=>5 | n=>n,fun | n=>n⟩
theorem Tryz.layClone:Go.Proofs.LaysPu.n25 Tryz.prog Tryz.layClone_ren:={
 mixed:=by kernel_rfl
 f25:=Tryz.func172.trans (congrArg some Go.Eng.sT)
 t0:=Tryz.underlying0
 a0:=Tryz.isAgg0
 z0:=Tryz.sizeOf0
 v0:=Tryz.zeroValue0
 i0:=by kernel_rfl
 t3:=Tryz.underlying3
 a3:=Tryz.isAgg3
 z3:=Tryz.sizeOf3
 v3:=Tryz.zeroValue3
 i3:=by kernel_rfl
 t4:=Tryz.underlying4
 a4:=Tryz.isAgg4
 z4:=Tryz.sizeOf4
 v4:=Tryz.zeroValue4
 i4:=by kernel_rfl
 t5:=Tryz.underlying5
 a5:=Tryz.isAgg5
 z5:=Tryz.sizeOf5
 v5:=Tryz.zeroValue5
 i5:=by kernel_rfl
 t9:=Tryz.underlying9
 a9:=Tryz.isAgg9
 z9:=Tryz.sizeOf9
 v9:=Tryz.zeroValue9
 i9:=by kernel_rfl
 t37:=Tryz.underlying68
 a37:=Tryz.isAgg68
 z37:=Tryz.sizeOf68
 v37:=Tryz.zeroValue68
 i37:=by kernel_rfl
 t47:=Tryz.underlying170
 a47:=Tryz.isAgg170
 z47:=Tryz.sizeOf170
 v47:=Tryz.zeroValue170
 i47:=by kernel_rfl }
theorem Tryz.layRepeatX:Builder.Extra Tryz.prog Tryz.layRepeat_ren:={
 sizeBuilder:=by kernel_rfl
 liesBuilder:=by kernel_rfl
 t5:=Tryz.underlying5
 a5:=Tryz.isAgg5
 z5:=Tryz.sizeOf5
 v5:=Tryz.zeroValue5
 infoByte:=by kernel_rfl
 cellsByte:=by kernel_rfl
 sizeByte:=by kernel_rfl
 neB5:=by decide }
end Go.Proofs
namespace Go.Eng
open Go.Proofs
variable (n:Int)(x:HS)(l:List UInt8)(c:UInt8)(s:ByteArray)(i:Nat)
theorem ap(n:Nat):(⟨(Go.Lib.repeatL (ByteArray.mk #[0]).data.toList n).toArray⟩:ByteArray)=XL n:=by
 show(⟨(Go.Lib.repeatL (List.replicate 1 0) n).toArray⟩:ByteArray)=_;rw[Go.Lib.repeatL_replicate,XL];simp
theorem aO(h0:0<=n)(h:n<=100):PC 110 [vs ⟨#[0]⟩,vi n] (vs (XL n.toNat)):=by
 refine Fq [.string ⟨#[0]⟩,.int .i64 n] (.string (XL n.toNat)) (Q0 110 Tryz.func110 sT rfl) rfl (fun g w=>.v _ _) fun w _ _=>?_;have q:=Any.strings_Repeat Tryz.layRepeat Tryz.layRepeatX ⟨#[0]⟩ n.toNat w sP (by show 1*n.toNat<=_;omega);rw[ap,JR h0]at q;exact q
theorem aK(h:s.size<=1000000000):PC 172 [vs s] (vs s):=
 Fq [.string s] (.string s) (Q0 172 Tryz.func172 sT rfl) rfl (fun g w=>.v _ _) fun w _ _=>AnyPu.stringslite_Clone Tryz.layClone s w sP
theorem dn(h:s.size<=1000000000):PC 108 [vs s] (vs s):=by
 refine Ps Dj Tryz.func108 rfl (Nz rfl) (Xi .pure (Xi _ (Yi (aK s h) ?_)));exact .refl _
theorem lB  : BL Tryz.prog 67 [] (AC [] Ao) fun r h'=>r=.ref 2000 0/\h'=AC [(2000,.cells (Fo HY))] Ao:=by
 refine DK (Wd Dj) [(3,2000)] rfl DZ hm rfl Tryz.func67 sT rfl (Nz rfl) sT rfl ?_;exact Xi _ (Yi (.refl _) Zr)
theorem aL:BL Tryz.prog 109 [.ref 1000 0] (AC [(1000,.cells (Fo x))] Ao) fun r h'=>r=.ref 2000 0/\h'=AC [(1000,.cells (Fo x)),(2000,.cells (Fo x))] Ao:=by
 refine DK (Wd Dj) [(1000,1000),(3,2000)] rfl DZ hm rfl Tryz.func109 sT rfl (Nz rfl) sT rfl (yN (yN ?_));exact Xi _ (Yi (.refl _) Zr)
abbrev u8(x:Int):AV:=.v (.int .u8 x)
def Tg:List AV:=(List.range i).map fun(j:Nat)=>u8 (IntKind.wrap .u8 (B0 .shr .u64 n (56-8*(j:Int))))
def ZO:List UInt8:=(List.range 8).map fun(i:Nat)=>UInt8.ofNat (IntKind.wrap .u8 (B0 .shr .u64 n (56-8*(i:Int)))).toNat
theorem Vs:(Tg n i).length=i:=by rw[Tg,Lm,FZ]
theorem kL(h:Nat->HO)(n:Int)(i:Nat):N4 h (.cells (Tg n i++List.replicate (8-i) (u8 0)))=true:=by
 have e:∀l:List Int,Re h (l.map u8++List.replicate (8-i) (u8 0))=true:=fun l=>by
  induction l with
  |nil=>show Re h (List.replicate (8-i) (u8 0))=true;induction (8-i)with |zero=>rfl |succ k ih=>exact ih
  |cons a l ih=>exact ih
 have q:=e ((List.range i).map fun(j:Nat)=>IntKind.wrap .u8 (B0 .shr .u64 n (56-8*(j:Int))));rw[Cw]at q;exact q
theorem ZP{n:Int}{i m:Nat}(h:i<8)(e:m=i):over (Tg n i++List.replicate (8-i) (u8 0)) m [u8 (IntKind.wrap .u8 (B0 .shr .u64 n (56-8*(i:Int))))]=Tg n (i+1)++List.replicate (8-(i+1)) (u8 0):=by
 rw[show 8-i=(8-(i+1))+1 by omega,List.replicate_succ,Lj (by rw[Vs];exact e.symm),Tg,Tg,List.range_succ,AK,B2];rfl
theorem aQ(z:Int):((UInt8.ofNat (IntKind.wrap .u8 z).toNat).toNat:Int)=IntKind.wrap .u8 z:=by
 have h1:0<=IntKind.wrap .u8 z:=G9 _ sR;have h2:IntKind.wrap .u8 z<256:=Int.emod_lt_of_pos _ sR;rw[UInt8.toNat_ofNat',Nl sP];omega
theorem WU(h:Nat->HO)(n:Int):(((Tg n 8).map (str h)).map fun c=>[c])=(ZO n).map fun b=>[AV.v (.int .u8 b.toNat)]:=by
 rw[Tg,ZO,Cw,Cw,Cw];refine BH fun i _=>?_;show [AV.v (.int .u8 _)]=[AV.v (.int .u8 _)];rw[aQ]
theorem lC:PC 111 [.v (.int .u64 n)] (vs (MW n)):=by
 refine Ps ⟨[],[(17,1)],[],[(17,[3])],[],[],[],[],[],[],[7]⟩ Tryz.func111 rfl (Nz rfl) (Xi {q:Nat // q<=8} (Xi (fun q=>⟨[(0,.v (.int .u64 n)),(3,.ref 3 0),(5,vi q.1)],[(3,.cells (Tg n q.1++List.replicate (8-q.1) (u8 0)))],Ao⟩) (Xi (fun q=>8-q.1) (Yi (Xi ⟨0,Ar _⟩ ?_) ?_))))
 .exact⟨Z3,⟨⟨rfl,(kL _ _ _)⟩,Tv⟩,Fh,Tv⟩
 intro⟨i,i1⟩;have i1:i<=8:=i1;refine Yi (fun h1=>?_) (fun h1=>?_)
 .have h1:(i:Int)<(8:Int):=h1;refine Yi (by show AE ((8:Int)*(i:Int));unfold AE;omega) (Yi (by show AE ((56:Int)-(8*i:Int));unfold AE;omega) (Yi (show(0:Int)<=56-(8*i) by omega) (Yi (show(0:Int)<=i/\(i:Int)<(8:Nat)from by omega) (Yi (show(0+(i:Int).toNat*1)+1<=((Tg n i++List.replicate (8-i) (u8 0))).length from by rw[Ac,Vs,A7];omega) ?_))));refine Yi (Ii i sP) (Xi ⟨i+1,by omega⟩ ?_);exact⟨Dl 8 i sP,Z3,⟨⟨(show HO.cells (over (Tg n i++List.replicate (8-i) (u8 0)) (0+(i:Int).toNat*1) [.v (.int .u8 (IntKind.wrap .u8 (B0 .shr .u64 n (56-(8*i)))))])=.cells (Tg n (i+1)++List.replicate (8-(i+1)) (u8 0))from Aa HO.cells (ZP (show i<8 by omega) sP)),(kL _ _ _)⟩,Tv⟩,Fh,Tv⟩
 have h1:¬((i:Int)<(8:Int)):=h1;refine cU [(3,.ref 3 0)] [(3,.cells (Tg n 8))] Z1 ⟨⟨(show HO.cells (Tg n i++List.replicate (8-i) (u8 0))=.cells (Tg n 8) by rw[show i=8 by omega];rfl),rfl⟩,Tv⟩ ?_
 refine Yi (show 8=((Tg n 8).map (str _)).length from rfl) (Xi (ZO n) (Yi (WU _ n) ?_));exact .refl _
theorem VJ(hb:(x.rest++s).size<=1000000000):BL Tryz.prog 68 [.ref 1000 0,vs s] (AC [(1000,.cells (Fo x))] Ao) fun r h'=>r=.tup []/\h'=AC [(1000,.cells (Fo (FU x s)))] Ao:=by
 refine DK (Wd Dj) [(1000,1000)] rfl DZ hm rfl Tryz.func68 sT rfl (Nz rfl) sT rfl (yN (Yi (show((x.rest.size+s.size:Nat):Int)<=9223372036854775807 by have q:=hb;rw[AR]at q;omega) (Xi {q:S8×ByteArray // Ca q.1 q.2=Ca x.v (x.rest++s)/\q.2.size<=1000000000} (Xi (fun q=>⟨[(0,.ref 1000 0),(1,vs q.1.2)],[(1000,.cells [.v (.int .u32 q.1.1.a),.v (.int .u32 q.1.1.b),.v (.int .u32 q.1.1.c),.v (.int .u32 q.1.1.d),.v (.int .u32 q.1.1.e),.v (.int .u32 q.1.1.f),.v (.int .u32 q.1.1.g),.v (.int .u32 q.1.1.h),vs x.rest,.v (.int .u64 (IntKind.wrap .u64 (x.tot+(IntKind.wrap .u64 (s.size:Int)))))])],Ao⟩) (Xi (fun q=>q.1.2.size) (Yi (Xi ⟨(x.v,x.rest++s),rfl,hb⟩ ?_) ?_))))))
 .exact⟨Z2,Z1,Fh,ED sT⟩
 intro⟨⟨v,b⟩,v1,v2⟩;have v1:Ca v b=Ca x.v (x.rest++s):=v1;have v2:b.size<=1000000000:=v2;refine Yi (fun h1=>?_) (fun h1=>?_)
 .have h1:(64:Int)<=(b.size:Int):=h1;refine Yi (show(0:Int)<=0/\(0:Int)<=64/\(64:Int)<=(b.size:Int)from by omega) (Xi (.gen [(1000,1000)] 0) (Yi rfl (BL.to2 (lA ⟨v,x.rest,(IntKind.wrap .u64 (x.tot+(IntKind.wrap .u64 (s.size:Int))))⟩ (b.extract 0 64) (by simp only[BO];omega)) ?_)));refine Yi (show(0:Int)<=64/\(64:Int)<=(b.size:Int)/\(b.size:Int)<=(b.size:Int)from by omega) (Xi ⟨(RB v (b.extract 0 64),b.extract 64 b.size),by rw[<-v1,Ca.eq_1 v b,Av sP],by simp only[BO];omega⟩ ?_);exact⟨by show(b.extract 64 b.size).size<b.size;simp only[BO];omega,Z2,Z1,Fh,ED sT⟩
 have h1:¬((64:Int)<=(b.size:Int)):=h1;refine Xi .pure (Xi _ (Yi (dn b v2) (yN ?_)));exact Xi _ (Yi (.refl _) ⟨rfl,show AC [(1000,HO.cells [.v (.int .u32 v.a),.v (.int .u32 v.b),.v (.int .u32 v.c),.v (.int .u32 v.d),.v (.int .u32 v.e),.v (.int .u32 v.f),.v (.int .u32 v.g),.v (.int .u32 v.h),vs b,.v (.int .u64 (IntKind.wrap .u64 (x.tot+(IntKind.wrap .u64 (s.size:Int)))))])] Ao=AC [(1000,.cells (Fo (FU x s)))] Ao from by rw[FU,<-v1,Ca.eq_1 v b,Aj sP]⟩)
theorem Lv(n:Nat):(XL n).size=n:=by show(List.replicate n (0:UInt8)).toArray.size=n;simp
theorem L0:(MW n).size=8:=by show(List.map _ (List.range 8)).toArray.size=8;simp
theorem WZ:(Di x).size<=80:=by
 rw[Di,AR,AR,Lv,L0];show 1+_+8<=80;omega
theorem TK(x:Int):[[AV.v (.int .u8 (IntKind.wrap .u8 (B0 .shr .u32 x 24)))],[.v (.int .u8 (IntKind.wrap .u8 (B0 .shr .u32 x 16)))],[.v (.int .u8 (IntKind.wrap .u8 (B0 .shr .u32 x 8)))],[.v (.int .u8 (IntKind.wrap .u8 x))]]=(Db x).map Bj:=by
 simp only[Db,Bq,EJ,Bj,aQ]
theorem TL(l:List Int)(i:Nat)(h:i<=8):((l.take i).flatMap Db).length<=32:=by
 have e:∀m:List Int,(m.flatMap Db).length=4*m.length:=fun m=>by
  induction m with
  |nil=>rfl
  |cons a m ih=>rw[List.flatMap_cons,Ac,ih];show 4+_=4*(_+1);omega
 rw[e,Al];omega
theorem OT{l:List Int}{i:Nat}(h:i<l.length):(l.take i).flatMap Db++Db (DR l i)=(l.take (i+1)).flatMap Db:=by
 rw[A2,OS h,List.flatMap_append];simp
theorem ic(hx:x.rest.size<64):BL Tryz.prog 69 [.ref 1000 0] (AC [(1000,.cells (Fo x))] Ao) fun r h'=>r=vs (Xx x)/\h'=AC [(1000,.cells (Fo x))] Ao:=by
 refine DK (Wd ⟨[],[(5,1)],[],[],[],[],[],[],[(28,5)],[],[]⟩) [(1000,1000)] rfl DZ hm rfl Tryz.func69 sT rfl (Nz rfl) sT rfl (Xi (.gen [(1000,1000)] 1) (Yi rfl (BL.to2 (aL x) ?_)));refine Yi (by show AE ((119:Int)-(x.rest.size:Int));unfold AE;omega) (Yi ⟨by omega,by omega⟩ ?_);refine Xi _ (Yi (aO (((119-x.rest.size) % 64:Int)) sP sP) (Yi (show(((⟨#[128]⟩:ByteArray).size+(XL (((119-x.rest.size) % 64:Int)).toNat).size:Nat):Int)<=9223372036854775807 by have q:(⟨#[128]⟩:ByteArray).size=1:=rfl;simp only[Lv];omega) ?_));refine Xi _ (Yi (lC (IntKind.wrap .u64 (8*x.tot))) (Yi (show(((⟨#[128]⟩++(XL (((119-x.rest.size) % 64:Int)).toNat):ByteArray).size+(MW (IntKind.wrap .u64 (8*x.tot))).size:Nat):Int)<=9223372036854775807 by have q:(⟨#[128]⟩:ByteArray).size=1:=rfl;simp only[AR,Lv,L0];omega) ?_));refine Xi [(10900,1000)] (Xi [(1000,.cells (Fo x))] (Xi [(1000,.cells (Fo (FU x (Di x))))] (Xi [.ref 1000 0,vs (Di x)] (Xi (.tup []:AV) (Yi (fun h2 hh=>Yi ((Aa (fun o:HO=>AC [(1000,o.ren (B5 [(10900,1000)]) h2)] Ao) (show h2 10900=.cells (Fo x)from hh 10900 sR)).trans rfl) rfl) (Yi sT (Yi (VJ x (Di x) (by rw[AR];have q:=WZ x;omega)) ?_)))))));refine Yi sT (yN (Xi {q:Nat // q<=8} (Xi (fun q=>⟨[(5,.slice (.id 5 1) ((((S8.l (FU x (Di x)).v).take q.1).flatMap Db).map Bj)),(32,.agg [.v (.int .u32 (FU x (Di x)).v.a),.v (.int .u32 (FU x (Di x)).v.b),.v (.int .u32 (FU x (Di x)).v.c),.v (.int .u32 (FU x (Di x)).v.d),.v (.int .u32 (FU x (Di x)).v.e),.v (.int .u32 (FU x (Di x)).v.f),.v (.int .u32 (FU x (Di x)).v.g),.v (.int .u32 (FU x (Di x)).v.h)]),(33,vi q.1)],[(5,.tok 1 ((((S8.l (FU x (Di x)).v).take q.1).flatMap Db).map Bj).length),(1000,.cells (Fo x))],Ao⟩) (Xi (fun q=>8-q.1) (Yi (Xi ⟨0,Ar _⟩ ?_) ?_)))))
 .exact⟨Z3,Z2,Fh,ED sT⟩
 intro⟨i,i1⟩;have i1:i<=8:=i1;refine Yi (fun h1=>?_) (fun h1=>?_)
 .have h1:(i:Int)<(8:Int):=h1;have qd:=TL (S8.l (FU x (Di x)).v) i i1;refine Yi (show(0:Int)<=i/\(i:Int)<(8:Nat)from by omega) (E6 (dK (v:=(FU x (Di x)).v) (show i<8 by omega) (show((i:Int).toNat*1)=i by omega)) (Yi sR (Yi sR (Yi sR ?_))));have b2:Cn 1 [[.v (.int .u8 (IntKind.wrap .u8 (B0 .shr .u32 (S8.n (FU x (Di x)).v i) 24)))],[.v (.int .u8 (IntKind.wrap .u8 (B0 .shr .u32 (S8.n (FU x (Di x)).v i) 16)))],[.v (.int .u8 (IntKind.wrap .u8 (B0 .shr .u32 (S8.n (FU x (Di x)).v i) 8)))],[.v (.int .u8 (IntKind.wrap .u8 (S8.n (FU x (Di x)).v i)))]]/\((((S8.l (FU x (Di x)).v).take i).flatMap Db).map Bj).length=((((S8.l (FU x (Di x)).v).take i).flatMap Db).map Bj).length/\(((((S8.l (FU x (Di x)).v).take i).flatMap Db).map Bj).length+([[.v (.int .u8 (IntKind.wrap .u8 (B0 .shr .u32 (S8.n (FU x (Di x)).v i) 24)))],[.v (.int .u8 (IntKind.wrap .u8 (B0 .shr .u32 (S8.n (FU x (Di x)).v i) 16)))],[.v (.int .u8 (IntKind.wrap .u8 (B0 .shr .u32 (S8.n (FU x (Di x)).v i) 8)))],[.v (.int .u8 (IntKind.wrap .u8 (S8.n (FU x (Di x)).v i)))]]:List (List AV)).length)*1<=140737488355328/\((((S8.l (FU x (Di x)).v).take i).flatMap Db).map Bj).length+([[.v (.int .u8 (IntKind.wrap .u8 (B0 .shr .u32 (S8.n (FU x (Di x)).v i) 24)))],[.v (.int .u8 (IntKind.wrap .u8 (B0 .shr .u32 (S8.n (FU x (Di x)).v i) 16)))],[.v (.int .u8 (IntKind.wrap .u8 (B0 .shr .u32 (S8.n (FU x (Di x)).v i) 8)))],[.v (.int .u8 (IntKind.wrap .u8 (S8.n (FU x (Di x)).v i)))]]:List (List AV)).length<=9223372036854775807:=⟨⟨rfl,rfl,rfl,rfl,trivial⟩,rfl,(by simp only[Lm,Am,Aw];omega),(by simp only[Lm,Am,Aw];omega)⟩;refine Yi b2 (Yi (Ii i sP) ?_);have ew:(((((S8.l (FU x (Di x)).v).take i).flatMap Db).map Bj++[[AV.v (.int .u8 (IntKind.wrap .u8 (B0 .shr .u32 (S8.n (FU x (Di x)).v i) 24)))],[.v (.int .u8 (IntKind.wrap .u8 (B0 .shr .u32 (S8.n (FU x (Di x)).v i) 16)))],[.v (.int .u8 (IntKind.wrap .u8 (B0 .shr .u32 (S8.n (FU x (Di x)).v i) 8)))],[.v (.int .u8 (IntKind.wrap .u8 (S8.n (FU x (Di x)).v i)))]])=(((S8.l (FU x (Di x)).v).take (i+1)).flatMap Db).map Bj):=by rw[TK,<-AK];exact Aa (List.map Bj) (OT (show i<8 by omega))
  refine Xi ⟨i+1,by omega⟩ ?_;exact⟨Dl 8 i sP,⟨⟨(Aa (AV.slice (.id 5 1)) ew),rfl⟩,Zr,Zr,Tv⟩,⟨⟨(show HO.tok 1 (((((S8.l (FU x (Di x)).v).take i).flatMap Db).map Bj).length+([[.v (.int .u8 (IntKind.wrap .u8 (B0 .shr .u32 (S8.n (FU x (Di x)).v i) 24)))],[.v (.int .u8 (IntKind.wrap .u8 (B0 .shr .u32 (S8.n (FU x (Di x)).v i) 16)))],[.v (.int .u8 (IntKind.wrap .u8 (B0 .shr .u32 (S8.n (FU x (Di x)).v i) 8)))],[.v (.int .u8 (IntKind.wrap .u8 (S8.n (FU x (Di x)).v i)))]]:List (List AV)).length)=.tok 1 ((((S8.l (FU x (Di x)).v).take (i+1)).flatMap Db).map Bj).length from Aa (HO.tok 1) (Ac.symm.trans (Aa List.length ew))),rfl⟩,Zr,Tv⟩,Fh,ED sT⟩
 have h1:¬((i:Int)<(8:Int)):=h1;refine Xi (((S8.l (FU x (Di x)).v)).flatMap Db) (Yi (show((((S8.l (FU x (Di x)).v).take i).flatMap Db).map Bj)=(((S8.l (FU x (Di x)).v)).flatMap Db).map Bj by rw[show i=8 by omega];rfl) ?_);exact Xi _ (Yi (.refl _) Zr)
theorem Px:∀(n:Nat) (v:S8) (b:ByteArray),b.size<=n->(Ca v b).2.size<64
 |0,v,b,h=>by rw[Ca,Aj sP];show b.size<64;omega
 |n+1,v,b,h=>by
  rw[Ca];split
  .exact Px n _ _ (by simp only[BO];omega)
  .show b.size<64;omega
theorem ig:(FU x s).rest.size<64:=Px _ _ _ (Ad _)
theorem Xy:(Xx x).size=32:=by
 have e:∀m:List Int,(m.flatMap Db).length=4*m.length:=fun m=>by
  induction m with
  |nil=>rfl
  |cons a m ih=>rw[List.flatMap_cons,Ac,ih];show 4+_=4*(_+1);omega
 show((((FU x (Di x)).v.l).flatMap Db).toArray).size=32;rw[CF,e];rfl
structure Cp where
 path:ByteArray
 ver:Ver
 bytes:ByteArray
 deriving DecidableEq
abbrev Aq(c:Cp):List AV:=[vs c.path,vi c.ver.a,vi c.ver.b,vi c.ver.c,vs c.bytes]
abbrev A6(c:Cp):Sl:=⟨c.path,c.ver⟩
def Bu:ByteArray:=Xx (FU HY s)
theorem L9:(Bu s).size=32:=Xy _
def LK:ByteArray:=⟨#[48,49,50,51,52,53,54,55,56,57,97,98,99,100,101,102]⟩
abbrev Sx:UInt8:=Bl LK (c.toNat / 16)
abbrev Sz:UInt8:=Bl LK (c.toNat % 16)
def Fz:List UInt8:=l.flatMap fun c=>[Sx c,Sz c]
def GZ:ByteArray:=⟨(Fz s.data.toList).toArray⟩
theorem NX:(Fz l).length=2*l.length:=by
 unfold Fz
 induction l with
 |nil=>rfl
 |cons a l ih=>rw[List.flatMap_cons,Ac,ih];show 2+_=2*(_+1);omega
theorem pi:B0 .shr .u8 (c.toNat:Int) 4=((c.toNat / 16:Nat):Int):=by
 show(c.toNat:Int).fdiv 16=_;rw[Int.fdiv_eq_ediv_of_nonneg _ sR];rfl
theorem eQ:∀n:Nat,n<256->BV .and .u8 (n:Int) 15=((n % 16:Nat):Int):=by decide +kernel
theorem jc:BV .and .u8 (c.toNat:Int) 15=((c.toNat % 16:Nat):Int):=eQ _ c.toNat_lt
theorem ci:[[AV.v (.int .u8 ((Sx c).toNat:Int))],[.v (.int .u8 ((Sz c).toNat:Int))]]=(Fz [c]).map Bj:=rfl
theorem Y5{l:List UInt8}{i:Nat}(h:i<l.length):Fz (l.take i)++Fz [l[i]]=Fz (l.take (i+1)):=by
 rw[A2,Ge h];unfold Fz;rw[List.flatMap_append];rfl
theorem IU(hs:s.size<=100000000):PC 27 [vs s] (vs (Bu s)):=by
 refine Ps Dj Tryz.func27 rfl (Nz rfl) (Xi (.gen [] 1) (Yi rfl (BL.to2 lB ?_)));refine Xi (.gen [(10400,1000)] 0) (Yi rfl (BL.to2 (VJ HY s (by rw[AR];show 0+s.size<=_;omega)) ?_));refine Xi (.gen [(10400,1000)] 0) (Yi rfl (BL.to2 (ic (FU HY s) (ig _ _)) ?_));exact .refl _
theorem Sd(h:i<s.data.toList.length):Bl s i=s.data.toList[i]:=by
 unfold Bl;rw[<-Az,Ge h];rfl
theorem jk(hs:s.size<=1000000):PC 60 [vs s] (vs (GZ s)):=by
 refine Ps (pT [] [(8,1)] []) Tryz.func60 rfl (Nz rfl) (Yi (by show AE ((2:Int)*(s.size:Int));unfold AE;omega) (Yi (show(0:Int)<=0/\(0:Int)<=2*s.size/\(2*s.size:Int)*1<=140737488355328/\(2*s.size:Int)<=9223372036854775807 by omega) (Xi {q:Nat // q<=s.size} (Xi (fun q=>⟨[(0,vs s),(3,.slice (.id 8 1) ((Fz (s.data.toList.take q.1)).map Bj)),(10,vi s.size),(11,vi q.1)],[(8,.tok 1 ((Fz (s.data.toList.take q.1)).map Bj).length)],Ao⟩) (Xi (fun q=>s.size-q.1) (Yi (Xi ⟨0,Ar _⟩ ?_) ?_))))))
 .exact⟨Z4,Z1,Fh,Tv⟩
 intro⟨i,i1⟩;have i1:i<=s.size:=i1;have e0:s.data.toList.length=s.size:=rfl;have fY:(Fz (s.data.toList.take i)).length<=2*s.size:=by rw[NX,Al];omega
 refine Yi (fun h1=>?_) (fun h1=>?_)
 .have h1:(i:Int)<(s.size:Int):=h1;have hi:i<s.data.toList.length:=by omega
  refine Xi (Bl s i) (Yi (FG (z:=(i:Int)) (show i<s.size by omega) rfl) (Yi sR (Xi (Sx (Bl s i)) (Yi (FG (s:=LK) (z:=(B0 .shr .u8 ((Bl s i).toNat:Int) 4)) (n:=(Bl s i).toNat / 16) (show _<16 by have q:=(Bl s i).toNat_lt;omega) (pi _)) (Xi (Bl s i) (Yi (FG (z:=(i:Int)) (show i<s.size by omega) rfl) (Xi (Sz (Bl s i)) (Yi (FG (s:=LK) (z:=(BV .and .u8 ((Bl s i).toNat:Int) 15)) (n:=(Bl s i).toNat % 16) (show _<16 by omega) (jc _)) ?_))))))));have b2:Cn 1 [[.v (.int .u8 ((Sx (Bl s i)).toNat:Int))],[.v (.int .u8 ((Sz (Bl s i)).toNat:Int))]]/\((Fz (s.data.toList.take i)).map Bj).length=((Fz (s.data.toList.take i)).map Bj).length/\(((Fz (s.data.toList.take i)).map Bj).length+([[.v (.int .u8 ((Sx (Bl s i)).toNat:Int))],[.v (.int .u8 ((Sz (Bl s i)).toNat:Int))]]:List (List AV)).length)*1<=140737488355328/\((Fz (s.data.toList.take i)).map Bj).length+([[.v (.int .u8 ((Sx (Bl s i)).toNat:Int))],[.v (.int .u8 ((Sz (Bl s i)).toNat:Int))]]:List (List AV)).length<=9223372036854775807:=⟨⟨rfl,rfl,trivial⟩,rfl,(by simp only[Lm,Am,Aw];omega),(by simp only[Lm,Am,Aw];omega)⟩;refine Yi b2 (Yi sT (Yi (Ii i sP) ?_));have ew:((Fz (s.data.toList.take i)).map Bj++[[AV.v (.int .u8 ((Sx (Bl s i)).toNat:Int))],[.v (.int .u8 ((Sz (Bl s i)).toNat:Int))]])=(Fz (s.data.toList.take (i+1))).map Bj:=by rw[ci,<-AK];exact Aa (List.map Bj) ((Aa (fun z=>Fz (s.data.toList.take i)++Fz [z]) (Sd s i hi)).trans (Y5 (show i<s.data.toList.length by omega)))
  refine Xi ⟨i+1,by omega⟩ ?_;exact⟨Dl s.size i sP,⟨Zr,⟨(Aa (AV.slice (.id 8 1)) ew),rfl⟩,Zr,Zr,Tv⟩,⟨⟨(show HO.tok 1 (((Fz (s.data.toList.take i)).map Bj).length+([[.v (.int .u8 ((Sx (Bl s i)).toNat:Int))],[.v (.int .u8 ((Sz (Bl s i)).toNat:Int))]]:List (List AV)).length)=.tok 1 ((Fz (s.data.toList.take (i+1))).map Bj).length from Aa (HO.tok 1) (Ac.symm.trans (Aa List.length ew))),rfl⟩,Tv⟩,Fh,Tv⟩
 have h1:¬((i:Int)<(s.size:Int)):=h1;refine Xi (Fz s.data.toList) (Yi (show(Fz (s.data.toList.take i)).map Bj=(Fz s.data.toList).map Bj by rw[As sP]) ?_);exact .refl _
theorem fm:PC 256 [vc c] (vb (Ds c)):=by
 refine Ps Dj Tryz.func256 rfl (Nz rfl) ?_;have e1:decide ((97:UInt8)<=c)=decide ((97:Int)<=(c.toNat:Int)):=Qx c 97 sR;have e2:decide (c<=(122:UInt8))=decide ((c.toNat:Int)<=(122:Int)):=Qw c 122 sR;have es:Ds c=(decide ((97:Int)<=(c.toNat:Int))&&decide ((c.toNat:Int)<=(122:Int))):=by unfold Ds;rw[e1,e2]
 refine Yi ?_ ?_
 .intro h;refine Yi ?_ ?_
  .intro h2;exact .of_eq (Aa vb (show true=Ds c by rw[es,Ah h,Ah h2];rfl))
  .intro h2;exact .of_eq (Aa vb (show false=Ds c by rw[es,Ae h2,CN]))
 .intro h;exact .of_eq (Aa vb (show false=Ds c by rw[es,Ae h];rfl))
theorem bF:PC 257 [vc c] (vb (BT c)):=by
 refine Ps Dj Tryz.func257 rfl (Nz rfl) ?_;have e1:decide ((48:UInt8)<=c)=decide ((48:Int)<=(c.toNat:Int)):=Qx c 48 sR;have e2:decide (c<=(57:UInt8))=decide ((c.toNat:Int)<=(57:Int)):=Qw c 57 sR;have es:BT c=(decide ((48:Int)<=(c.toNat:Int))&&decide ((c.toNat:Int)<=(57:Int))):=by unfold BT;rw[e1,e2]
 refine Yi ?_ ?_
 .intro h;refine Yi ?_ ?_
  .intro h2;exact .of_eq (Aa vb (show true=BT c by rw[es,Ah h,Ah h2];rfl))
  .intro h2;exact .of_eq (Aa vb (show false=BT c by rw[es,Ae h2,CN]))
 .intro h;exact .of_eq (Aa vb (show false=BT c by rw[es,Ae h];rfl))
theorem ng:PC 337 [vc c] (vb (IW c)):=by
 refine Ps Dj Tryz.func337 rfl (Nz rfl) ?_;have e1:decide ((65:UInt8)<=c)=decide ((65:Int)<=(c.toNat:Int)):=Qx c 65 sR;have e2:decide (c<=(90:UInt8))=decide ((c.toNat:Int)<=(90:Int)):=Qw c 90 sR;have es:IW c=(decide ((65:Int)<=(c.toNat:Int))&&decide ((c.toNat:Int)<=(90:Int))):=by unfold IW;rw[e1,e2]
 refine Yi ?_ ?_
 .intro h;refine Yi ?_ ?_
  .intro h2;exact .of_eq (Aa vb (show true=IW c by rw[es,Ah h,Ah h2];rfl))
  .intro h2;exact .of_eq (Aa vb (show false=IW c by rw[es,Ae h2,CN]))
 .intro h;exact .of_eq (Aa vb (show false=IW c by rw[es,Ae h];rfl))
theorem nf:PC 324 [vc c] (vb (Ei c)):=by
 have h1:=fm c;have h2:=ng c;have h3:=bF c;have ew:Ei c=(Ds c||IW c||BT c||decide (c=95)):=rfl;rcases Bt (Ds c)with e | e
 .rw[e]at h1;refine Ps Dj Tryz.func324 rfl (Nz rfl) (Xi .pure (Xi _ (Yi (h1) ?_)));exact .of_eq (Aa vb (show true=Ei c by rw[ew,e];rfl))
 rw[e]at h1;rcases Bt (IW c)with e2 | e2
 .rw[e2]at h2;refine Ps Dj Tryz.func324 rfl (Nz rfl) (Xi .pure (Xi _ (Yi (h1) (Xi .pure (Xi _ (Yi (h2) ?_))))));exact .of_eq (Aa vb (show true=Ei c by rw[ew,e,e2];rfl))
 rw[e2]at h2;rcases Bt (BT c)with e3 | e3
 .rw[e3]at h3;refine Ps Dj Tryz.func324 rfl (Nz rfl) (Xi .pure (Xi _ (Yi (h1) (Xi .pure (Xi _ (Yi (h2) (Xi .pure (Xi _ (Yi (h3) ?_)))))))));exact .of_eq (Aa vb (show true=Ei c by rw[ew,e,e2,e3];rfl))
 rw[e3]at h3;refine Ps Dj Tryz.func324 rfl (Nz rfl) (Xi .pure (Xi _ (Yi (h1) (Xi .pure (Xi _ (Yi (h2) (Xi .pure (Xi _ (Yi (h3) ?_)))))))));have eb:decide (c=95)=decide ((c.toNat:Int)=95):=by
  rw[Dp,A3,A3];constructor
  .intro h;subst h;rfl
  .intro h;exact EH.1 (by show c.toNat=95;omega)
 refine Yi ?_ ?_
 .intro h;exact .of_eq (Aa vb (show true=Ei c by rw[ew,e,e2,e3,eb,Ah h];rfl))
 .intro h;exact .of_eq (Aa vb (show false=Ei c by rw[ew,e,e2,e3,eb,Ae h];rfl))
theorem na(hs:s.data.toList.length<4611686018427387904):PC 292 [vs s] (vb (s.data.toList.all Ei)):=by
 have Dm:s.size=s.data.toList.length:=by simp
 refine Ps Dj Tryz.func292 rfl (Nz rfl) (Xi {i:Nat // i<=s.data.toList.length/\∀j (hj:j<s.data.toList.length),j<i->Ei s.data.toList[j]=true} (Xi (fun i=>⟨[(0,vs s),(3,vi i.1)],[],Ao⟩) (Xi (fun i=>s.data.toList.length-i.1) (Yi (Xi ⟨0,Ar _,fun j _ h=>by omega⟩ ?_) ?_))))
 .exact⟨Z2,Tv,Fh,Tv⟩
 intro⟨i,h1,h2⟩;refine Yi ?_ ?_
 .intro h;have h:(i:Int)<(s.size:Nat):=h;have h:i<s.data.toList.length:=by omega
  refine Xi s.data.toList[i] (Yi ⟨by show(0:Int)<=i;omega,by show s.data[((i:Nat):Int).toNat]?=_;rw[A1];exact Jo s i h⟩ ?_);have hc:=nf s.data.toList[i];refine Bn (Bt (Ei s.data.toList[i])) (fun e=>?_) (fun e=>?_)
  .rw[e]at hc;refine Xi .pure (Xi _ (Yi (hc) (Yi (Ii i sP) (Xi ⟨i+1,by omega,fun j hj Gn=>?_⟩ ?_))))
   .rcases Be j i with z | z
    .exact h2 j hj z
    .have:j=i:=by omega
     subst this;exact e
   .exact⟨Dl s.data.toList.length i sP,Z2,Tv,Fh,Tv⟩
  .rw[e]at hc;refine Xi .pure (Xi _ (Yi (hc) ?_));have er:s.data.toList.all Ei=false:=by
    rw[A8];intro ha
    have:=AJ.1 ha _ (Af h)
    rw[e]at this;cases this
   exact .of_eq (Aa vb er.symm)
 .intro h;have h:¬(i:Int)<(s.size:Nat):=h;have er:s.data.toList.all Ei=true:=AJ.2 fun c hc=>by
   obtain⟨j,hj,rfl⟩:=BB hc;exact h2 j hj sP
  exact .of_eq (Aa vb er.symm)
abbrev md:List ByteArray:=gE.map bs
theorem ne:PC 294 [] (sl encStr md):=by
 refine Ps Dj Tryz.func294 rfl (Nz rfl) ?_;exact .refl _
theorem nd(l:List ByteArray)(s:ByteArray)(hl:CC l):PC 293 [sl encStr l,vs s] (vb (l.any fun q=>decide (q=s))):=by
 unfold CC at hl;refine Ps Dj Tryz.func293 rfl (Nz rfl) (Xi {i:Nat // i<=l.length/\∀j (hj:j<l.length),j<i->l[j]≠s} (Xi (fun i=>⟨[(0,sl encStr l),(1,vs s),(5,vi i.1)],[],Ao⟩) (Xi (fun i=>l.length-i.1) (Yi (Xi ⟨0,Ar _,fun j _ h=>by omega⟩ ?_) ?_))))
 .exact⟨Z3,Tv,Fh,Tv⟩
 intro⟨i,h1,h2⟩;refine Yi ?_ ?_
 .intro h;have h:i<l.length:=by simpa using h
  have hg:l[i]?=some l[i]:=Ge h;refine Xi (encStr l[i]) (Yi (Yi (Nn i) (by simp[hg])) (Yi rfl ?_));refine Yi ?_ ?_
  .intro he;exact .of_eq (Aa vb (show true=_ from(Br.2 ⟨l[i],Af h,by simpa using he⟩).symm))
  .intro he;refine Yi (Ii i sP) (Xi ⟨i+1,by omega,fun j hj Gn=>?_⟩ ?_)
   .rcases Be j i with z | z
    .exact h2 j hj z
    .have:j=i:=by omega
     subst this;exact he
   .exact⟨Dl l.length i sP,Z3,Tv,Fh,Tv⟩
 .intro h;have h:¬i<l.length:=by simpa using h
  have er:(l.any fun q=>decide (q=s))=false:=by
   rw[HD];intro q hq;obtain⟨j,hj,rfl⟩:=BB hq;simpa using h2 j hj sP
  exact .of_eq (Aa vb er.symm)
theorem js{w:List UInt8}{s:ByteArray}:bs w=s↔w=s.data.toList:=by
 constructor
 .intro h;rw[<-h];rfl
 .intro h;rw[h];rfl
theorem gG:(md.any fun q=>decide (q=s))=gE.any (fun w=>decide (w=s.data.toList)):=by
 unfold md;rw[List.any_map]
 congr 1
 funext w
 simp only[Function.comp];rw[decide_eq_decide];exact js
theorem m7(hs:s.data.toList.length<4611686018427387904):PC 258 [vs s] (vb (EE s.data.toList)):=by
 have Dm:s.size=s.data.toList.length:=by simp
 obtain⟨N,hN⟩:∃N,N=EE s.data.toList:=⟨_,rfl⟩;rw[<-hN];unfold EE at hN;have cd:=na s hs;have YX:=nd md s sR;rw[gG]at YX;refine Ps Dj Tryz.func258 rfl (Nz rfl) (Yi (fun h=>?_) (fun h=>?_))
 rotate_left
 .have e:s.data.toList=[]:=AF sP;exact .of_eq (Aa vb (show false=N by rw[hN,e];rfl))
 have he:s.data.toList.isEmpty=false:=by
  cases e:s.data.toList with
  |nil=>rw[e,Aw]at Dm;omega
  |cons _ _=>rfl
 refine Yi (fun h2=>?_) (fun h2=>?_)
 rotate_left
 .exact .of_eq (Aa vb (show false=N by rw[hN,he,Ae sP];rfl))
 refine BF (show ∃c l,s.data.toList=c::l by cases e:s.data.toList with | nil=>rw[e]at he;cases he | cons c l=>exact⟨c,l,rfl⟩) (fun c hc=>?_);refine BF hc (fun l hc=>?_);refine Xi c (Yi ⟨by decide,by show s.data[(0:Int).toNat]?=_;rw[<-Az,hc];rfl⟩ ?_);have cc:=fm c;have hN:N=(Ds c&&s.data.toList.all Ei&&!Pl s.data.toList):=by
  rw[hN,he,Ah sP,hc];rfl
 refine Bn (Bt (Ds c)).symm (fun e=>?_) (fun e=>?_)
 .rw[e]at cc;refine Xi .pure (Xi _ (Yi (cc) ?_));exact .of_eq (Aa vb (show false=N by rw[hN,e];rfl))
 rw[e]at cc;refine Xi .pure (Xi _ (Yi (cc) (Bn (Bt (s.data.toList.all Ei)).symm (fun e2=>?_) (fun e2=>?_))))
 .rw[e2]at cd;refine Xi .pure (Xi _ (Yi (cd) ?_));exact .of_eq (Aa vb (show false=N by rw[hN,e,e2];rfl))
 rw[e2]at cd;refine Xi .pure (Xi _ (Yi (cd) (Xi .pure (Xi _ (Yi (ne) ?_)))));rw[Uv e2]at hN;refine Bn (Bt (gE.any (fun w=>decide (w=s.data.toList)))) (fun e3=>?_) (fun e3=>?_)
 .rw[e3]at YX;refine Xi .pure (Xi _ (Yi (YX) ?_));exact .of_eq (Aa vb (show false=N by rw[hN,e,e2,e3];rfl))
 .rw[e3]at YX;refine Xi .pure (Xi _ (Yi (YX) ?_));exact .of_eq (Aa vb (show true=N by rw[hN,e,e2,e3];rfl))
theorem ax{s:ByteArray}:Fa s.data.toList=(s.data.toList.all JP&&EE s.data.toList):=by
 unfold Fa;rw[Bool.and_comm]
theorem mY(hs:s.data.toList.length<4611686018427387904):PC 208 [vs s] (vb (Fa s.data.toList)):=by
 have Dm:s.size=s.data.toList.length:=by simp
 have nH:=m7 s hs;rw[ax];refine Ps Dj Tryz.func208 rfl (Nz rfl) (Xi {i:Nat // i<=s.data.toList.length/\∀j (hj:j<s.data.toList.length),j<i->JP s.data.toList[j]=true} (Xi (fun i=>⟨[(0,vs s),(3,vi i.1)],[],Ao⟩) (Xi (fun i=>s.data.toList.length-i.1) (Yi (Xi ⟨0,Ar _,fun j _ h=>by omega⟩ ?_) ?_))))
 .exact⟨Z2,Tv,Fh,Tv⟩
 intro⟨i,h1,h2⟩;refine Yi ?_ ?_
 .intro h;have h:(i:Int)<(s.size:Nat):=h;have h:i<s.data.toList.length:=by omega
  have MP:(0:Int)<=i/\s.data[((i:Nat):Int).toNat]?=some s.data.toList[i]:=⟨by omega,by rw[A1];exact Jo s i h⟩;have nx:JP s.data.toList[i]=true->∀j (hj:j<s.data.toList.length),j<i+1->JP s.data.toList[j]=true:=fun e j hj Gn=>by
   rcases Be j i with z | z
   .exact h2 j hj z
   .have:j=i:=by omega
    subst this;exact e
  refine Xi s.data.toList[i] (Yi MP ?_);have h3:=fm s.data.toList[i];have h4:=bF s.data.toList[i];refine Bn (Bt (Ds s.data.toList[i])) (fun e=>?_) (fun e=>?_)
  .rw[e]at h3;refine Xi .pure (Xi _ (Yi (h3) (Yi (Ii i sP) (Xi ⟨i+1,by omega,nx (by unfold JP;rw[e];rfl)⟩ ?_))));exact⟨Dl s.data.toList.length i sP,Z2,Tv,Fh,Tv⟩
  rw[e]at h3;refine Xi .pure (Xi _ (Yi (h3) (Xi s.data.toList[i] (Yi MP (Bn (Bt (BT s.data.toList[i])) (fun e2=>?_) (fun e2=>?_))))))
  .rw[e2]at h4;refine Xi .pure (Xi _ (Yi (h4) (Yi (Ii i sP) (Xi ⟨i+1,by omega,nx (by unfold JP;rw[e2,OX])⟩ ?_))));exact⟨Dl s.data.toList.length i sP,Z2,Tv,Fh,Tv⟩
  rw[e2]at h4;refine Xi .pure (Xi _ (Yi (h4) ?_));have er:s.data.toList.all JP=false:=by
   rw[A8];intro ha
   have:=AJ.1 ha _ (Af h)
   unfold JP at this;rw[e,e2]at this;cases this
  exact .of_eq (Aa vb (by rw[er];rfl))
 .intro h;have h:¬(i:Int)<(s.size:Nat):=h;have er:s.data.toList.all JP=true:=AJ.2 fun c hc=>by
   obtain⟨j,hj,rfl⟩:=BB hc;exact h2 j hj sP
  refine Xi .pure (Xi _ (Yi (nH) ?_));exact .of_eq (Aa vb (by rw[er];rfl))
abbrev Pp:Option Int->AV
 |some n=>vi n
 |none=>vi (-1)
theorem mZ(hs:s.data.toList.length<4611686018427387904):PC 209 [vs s] (Pp (EC s.data.toList)):=by
 have Dm:s.size=s.data.toList.length:=by simp
 refine Ps (F0 [3]) Tryz.func209 rfl (Nz rfl) (Yi (fun h=>?_) (fun h=>?_))
 .exact .of_eq (Aa Pp (show(none:Option Int)=EC s.data.toList by
   cases hs:s.data.toList with
   |nil=>rfl
   |cons c r=>
    cases r with
    |nil=>unfold EC;simp
    |cons d r=>rw[hs]at Dm;simp only[Am]at Dm;omega))
 refine BF (show ∃c r,s.data.toList=c::r by
  cases e:s.data.toList with
  |nil=>rw[e]at Dm;simp only[Aw]at Dm;omega
  |cons c l=>exact⟨c,l,rfl⟩) (fun c hc=>?_)
 refine BF hc (fun r Pf=>?_);have WA:s.size=r.length+1:=by rw[Dm,Pf];rfl
 have WC:EC s.data.toList=if c=118 then(if(r.isEmpty||decide (3<r.length)||(decide (1<r.length)&&decide (r.headD 0=48))||!r.all BT)=true then none else some (Da r))else none:=by rw[Pf];rfl
 refine Yi (fun h2=>?_) (fun h2=>?_)
 .exact .of_eq (Aa Pp (show(none:Option Int)=EC s.data.toList by rw[WC,Ah (by omega:3<r.length)];simp))
 refine Xi c (Yi ⟨by decide,by show s.data[(0:Int).toNat]?=_;rw[<-Az,Pf];rfl⟩ ?_);refine Yi (fun h3=>?_) (fun h3=>?_)
 .have h3:¬c=118:=fun e=>h3 (by rw[e];rfl);exact .of_eq (Aa Pp (show(none:Option Int)=EC s.data.toList by rw[WC,Aj h3]))
 have h3:c=118:=EH.1 (by show c.toNat=118;omega);have hr:s.data.toList=118::r:=by rw[Pf,h3]
 have hv:EC s.data.toList=if(r.isEmpty||decide (3<r.length)||(decide (1<r.length)&&decide (r.headD 0=48))||!r.all BT)=true then none else some (Da r):=by rw[WC,Av h3]
 have BQ:0<r.length:=by omega
 have LP:r.isEmpty=false:=by
  cases hl:r with
  |nil=>rw[hl]at BQ;exact absurd BQ sR
  |cons a l=>rfl
 have rx:r.length<=3:=by omega
 have d3:decide (3<r.length)=false:=Ae sP;have z0:Da (r.take 0)=0:=rfl;have hh:=Ko r BQ;refine Xi r[0] (Yi ⟨by decide,by show s.data[(1:Int).toNat]?=_;rw[<-Az,Pf];show r[0]?=_;exact Ge BQ⟩ ?_);refine Yi (fun h4=>?_) (fun h4=>?_)
 .have h4:r[0]=48:=EH.1 (by show r[0].toNat=48;omega);refine Yi (fun h5=>?_) (fun h5=>?_)
  .exact .of_eq (Aa Pp (show(none:Option Int)=EC s.data.toList by rw[hv,hh,h4,Ah (by omega:1<r.length)];simp))
  have eo:(decide (1<r.length)&&decide (r.headD 0=48))=false:=by rw[Ae (by omega:¬1<r.length)];rfl
  refine cU [(0,vs s)] [] Z1 Tv (Xi {i:Nat // i<=r.length/\(∀j (hj:j<r.length),j<i->BT r[j]=true)/\0<=Da (r.take i)/\(i=0->Da (r.take i)<=0)/\(i<=1->Da (r.take i)<=9)/\(i<=2->Da (r.take i)<=99)/\Da (r.take i)<=999} (Xi (fun i=>⟨[(0,vs s),(3,vi (Da (r.take i.1))),(4,vi (1+(i.1:Int)))],[],Ao⟩) (Xi (fun i=>r.length-i.1) (Yi (Xi ⟨0,Ar _,fun j _ h=>by omega,by omega,fun _=>by omega,fun _=>by omega,fun _=>by omega,by omega⟩ ?_) ?_))))
  .exact⟨Z3,Tv,Fh,Tv⟩
  intro⟨i,i1,i0,i2,i3,i4,i5,i6⟩;refine Yi ?_ ?_
  .intro h;have h:1+(i:Int)<(s.size:Nat):=h;have h:i<r.length:=by omega
   have MP:(0:Int)<=1+(i:Int)/\s.data[(1+(i:Int)).toNat]?=some r[i]:=⟨by omega,by rw[show(1+(i:Int)).toNat=i+1 by omega,<-Az,hr,D8];exact Ge h⟩;refine Xi r[i] (Yi MP ?_);have hc:=bF r[i];refine Bn (Bt (BT r[i])).symm (fun e=>?_) (fun e=>?_)
   .rw[e]at hc;refine Xi .pure (Xi _ (Yi (hc) ?_));have EM:r.all BT=false:=by
     rw[A8];intro ha
     have:=AJ.1 ha _ (Af h)
     rw[e]at this;cases this
    exact .of_eq (Aa Pp (show(none:Option Int)=EC s.data.toList by rw[hv,EM];simp))
   rw[e]at hc;refine Xi .pure (Xi _ (Yi (hc) ?_));have oa:=GQ e;have bc:=H3 r i h;have Ur:IntKind.u8.wrap ((r[i].toNat:Int)-48)=(r[i].toNat:Int)-48:=Na sP sP;refine Yi (by show AE (10*Da (r.take i));unfold AE;omega) (Xi r[i] (Yi MP (Yi (by show AE (IntKind.u8.wrap ((r[i].toNat:Int)-48));rw[Ur];unfold AE;omega) ?_)));refine Yi (by show AE (10*Da (r.take i)+IntKind.u8.wrap ((r[i].toNat:Int)-48));rw[Ur];unfold AE;omega) ?_;refine Yi (by show AE (1+(i:Int)+1);unfold AE;omega) ?_;have e5:vi (10*Da (r.take i)+IntKind.u8.wrap ((r[i].toNat:Int)-48))=vi (Da (r.take (i+1))):=by rw[Ur,bc]
   have e6:vi (1+(i:Int)+1)=vi (1+((i+1:Nat):Int)):=Aa vi sP;refine Xi ⟨i+1,by omega,fun j hj Gn=>?_,by omega,fun _=>by omega,fun _=>by omega,fun _=>by omega,by omega⟩ ?_
   .rcases Be j i with z | z
    .exact i0 j hj z
    .have:j=i:=by omega
     subst this;exact e
   .exact⟨Dl r.length i sP,⟨Zr,⟨e5,rfl⟩,⟨e6,rfl⟩,Tv⟩,Tv,Fh,Tv⟩
  .intro h;have h:¬1+(i:Int)<(s.size:Nat):=h;have e3:r.all BT=true:=AJ.2 fun c hc=>by
    obtain⟨j,hj,rfl⟩:=BB hc;exact i0 j hj sP
   have e6:vi (Da (r.take i))=Pp (EC s.data.toList):=by rw[hv,LP,d3,eo,e3,As sP];rfl
   exact .of_eq e6
 have eo:(decide (1<r.length)&&decide (r.headD 0=48))=false:=by rw[hh,Ae (show ¬r[0]=48 from fun e=>h4 (by rw[e];rfl)),CN]
 refine cU [(0,vs s)] [] Z1 Tv (Xi {i:Nat // i<=r.length/\(∀j (hj:j<r.length),j<i->BT r[j]=true)/\0<=Da (r.take i)/\(i=0->Da (r.take i)<=0)/\(i<=1->Da (r.take i)<=9)/\(i<=2->Da (r.take i)<=99)/\Da (r.take i)<=999} (Xi (fun i=>⟨[(0,vs s),(3,vi (Da (r.take i.1))),(4,vi (1+(i.1:Int)))],[],Ao⟩) (Xi (fun i=>r.length-i.1) (Yi (Xi ⟨0,Ar _,fun j _ h=>by omega,by omega,fun _=>by omega,fun _=>by omega,fun _=>by omega,by omega⟩ ?_) ?_))))
 .exact⟨Z3,Tv,Fh,Tv⟩
 intro⟨i,i1,i0,i2,i3,i4,i5,i6⟩;refine Yi ?_ ?_
 .intro h;have h:1+(i:Int)<(s.size:Nat):=h;have h:i<r.length:=by omega
  have MP:(0:Int)<=1+(i:Int)/\s.data[(1+(i:Int)).toNat]?=some r[i]:=⟨by omega,by rw[show(1+(i:Int)).toNat=i+1 by omega,<-Az,hr,D8];exact Ge h⟩;refine Xi r[i] (Yi MP ?_);have hc:=bF r[i];refine Bn (Bt (BT r[i])).symm (fun e=>?_) (fun e=>?_)
  .rw[e]at hc;refine Xi .pure (Xi _ (Yi (hc) ?_));have EM:r.all BT=false:=by
    rw[A8];intro ha
    have:=AJ.1 ha _ (Af h)
    rw[e]at this;cases this
   exact .of_eq (Aa Pp (show(none:Option Int)=EC s.data.toList by rw[hv,EM];simp))
  rw[e]at hc;refine Xi .pure (Xi _ (Yi (hc) ?_));have oa:=GQ e;have bc:=H3 r i h;have Ur:IntKind.u8.wrap ((r[i].toNat:Int)-48)=(r[i].toNat:Int)-48:=Na sP sP;refine Yi (by show AE (10*Da (r.take i));unfold AE;omega) (Xi r[i] (Yi MP (Yi (by show AE (IntKind.u8.wrap ((r[i].toNat:Int)-48));rw[Ur];unfold AE;omega) ?_)));refine Yi (by show AE (10*Da (r.take i)+IntKind.u8.wrap ((r[i].toNat:Int)-48));rw[Ur];unfold AE;omega) ?_;refine Yi (by show AE (1+(i:Int)+1);unfold AE;omega) ?_;have e5:vi (10*Da (r.take i)+IntKind.u8.wrap ((r[i].toNat:Int)-48))=vi (Da (r.take (i+1))):=by rw[Ur,bc]
  have e6:vi (1+(i:Int)+1)=vi (1+((i+1:Nat):Int)):=Aa vi sP;refine Xi ⟨i+1,by omega,fun j hj Gn=>?_,by omega,fun _=>by omega,fun _=>by omega,fun _=>by omega,by omega⟩ ?_
  .rcases Be j i with z | z
   .exact i0 j hj z
   .have:j=i:=by omega
    subst this;exact e
  .exact⟨Dl r.length i sP,⟨Zr,⟨e5,rfl⟩,⟨e6,rfl⟩,Tv⟩,Tv,Fh,Tv⟩
 .intro h;have h:¬1+(i:Int)<(s.size:Nat):=h;have e3:r.all BT=true:=AJ.2 fun c hc=>by
   obtain⟨j,hj,rfl⟩:=BB hc;exact i0 j hj sP
  have e6:vi (Da (r.take i))=Pp (EC s.data.toList):=by rw[hv,LP,d3,eo,e3,As sP];rfl
  exact .of_eq e6
end Go.Eng
