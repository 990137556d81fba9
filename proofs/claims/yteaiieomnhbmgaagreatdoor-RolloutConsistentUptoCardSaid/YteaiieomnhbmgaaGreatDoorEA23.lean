/- Lemmas 23. -/
import Derived.Test.YteaiieomnhbmgaaGreatDoorEA22
import Derived.Test.YteaiieomnhbmgaaGreatDoorEA17
import Derived.Test.YteaiieomnhbmgaaGreatDoorEA03
import Derived.Lib.RepeatB
import Derived.Shelf.Sort.Plain
import Derived.Shelf.Slices.CompactS
import Derived.Ground.NamesProg
set_option maxHeartbeats 4000000
namespace Go.Eng
open Go.Proofs
variable {last:Int}(name:ByteArray)(x:HS)(n:Int)(s user:ByteArray)(i:Nat)
theorem n6(n:Nat):(⟨(Go.Lib.repeatL (ByteArray.mk #[0]).data.toList n).toArray⟩:ByteArray)=tu n:=by
 show(⟨(Go.Lib.repeatL (List.replicate 1 0) n).toArray⟩:ByteArray)=_;rw[Go.Lib.repeatL_replicate,tu];simp
theorem o6(h0:0<=n)(h:n<=100):PC 151 [vs ⟨#[0]⟩,vi n] (vs (tu n.toNat)):=by
 refine Nu [.string ⟨#[0]⟩,.int .i64 n] (.string (tu n.toNat)) (ah 151 Tryz.func151 Wk rfl) rfl (fun g w=>.v _ _) fun w _ _=>?_;have q:=Any.strings_Repeat Tryz.layRepeat Tryz.layRepeatX ⟨#[0]⟩ n.toNat w ch (by show 1*n.toNat<=_;omega);rw[n6,Int.toNat_of_nonneg h0]at q;exact q
theorem oU(h:s.size<=1000000000):PC 204 [vs s] (vs s):=
 Nu [.string s] (.string s) (ah 204 Tryz.func204 Wk rfl) rfl (fun g w=>.v _ _) fun w _ _=>AnyPu.stringslite_Clone Tryz.layClone s w ch
theorem rW(h:s.size<=1000000000):PC 149 [vs s] (vs s):=by
 refine Ps Ej Tryz.func149 rfl (Nz rfl) (Xi .pure (Xi _ (Yi (oU s h) ?_)));exact .refl _
theorem Aa8  : Bc Tryz.prog 87 [] (Ap [] Af) fun r h'=>r=.ref 2000 0/\h'=Ap [(2000,.cells (GH Tt))] Af:=by
 refine Cu (M2 Ej) [(3,2000)] rfl CW hm rfl Tryz.func87 Wk rfl (Nz rfl) Wk rfl ?_;exact Xi _ (Yi (.refl _) Zr)
theorem oX:Bc Tryz.prog 150 [.ref 1000 0] (Ap [(1000,.cells (GH x))] Af) fun r h'=>r=.ref 2000 0/\h'=Ap [(1000,.cells (GH x)),(2000,.cells (GH x))] Af:=by
 refine Cu (M2 Ej) [(1000,1000),(3,2000)] rfl CW hm rfl Tryz.func150 Wk rfl (Nz rfl) Wk rfl (yN (yN ?_));exact Xi _ (Yi (.refl _) Zr)
abbrev u8(x:Int):AV:=.v (.int .u8 x)
def bu:List AV:=(List.range i).map fun(j:Nat)=>u8 (IntKind.wrap .u8 (GF .shr .u64 n (56-8*(j:Int))))
def ny:List UInt8:=(List.range 8).map fun(i:Nat)=>UInt8.ofNat (IntKind.wrap .u8 (GF .shr .u64 n (56-8*(i:Int)))).toNat
theorem gp:(bu n i).length=i:=by rw[bu,Lm,Ls]
theorem y7(h:Nat->HO)(n:Int)(i:Nat):Ts h (.cells (bu n i++List.replicate (8-i) (u8 0)))=true:=by
 have e:∀l:List Int,YX h (l.map u8++List.replicate (8-i) (u8 0))=true:=fun l=>by
  induction l with
  |nil=>show YX h (List.replicate (8-i) (u8 0))=true;induction (8-i)with |zero=>rfl |succ k ih=>exact ih
  |cons a l ih=>exact ih
 have q:=e ((List.range i).map fun(j:Nat)=>IntKind.wrap .u8 (GF .shr .u64 n (56-8*(j:Int))));rw[Br]at q;exact q
theorem nA{n:Int}{i m:Nat}(h:i<8)(e:m=i):over (bu n i++List.replicate (8-i) (u8 0)) m [u8 (IntKind.wrap .u8 (GF .shr .u64 n (56-8*(i:Int))))]=bu n (i+1)++List.replicate (8-(i+1)) (u8 0):=by
 rw[show 8-i=(8-(i+1))+1 by omega,List.replicate_succ,QJ (by rw[gp];exact e.symm),bu,bu,List.range_succ,As,BB];rfl
theorem tq(z:Int):((UInt8.ofNat (IntKind.wrap .u8 z).toNat).toNat:Int)=IntKind.wrap .u8 z:=by
 have h1:0<=IntKind.wrap .u8 z:=WH _ Cl;have h2:IntKind.wrap .u8 z<256:=Int.emod_lt_of_pos _ Cl;rw[UInt8.toNat_ofNat',Nat.mod_eq_of_lt ch];omega
theorem jH(h:Nat->HO)(n:Int):(((bu n 8).map (str h)).map fun c=>[c])=(ny n).map fun b=>[AV.v (.int .u8 b.toNat)]:=by
 rw[bu,ny,Br,Br,Br];refine Bi fun i _=>?_;show [AV.v (.int .u8 _)]=[AV.v (.int .u8 _)];rw[tq]
theorem o5:PC 89 [.v (.int .u64 n)] (vs (KE n)):=by
 refine Ps ⟨[],[(17,1)],[],[(17,[3])],[],[],[],[],[],[],[7]⟩ Tryz.func89 rfl (Nz rfl) (Xi {q:Nat // q<=8} (Xi (fun q=>⟨[(0,.v (.int .u64 n)),(3,.ref 3 0),(5,vi q.1)],[(3,.cells (bu n q.1++List.replicate (8-q.1) (u8 0)))],Af⟩) (Xi (fun q=>8-q.1) (Yi (Xi ⟨0,AA _⟩ ?_) ?_))))
 .exact⟨Z3,⟨⟨rfl,(y7 _ _ _)⟩,Tv⟩,Fh,Tv⟩
 intro⟨i,i1⟩;have i1:i<=8:=i1;refine Yi (fun h1=>?_) (fun h1=>?_)
 .have h1:(i:Int)<(8:Int):=h1;refine Yi (by show Ba ((8:Int)*(i:Int));unfold Ba;omega) (Yi (by show Ba ((56:Int)-(8*i:Int));unfold Ba;omega) (Yi (show(0:Int)<=56-(8*i) by omega) (Yi (show(0:Int)<=i/\(i:Int)<(8:Nat)from by omega) (Yi (show(0+(i:Int).toNat*1)+1<=((bu n i++List.replicate (8-i) (u8 0))).length from by rw[Ac,gp,BV];omega) ?_))));refine Yi (Ii i ch) (Xi ⟨i+1,by omega⟩ ?_);exact⟨Dl 8 i ch,Z3,⟨⟨(show HO.cells (over (bu n i++List.replicate (8-i) (u8 0)) (0+(i:Int).toNat*1) [.v (.int .u8 (IntKind.wrap .u8 (GF .shr .u64 n (56-(8*i)))))])=.cells (bu n (i+1)++List.replicate (8-(i+1)) (u8 0))from Aa HO.cells (nA (show i<8 by omega) ch)),(y7 _ _ _)⟩,Tv⟩,Fh,Tv⟩
 have h1:¬((i:Int)<(8:Int)):=h1;refine cU [(3,.ref 3 0)] [(3,.cells (bu n 8))] Z1 ⟨⟨(show HO.cells (bu n i++List.replicate (8-i) (u8 0))=.cells (bu n 8) by rw[show i=8 by omega];rfl),rfl⟩,Tv⟩ ?_
 refine Yi (show 8=((bu n 8).map (str _)).length from rfl) (Xi (ny n) (Yi (jH _ n) ?_));exact .refl _
theorem TY(hb:(x.rest++s).size<=1000000000):Bc Tryz.prog 88 [.ref 1000 0,vs s] (Ap [(1000,.cells (GH x))] Af) fun r h'=>r=.tup []/\h'=Ap [(1000,.cells (GH (Hq x s)))] Af:=by
 refine Cu (M2 Ej) [(1000,1000)] rfl CW hm rfl Tryz.func88 Wk rfl (Nz rfl) Wk rfl (yN (Yi (show((x.rest.size+s.size:Nat):Int)<=9223372036854775807 by have q:=hb;rw[CX]at q;omega) (Xi {q:S8×ByteArray // Jv q.1 q.2=Jv x.v (x.rest++s)/\q.2.size<=1000000000} (Xi (fun q=>⟨[(0,.ref 1000 0),(1,vs q.1.2)],[(1000,.cells [.v (.int .u32 q.1.1.a),.v (.int .u32 q.1.1.b),.v (.int .u32 q.1.1.c),.v (.int .u32 q.1.1.d),.v (.int .u32 q.1.1.e),.v (.int .u32 q.1.1.f),.v (.int .u32 q.1.1.g),.v (.int .u32 q.1.1.h),vs x.rest,.v (.int .u64 (IntKind.wrap .u64 (x.tot+(IntKind.wrap .u64 (s.size:Int)))))])],Af⟩) (Xi (fun q=>q.1.2.size) (Yi (Xi ⟨(x.v,x.rest++s),rfl,hb⟩ ?_) ?_))))))
 .exact⟨Z2,Z1,Fh,BP Wk⟩
 intro⟨⟨v,b⟩,v1,v2⟩;have v1:Jv v b=Jv x.v (x.rest++s):=v1;have v2:b.size<=1000000000:=v2;refine Yi (fun h1=>?_) (fun h1=>?_)
 .have h1:(64:Int)<=(b.size:Int):=h1;refine Yi (show(0:Int)<=0/\(0:Int)<=64/\(64:Int)<=(b.size:Int)from by omega) (Xi (.gen [(1000,1000)] 0) (Yi rfl (Bc.to2 (z6 ⟨v,x.rest,(IntKind.wrap .u64 (x.tot+(IntKind.wrap .u64 (s.size:Int))))⟩ (b.extract 0 64) (by simp only[H8];omega)) ?_)));refine Yi (show(0:Int)<=64/\(64:Int)<=(b.size:Int)/\(b.size:Int)<=(b.size:Int)from by omega) (Xi ⟨(vN v (b.extract 0 64),b.extract 64 b.size),by rw[<-v1,Jv.eq_1 v b,Ao ch],by simp only[H8];omega⟩ ?_);exact⟨by show(b.extract 64 b.size).size<b.size;simp only[H8];omega,Z2,Z1,Fh,BP Wk⟩
 have h1:¬((64:Int)<=(b.size:Int)):=h1;refine Xi .pure (Xi _ (Yi (rW b v2) (yN ?_)));exact Xi _ (Yi (.refl _) ⟨rfl,show Ap [(1000,HO.cells [.v (.int .u32 v.a),.v (.int .u32 v.b),.v (.int .u32 v.c),.v (.int .u32 v.d),.v (.int .u32 v.e),.v (.int .u32 v.f),.v (.int .u32 v.g),.v (.int .u32 v.h),vs b,.v (.int .u64 (IntKind.wrap .u64 (x.tot+(IntKind.wrap .u64 (s.size:Int)))))])] Af=Ap [(1000,.cells (GH (Hq x s)))] Af from by rw[Hq,<-v1,Jv.eq_1 v b,Aj ch]⟩)
abbrev Kb(b:UInt8):List AV:=[.v (.int .u8 b.toNat)]
theorem Wa(n:Nat):(tu n).size=n:=by show(List.replicate n (0:UInt8)).toArray.size=n;simp
theorem LL:(KE n).size=8:=by show(List.map _ (List.range 8)).toArray.size=8;simp
theorem jQ:(Fa x).size<=80:=by
 rw[Fa,CX,CX,Wa,LL];show 1+_+8<=80;omega
theorem pc(x:Int):[[AV.v (.int .u8 (IntKind.wrap .u8 (GF .shr .u32 x 24)))],[.v (.int .u8 (IntKind.wrap .u8 (GF .shr .u32 x 16)))],[.v (.int .u8 (IntKind.wrap .u8 (GF .shr .u32 x 8)))],[.v (.int .u8 (IntKind.wrap .u8 x))]]=(G1 x).map Kb:=by
 simp only[G1,AL,E7,Kb,tq]
theorem pd(l:List Int)(i:Nat)(h:i<=8):((l.take i).flatMap G1).length<=32:=by
 have e:∀m:List Int,(m.flatMap G1).length=4*m.length:=fun m=>by
  induction m with
  |nil=>rfl
  |cons a m ih=>rw[List.flatMap_cons,Ac,ih];show 4+_=4*(_+1);omega
 rw[e,Aw];omega
theorem eP{l:List Int}{i:Nat}(h:i<l.length):(l.take i).flatMap G1++G1 (ZC l i)=(l.take (i+1)).flatMap G1:=by
 rw[Bj,eJ h,List.flatMap_append];simp
theorem wj(hx:x.rest.size<64):Bc Tryz.prog 90 [.ref 1000 0] (Ap [(1000,.cells (GH x))] Af) fun r h'=>r=vs (rM x)/\h'=Ap [(1000,.cells (GH x))] Af:=by
 refine Cu (M2 ⟨[],[(5,1)],[],[],[],[],[],[],[(28,5)],[],[]⟩) [(1000,1000)] rfl CW hm rfl Tryz.func90 Wk rfl (Nz rfl) Wk rfl (Xi (.gen [(1000,1000)] 1) (Yi rfl (Bc.to2 (oX x) ?_)));refine Yi (by show Ba ((119:Int)-(x.rest.size:Int));unfold Ba;omega) (Yi ⟨by omega,by omega⟩ ?_);refine Xi _ (Yi (o6 (((119-x.rest.size) % 64:Int)) ch ch) (Yi (show(((⟨#[128]⟩:ByteArray).size+(tu (((119-x.rest.size) % 64:Int)).toNat).size:Nat):Int)<=9223372036854775807 by have q:(⟨#[128]⟩:ByteArray).size=1:=rfl;simp only[Wa];omega) ?_));refine Xi _ (Yi (o5 (IntKind.wrap .u64 (8*x.tot))) (Yi (show(((⟨#[128]⟩++(tu (((119-x.rest.size) % 64:Int)).toNat):ByteArray).size+(KE (IntKind.wrap .u64 (8*x.tot))).size:Nat):Int)<=9223372036854775807 by have q:(⟨#[128]⟩:ByteArray).size=1:=rfl;simp only[CX,Wa,LL];omega) ?_));refine Xi [(10900,1000)] (Xi [(1000,.cells (GH x))] (Xi [(1000,.cells (GH (Hq x (Fa x))))] (Xi [.ref 1000 0,vs (Fa x)] (Xi (.tup []:AV) (Yi (fun h2 hh=>Yi ((Aa (fun o:HO=>Ap [(1000,o.ren (CH [(10900,1000)]) h2)] Af) (show h2 10900=.cells (GH x)from hh 10900 Cl)).trans rfl) rfl) (Yi Wk (Yi (TY x (Fa x) (by rw[CX];have q:=jQ x;omega)) ?_)))))));refine Yi Wk (yN (Xi {q:Nat // q<=8} (Xi (fun q=>⟨[(5,.slice (.id 5 1) ((((S8.l (Hq x (Fa x)).v).take q.1).flatMap G1).map Kb)),(32,.agg [.v (.int .u32 (Hq x (Fa x)).v.a),.v (.int .u32 (Hq x (Fa x)).v.b),.v (.int .u32 (Hq x (Fa x)).v.c),.v (.int .u32 (Hq x (Fa x)).v.d),.v (.int .u32 (Hq x (Fa x)).v.e),.v (.int .u32 (Hq x (Fa x)).v.f),.v (.int .u32 (Hq x (Fa x)).v.g),.v (.int .u32 (Hq x (Fa x)).v.h)]),(33,vi q.1)],[(5,.tok 1 ((((S8.l (Hq x (Fa x)).v).take q.1).flatMap G1).map Kb).length),(1000,.cells (GH x))],Af⟩) (Xi (fun q=>8-q.1) (Yi (Xi ⟨0,AA _⟩ ?_) ?_)))))
 .exact⟨Z3,Z2,Fh,BP Wk⟩
 intro⟨i,i1⟩;have i1:i<=8:=i1;refine Yi (fun h1=>?_) (fun h1=>?_)
 .have h1:(i:Int)<(8:Int):=h1;have hlw:=pd (S8.l (Hq x (Fa x)).v) i i1;refine Yi (show(0:Int)<=i/\(i:Int)<(8:Nat)from by omega) (HB (sA (v:=(Hq x (Fa x)).v) (show i<8 by omega) (show((i:Int).toNat*1)=i by omega)) (Yi Cl (Yi Cl (Yi Cl ?_))));have b2:Cf 1 [[.v (.int .u8 (IntKind.wrap .u8 (GF .shr .u32 (S8.n (Hq x (Fa x)).v i) 24)))],[.v (.int .u8 (IntKind.wrap .u8 (GF .shr .u32 (S8.n (Hq x (Fa x)).v i) 16)))],[.v (.int .u8 (IntKind.wrap .u8 (GF .shr .u32 (S8.n (Hq x (Fa x)).v i) 8)))],[.v (.int .u8 (IntKind.wrap .u8 (S8.n (Hq x (Fa x)).v i)))]]/\((((S8.l (Hq x (Fa x)).v).take i).flatMap G1).map Kb).length=((((S8.l (Hq x (Fa x)).v).take i).flatMap G1).map Kb).length/\(((((S8.l (Hq x (Fa x)).v).take i).flatMap G1).map Kb).length+([[.v (.int .u8 (IntKind.wrap .u8 (GF .shr .u32 (S8.n (Hq x (Fa x)).v i) 24)))],[.v (.int .u8 (IntKind.wrap .u8 (GF .shr .u32 (S8.n (Hq x (Fa x)).v i) 16)))],[.v (.int .u8 (IntKind.wrap .u8 (GF .shr .u32 (S8.n (Hq x (Fa x)).v i) 8)))],[.v (.int .u8 (IntKind.wrap .u8 (S8.n (Hq x (Fa x)).v i)))]]:List (List AV)).length)*1<=140737488355328/\((((S8.l (Hq x (Fa x)).v).take i).flatMap G1).map Kb).length+([[.v (.int .u8 (IntKind.wrap .u8 (GF .shr .u32 (S8.n (Hq x (Fa x)).v i) 24)))],[.v (.int .u8 (IntKind.wrap .u8 (GF .shr .u32 (S8.n (Hq x (Fa x)).v i) 16)))],[.v (.int .u8 (IntKind.wrap .u8 (GF .shr .u32 (S8.n (Hq x (Fa x)).v i) 8)))],[.v (.int .u8 (IntKind.wrap .u8 (S8.n (Hq x (Fa x)).v i)))]]:List (List AV)).length<=9223372036854775807:=⟨⟨rfl,rfl,rfl,rfl,trivial⟩,rfl,(by simp only[Lm,Am,Au];omega),(by simp only[Lm,Am,Au];omega)⟩;refine Yi b2 (Yi (Ii i ch) ?_);have ew:(((((S8.l (Hq x (Fa x)).v).take i).flatMap G1).map Kb++[[AV.v (.int .u8 (IntKind.wrap .u8 (GF .shr .u32 (S8.n (Hq x (Fa x)).v i) 24)))],[.v (.int .u8 (IntKind.wrap .u8 (GF .shr .u32 (S8.n (Hq x (Fa x)).v i) 16)))],[.v (.int .u8 (IntKind.wrap .u8 (GF .shr .u32 (S8.n (Hq x (Fa x)).v i) 8)))],[.v (.int .u8 (IntKind.wrap .u8 (S8.n (Hq x (Fa x)).v i)))]])=(((S8.l (Hq x (Fa x)).v).take (i+1)).flatMap G1).map Kb):=by rw[pc,<-As];exact Aa (List.map Kb) (eP (show i<8 by omega))
  refine Xi ⟨i+1,by omega⟩ ?_;exact⟨Dl 8 i ch,⟨⟨(Aa (AV.slice (.id 5 1)) ew),rfl⟩,Zr,Zr,Tv⟩,⟨⟨(show HO.tok 1 (((((S8.l (Hq x (Fa x)).v).take i).flatMap G1).map Kb).length+([[.v (.int .u8 (IntKind.wrap .u8 (GF .shr .u32 (S8.n (Hq x (Fa x)).v i) 24)))],[.v (.int .u8 (IntKind.wrap .u8 (GF .shr .u32 (S8.n (Hq x (Fa x)).v i) 16)))],[.v (.int .u8 (IntKind.wrap .u8 (GF .shr .u32 (S8.n (Hq x (Fa x)).v i) 8)))],[.v (.int .u8 (IntKind.wrap .u8 (S8.n (Hq x (Fa x)).v i)))]]:List (List AV)).length)=.tok 1 ((((S8.l (Hq x (Fa x)).v).take (i+1)).flatMap G1).map Kb).length from Aa (HO.tok 1) (Ac.symm.trans (Aa List.length ew))),rfl⟩,Zr,Tv⟩,Fh,BP Wk⟩
 have h1:¬((i:Int)<(8:Int)):=h1;refine Xi (((S8.l (Hq x (Fa x)).v)).flatMap G1) (Yi (show((((S8.l (Hq x (Fa x)).v).take i).flatMap G1).map Kb)=(((S8.l (Hq x (Fa x)).v)).flatMap G1).map Kb by rw[show i=8 by omega];rfl) ?_);exact Xi _ (Yi (.refl _) Zr)
theorem WL:∀(n:Nat) (v:S8) (b:ByteArray),b.size<=n->(Jv v b).2.size<64
 |0,v,b,h=>by rw[Jv,Aj ch];show b.size<64;omega
 |n+1,v,b,h=>by
  rw[Jv];split
  .exact WL n _ _ (by simp only[H8];omega)
  .show b.size<64;omega
theorem Zt:(Hq x s).rest.size<64:=WL _ _ _ (Ak _)
theorem gR{x:HS}(hx:x.rest.size<64):∀l:List ByteArray,(QY x l).rest.size<64:=fun l=>by
 unfold QY
 induction l generalizing x with
 |nil=>exact hx
 |cons a l ih=>exact ih (Zt _ _)
theorem kp(l:List ByteArray)(i:Nat)(h:i<l.length):QY x (l.take (i+1))=Hq (Hq (QY x (l.take i)) (KE (IntKind.wrap .u64 (l[i].size:Int)))) l[i]:=by
 rw[BY h,QY,Et];rfl
theorem ko:(rM x).size=32:=by
 have e:∀m:List Int,(m.flatMap G1).length=4*m.length:=fun m=>by
  induction m with
  |nil=>rfl
  |cons a m ih=>rw[List.flatMap_cons,Ac,ih];show 4+_=4*(_+1);omega
 show((((Hq x (Fa x)).v.l).flatMap G1).toArray).size=32;rw[D8,e];rfl
def Yz(d:ByteArray):Nat->Int
 |0=>0
 |i+1=>JD .or .u64 (GF .shl .u64 (Yz d i) 8) (IntKind.wrap .u64 ((OP d i).toNat:Int))
def iJ:Int:=Yz (gS ⟨#[99,111,104,111,114,116]⟩ [name,user]) 8 % 100
theorem lJ(d:ByteArray)(i:Nat):0<=Yz d i:=by
 cases i with
 |zero=>exact Bn 0
 |succ i=>exact VZ _
theorem fu:0<=iJ name user/\iJ name user<100:=⟨WH _ Cl,Int.emod_lt_of_pos _ Cl⟩
theorem o8(tag:ByteArray)(l:List ByteArray)(hn:l.length<=1000000)(ht:tag.size<=100000000)(hl:∀s∈l,s.size<=100000000):PC 48 [vs tag,sl Ax l] (vs (gS tag l)):=by
 refine Ps Ej Tryz.func48 rfl (Nz rfl) (Xi (.gen [] 1) (Yi rfl (Bc.to2 Aa8 ?_)));refine Xi .pure (Xi _ (Yi (o5 (IntKind.wrap .u64 tag.size)) (Yi (show(((KE (IntKind.wrap .u64 (tag.size:Int))).size+tag.size:Nat):Int)<=9223372036854775807 by rw[LL];omega) ?_)));refine Xi (.gen [(10800,1000)] 0) (Yi rfl (Bc.to2 (TY Tt ((KE (IntKind.wrap .u64 tag.size))++tag) (by rw[CX];have q:=LL (IntKind.wrap .u64 (tag.size:Int));rw[CX];show 0+_<=_;omega)) ?_));refine Xi {q:Nat // q<=l.length} (Xi (fun q=>⟨[(5,.ref 10800 0),(17,sl Ax l),(18,vi (l.map Ax).length),(19,vi q.1)],[(10800,.cells (GH (QY (Hq Tt (KE (IntKind.wrap .u64 (tag.size:Int))++tag)) (l.take q.1))))],Af⟩) (Xi (fun q=>l.length-q.1) (Yi (Xi ⟨0,AA _⟩ ?_) ?_)))
 .exact⟨Z4,Z1,Fh,Tv⟩
 intro⟨i,i1⟩;have i1:i<=l.length:=i1;refine Yi (fun h1=>?_) (fun h1=>?_)
 .have h1:(i:Int)<((l.map Ax).length:Int):=h1;have n1:=EE h1;refine Xi (Ax l[i]) (Yi (IU n1) (Yi rfl (Xi .pure (Xi _ (Yi (o5 (IntKind.wrap .u64 l[i].size)) (Xi (.gen [(10800,1000)] 0) (Yi rfl (Bc.to2 (TY (QY (Hq Tt (KE (IntKind.wrap .u64 (tag.size:Int))++tag)) (l.take i)) (KE (IntKind.wrap .u64 l[i].size)) (by rw[CX];have q:=gR (Zt Tt (KE (IntKind.wrap .u64 (tag.size:Int))++tag)) (l.take i);have q2:=LL (IntKind.wrap .u64 (l[i].size:Int));omega)) ?_))))))));refine Xi (.gen [(10800,1000)] 0) (Yi rfl (Bc.to2 (TY (Hq (QY (Hq Tt (KE (IntKind.wrap .u64 (tag.size:Int))++tag)) (l.take i)) (KE (IntKind.wrap .u64 l[i].size))) l[i] (by rw[CX];have q:=Zt (QY (Hq Tt (KE (IntKind.wrap .u64 (tag.size:Int))++tag)) (l.take i)) (KE (IntKind.wrap .u64 (l[i].size:Int)));have q2:=hl l[i] (Al n1);omega)) ?_));refine Yi (Ii i ch) (Xi ⟨i+1,by omega⟩ ?_);exact⟨Dl l.length i ch,Z4,⟨⟨(show HO.cells (GH (Hq (Hq (QY (Hq Tt (KE (IntKind.wrap .u64 (tag.size:Int))++tag)) (l.take i)) (KE (IntKind.wrap .u64 l[i].size))) l[i]))=.cells (GH (QY (Hq Tt (KE (IntKind.wrap .u64 (tag.size:Int))++tag)) (l.take (i+1))))from Aa (fun z=>HO.cells (GH z)) (kp _ l i n1).symm),rfl⟩,Tv⟩,Fh,Tv⟩
 have h1:¬((i:Int)<((l.map Ax).length:Int)):=h1;have n1:=Dd h1;refine Xi (.gen [(10800,1000)] 0) (Yi rfl (Bc.to2 (wj (QY (Hq Tt (KE (IntKind.wrap .u64 (tag.size:Int))++tag)) (l.take i)) (gR (Zt _ _) _)) ?_));have e:l.take i=l:=At ch;exact CY.of_eq (Aa (fun z=>vs (rM (QY (Hq Tt (KE (IntKind.wrap .u64 (tag.size:Int))++tag)) z))) e)
theorem wd(d:ByteArray)(hs:d.size=32)(hd:PC 48 [vs ⟨#[99,111,104,111,114,116]⟩,sl Ax [name,user]] (vs d)):PC 15 [vs name,vs user] (vi (Yz d 8 % 100)):=by
 refine Ps Ej Tryz.func15 rfl (Nz rfl) (Xi .pure (Xi _ (Yi hd (Xi {q:Nat // q<=8} (Xi (fun q=>⟨[(5,vs d),(6,.v (.int .u64 (Yz d q.1))),(14,vi (min 8 d.size)),(15,vi q.1)],[],Af⟩) (Xi (fun q=>8-q.1) (Yi (Xi ⟨0,AA _⟩ ?_) ?_)))))))
 .exact⟨Z4,Tv,Fh,Tv⟩
 intro⟨i,i1⟩;have i1:i<=8:=i1;refine Yi (fun h1=>?_) (fun h1=>?_)
 .have h1:(i:Int)<(min 8 d.size:Int):=h1;refine Yi Cl (Xi (OP d i) (Yi (fp (z:=(i:Int)) (show i<d.size by omega) rfl) (Yi (Ii i ch) (Xi ⟨i+1,by omega⟩ ?_))));exact⟨Dl 8 i ch,Z4,Tv,Fh,Tv⟩
 have h1:¬((i:Int)<(min 8 d.size:Int)):=h1;refine Yi (show 0<=Yz d i/\(0:Int)<100 from⟨lJ _ _,by decide⟩) (Yi (show Ba (Yz d i % 100) by unfold Ba;have q1:=WH (Yz d i) (show(100:Int)≠0 by decide);have q2:=Int.emod_lt_of_pos (Yz d i) (show(0:Int)<100 by decide);omega) ?_);have e:i=8:=by omega
 subst e;exact .refl _
theorem Aa5(h1:name.size<=100000000)(h2:user.size<=100000000):PC 15 [vs name,vs user] (vi (iJ name user)):=
 wd name user _ (ko _) (o8 _ _ (show 2<=1000000 by omega) Cl (fun s hs=>by
  rcases AC.1 hs with e | hs
  .rw[e];exact h1
  .rw[Aq.1 hs];exact h2))
structure Uc where
 (t p:Int)
variable (l:List Uc)
abbrev Eh(s:Uc):List AV:=[vi s.t,vi s.p]
def RZ(last:Int):List Uc->Int
 | []=>0
 |s::r=>if s.t<=last\/s.p<0\/100<s.p then 1 else RZ s.t r
def Dr:Int:=if 1024<l.length then 7 else RZ (-1) l
def I8(AR o:Int)(s:Uc):Int:=if s.t<=AR then s.p else o
def GK(AR:Int):Int:=l.foldl (I8 AR) 0
theorem bI{l:List Uc}{AR:Int}{i:Nat}(h:i<l.length):GK (l.take (i+1)) AR=I8 AR (GK (l.take i) AR) l[i]:=by
 rw[BY h,GK,Et];rfl
theorem rL{l:List Uc}{i:Nat}(h:i<l.length)(h1:¬(l[i].t<=last\/l[i].p<0\/100<l[i].p)):RZ last (l.drop i)=RZ l[i].t (l.drop (i+1)):=by
 rw[AI h,RZ,Aj h1]
theorem eF{l:List Uc}{i:Nat}(h:i<l.length)(h1:l[i].t<=last\/l[i].p<0\/100<l[i].p):RZ last (l.drop i)=1:=by
 rw[AI h,RZ,Ao h1]
theorem VX(hl:B8 l):PC 13 [sl Eh l] (vi (Dr l)):=by
 have hl:l.length<=1073741824:=hl;refine Ps Ej Tryz.func13 rfl (Nz rfl) (Yi (fun h1=>?_) (fun h1=>?_))
 .have h1:(1024:Int)<((l.map Eh).length:Int):=h1;have n1:1024<l.length:=by have q:=h1;rw[Lm]at q;omega
  exact CY.of_eq (Aa vi (show 7=Dr l by rw[Dr,Ao ch]))
 have h1:¬((1024:Int)<((l.map Eh).length:Int)):=h1;have n1:¬1024<l.length:=by have q:=h1;rw[Lm]at q;omega
 refine Xi {q:Nat×Int // q.1<=l.length/\RZ q.2 (l.drop q.1)=RZ (-1) l} (Xi (fun q=>⟨[(3,vi q.1.2),(9,sl Eh l),(10,vi (l.map Eh).length),(11,vi q.1.1)],[],Af⟩) (Xi (fun q=>l.length-q.1.1) (Yi (Xi ⟨(0,-1),AA _,rfl⟩ ?_) ?_)))
 .exact⟨Z4,Tv,Fh,Tv⟩
 intro⟨⟨i,la⟩,i1,i2⟩;have i1:i<=l.length:=i1;have i2:RZ la (l.drop i)=RZ (-1) l:=i2;refine Yi (fun h3=>?_) (fun h3=>?_)
 .have h3:(i:Int)<((l.map Eh).length:Int):=h3;have n3:=EE h3;refine Xi (Eh l[i]) (Yi (IU n3) (Yi rfl (yN (yN (Yi (fun h4=>?_) (fun h4=>?_))))))
  .have h4:(l[i].t:Int)<=(la:Int):=h4;exact CY.of_eq (Aa vi (show 1=Dr l by rw[Dr,Aj ch,<-i2,eF n3 ch]))
  have h4:¬((l[i].t:Int)<=(la:Int)):=h4;refine Yi (fun h6=>?_) (fun h6=>?_)
  .have h6:(l[i].p:Int)<(0:Int):=h6;exact CY.of_eq (Aa vi (show 1=Dr l by rw[Dr,Aj ch,<-i2,eF n3 ch]))
  have h6:¬((l[i].p:Int)<(0:Int)):=h6;refine Yi (fun h8=>?_) (fun h8=>?_)
  .have h8:(100:Int)<(l[i].p:Int):=h8;exact CY.of_eq (Aa vi (show 1=Dr l by rw[Dr,Aj ch,<-i2,eF n3 ch]))
  have h8:¬((100:Int)<(l[i].p:Int)):=h8;refine Yi (Ii i ch) (Xi ⟨(i+1,l[i].t),n3,by rw[<-i2,rL n3 ch]⟩ ?_);exact⟨Dl l.length i ch,Z4,Tv,Fh,Tv⟩
 have h3:¬((i:Int)<((l.map Eh).length:Int)):=h3;have n3:=Dd h3;exact CY.of_eq (Aa vi (show 0=Dr l by rw[Dr,Aj ch,<-i2,Cv ch];rfl))
theorem tj(AR:Int)(hl:B8 l):PC 47 [sl Eh l,vi AR] (vi (GK l AR)):=by
 have hl:l.length<=1073741824:=hl;refine Ps Ej Tryz.func47 rfl (Nz rfl) (Xi {q:Nat // q<=l.length} (Xi (fun q=>⟨[(1,vi AR),(5,vi (GK (l.take q.1) AR)),(8,sl Eh l),(9,vi (l.map Eh).length),(10,vi q.1)],[],Af⟩) (Xi (fun q=>l.length-q.1) (Yi (Xi ⟨0,AA _⟩ ?_) ?_))))
 .exact⟨Z5,Tv,Fh,Tv⟩
 intro⟨i,i1⟩;have i1:i<=l.length:=i1;refine Yi (fun h1=>?_) (fun h1=>?_)
 .have h1:(i:Int)<((l.map Eh).length:Int):=h1;have n1:=EE h1;refine Xi (Eh l[i]) (Yi (IU n1) (Yi rfl (yN (yN (Yi (fun h2=>?_) (fun h2=>?_))))))
  .have h2:(l[i].t:Int)<=(AR:Int):=h2;refine Yi (Ii i ch) (Xi ⟨i+1,n1⟩ ?_);exact⟨Dl l.length i ch,⟨Zr,⟨(Aa vi (show l[i].p=GK (l.take (i+1)) AR by rw[bI n1,I8,Ao h2])),rfl⟩,Zr,Zr,Zr,Tv⟩,Tv,Fh,Tv⟩
  have h2:¬((l[i].t:Int)<=(AR:Int)):=h2;refine Yi (Ii i ch) (Xi ⟨i+1,n1⟩ ?_);exact⟨Dl l.length i ch,⟨Zr,⟨(Aa vi (show(GK (l.take i) AR)=GK (l.take (i+1)) AR by rw[bI n1,I8,Aj h2])),rfl⟩,Zr,Zr,Zr,Tv⟩,Tv,Fh,Tv⟩
 have h1:¬((i:Int)<((l.map Eh).length:Int)):=h1;have n1:=Dd h1;exact CY.of_eq (Aa (fun z=>vi (GK z AR)) (At (A3 (Dd h1))))
def bG(AR:Int):Int:=if Dr l=0 then GK l AR else 0
theorem oQ(AR:Int)(hl:B8 l):PC 11 [sl Eh l,vi AR] (.tup [vi (bG l AR),vi (Dr l)]):=by
 refine Ps Ej Tryz.func11 rfl (Nz rfl) (Xi .pure (Xi _ (Yi (VX l hl) (Yi (fun h1=>?_) (fun h1=>?_)))))
 .have h1:((Dr l):Int)≠(0:Int):=h1;exact CY.of_eq (show AV.tup [vi 0,vi (Dr l)]=.tup [vi (bG l AR),vi (Dr l)] by rw[bG,Aj h1])
 have h1:((Dr l):Int)=(0:Int):=AJ h1;refine Xi .pure (Xi _ (Yi (tj l AR hl) ?_));exact CY.of_eq (show AV.tup [vi (GK l AR),vi 0]=.tup [vi (bG l AR),vi (Dr l)] by rw[bG,Ao h1,h1])
end Go.Eng
namespace Go.Proofs
open Go.Shelf
def Tryz.laySortStr_ren:Go.Shelf.Ren:=⟨fun | 190=>99 | 125=>161 | 258=>160 | 128=>228 | 129=>229 | 302=>220 | 303=>221 | 304=>222 | 305=>223 | 306=>224 | 307=>225 | 308=>159 | 309=>226 | 310=>227 | 333=>276 | 329=>277 | 330=>278 | 334=>279 | 335=>280 | 336=>198 | 344=>319 | n=>n,fun | 31=>52 | 9=>9 | 3=>3 | 46=>99 | 0=>0 | 51=>229 | 53=>98 | 4=>4 | 183=>316 | 182=>315 | 131=>214 | 5=>5 | 218=>357 | 222=>361 | 228=>389 | 229=>390 | n=>n,fun | n=>n⟩
theorem Tryz.laySortStr:Go.Proofs.Lays.n190 Tryz.prog Tryz.laySortStr_ren:={
 mixed:=by kernel_rfl
 f125:=Tryz.func161.trans (congrArg some Go.Eng.Wk)
 f128:=Tryz.func228.trans (congrArg some Go.Eng.Wk)
 f129:=Tryz.func229.trans (congrArg some Go.Eng.Wk)
 f190:=Tryz.func99.trans (congrArg some Go.Eng.Wk)
 f258:=Tryz.func160.trans (congrArg some Go.Eng.Wk)
 f302:=Tryz.func220.trans (congrArg some Go.Eng.Wk)
 f303:=Tryz.func221.trans (congrArg some Go.Eng.Wk)
 f304:=Tryz.func222.trans (congrArg some Go.Eng.Wk)
 f305:=Tryz.func223.trans (congrArg some Go.Eng.Wk)
 f306:=Tryz.func224.trans (congrArg some Go.Eng.Wk)
 f307:=Tryz.func225.trans (congrArg some Go.Eng.Wk)
 f308:=Tryz.func159.trans (congrArg some Go.Eng.Wk)
 f309:=Tryz.func226.trans (congrArg some Go.Eng.Wk)
 f310:=Tryz.func227.trans (congrArg some Go.Eng.Wk)
 f329:=Tryz.func277.trans (congrArg some Go.Eng.Wk)
 f330:=Tryz.func278.trans (congrArg some Go.Eng.Wk)
 f333:=Tryz.func276.trans (congrArg some Go.Eng.Wk)
 f334:=Tryz.func279.trans (congrArg some Go.Eng.Wk)
 f335:=Tryz.func280.trans (congrArg some Go.Eng.Wk)
 f336:=Tryz.func198.trans (congrArg some Go.Eng.Wk)
 f344:=Tryz.func319.trans (congrArg some Go.Eng.Wk)
 t0:=Tryz.underlying0
 a0:=Tryz.isAgg0
 z0:=Tryz.sizeOf0
 v0:=Tryz.zeroValue0
 t3:=Tryz.underlying3
 a3:=Tryz.isAgg3
 z3:=Tryz.sizeOf3
 v3:=Tryz.zeroValue3
 t4:=Tryz.underlying4
 a4:=Tryz.isAgg4
 z4:=Tryz.sizeOf4
 v4:=Tryz.zeroValue4
 t5:=Tryz.underlying5
 a5:=Tryz.isAgg5
 z5:=Tryz.sizeOf5
 v5:=Tryz.zeroValue5
 t9:=Tryz.underlying9
 a9:=Tryz.isAgg9
 z9:=Tryz.sizeOf9
 v9:=Tryz.zeroValue9
 t31:=Tryz.underlying52
 a31:=Tryz.isAgg52
 z31:=Tryz.sizeOf52
 v31:=Tryz.zeroValue52
 t46:=Tryz.underlying99
 a46:=Tryz.isAgg99
 z46:=Tryz.sizeOf99
 v46:=Tryz.zeroValue99
 t51:=Tryz.underlying229
 a51:=Tryz.isAgg229
 z51:=Tryz.sizeOf229
 v51:=Tryz.zeroValue229
 t53:=Tryz.underlying98
 a53:=Tryz.isAgg98
 z53:=Tryz.sizeOf98
 v53:=Tryz.zeroValue98
 t131:=Tryz.underlying214
 a131:=Tryz.isAgg214
 z131:=Tryz.sizeOf214
 v131:=Tryz.zeroValue214
 t182:=Tryz.underlying315
 a182:=Tryz.isAgg315
 z182:=Tryz.sizeOf315
 v182:=Tryz.zeroValue315
 t183:=Tryz.underlying316
 a183:=Tryz.isAgg316
 z183:=Tryz.sizeOf316
 v183:=Tryz.zeroValue316
 t218:=Tryz.underlying357
 a218:=Tryz.isAgg357
 z218:=Tryz.sizeOf357
 v218:=Tryz.zeroValue357
 t222:=Tryz.underlying361
 a222:=Tryz.isAgg361
 z222:=Tryz.sizeOf361
 v222:=Tryz.zeroValue361
 t228:=Tryz.underlying389
 a228:=Tryz.isAgg389
 z228:=Tryz.sizeOf389
 v228:=Tryz.zeroValue389
 t229:=Tryz.underlying390
 a229:=Tryz.isAgg390
 z229:=Tryz.sizeOf390
 v229:=Tryz.zeroValue390 }
def Tryz.layCompactStr_ren:Go.Shelf.Ren:=⟨fun | 194=>183 | n=>n,fun | 31=>52 | 9=>9 | 3=>3 | 4=>4 | 0=>0 | n=>n,fun | n=>n⟩
theorem Tryz.layCompactStr:Go.Proofs.Lays.n194 Tryz.prog Tryz.layCompactStr_ren:={
 mixed:=by kernel_rfl
 f194:=Tryz.func183.trans (congrArg some Go.Eng.Wk)
 t0:=Tryz.underlying0
 a0:=Tryz.isAgg0
 z0:=Tryz.sizeOf0
 v0:=Tryz.zeroValue0
 t3:=Tryz.underlying3
 a3:=Tryz.isAgg3
 z3:=Tryz.sizeOf3
 v3:=Tryz.zeroValue3
 t4:=Tryz.underlying4
 a4:=Tryz.isAgg4
 z4:=Tryz.sizeOf4
 v4:=Tryz.zeroValue4
 t9:=Tryz.underlying9
 a9:=Tryz.isAgg9
 z9:=Tryz.sizeOf9
 v9:=Tryz.zeroValue9
 t31:=Tryz.underlying52
 a31:=Tryz.isAgg52
 z31:=Tryz.sizeOf52
 v31:=Tryz.zeroValue52 }
end Go.Proofs
namespace Go.Eng
open Go.Proofs Go.Shelf Go.RowKit Go.Lib Go.Sort
variable (ss:List ByteArray)(zs:List (List UInt8))(s:ByteArray)
abbrev KJ:List UInt8:=s.data.toList
abbrev Sv(l:List UInt8):ByteArray:=⟨l.toArray⟩
theorem pW:Sv (KJ s)=s:=by cases s;simp
theorem NP:((zs.map Sv).map Ax).flatten=(zs.map Go.Proofs.encStr).map AV.v:=by
 induction zs with
 |nil=>rfl
 |cons z zs ih=>rw[AL,AL,BC,ih];rfl
theorem Yr:(ss.map KJ).map Sv=ss:=by
 rw[Br,show Sv ∘ KJ=id from funext pW,Gc]
theorem zj(t:List ByteArray)(hl:B8 ss)(DD:ss≠[])(hp:t.Perm ss)(ht:(t.map KJ).Pairwise fun a b=>a<=b) :
  Bc Tryz.prog 99 [.msl 1000 ss.length] (Ap [(1000,.arr 1 (ss.map Ax))] Af) fun r h'=>r=.tup []/\h'=Ap [(1000,.arr 1 (t.map Ax))] Af:=by
 have hE:F1 Tryz.prog 99:=ah 99 Tryz.func99 Wk rfl;obtain⟨zs,hz⟩:∃zs,zs=ss.map KJ:=⟨_,rfl⟩;have ET:ss=zs.map Sv:=by rw[hz,Yr]
 have H4:=Rg (P:=Tryz.prog) (f:=99) (es:=ss.map Ax) (sz:=1) (rest:=[]) (Q:=fun F0=>F0=t.map Ax) hE ?_ ?_
 .rw[Lm]at H4;refine⟨hE,fun g w vals q1 q2 q3=>(H4.2 g w vals q1 q2 q3).mono fun _ _ ⟨v,r,h',g',e1,⟨e2,F0,p1,p3⟩,rest⟩=>⟨v,r,h',g',e1,⟨e2,by rw[p3,p1]⟩,rest⟩⟩
 .intro e;exact absurd (DJ.1 e) DD
 .intro g w b cap F hr hF hH hb;have xV:F.toList=zs.map Go.Proofs.encStr:=Mp (by rw[<-NP,<-ET];exact hr);have mo:F=zs.toArray.map Go.Proofs.encStr:=Js.1 (by rw[xV];simp);have Oc:zs.length=ss.length:=by rw[hz,Lm]
  have xW:Holds Go.Proofs.encStr w b 0 zs.toArray:=fun j hj=>by
   have:=hH j (by rw[mo];simpa using hj)
   refine⟨this.1.trans ?_,this.2⟩;rw[mo,DW _ j (by simpa using hj),DW _ j hj];simp
  have hc:=Any.slices_Sort_string Tryz.laySortStr b 0 cap zs w xW hb ch;have htz:(zs.mergeSort fun x y=>decide (x<=y))=t.map KJ:=by
   have JH:(zs.mergeSort fun x y=>decide (x<=y)).Perm zs:=Og _ _;have yV:=KG (le:=fun x y:List UInt8=>decide (x<=y)) (fun a b c h1 h2=>by simp only[AD]at *;exact List.le_trans h1 h2) (fun a b=>by simp only[CO,AD];exact List.le_total a b) zs;refine List.Perm.eq_of_pairwise (le:=fun a b=>a<=b) (fun a b _ _ h k=>List.le_antisymm h k) (yV.imp fun h=>AK h) ht (JH.trans ?_);rw[hz];exact(hp.map KJ).symm
  rw[htz,Oc]at hc;rw[Lm];refine hc.mono ?_
  rintro e w' ⟨rfl,n,os,rfl⟩
  have DE:t.length=ss.length:=hp.length_eq;refine⟨rfl,(t.map KJ).toArray.map Go.Proofs.encStr,t.map Ax,n,os,?_,rfl,by simp[DE],fun cs hcs=>?_,fun g w _=>?_,by rw[RP]⟩
  .rw[mo];simp[DE,Oc]
  .obtain⟨x,_,rfl⟩:=Ai.1 hcs;rfl
  .have e1:t.map Ax=((t.map KJ).map Sv).map Ax:=by rw[Yr]
   rw[e1,NP];have e:(((t.map KJ).toArray.map Go.Proofs.encStr).toList)=(t.map KJ).map Go.Proofs.encStr:=by simp
   rw[e];exact N6 _ _ _ _ fun x hx=>by
    obtain⟨z,_,rfl⟩:=Ai.1 hx;rfl
def Cm:List ByteArray:=(Lib.compact (ss.map KJ)).map Sv
theorem M0:(Lib.compact zs).length<=zs.length:=by
 unfold Lib.compact Lib.compactUpTo;rw[Lm];exact AG (Bv _ _) (by rw[Ls];exact Ak _)
theorem AdA(hl:B8 ss)(DD:ss≠[]) :
  Bc Tryz.prog 183 [.msl 1000 ss.length] (Ap [(1000,.arr 1 (ss.map Ax))] Af) fun r h'=>r=.msl 2000 (Cm ss).length/\h'=Ap [(1000,.dead),(2000,.arr 1 ((Cm ss).map Ax))] Af:=by
 have hE:F1 Tryz.prog 183:=ah 183 Tryz.func183 Wk rfl;obtain⟨zs,hz⟩:∃zs,zs=ss.map KJ:=⟨_,rfl⟩;have ET:ss=zs.map Sv:=by rw[hz,Yr]
 have Oc:zs.length=ss.length:=by rw[hz,Lm]
 have hcl:=M0 zs;have H4:=WM (P:=Tryz.prog) (f:=183) (es:=ss.map Ax) (sz:=1) (rest:=[]) (n':=(Lib.compact zs).length) (Q:=fun F0=>F0=((Lib.compact zs++List.replicate (zs.length-(Lib.compact zs).length) []).map Sv).map Ax) hE (fun e=>DD (DJ.1 e)) (by rw[Lm];omega) ?_
 .rw[Lm]at H4;have ez:Cm ss=(Lib.compact zs).map Sv:=by unfold Cm;rw[hz]
  refine⟨hE,fun g w vals q1 q2 q3=>(H4.2 g w vals q1 q2 q3).mono fun _ _ ⟨x,r,h',g',e1,⟨e2,F0,p1,p2⟩,rest⟩=>⟨x,r,h',g',e1,⟨by rw[e2,ez,Lm],by
   rw[p2,p1,ez,As,As,HW (by rw[Lm,Lm];exact Ak _),At (by rw[Lm,Lm];exact Ak _)]⟩,rest⟩⟩
 .intro g w b cap F hr hF hH hb hc;rw[Lm]at hF hc⊢;have xV:F.toList=zs.map Go.Proofs.encStr:=Mp (by rw[<-NP,<-ET];exact hr);have mo:F=zs.toArray.map Go.Proofs.encStr:=Js.1 (by rw[xV];simp);have xW:Holds Go.Proofs.encStr w b 0 zs.toArray:=fun j hj=>by
   have:=hH j (by rw[mo];simpa using hj)
   refine⟨this.1.trans ?_,this.2⟩;rw[mo,DW _ j (by simpa using hj),DW _ j hj];simp
  have hcon:=Any.slices_Compact_string Tryz.layCompactStr b 0 cap zs w xW ch ch;rw[Oc]at hcon;refine hcon.mono ?_
  rintro e w' ⟨rfl,q,rfl⟩
  refine⟨rfl,(Lib.compact zs++List.replicate (zs.length-(Lib.compact zs).length) []).toArray.map Go.Proofs.encStr,_,q,#[],?_,rfl,?_,fun cs hcs=>?_,fun g w _=>?_,?_⟩
  .rw[mo];simp;omega
  .simp;omega
  .obtain⟨x,_,rfl⟩:=Ai.1 hcs;rfl
  .rw[NP];have e:((Lib.compact zs++List.replicate (zs.length-(Lib.compact zs).length) []).toArray.map Go.Proofs.encStr).toList=(Lib.compact zs++List.replicate (zs.length-(Lib.compact zs).length) []).map Go.Proofs.encStr:=by simp
   rw[e];exact N6 _ _ _ _ fun x hx=>by
    obtain⟨z,_,rfl⟩:=Ai.1 hx;rfl
  .rw[RP,grow_empty,Oc]
end Go.Eng
namespace Go.Eng
open Go.Proofs
variable {a b:ByteArray}{caps:List AV}{fF:Nat}
abbrev AdH(n:Nat):Th:=⟨[],[],[(2,n),(5,n)],[],[],[],[5],[],[],[],[2,3]⟩
theorem Aet(l:List Sl)(hl:B8 l):Bc Tryz.prog 138 [sl Ae l] (Ap [] Af) fun r h'=>r=.msl 2000 l.length/\h'=Ap [(2000,.arr 4 (l.map Ae))] Af:=by
 refine Cu (M2 (AdH 4)) [(2,2000)] rfl CW hm rfl Tryz.func138 Wk rfl (Nz rfl) Wk rfl ?_;have Hw:Cf 4 (l.map Ae)/\([]:List (List AV)).length=0/\(([]:List (List AV)).length+(l.map Ae).length)*40<=140737488355328/\([]:List (List AV)).length+(l.map Ae).length<=9223372036854775807:=by
  refine⟨DK (enc:=Ae) (n:=4) (fun _=>rfl) l,rfl,?_,?_⟩<;>simp only[Au,Lm]<;>unfold B8 at hl<;>omega
 have e1:AV.msl 2000 (([]:List (List AV)).length+(l.map Ae).length)=.msl 2000 l.length:=by simp
 refine Xi 0 (Xi 0 (Yi ?_ ?_))
 .intro _;refine cU [(0,sl Ae l)] [] Z1 Tv (Xi 2 (Yi Hw ?_));exact Xi _ (Yi (.refl _) (Yi e1 rfl))
 .intro h;refine Yi ?_ ?_
  .refine Xi ⟨[],[],Af⟩ (Yi ⟨trivial,trivial,fun _=>.inl rfl,BP Wk⟩ ?_);refine Xi 2 ?_;exact Xi _ (Yi (.refl _) (Yi (show AV.msl 2000 0=_ by rw[DJ.1 h];rfl) (show Ap [(2000,HO.arr 4 [])] Af=_ by rw[h])))
  .refine cU [(0,sl Ae l)] [] Z1 Tv (Xi 2 (Yi Hw ?_));exact Xi _ (Yi (.refl _) (Yi e1 rfl))
theorem WO{n:Nat}:∀{l:List (List AV)},(∀c∈l,c.length=n)->Cf n l
 | [],_=>trivial
 |c::_,h=>⟨h c (Ab ..),WO fun d hd=>h d (Ah _ hd)⟩
theorem o70(hs:Db caps)(l:List (Sl))(p:Sl->Bool)(hF:∀x∈l,PC fF ([.agg (Ae x)]++caps) (vb (p x)))(hl:l.length<9223372036854775807) :
  PC 108 [sl Ae l,.clo fF caps] (vi (JI p l 0)):=by
 refine Ps Ej Tryz.func108 rfl (Nz rfl) (Xi {i:Nat // i<=l.length/\∀j (hj:j<l.length),j<i->p l[j]=false} (Xi (fun i=>⟨[(0,sl Ae l),(1,.clo fF caps),(7,vi (l.map Ae).length),(8,vi i.1)],[],Af⟩) (Xi (fun i=>l.length-i.1) (Yi (Xi ⟨0,by simp⟩ ?_) ?_))))
 .exact⟨⟨Zr,⟨rfl,hs.ids _⟩,Zr,Zr,Tv⟩,Tv,Fh,Tv⟩
 .intro⟨i,h1,h2⟩;refine Yi ?_ ?_
  .intro h;have h:i<l.length:=by simpa using h
   have hg:l[i]?=some l[i]:=Ge h;refine Xi (Ae l[i]) (Yi (Yi (Nn i) (by simp[hg])) (Yi rfl (yN ?_)));have Cg:∀h,PC fF ([.agg (Ae l[i])]++caps.map (str0 h)) (vb (p l[i])):=fun h=>by rw[hs.map];exact hF l[i] (Al _)
   cases hp:p l[i]with
   |true=>
    rw[hp]at Cg;refine Xi .pure (Xi (vb true) (Yi (Cg _) ?_));rw[HM h (fun j hj IG=>h2 j hj IG) hp,EC];exact .refl _
   |false=>
    rw[hp]at Cg;refine Xi .pure (Xi (vb false) (Yi (Cg _) (Yi (Ii i ch) (Xi ⟨i+1,by omega,fun j hj IG=>?_⟩ ?_))))
    .by_cases e:j=i
     .subst e;exact hp
     .exact h2 j hj ch
    .exact⟨Dl l.length i ch,⟨Zr,⟨rfl,hs.ids _⟩,Zr,Zr,Tv⟩,Tv,Fh,Tv⟩
  .intro h;have h:¬i<l.length:=by simpa using h
   rw[Gt fun j hj=>h2 j hj ch];exact .refl _
theorem o25(hs:Db caps)(l:List (Sl))(p:Sl->Bool)(hF:∀x∈l,PC fF ([.agg (Ae x)]++caps) (vb (p x)))(hl:B8 l) :
  PC 79 [sl Ae l,.clo fF caps] (vb (l.any p)):=by
 refine Ps Ej Tryz.func79 rfl (Nz rfl) ?_;have hi:=o70 hs l p hF (by unfold B8 at hl;omega);have Cg:∀h,PC 108 [sl Ae l,.clo fF (caps.map (str0 h))] (vi (JI p l 0)):=fun h=>by rw[hs.map];exact hi
 refine Xi .pure (Xi _ (Yi (Cg _) ?_));have ha:=HG (p:=p) l 0 (Bn 0);refine Yi ?_ ?_
 .intro h;rw[<-ha,Ar h];exact .refl _
 .intro h;rw[<-ha,Av h];exact .refl _
def iH(a b:Sl):Int:=if La a.path b.path≠0 then La a.path b.path else PU a.ver b.ver
abbrev AbV:Sl->Sl->Int:=fun a b=>La a.path b.path
theorem ZV:La a b<0↔Ef a b=true:=by
 unfold La
 by_cases h:Ef a b=true
 .rw[Ao h];simp[h]
 .rw[Aj h];split<;>simp[h]
theorem OT:La a b=0↔a=b:=by
 unfold La;constructor
 .intro h;split at h
  .cases h
  .rename_i h1;split at h
   .cases h
   .rename_i h2;exact Ik (by simpa using h1) (by simpa using h2)
 .rintro rfl
  rw[Aj (by rw[Dm];decide),Aj (by rw[Dm];decide)]
abbrev kept{α:Type}(p:α->Bool)(l:List α):List α:=l.filter fun x=>!p x
abbrev cn(r:Rl):Sl:=⟨r.path,r.ver⟩
theorem o46(ifs:List (List AV))(hl:B8 ifs)(hs:∀c∈ifs,c.length=5):PC 103 [.slice .none ifs] (.slice .none ifs):=by
 refine Ps Ej Tryz.func103 rfl (Nz rfl) ?_;have Hw:Cf 5 ifs/\([]:List (List AV)).length=0/\(([]:List (List AV)).length+ifs.length)*112<=140737488355328/\([]:List (List AV)).length+ifs.length<=9223372036854775807:=by
  refine⟨WO hs,rfl,?_,?_⟩<;>simp only[Au]<;>unfold B8 at hl<;>omega
 refine Yi ?_ ?_
 .intro _;exact Yi Hw (.refl _)
 .intro h;refine Yi ?_ ?_
  .show CY nzA (.slice .none ifs);rw[h];exact .nil
  .exact Yi Hw (.refl _)
end Go.Eng
namespace Go.Eng
variable {α:Type}{l:List α}{a b:Int}
structure OC{α β:Type}(c:α->α->Int)(R:α->α->Prop)(key:α->β):Prop where
 lt:∀a b,c a b<0↔R a b
 eq:∀a b,c a b=0↔key a=key b
 tr:∀a b d,R a b->R b d->R a d
 irr:∀a b,key a=key b->¬R a b
 tri:∀a b,¬R a b->key a≠key b->R b a
 cl:∀a b d,key a=key b->R a d->R b d
section
variable {α β:Type}{c:α->α->Int}{R:α->α->Prop}{key:α->β}
theorem RE(h:OC c R key){a:List α}(ha:a.Pairwise R):(a.map key).Nodup:=by
 unfold List.Nodup;rw[Lu];exact ha.imp fun q e=>h.irr _ _ e q
end
/-! The three comparisons. -/
def ltS(a b:Sl):Prop:=Ef a.path b.path=true\/(a.path=b.path/\qN a.ver b.ver)
abbrev Vi(a b:Sl):Prop:=Ef a.path b.path=true
theorem Uv:G6 a b<0↔a<b:=by
 unfold G6;split
 .rename_i h;simp[h]
 .rename_i h;split<;>simp[h]
theorem Ka:G6 a b=0↔a=b:=by
 unfold G6;split
 .rename_i h;simp;omega
 .rename_i h;split
  .rename_i h2;simp;omega
  .rename_i h2;simp;omega
theorem lI{a b:Ver}:PU a b<0↔qN a b:=by
 refine⟨ft,fun h=>?_⟩;unfold PU;rcases h with h | ⟨h1,h | ⟨h2,h⟩⟩
 .rw[Ao (fun c=>by have:=Ka.1 c;omega)];exact Uv.2 h
 .rw[Aj (fun c=>c (Ka.2 h1)),Ao (fun c=>by have:=Ka.1 c;omega)];exact Uv.2 h
 .rw[Aj (fun c=>c (Ka.2 h1)),Aj (fun c=>c (Ka.2 h2))];exact Uv.2 h
theorem PT{a b:Sl}:iH a b<0↔ltS a b:=by
 unfold iH ltS
 by_cases h:a.path=b.path
 .rw[Aj (fun c=>c (OT.2 h)),lI];exact⟨fun q=>.inr ⟨h,q⟩,fun q=>q.elim (fun q=>by rw[h,Dm]at q;cases q) (·.2)⟩
 .rw[Ao (fun c=>h (OT.1 c)),ZV];exact⟨.inl,fun q=>q.elim id fun q=>absurd q.1 h⟩
theorem ocP:OC AbV Vi (fun s:Sl=>s.path) where
 lt _ _:=ZV
 eq _ _:=OT
 tr _ _ _:=D6
 irr a b e h:=by rw[Vi,e,Dm]at h;cases h
 tri a b h e:=by
  cases q:Ef b.path a.path with
  |true=>exact q
  |false=>
   cases p:Ef a.path b.path with
   |true=>exact absurd p h
   |false=>exact absurd (Ik p q) e
 cl a b d e h:=by rw[Vi,<-e];exact h
/-! Pins. -/
theorem dJ{β:Type}{f:α->β}(h:(l.map f).Nodup):l.Nodup:=by
 unfold List.Nodup at *
 rw[Lu]at h;exact h.imp fun q e=>q (Aa f e)
/-! What the reference makes of a list. -/
theorem Ek{i:Nat}(h:i<l.length):l.take (i+1)=l.take i++[l[i]]:=BY h
end Go.Eng
namespace Go.Eng
open Go.Proofs
def fH(p:ByteArray)(r:Rl):Bool:=decide (r.path=p)&&!r.yanked
def zV(r:Rl):Int×Int:=(plc r.ver,plc r.ver+1)
theorem iw{x:List Rl}{p:ByteArray}(h:A6 x=0):Cn x p=canon ((x.filter (fH p)).map zV):=by
 unfold Cn Li;rw[Aj (not_not_intro h),List.filter_filter]
 congr 3
 funext r
 unfold fH;rw[Bool.and_comm]
theorem YC{α:Type}{enc:α->List AV}{n:Nat}(h:∀x,(enc x).length=n)(l:List α):∀cs∈l.map enc,cs.length=n:=fun cs hc=>by
 obtain⟨x,_,rfl⟩:=Ai.1 hc;exact h x
theorem jM{α:Type}(o:Option α):(∃x,o=some x)\/o=none:=by
 cases o with
 |none=>exact .inr rfl
 |some x=>exact .inl ⟨x,rfl⟩
end Go.Eng
