/- Lemmas 23. -/
import Derived.Test.YtjhkbdgingfbaaaGreatDoorHA22
import Derived.Test.YtjhkbdgingfbaaaGreatDoorHA03
import Derived.Lib.RepeatB
set_option maxHeartbeats 4000000
namespace Go.Eng
open Go.Proofs
variable (n:Int)(c:UInt8)(l:List UInt8)(x:HS)(p s:ByteArray)(i:Nat)
theorem nO(n:Nat):(⟨(Go.Lib.repeatL (ByteArray.mk #[0]).data.toList n).toArray⟩:ByteArray)=sn n:=by
 show(⟨(Go.Lib.repeatL (List.replicate 1 0) n).toArray⟩:ByteArray)=_;rw[Go.Lib.repeatL_replicate,sn];simp
theorem oC(h0:0<=n)(h:n<=100):PC 110 [vs ⟨#[0]⟩,vi n] (vs (sn n.toNat)):=by
 refine HP [.string ⟨#[0]⟩,.int .i64 n] (.string (sn n.toNat)) (VI 110 Tryz.func110 aa0 rfl) rfl (fun g w=>.v _ _) fun w _ _=>?_;have q:=Any.strings_Repeat Tryz.layRepeat Tryz.layRepeatX ⟨#[0]⟩ n.toNat w ch (by show 1*n.toNat<=_;omega);rw[nO,Int.toNat_of_nonneg h0]at q;exact q
theorem ox(h:s.size<=1000000000):PC 172 [vs s] (vs s):=
 HP [.string s] (.string s) (VI 172 Tryz.func172 aa0 rfl) rfl (fun g w=>.v _ _) fun w _ _=>AnyPu.stringslite_Clone Tryz.layClone s w ch
theorem ry(h:s.size<=1000000000):PC 108 [vs s] (vs s):=by
 refine Ps DU Tryz.func108 rfl (Nz rfl) (Xi .pure (Xi _ (Yi (ox s h) ?_)));exact .refl _
theorem zn  : Bb Tryz.prog 67 [] (Ag [] Ad) fun r h'=>r=.ref 2000 0/\h'=Ag [(2000,.cells (HH MH))] Ad:=by
 refine Cm (MC DU) [(3,2000)] rfl Cu hm rfl Tryz.func67 aa0 rfl (Nz rfl) aa0 rfl ?_;exact Xi _ (Yi (.refl _) Zr)
theorem oy:Bb Tryz.prog 109 [.ref 1000 0] (Ag [(1000,.cells (HH x))] Ad) fun r h'=>r=.ref 2000 0/\h'=Ag [(1000,.cells (HH x)),(2000,.cells (HH x))] Ad:=by
 refine Cm (MC DU) [(1000,1000),(3,2000)] rfl Cu hm rfl Tryz.func109 aa0 rfl (Nz rfl) aa0 rfl (yN (yN ?_));exact Xi _ (Yi (.refl _) Zr)
abbrev u8(x:Int):AV:=.v (.int .u8 x)
def aU:List AV:=(List.range i).map fun(j:Nat)=>u8 (IntKind.wrap .u8 (FP .shr .u64 n (56-8*(j:Int))))
def na:List UInt8:=(List.range 8).map fun(i:Nat)=>UInt8.ofNat (IntKind.wrap .u8 (FP .shr .u64 n (56-8*(i:Int)))).toNat
theorem fg:(aU n i).length=i:=by rw[aU,Lm,Is]
theorem yu(h:Nat->HO)(n:Int)(i:Nat):SK h (.cells (aU n i++List.replicate (8-i) (u8 0)))=true:=by
 have e:∀l:List Int,Yo h (l.map u8++List.replicate (8-i) (u8 0))=true:=fun l=>by
  induction l with
  |nil=>show Yo h (List.replicate (8-i) (u8 0))=true;induction (8-i)with |zero=>rfl |succ k ih=>exact ih
  |cons a l ih=>exact ih
 have q:=e ((List.range i).map fun(j:Nat)=>IntKind.wrap .u8 (FP .shr .u64 n (56-8*(j:Int))));rw[Bw]at q;exact q
theorem ne{n:Int}{i m:Nat}(h:i<8)(e:m=i):over (aU n i++List.replicate (8-i) (u8 0)) m [u8 (IntKind.wrap .u8 (FP .shr .u64 n (56-8*(i:Int))))]=aU n (i+1)++List.replicate (8-(i+1)) (u8 0):=by
 rw[show 8-i=(8-(i+1))+1 by omega,List.replicate_succ,PX (by rw[fg];exact e.symm),aU,aU,List.range_succ,Az,Bm];rfl
theorem sj(z:Int):((UInt8.ofNat (IntKind.wrap .u8 z).toNat).toNat:Int)=IntKind.wrap .u8 z:=by
 have h1:0<=IntKind.wrap .u8 z:=Int.emod_nonneg _ Cl;have h2:IntKind.wrap .u8 z<256:=Int.emod_lt_of_pos _ Cl;rw[UInt8.toNat_ofNat',Nat.mod_eq_of_lt ch];omega
theorem jd(h:Nat->HO)(n:Int):(((aU n 8).map (str h)).map fun c=>[c])=(na n).map fun b=>[AV.v (.int .u8 b.toNat)]:=by
 rw[aU,na,Bw,Bw,Bw];refine Ba fun i _=>?_;show [AV.v (.int .u8 _)]=[AV.v (.int .u8 _)];rw[sj]
theorem zo:PC 111 [.v (.int .u64 n)] (vs (qN n)):=by
 refine Ps ⟨[],[(17,1)],[],[(17,[3])],[],[],[],[],[],[],[7]⟩ Tryz.func111 rfl (Nz rfl) (Xi {q:Nat // q<=8} (Xi (fun q=>⟨[(0,.v (.int .u64 n)),(3,.ref 3 0),(5,vi q.1)],[(3,.cells (aU n q.1++List.replicate (8-q.1) (u8 0)))],Ad⟩) (Xi (fun q=>8-q.1) (Yi (Xi ⟨0,AE _⟩ ?_) ?_))))
 .exact⟨Z3,⟨⟨rfl,(yu _ _ _)⟩,Tv⟩,Fh,Tv⟩
 intro⟨i,i1⟩;have i1:i<=8:=i1;refine Yi (fun h1=>?_) (fun h1=>?_)
 .have h1:(i:Int)<(8:Int):=h1;refine Yi (by show A5 ((8:Int)*(i:Int));unfold A5;omega) (Yi (by show A5 ((56:Int)-(8*i:Int));unfold A5;omega) (Yi (show(0:Int)<=56-(8*i) by omega) (Yi (show(0:Int)<=i/\(i:Int)<(8:Nat)from by omega) (Yi (show(0+(i:Int).toNat*1)+1<=((aU n i++List.replicate (8-i) (u8 0))).length from by rw[Ac,fg,Bv];omega) ?_))));refine Yi (Ii i ch) (Xi ⟨i+1,by omega⟩ ?_);exact⟨Dl 8 i ch,Z3,⟨⟨(show HO.cells (over (aU n i++List.replicate (8-i) (u8 0)) (0+(i:Int).toNat*1) [.v (.int .u8 (IntKind.wrap .u8 (FP .shr .u64 n (56-(8*i)))))])=.cells (aU n (i+1)++List.replicate (8-(i+1)) (u8 0))from Aa HO.cells (ne (show i<8 by omega) ch)),(yu _ _ _)⟩,Tv⟩,Fh,Tv⟩
 have h1:¬((i:Int)<(8:Int)):=h1;refine cU [(3,.ref 3 0)] [(3,.cells (aU n 8))] Z1 ⟨⟨(show HO.cells (aU n i++List.replicate (8-i) (u8 0))=.cells (aU n 8) by rw[show i=8 by omega];rfl),rfl⟩,Tv⟩ ?_
 refine Yi (show 8=((aU n 8).map (str _)).length from rfl) (Xi (na n) (Yi (jd _ n) ?_));exact .refl _
theorem fT(hb:(x.rest++s).size<=1000000000):Bb Tryz.prog 68 [.ref 1000 0,vs s] (Ag [(1000,.cells (HH x))] Ad) fun r h'=>r=.tup []/\h'=Ag [(1000,.cells (HH (IJ x s)))] Ad:=by
 refine Cm (MC DU) [(1000,1000)] rfl Cu hm rfl Tryz.func68 aa0 rfl (Nz rfl) aa0 rfl (yN (Yi (show((x.rest.size+s.size:Nat):Int)<=9223372036854775807 by have q:=hb;rw[BM]at q;omega) (Xi {q:S8×ByteArray // G6 q.1 q.2=G6 x.v (x.rest++s)/\q.2.size<=1000000000} (Xi (fun q=>⟨[(0,.ref 1000 0),(1,vs q.1.2)],[(1000,.cells [.v (.int .u32 q.1.1.a),.v (.int .u32 q.1.1.b),.v (.int .u32 q.1.1.c),.v (.int .u32 q.1.1.d),.v (.int .u32 q.1.1.e),.v (.int .u32 q.1.1.f),.v (.int .u32 q.1.1.g),.v (.int .u32 q.1.1.h),vs x.rest,.v (.int .u64 (IntKind.wrap .u64 (x.tot+(IntKind.wrap .u64 (s.size:Int)))))])],Ad⟩) (Xi (fun q=>q.1.2.size) (Yi (Xi ⟨(x.v,x.rest++s),rfl,hb⟩ ?_) ?_))))))
 .exact⟨Z2,Z1,Fh,BQ aa0⟩
 intro⟨⟨v,b⟩,v1,v2⟩;have v1:G6 v b=G6 x.v (x.rest++s):=v1;have v2:b.size<=1000000000:=v2;refine Yi (fun h1=>?_) (fun h1=>?_)
 .have h1:(64:Int)<=(b.size:Int):=h1;refine Yi (show(0:Int)<=0/\(0:Int)<=64/\(64:Int)<=(b.size:Int)from by omega) (Xi (.gen [(1000,1000)] 0) (Yi rfl (Bb.to2 (zm ⟨v,x.rest,(IntKind.wrap .u64 (x.tot+(IntKind.wrap .u64 (s.size:Int))))⟩ (b.extract 0 64) (by simp only[F6];omega)) ?_)));refine Yi (show(0:Int)<=64/\(64:Int)<=(b.size:Int)/\(b.size:Int)<=(b.size:Int)from by omega) (Xi ⟨(rp v (b.extract 0 64),b.extract 64 b.size),by rw[<-v1,G6.eq_1 v b,As ch],by simp only[F6];omega⟩ ?_);exact⟨by show(b.extract 64 b.size).size<b.size;simp only[F6];omega,Z2,Z1,Fh,BQ aa0⟩
 have h1:¬((64:Int)<=(b.size:Int)):=h1;refine Xi .pure (Xi _ (Yi (ry b v2) (yN ?_)));exact Xi _ (Yi (.refl _) ⟨rfl,show Ag [(1000,HO.cells [.v (.int .u32 v.a),.v (.int .u32 v.b),.v (.int .u32 v.c),.v (.int .u32 v.d),.v (.int .u32 v.e),.v (.int .u32 v.f),.v (.int .u32 v.g),.v (.int .u32 v.h),vs b,.v (.int .u64 (IntKind.wrap .u64 (x.tot+(IntKind.wrap .u64 (s.size:Int)))))])] Ad=Ag [(1000,.cells (HH (IJ x s)))] Ad from by rw[IJ,<-v1,G6.eq_1 v b,Ah ch]⟩)
theorem Qm(n:Nat):(sn n).size=n:=by show(List.replicate n (0:UInt8)).toArray.size=n;simp
theorem Rf:(qN n).size=8:=by show(List.map _ (List.range 8)).toArray.size=8;simp
theorem jo:(Ez x).size<=80:=by
 rw[Ez,BM,BM,Qm,Rf];show 1+_+8<=80;omega
theorem oE(x:Int):[[AV.v (.int .u8 (IntKind.wrap .u8 (FP .shr .u32 x 24)))],[.v (.int .u8 (IntKind.wrap .u8 (FP .shr .u32 x 16)))],[.v (.int .u8 (IntKind.wrap .u8 (FP .shr .u32 x 8)))],[.v (.int .u8 (IntKind.wrap .u8 x))]]=(Gt x).map Dk:=by
 simp only[Gt,AK,Eb,Dk,sj]
theorem oF(l:List Int)(i:Nat)(h:i<=8):((l.take i).flatMap Gt).length<=32:=by
 have e:∀m:List Int,(m.flatMap Gt).length=4*m.length:=fun m=>by
  induction m with
  |nil=>rfl
  |cons a m ih=>rw[List.flatMap_cons,Ac,ih];show 4+_=4*(_+1);omega
 rw[e,AA];omega
theorem dP{l:List Int}{i:Nat}(h:i<l.length):(l.take i).flatMap Gt++Gt (Y5 l i)=(l.take (i+1)).flatMap Gt:=by
 rw[AZ,dO h,List.flatMap_append];simp
theorem vf(hx:x.rest.size<64):Bb Tryz.prog 69 [.ref 1000 0] (Ag [(1000,.cells (HH x))] Ad) fun r h'=>r=vs (rt x)/\h'=Ag [(1000,.cells (HH x))] Ad:=by
 refine Cm (MC ⟨[],[(5,1)],[],[],[],[],[],[],[(28,5)],[],[]⟩) [(1000,1000)] rfl Cu hm rfl Tryz.func69 aa0 rfl (Nz rfl) aa0 rfl (Xi (.gen [(1000,1000)] 1) (Yi rfl (Bb.to2 (oy x) ?_)));refine Yi (by show A5 ((119:Int)-(x.rest.size:Int));unfold A5;omega) (Yi ⟨by omega,by omega⟩ ?_);refine Xi _ (Yi (oC (((119-x.rest.size) % 64:Int)) ch ch) (Yi (show(((⟨#[128]⟩:ByteArray).size+(sn (((119-x.rest.size) % 64:Int)).toNat).size:Nat):Int)<=9223372036854775807 by have q:(⟨#[128]⟩:ByteArray).size=1:=rfl;simp only[Qm];omega) ?_));refine Xi _ (Yi (zo (IntKind.wrap .u64 (8*x.tot))) (Yi (show(((⟨#[128]⟩++(sn (((119-x.rest.size) % 64:Int)).toNat):ByteArray).size+(qN (IntKind.wrap .u64 (8*x.tot))).size:Nat):Int)<=9223372036854775807 by have q:(⟨#[128]⟩:ByteArray).size=1:=rfl;simp only[BM,Qm,Rf];omega) ?_));refine Xi [(10900,1000)] (Xi [(1000,.cells (HH x))] (Xi [(1000,.cells (HH (IJ x (Ez x))))] (Xi [.ref 1000 0,vs (Ez x)] (Xi (.tup []:AV) (Yi (fun h2 hh=>Yi ((Aa (fun o:HO=>Ag [(1000,o.ren (Cc [(10900,1000)]) h2)] Ad) (show h2 10900=.cells (HH x)from hh 10900 Cl)).trans rfl) rfl) (Yi aa0 (Yi (fT x (Ez x) (by rw[BM];have q:=jo x;omega)) ?_)))))));refine Yi aa0 (yN (Xi {q:Nat // q<=8} (Xi (fun q=>⟨[(5,.slice (.id 5 1) ((((S8.l (IJ x (Ez x)).v).take q.1).flatMap Gt).map Dk)),(32,.agg [.v (.int .u32 (IJ x (Ez x)).v.a),.v (.int .u32 (IJ x (Ez x)).v.b),.v (.int .u32 (IJ x (Ez x)).v.c),.v (.int .u32 (IJ x (Ez x)).v.d),.v (.int .u32 (IJ x (Ez x)).v.e),.v (.int .u32 (IJ x (Ez x)).v.f),.v (.int .u32 (IJ x (Ez x)).v.g),.v (.int .u32 (IJ x (Ez x)).v.h)]),(33,vi q.1)],[(5,.tok 1 ((((S8.l (IJ x (Ez x)).v).take q.1).flatMap Gt).map Dk).length),(1000,.cells (HH x))],Ad⟩) (Xi (fun q=>8-q.1) (Yi (Xi ⟨0,AE _⟩ ?_) ?_)))))
 .exact⟨Z3,Z2,Fh,BQ aa0⟩
 intro⟨i,i1⟩;have i1:i<=8:=i1;refine Yi (fun h1=>?_) (fun h1=>?_)
 .have h1:(i:Int)<(8:Int):=h1;have hlw:=oF (S8.l (IJ x (Ez x)).v) i i1;refine Yi (show(0:Int)<=i/\(i:Int)<(8:Nat)from by omega) (Hm (rI (v:=(IJ x (Ez x)).v) (show i<8 by omega) (show((i:Int).toNat*1)=i by omega)) (Yi Cl (Yi Cl (Yi Cl ?_))));have b2:CR 1 [[.v (.int .u8 (IntKind.wrap .u8 (FP .shr .u32 (S8.n (IJ x (Ez x)).v i) 24)))],[.v (.int .u8 (IntKind.wrap .u8 (FP .shr .u32 (S8.n (IJ x (Ez x)).v i) 16)))],[.v (.int .u8 (IntKind.wrap .u8 (FP .shr .u32 (S8.n (IJ x (Ez x)).v i) 8)))],[.v (.int .u8 (IntKind.wrap .u8 (S8.n (IJ x (Ez x)).v i)))]]/\((((S8.l (IJ x (Ez x)).v).take i).flatMap Gt).map Dk).length=((((S8.l (IJ x (Ez x)).v).take i).flatMap Gt).map Dk).length/\(((((S8.l (IJ x (Ez x)).v).take i).flatMap Gt).map Dk).length+([[.v (.int .u8 (IntKind.wrap .u8 (FP .shr .u32 (S8.n (IJ x (Ez x)).v i) 24)))],[.v (.int .u8 (IntKind.wrap .u8 (FP .shr .u32 (S8.n (IJ x (Ez x)).v i) 16)))],[.v (.int .u8 (IntKind.wrap .u8 (FP .shr .u32 (S8.n (IJ x (Ez x)).v i) 8)))],[.v (.int .u8 (IntKind.wrap .u8 (S8.n (IJ x (Ez x)).v i)))]]:List (List AV)).length)*1<=140737488355328/\((((S8.l (IJ x (Ez x)).v).take i).flatMap Gt).map Dk).length+([[.v (.int .u8 (IntKind.wrap .u8 (FP .shr .u32 (S8.n (IJ x (Ez x)).v i) 24)))],[.v (.int .u8 (IntKind.wrap .u8 (FP .shr .u32 (S8.n (IJ x (Ez x)).v i) 16)))],[.v (.int .u8 (IntKind.wrap .u8 (FP .shr .u32 (S8.n (IJ x (Ez x)).v i) 8)))],[.v (.int .u8 (IntKind.wrap .u8 (S8.n (IJ x (Ez x)).v i)))]]:List (List AV)).length<=9223372036854775807:=⟨⟨rfl,rfl,rfl,rfl,trivial⟩,rfl,(by simp only[Lm,Al,Ax];omega),(by simp only[Lm,Al,Ax];omega)⟩;refine Yi b2 (Yi (Ii i ch) ?_);have ew:(((((S8.l (IJ x (Ez x)).v).take i).flatMap Gt).map Dk++[[AV.v (.int .u8 (IntKind.wrap .u8 (FP .shr .u32 (S8.n (IJ x (Ez x)).v i) 24)))],[.v (.int .u8 (IntKind.wrap .u8 (FP .shr .u32 (S8.n (IJ x (Ez x)).v i) 16)))],[.v (.int .u8 (IntKind.wrap .u8 (FP .shr .u32 (S8.n (IJ x (Ez x)).v i) 8)))],[.v (.int .u8 (IntKind.wrap .u8 (S8.n (IJ x (Ez x)).v i)))]])=(((S8.l (IJ x (Ez x)).v).take (i+1)).flatMap Gt).map Dk):=by rw[oE,<-Az];exact Aa (List.map Dk) (dP (show i<8 by omega))
  refine Xi ⟨i+1,by omega⟩ ?_;exact⟨Dl 8 i ch,⟨⟨(Aa (AV.slice (.id 5 1)) ew),rfl⟩,Zr,Zr,Tv⟩,⟨⟨(show HO.tok 1 (((((S8.l (IJ x (Ez x)).v).take i).flatMap Gt).map Dk).length+([[.v (.int .u8 (IntKind.wrap .u8 (FP .shr .u32 (S8.n (IJ x (Ez x)).v i) 24)))],[.v (.int .u8 (IntKind.wrap .u8 (FP .shr .u32 (S8.n (IJ x (Ez x)).v i) 16)))],[.v (.int .u8 (IntKind.wrap .u8 (FP .shr .u32 (S8.n (IJ x (Ez x)).v i) 8)))],[.v (.int .u8 (IntKind.wrap .u8 (S8.n (IJ x (Ez x)).v i)))]]:List (List AV)).length)=.tok 1 ((((S8.l (IJ x (Ez x)).v).take (i+1)).flatMap Gt).map Dk).length from Aa (HO.tok 1) (Ac.symm.trans (Aa List.length ew))),rfl⟩,Zr,Tv⟩,Fh,BQ aa0⟩
 have h1:¬((i:Int)<(8:Int)):=h1;refine Xi (((S8.l (IJ x (Ez x)).v)).flatMap Gt) (Yi (show((((S8.l (IJ x (Ez x)).v).take i).flatMap Gt).map Dk)=(((S8.l (IJ x (Ez x)).v)).flatMap Gt).map Dk by rw[show i=8 by omega];rfl) ?_);exact Xi _ (Yi (.refl _) Zr)
theorem V2:∀(n:Nat) (v:S8) (b:ByteArray),b.size<=n->(G6 v b).2.size<64
 |0,v,b,h=>by rw[G6,Ah ch];show b.size<64;omega
 |n+1,v,b,h=>by
  rw[G6];split
  .exact V2 n _ _ (by simp only[F6];omega)
  .show b.size<64;omega
theorem vh:(IJ x s).rest.size<64:=V2 _ _ _ (Ai _)
theorem jV:(rt x).size=32:=by
 have e:∀m:List Int,(m.flatMap Gt).length=4*m.length:=fun m=>by
  induction m with
  |nil=>rfl
  |cons a m ih=>rw[List.flatMap_cons,Ac,ih];show 4+_=4*(_+1);omega
 show((((IJ x (Ez x)).v.l).flatMap Gt).toArray).size=32;rw[DW,e];rfl
structure Cp where
 path:ByteArray
 ver:Ver
 bytes:ByteArray
 deriving DecidableEq
abbrev BY(c:Cp):List AV:=[vs c.path,vi c.ver.a,vi c.ver.b,vi c.ver.c,vs c.bytes]
abbrev Es(c:Cp):Sl:=⟨c.path,c.ver⟩
def EB:ByteArray:=rt (IJ MH s)
theorem Rs:(EB s).size=32:=jV _
def QF:ByteArray:=⟨#[48,49,50,51,52,53,54,55,56,57,97,98,99,100,101,102]⟩
abbrev ZU:UInt8:=CV QF (c.toNat / 16)
abbrev ZW:UInt8:=CV QF (c.toNat % 16)
def HX:List UInt8:=l.flatMap fun c=>[ZU c,ZW c]
def JW:ByteArray:=⟨(HX s.data.toList).toArray⟩
theorem Uh:(HX l).length=2*l.length:=by
 unfold HX
 induction l with
 |nil=>rfl
 |cons a l ih=>rw[List.flatMap_cons,Ac,ih];show 2+_=2*(_+1);omega
theorem Adt:FP .shr .u8 (c.toNat:Int) 4=((c.toNat / 16:Nat):Int):=by
 show(c.toNat:Int).fdiv 16=_;rw[Int.fdiv_eq_ediv_of_nonneg _ Cl];rfl
theorem sF:∀n:Nat,n<256->G5 .and .u8 (n:Int) 15=((n % 16:Nat):Int):=by decide +kernel
theorem wt:G5 .and .u8 (c.toNat:Int) 15=((c.toNat % 16:Nat):Int):=sF _ c.toNat_lt
theorem p9:[[AV.v (.int .u8 ((ZU c).toNat:Int))],[.v (.int .u8 ((ZW c).toNat:Int))]]=(HX [c]).map Dk:=rfl
theorem mh{l:List UInt8}{i:Nat}(h:i<l.length):HX (l.take i)++HX [l[i]]=HX (l.take (i+1)):=by
 rw[AZ,Ge h];unfold HX;rw[List.flatMap_append];rfl
theorem Wc(hs:s.size<=100000000):PC 27 [vs s] (vs (EB s)):=by
 refine Ps DU Tryz.func27 rfl (Nz rfl) (Xi (.gen [] 1) (Yi rfl (Bb.to2 zn ?_)));refine Xi (.gen [(10400,1000)] 0) (Yi rfl (Bb.to2 (fT MH s (by rw[BM];show 0+s.size<=_;omega)) ?_));refine Xi (.gen [(10400,1000)] 0) (Yi rfl (Bb.to2 (vf (IJ MH s) (vh _ _)) ?_));exact .refl _
theorem Zl(h:i<s.data.toList.length):CV s i=s.data.toList[i]:=by
 unfold CV;rw[<-AI,Ge h];rfl
theorem wC(hs:s.size<=1000000):PC 60 [vs s] (vs (JW s)):=by
 refine Ps (pT [] [(8,1)] []) Tryz.func60 rfl (Nz rfl) (Yi (by show A5 ((2:Int)*(s.size:Int));unfold A5;omega) (Yi (show(0:Int)<=0/\(0:Int)<=2*s.size/\(2*s.size:Int)*1<=140737488355328/\(2*s.size:Int)<=9223372036854775807 by omega) (Xi {q:Nat // q<=s.size} (Xi (fun q=>⟨[(0,vs s),(3,.slice (.id 8 1) ((HX (s.data.toList.take q.1)).map Dk)),(10,vi s.size),(11,vi q.1)],[(8,.tok 1 ((HX (s.data.toList.take q.1)).map Dk).length)],Ad⟩) (Xi (fun q=>s.size-q.1) (Yi (Xi ⟨0,AE _⟩ ?_) ?_))))))
 .exact⟨Z4,Z1,Fh,Tv⟩
 intro⟨i,i1⟩;have i1:i<=s.size:=i1;have e0:s.data.toList.length=s.size:=rfl;have hln:(HX (s.data.toList.take i)).length<=2*s.size:=by rw[Uh,AA];omega
 refine Yi (fun h1=>?_) (fun h1=>?_)
 .have h1:(i:Int)<(s.size:Int):=h1;have hi:i<s.data.toList.length:=by omega
  refine Xi (CV s i) (Yi (LR (z:=(i:Int)) (show i<s.size by omega) rfl) (Yi Cl (Xi (ZU (CV s i)) (Yi (LR (s:=QF) (z:=(FP .shr .u8 ((CV s i).toNat:Int) 4)) (n:=(CV s i).toNat / 16) (show _<16 by have q:=(CV s i).toNat_lt;omega) (Adt _)) (Xi (CV s i) (Yi (LR (z:=(i:Int)) (show i<s.size by omega) rfl) (Xi (ZW (CV s i)) (Yi (LR (s:=QF) (z:=(G5 .and .u8 ((CV s i).toNat:Int) 15)) (n:=(CV s i).toNat % 16) (show _<16 by omega) (wt _)) ?_))))))));have b2:CR 1 [[.v (.int .u8 ((ZU (CV s i)).toNat:Int))],[.v (.int .u8 ((ZW (CV s i)).toNat:Int))]]/\((HX (s.data.toList.take i)).map Dk).length=((HX (s.data.toList.take i)).map Dk).length/\(((HX (s.data.toList.take i)).map Dk).length+([[.v (.int .u8 ((ZU (CV s i)).toNat:Int))],[.v (.int .u8 ((ZW (CV s i)).toNat:Int))]]:List (List AV)).length)*1<=140737488355328/\((HX (s.data.toList.take i)).map Dk).length+([[.v (.int .u8 ((ZU (CV s i)).toNat:Int))],[.v (.int .u8 ((ZW (CV s i)).toNat:Int))]]:List (List AV)).length<=9223372036854775807:=⟨⟨rfl,rfl,trivial⟩,rfl,(by simp only[Lm,Al,Ax];omega),(by simp only[Lm,Al,Ax];omega)⟩;refine Yi b2 (Yi aa0 (Yi (Ii i ch) ?_));have ew:((HX (s.data.toList.take i)).map Dk++[[AV.v (.int .u8 ((ZU (CV s i)).toNat:Int))],[.v (.int .u8 ((ZW (CV s i)).toNat:Int))]])=(HX (s.data.toList.take (i+1))).map Dk:=by rw[p9,<-Az];exact Aa (List.map Dk) ((Aa (fun z=>HX (s.data.toList.take i)++HX [z]) (Zl s i hi)).trans (mh (show i<s.data.toList.length by omega)))
  refine Xi ⟨i+1,by omega⟩ ?_;exact⟨Dl s.size i ch,⟨Zr,⟨(Aa (AV.slice (.id 8 1)) ew),rfl⟩,Zr,Zr,Tv⟩,⟨⟨(show HO.tok 1 (((HX (s.data.toList.take i)).map Dk).length+([[.v (.int .u8 ((ZU (CV s i)).toNat:Int))],[.v (.int .u8 ((ZW (CV s i)).toNat:Int))]]:List (List AV)).length)=.tok 1 ((HX (s.data.toList.take (i+1))).map Dk).length from Aa (HO.tok 1) (Ac.symm.trans (Aa List.length ew))),rfl⟩,Tv⟩,Fh,Tv⟩
 have h1:¬((i:Int)<(s.size:Int)):=h1;refine Xi (HX s.data.toList) (Yi (show(HX (s.data.toList.take i)).map Dk=(HX s.data.toList).map Dk by rw[AB ch]) ?_);exact .refl _
theorem tb:PC 256 [vc c] (vb (EL c)):=by
 refine Ps DU Tryz.func256 rfl (Nz rfl) ?_;have e1:decide ((97:UInt8)<=c)=decide ((97:Int)<=(c.toNat:Int)):=Xn c 97 Cl;have e2:decide (c<=(122:UInt8))=decide ((c.toNat:Int)<=(122:Int)):=Xm c 122 Cl;have es:EL c=(decide ((97:Int)<=(c.toNat:Int))&&decide ((c.toNat:Int)<=(122:Int))):=by unfold EL;rw[e1,e2]
 refine Yi ?_ ?_
 .intro h;refine Yi ?_ ?_
  .intro h2;exact .of_eq (Aa vb (show true=EL c by rw[es,Ap h,Ap h2];rfl))
  .intro h2;exact .of_eq (Aa vb (show false=EL c by rw[es,Am h2,Di]))
 .intro h;exact .of_eq (Aa vb (show false=EL c by rw[es,Am h];rfl))
theorem px:PC 257 [vc c] (vb (CC c)):=by
 refine Ps DU Tryz.func257 rfl (Nz rfl) ?_;have e1:decide ((48:UInt8)<=c)=decide ((48:Int)<=(c.toNat:Int)):=Xn c 48 Cl;have e2:decide (c<=(57:UInt8))=decide ((c.toNat:Int)<=(57:Int)):=Xm c 57 Cl;have es:CC c=(decide ((48:Int)<=(c.toNat:Int))&&decide ((c.toNat:Int)<=(57:Int))):=by unfold CC;rw[e1,e2]
 refine Yi ?_ ?_
 .intro h;refine Yi ?_ ?_
  .intro h2;exact .of_eq (Aa vb (show true=CC c by rw[es,Ap h,Ap h2];rfl))
  .intro h2;exact .of_eq (Aa vb (show false=CC c by rw[es,Am h2,Di]))
 .intro h;exact .of_eq (Aa vb (show false=CC c by rw[es,Am h];rfl))
theorem AaY:PC 337 [vc c] (vb (MP c)):=by
 refine Ps DU Tryz.func337 rfl (Nz rfl) ?_;have e1:decide ((65:UInt8)<=c)=decide ((65:Int)<=(c.toNat:Int)):=Xn c 65 Cl;have e2:decide (c<=(90:UInt8))=decide ((c.toNat:Int)<=(90:Int)):=Xm c 90 Cl;have es:MP c=(decide ((65:Int)<=(c.toNat:Int))&&decide ((c.toNat:Int)<=(90:Int))):=by unfold MP;rw[e1,e2]
 refine Yi ?_ ?_
 .intro h;refine Yi ?_ ?_
  .intro h2;exact .of_eq (Aa vb (show true=MP c by rw[es,Ap h,Ap h2];rfl))
  .intro h2;exact .of_eq (Aa vb (show false=MP c by rw[es,Am h2,Di]))
 .intro h;exact .of_eq (Aa vb (show false=MP c by rw[es,Am h];rfl))
theorem AaX:PC 324 [vc c] (vb (F5 c)):=by
 have h1:=tb c;have h2:=AaY c;have h3:=px c;have ew:F5 c=(EL c||MP c||CC c||decide (c=95)):=rfl;rcases Bt (EL c)with e | e
 .rw[e]at h1;refine Ps DU Tryz.func324 rfl (Nz rfl) (Xi .pure (Xi _ (Yi (h1) ?_)));exact .of_eq (Aa vb (show true=F5 c by rw[ew,e];rfl))
 rw[e]at h1;rcases Bt (MP c)with e2 | e2
 .rw[e2]at h2;refine Ps DU Tryz.func324 rfl (Nz rfl) (Xi .pure (Xi _ (Yi (h1) (Xi .pure (Xi _ (Yi (h2) ?_))))));exact .of_eq (Aa vb (show true=F5 c by rw[ew,e,e2];rfl))
 rw[e2]at h2;rcases Bt (CC c)with e3 | e3
 .rw[e3]at h3;refine Ps DU Tryz.func324 rfl (Nz rfl) (Xi .pure (Xi _ (Yi (h1) (Xi .pure (Xi _ (Yi (h2) (Xi .pure (Xi _ (Yi (h3) ?_)))))))));exact .of_eq (Aa vb (show true=F5 c by rw[ew,e,e2,e3];rfl))
 rw[e3]at h3;refine Ps DU Tryz.func324 rfl (Nz rfl) (Xi .pure (Xi _ (Yi (h1) (Xi .pure (Xi _ (Yi (h2) (Xi .pure (Xi _ (Yi (h3) ?_)))))))));have eb:decide (c=95)=decide ((c.toNat:Int)=95):=by
  rw[BV,Au,Au];constructor
  .intro h;subst h;rfl
  .intro h;exact GG.1 (by show c.toNat=95;omega)
 refine Yi ?_ ?_
 .intro h;exact .of_eq (Aa vb (show true=F5 c by rw[ew,e,e2,e3,eb,Ap h];rfl))
 .intro h;exact .of_eq (Aa vb (show false=F5 c by rw[ew,e,e2,e3,eb,Am h];rfl))
theorem AaU(hs:s.data.toList.length<4611686018427387904):PC 292 [vs s] (vb (s.data.toList.all F5)):=by
 have D5:s.size=s.data.toList.length:=by simp
 refine Ps DU Tryz.func292 rfl (Nz rfl) (Xi {i:Nat // i<=s.data.toList.length/\∀j (hj:j<s.data.toList.length),j<i->F5 s.data.toList[j]=true} (Xi (fun i=>⟨[(0,vs s),(3,vi i.1)],[],Ad⟩) (Xi (fun i=>s.data.toList.length-i.1) (Yi (Xi ⟨0,AE _,fun j _ h=>by omega⟩ ?_) ?_))))
 .exact⟨Z2,Tv,Fh,Tv⟩
 intro⟨i,h1,h2⟩;refine Yi ?_ ?_
 .intro h;have h:(i:Int)<(s.size:Nat):=h;have h:i<s.data.toList.length:=by omega
  refine Xi s.data.toList[i] (Yi ⟨by show(0:Int)<=i;omega,by show s.data[((i:Nat):Int).toNat]?=_;rw[BE];exact Nu s i h⟩ ?_);have hc:=AaX s.data.toList[i];refine BL (Bt (F5 s.data.toList[i])) (fun e=>?_) (fun e=>?_)
  .rw[e]at hc;refine Xi .pure (Xi _ (Yi (hc) (Yi (Ii i ch) (Xi ⟨i+1,by omega,fun j hj Iu=>?_⟩ ?_))))
   .rcases BT j i with z | z
    .exact h2 j hj z
    .have:j=i:=by omega
     subst this;exact e
   .exact⟨Dl s.data.toList.length i ch,Z2,Tv,Fh,Tv⟩
  .rw[e]at hc;refine Xi .pure (Xi _ (Yi (hc) ?_));have er:s.data.toList.all F5=false:=by
    rw[AH];intro ha
    have:=AP.1 ha _ (Aq h)
    rw[e]at this;cases this
   exact .of_eq (Aa vb er.symm)
 .intro h;have h:¬(i:Int)<(s.size:Nat):=h;have er:s.data.toList.all F5=true:=AP.2 fun c hc=>by
   obtain⟨j,hj,rfl⟩:=CE hc;exact h2 j hj ch
  exact .of_eq (Aa vb er.symm)
abbrev zX:List ByteArray:=ut.map bs
theorem AaW:PC 294 [] (sl BJ zX):=by
 refine Ps DU Tryz.func294 rfl (Nz rfl) ?_;exact .refl _
theorem AaV(l:List ByteArray)(s:ByteArray)(hl:Cw l):PC 293 [sl BJ l,vs s] (vb (l.any fun q=>decide (q=s))):=by
 unfold Cw at hl;refine Ps DU Tryz.func293 rfl (Nz rfl) (Xi {i:Nat // i<=l.length/\∀j (hj:j<l.length),j<i->l[j]≠s} (Xi (fun i=>⟨[(0,sl BJ l),(1,vs s),(5,vi i.1)],[],Ad⟩) (Xi (fun i=>l.length-i.1) (Yi (Xi ⟨0,AE _,fun j _ h=>by omega⟩ ?_) ?_))))
 .exact⟨Z3,Tv,Fh,Tv⟩
 intro⟨i,h1,h2⟩;refine Yi ?_ ?_
 .intro h;have h:i<l.length:=by simpa using h
  have hg:l[i]?=some l[i]:=Ge h;refine Xi (BJ l[i]) (Yi (Yi (Nn i) (by simp[hg])) (Yi rfl ?_));refine Yi ?_ ?_
  .intro he;exact .of_eq (Aa vb (show true=_ from(AX.2 ⟨l[i],Aq h,by simpa using he⟩).symm))
  .intro he;refine Yi (Ii i ch) (Xi ⟨i+1,by omega,fun j hj Iu=>?_⟩ ?_)
   .rcases BT j i with z | z
    .exact h2 j hj z
    .have:j=i:=by omega
     subst this;exact he
   .exact⟨Dl l.length i ch,Z3,Tv,Fh,Tv⟩
 .intro h;have h:¬i<l.length:=by simpa using h
  have er:(l.any fun q=>decide (q=s))=false:=by
   rw[DE];intro q hq;obtain⟨j,hj,rfl⟩:=CE hq;simpa using h2 j hj ch
  exact .of_eq (Aa vb er.symm)
theorem wJ{w:List UInt8}{s:ByteArray}:bs w=s↔w=s.data.toList:=by
 constructor
 .intro h;rw[<-h];rfl
 .intro h;rw[h];rfl
theorem uv:(zX.any fun q=>decide (q=s))=ut.any (fun w=>decide (w=s.data.toList)):=by
 unfold zX;rw[List.any_map]
 congr 1
 funext w
 simp only[Function.comp];rw[TQ];exact wJ
theorem AaQ(hs:s.data.toList.length<4611686018427387904):PC 258 [vs s] (vb (GC s.data.toList)):=by
 have D5:s.size=s.data.toList.length:=by simp
 obtain⟨N,hN⟩:∃N,N=GC s.data.toList:=⟨_,rfl⟩;rw[<-hN];unfold GC at hN;have pU:=AaU s hs;have l6:=AaV zX s Cl;rw[uv]at l6;refine Ps DU Tryz.func258 rfl (Nz rfl) (Yi (fun h=>?_) (fun h=>?_))
 rotate_left
 .have e:s.data.toList=[]:=AL ch;exact .of_eq (Aa vb (show false=N by rw[hN,e];rfl))
 have he:s.data.toList.isEmpty=false:=by
  cases e:s.data.toList with
  |nil=>rw[e,Ax]at D5;omega
  |cons _ _=>rfl
 refine Yi (fun h2=>?_) (fun h2=>?_)
 rotate_left
 .exact .of_eq (Aa vb (show false=N by rw[hN,he,Am ch];rfl))
 refine BA (show ∃c l,s.data.toList=c::l by cases e:s.data.toList with | nil=>rw[e]at he;cases he | cons c l=>exact⟨c,l,rfl⟩) (fun c hc=>?_);refine BA hc (fun l hc=>?_);refine Xi c (Yi ⟨by decide,by show s.data[(0:Int).toNat]?=_;rw[<-AI,hc];rfl⟩ ?_);have pS:=tb c;have hN:N=(EL c&&s.data.toList.all F5&&!VS s.data.toList):=by
  rw[hN,he,Ap ch,hc];rfl
 refine BL (Bt (EL c)).symm (fun e=>?_) (fun e=>?_)
 .rw[e]at pS;refine Xi .pure (Xi _ (Yi (pS) ?_));exact .of_eq (Aa vb (show false=N by rw[hN,e];rfl))
 rw[e]at pS;refine Xi .pure (Xi _ (Yi (pS) (BL (Bt (s.data.toList.all F5)).symm (fun e2=>?_) (fun e2=>?_))))
 .rw[e2]at pU;refine Xi .pure (Xi _ (Yi (pU) ?_));exact .of_eq (Aa vb (show false=N by rw[hN,e,e2];rfl))
 rw[e2]at pU;refine Xi .pure (Xi _ (Yi (pU) (Xi .pure (Xi _ (Yi (AaW) ?_)))));rw[cW e2]at hN;refine BL (Bt (ut.any (fun w=>decide (w=s.data.toList)))) (fun e3=>?_) (fun e3=>?_)
 .rw[e3]at l6;refine Xi .pure (Xi _ (Yi (l6) ?_));exact .of_eq (Aa vb (show false=N by rw[hN,e,e2,e3];rfl))
 .rw[e3]at l6;refine Xi .pure (Xi _ (Yi (l6) ?_));exact .of_eq (Aa vb (show true=N by rw[hN,e,e2,e3];rfl))
theorem nU{s:ByteArray}:Hs s.data.toList=(s.data.toList.all NW&&GC s.data.toList):=by
 unfold Hs;rw[Bool.and_comm]
theorem AaJ(hs:s.data.toList.length<4611686018427387904):PC 208 [vs s] (vb (Hs s.data.toList)):=by
 have D5:s.size=s.data.toList.length:=by simp
 have Abe:=AaQ s hs;rw[nU];refine Ps DU Tryz.func208 rfl (Nz rfl) (Xi {i:Nat // i<=s.data.toList.length/\∀j (hj:j<s.data.toList.length),j<i->NW s.data.toList[j]=true} (Xi (fun i=>⟨[(0,vs s),(3,vi i.1)],[],Ad⟩) (Xi (fun i=>s.data.toList.length-i.1) (Yi (Xi ⟨0,AE _,fun j _ h=>by omega⟩ ?_) ?_))))
 .exact⟨Z2,Tv,Fh,Tv⟩
 intro⟨i,h1,h2⟩;refine Yi ?_ ?_
 .intro h;have h:(i:Int)<(s.size:Nat):=h;have h:i<s.data.toList.length:=by omega
  have Vt:(0:Int)<=i/\s.data[((i:Nat):Int).toNat]?=some s.data.toList[i]:=⟨by omega,by rw[BE];exact Nu s i h⟩;have nx:NW s.data.toList[i]=true->∀j (hj:j<s.data.toList.length),j<i+1->NW s.data.toList[j]=true:=fun e j hj Iu=>by
   rcases BT j i with z | z
   .exact h2 j hj z
   .have:j=i:=by omega
    subst this;exact e
  refine Xi s.data.toList[i] (Yi Vt ?_);have h3:=tb s.data.toList[i];have h4:=px s.data.toList[i];refine BL (Bt (EL s.data.toList[i])) (fun e=>?_) (fun e=>?_)
  .rw[e]at h3;refine Xi .pure (Xi _ (Yi (h3) (Yi (Ii i ch) (Xi ⟨i+1,by omega,nx (by unfold NW;rw[e];rfl)⟩ ?_))));exact⟨Dl s.data.toList.length i ch,Z2,Tv,Fh,Tv⟩
  rw[e]at h3;refine Xi .pure (Xi _ (Yi (h3) (Xi s.data.toList[i] (Yi Vt (BL (Bt (CC s.data.toList[i])) (fun e2=>?_) (fun e2=>?_))))))
  .rw[e2]at h4;refine Xi .pure (Xi _ (Yi (h4) (Yi (Ii i ch) (Xi ⟨i+1,by omega,nx (by unfold NW;rw[e2,Bool.or_true])⟩ ?_))));exact⟨Dl s.data.toList.length i ch,Z2,Tv,Fh,Tv⟩
  rw[e2]at h4;refine Xi .pure (Xi _ (Yi (h4) ?_));have er:s.data.toList.all NW=false:=by
   rw[AH];intro ha
   have:=AP.1 ha _ (Aq h)
   unfold NW at this;rw[e,e2]at this;cases this
  exact .of_eq (Aa vb (by rw[er];rfl))
 .intro h;have h:¬(i:Int)<(s.size:Nat):=h;have er:s.data.toList.all NW=true:=AP.2 fun c hc=>by
   obtain⟨j,hj,rfl⟩:=CE hc;exact h2 j hj ch
  refine Xi .pure (Xi _ (Yi (Abe) ?_));exact .of_eq (Aa vb (by rw[er];rfl))
abbrev VW:Option Int->AV
 |some n=>vi n
 |none=>vi (-1)
theorem AaK(hs:s.data.toList.length<4611686018427387904):PC 209 [vs s] (VW (GU s.data.toList)):=by
 have D5:s.size=s.data.toList.length:=by simp
 refine Ps (I8 [3]) Tryz.func209 rfl (Nz rfl) (Yi (fun h=>?_) (fun h=>?_))
 .exact .of_eq (Aa VW (show(none:Option Int)=GU s.data.toList by
   cases hs:s.data.toList with
   |nil=>rfl
   |cons c r=>
    cases r with
    |nil=>unfold GU;simp
    |cons d r=>rw[hs]at D5;simp only[Al]at D5;omega))
 refine BA (show ∃c r,s.data.toList=c::r by
  cases e:s.data.toList with
  |nil=>rw[e]at D5;simp only[Ax]at D5;omega
  |cons c l=>exact⟨c,l,rfl⟩) (fun c hc=>?_)
 refine BA hc (fun r SH=>?_);have Uk:s.size=r.length+1:=by rw[D5,SH];rfl
 have ue:GU s.data.toList=if c=118 then(if(r.isEmpty||decide (3<r.length)||(decide (1<r.length)&&decide (r.headD 0=48))||!r.all CC)=true then none else some (Ea r))else none:=by rw[SH];rfl
 refine Yi (fun h2=>?_) (fun h2=>?_)
 .exact .of_eq (Aa VW (show(none:Option Int)=GU s.data.toList by rw[ue,Ap (by omega:3<r.length)];simp))
 refine Xi c (Yi ⟨by decide,by show s.data[(0:Int).toNat]?=_;rw[<-AI,SH];rfl⟩ ?_);refine Yi (fun h3=>?_) (fun h3=>?_)
 .have h3:¬c=118:=fun e=>h3 (by rw[e];rfl);exact .of_eq (Aa VW (show(none:Option Int)=GU s.data.toList by rw[ue,Ah h3]))
 have h3:c=118:=GG.1 (by show c.toNat=118;omega);have hr:s.data.toList=118::r:=by rw[SH,h3]
 have hv:GU s.data.toList=if(r.isEmpty||decide (3<r.length)||(decide (1<r.length)&&decide (r.headD 0=48))||!r.all CC)=true then none else some (Ea r):=by rw[ue,As h3]
 have Ca:0<r.length:=by omega
 have QL:r.isEmpty=false:=by
  cases hl:r with
  |nil=>rw[hl]at Ca;exact absurd Ca Cl
  |cons a l=>rfl
 have xY:r.length<=3:=by omega
 have d3:decide (3<r.length)=false:=Am ch;have z0:Ea (r.take 0)=0:=rfl;have hh:=OB r Ca;refine Xi r[0] (Yi ⟨by decide,by show s.data[(1:Int).toNat]?=_;rw[<-AI,SH];show r[0]?=_;exact Ge Ca⟩ ?_);refine Yi (fun h4=>?_) (fun h4=>?_)
 .have h4:r[0]=48:=GG.1 (by show r[0].toNat=48;omega);refine Yi (fun h5=>?_) (fun h5=>?_)
  .exact .of_eq (Aa VW (show(none:Option Int)=GU s.data.toList by rw[hv,hh,h4,Ap (by omega:1<r.length)];simp))
  have eo:(decide (1<r.length)&&decide (r.headD 0=48))=false:=by rw[Am (by omega:¬1<r.length)];rfl
  refine cU [(0,vs s)] [] Z1 Tv (Xi {i:Nat // i<=r.length/\(∀j (hj:j<r.length),j<i->CC r[j]=true)/\0<=Ea (r.take i)/\(i=0->Ea (r.take i)<=0)/\(i<=1->Ea (r.take i)<=9)/\(i<=2->Ea (r.take i)<=99)/\Ea (r.take i)<=999} (Xi (fun i=>⟨[(0,vs s),(3,vi (Ea (r.take i.1))),(4,vi (1+(i.1:Int)))],[],Ad⟩) (Xi (fun i=>r.length-i.1) (Yi (Xi ⟨0,AE _,fun j _ h=>by omega,by omega,fun _=>by omega,fun _=>by omega,fun _=>by omega,by omega⟩ ?_) ?_))))
  .exact⟨Z3,Tv,Fh,Tv⟩
  intro⟨i,i1,i0,i2,i3,i4,i5,i6⟩;refine Yi ?_ ?_
  .intro h;have h:1+(i:Int)<(s.size:Nat):=h;have h:i<r.length:=by omega
   have Vt:(0:Int)<=1+(i:Int)/\s.data[(1+(i:Int)).toNat]?=some r[i]:=⟨by omega,by rw[show(1+(i:Int)).toNat=i+1 by omega,<-AI,hr,EH];exact Ge h⟩;refine Xi r[i] (Yi Vt ?_);have hc:=px r[i];refine BL (Bt (CC r[i])).symm (fun e=>?_) (fun e=>?_)
   .rw[e]at hc;refine Xi .pure (Xi _ (Yi (hc) ?_));have FN:r.all CC=false:=by
     rw[AH];intro ha
     have:=AP.1 ha _ (Aq h)
     rw[e]at this;cases this
    exact .of_eq (Aa VW (show(none:Option Int)=GU s.data.toList by rw[hv,FN];simp))
   rw[e]at hc;refine Xi .pure (Xi _ (Yi (hc) ?_));have rQ:=Lp e;have tY:=LD r i h;have cO:IntKind.u8.wrap ((r[i].toNat:Int)-48)=(r[i].toNat:Int)-48:=Tl ch ch;refine Yi (by show A5 (10*Ea (r.take i));unfold A5;omega) (Xi r[i] (Yi Vt (Yi (by show A5 (IntKind.u8.wrap ((r[i].toNat:Int)-48));rw[cO];unfold A5;omega) ?_)));refine Yi (by show A5 (10*Ea (r.take i)+IntKind.u8.wrap ((r[i].toNat:Int)-48));rw[cO];unfold A5;omega) ?_;refine Yi (by show A5 (1+(i:Int)+1);unfold A5;omega) ?_;have e5:vi (10*Ea (r.take i)+IntKind.u8.wrap ((r[i].toNat:Int)-48))=vi (Ea (r.take (i+1))):=by rw[cO,tY]
   have e6:vi (1+(i:Int)+1)=vi (1+((i+1:Nat):Int)):=Aa vi ch;refine Xi ⟨i+1,by omega,fun j hj Iu=>?_,by omega,fun _=>by omega,fun _=>by omega,fun _=>by omega,by omega⟩ ?_
   .rcases BT j i with z | z
    .exact i0 j hj z
    .have:j=i:=by omega
     subst this;exact e
   .exact⟨Dl r.length i ch,⟨Zr,⟨e5,rfl⟩,⟨e6,rfl⟩,Tv⟩,Tv,Fh,Tv⟩
  .intro h;have h:¬1+(i:Int)<(s.size:Nat):=h;have e3:r.all CC=true:=AP.2 fun c hc=>by
    obtain⟨j,hj,rfl⟩:=CE hc;exact i0 j hj ch
   have e6:vi (Ea (r.take i))=VW (GU s.data.toList):=by rw[hv,QL,d3,eo,e3,AB ch];rfl
   exact .of_eq e6
 have eo:(decide (1<r.length)&&decide (r.headD 0=48))=false:=by rw[hh,Am (show ¬r[0]=48 from fun e=>h4 (by rw[e];rfl)),Di]
 refine cU [(0,vs s)] [] Z1 Tv (Xi {i:Nat // i<=r.length/\(∀j (hj:j<r.length),j<i->CC r[j]=true)/\0<=Ea (r.take i)/\(i=0->Ea (r.take i)<=0)/\(i<=1->Ea (r.take i)<=9)/\(i<=2->Ea (r.take i)<=99)/\Ea (r.take i)<=999} (Xi (fun i=>⟨[(0,vs s),(3,vi (Ea (r.take i.1))),(4,vi (1+(i.1:Int)))],[],Ad⟩) (Xi (fun i=>r.length-i.1) (Yi (Xi ⟨0,AE _,fun j _ h=>by omega,by omega,fun _=>by omega,fun _=>by omega,fun _=>by omega,by omega⟩ ?_) ?_))))
 .exact⟨Z3,Tv,Fh,Tv⟩
 intro⟨i,i1,i0,i2,i3,i4,i5,i6⟩;refine Yi ?_ ?_
 .intro h;have h:1+(i:Int)<(s.size:Nat):=h;have h:i<r.length:=by omega
  have Vt:(0:Int)<=1+(i:Int)/\s.data[(1+(i:Int)).toNat]?=some r[i]:=⟨by omega,by rw[show(1+(i:Int)).toNat=i+1 by omega,<-AI,hr,EH];exact Ge h⟩;refine Xi r[i] (Yi Vt ?_);have hc:=px r[i];refine BL (Bt (CC r[i])).symm (fun e=>?_) (fun e=>?_)
  .rw[e]at hc;refine Xi .pure (Xi _ (Yi (hc) ?_));have FN:r.all CC=false:=by
    rw[AH];intro ha
    have:=AP.1 ha _ (Aq h)
    rw[e]at this;cases this
   exact .of_eq (Aa VW (show(none:Option Int)=GU s.data.toList by rw[hv,FN];simp))
  rw[e]at hc;refine Xi .pure (Xi _ (Yi (hc) ?_));have rQ:=Lp e;have tY:=LD r i h;have cO:IntKind.u8.wrap ((r[i].toNat:Int)-48)=(r[i].toNat:Int)-48:=Tl ch ch;refine Yi (by show A5 (10*Ea (r.take i));unfold A5;omega) (Xi r[i] (Yi Vt (Yi (by show A5 (IntKind.u8.wrap ((r[i].toNat:Int)-48));rw[cO];unfold A5;omega) ?_)));refine Yi (by show A5 (10*Ea (r.take i)+IntKind.u8.wrap ((r[i].toNat:Int)-48));rw[cO];unfold A5;omega) ?_;refine Yi (by show A5 (1+(i:Int)+1);unfold A5;omega) ?_;have e5:vi (10*Ea (r.take i)+IntKind.u8.wrap ((r[i].toNat:Int)-48))=vi (Ea (r.take (i+1))):=by rw[cO,tY]
  have e6:vi (1+(i:Int)+1)=vi (1+((i+1:Nat):Int)):=Aa vi ch;refine Xi ⟨i+1,by omega,fun j hj Iu=>?_,by omega,fun _=>by omega,fun _=>by omega,fun _=>by omega,by omega⟩ ?_
  .rcases BT j i with z | z
   .exact i0 j hj z
   .have:j=i:=by omega
    subst this;exact e
  .exact⟨Dl r.length i ch,⟨Zr,⟨e5,rfl⟩,⟨e6,rfl⟩,Tv⟩,Tv,Fh,Tv⟩
 .intro h;have h:¬1+(i:Int)<(s.size:Nat):=h;have e3:r.all CC=true:=AP.2 fun c hc=>by
   obtain⟨j,hj,rfl⟩:=CE hc;exact i0 j hj ch
  have e6:vi (Ea (r.take i))=VW (GU s.data.toList):=by rw[hv,QL,d3,eo,e3,AB ch];rfl
  exact .of_eq e6
abbrev bI:List ByteArray:=(B2 47 l).map bs
def WY:List (List UInt8)->UInt8->List (List UInt8)
 | [],_=>[]
 | [x],b=>[x++[b]]
 |x::l,b=>x::WY l b
theorem LJ(s:List UInt8):B2 c s≠[]:=by
 cases s with
 |nil=>rw[B2];exact Jd _ _
 |cons b r=>
  rw[B2];split
  .exact Jd _ _
  .split<;>exact Jd _ _
theorem Vl(c:UInt8):∀s:List UInt8,B2 c (s++[c])=B2 c s++[[]]
 | []=>by simp[B2]
 |b::r=>by
  rw[DA,B2,Vl c r,B2]
  by_cases e:b=c
  .rw[As e,As e];rfl
  .rw[Ah e,Ah e];cases h:B2 c r with
   |nil=>exact absurd h (LJ c r)
   |cons x l=>rfl
theorem UZ(x:List UInt8){l:List (List UInt8)}(b:UInt8)(h:l≠[]):WY (x::l) b=x::WY l b:=by
 cases l with
 |nil=>exact absurd rfl h
 |cons y l=>rfl
theorem Sw(c b:UInt8)(hb:b≠c):∀s:List UInt8,B2 c (s++[b])=WY (B2 c s) b
 | []=>by simp[B2,hb,WY]
 |a::r=>by
  rw[DA,B2,Sw c b hb r,B2]
  by_cases e:a=c
  .rw[As e,As e,UZ _ _ (LJ c r)]
  .rw[Ah e,Ah e];cases h:B2 c r with
   |nil=>exact absurd h (LJ c r)
   |cons x l=>
    cases l with
    |nil=>rfl
    |cons y l=>rfl
theorem WZ(b:UInt8):∀(l:List (List UInt8)) (x:List UInt8),l[l.length-1]?=some x->l.set (l.length-1) (x++[b])=WY l b
 | [],_,h=>by cases h
 | [y],x,h=>by
  have h:some y=some x:=h;rw[BW h];rfl
 |y::z::l,x,h=>by
  have h:(z::l)[(z::l).length-1]?=some x:=h;rw[UZ y b (Jd _ _),<-WZ b (z::l) x h];rfl
theorem Vk(s:List UInt8):(B2 c s).length<=s.length+1:=by
 induction s with
 |nil=>rw[B2];exact Ai _
 |cons b r ih=>
  rw[B2,Al];split
  .rw[Al];omega
  .split
   .simp
   .rename_i x l e;rw[e,Al]at ih;rw[Al];omega
abbrev yF:Qn:=⟨[],[],[(5,1)],[],[],[],[],[],[],[(36,3)],[4]⟩
theorem nA{l:List UInt8}{c:UInt8}(hc:c≠47){x:ByteArray}(h:(bI l)[(bI l).length-1]?=some x):(bI l).set ((bI l).length-1) (x++bs [c])=bI (l++[c]):=by
 have h2:=h;rw[Aw,Lm]at h;obtain⟨y,hy,e⟩:=AD.1 h;subst e;show _=(B2 47 (l++[c])).map bs;rw[Sw 47 c hc l,<-WZ c (B2 47 l) y hy,K8,Lm]
 congr 1
theorem AaI(hs:Er s):PC 207 [vs s] (sl Gj (bI s.data.toList)):=by
 unfold Er at hs;have D5:s.size=s.data.toList.length:=by simp
 refine Ps yF Tryz.func207 rfl (Nz rfl) (Xi {p:Nat×List ByteArray // p.1<=s.data.toList.length/\p.2=bI (s.data.toList.take p.1)} (Xi (fun p=>⟨[(0,vs s),(3,.msl 5 p.1.2.length),(4,vi p.1.1)],[(5,.arr 1 (p.1.2.map Gj))],Ad⟩) (Xi (fun p=>s.data.toList.length-p.1.1) (Yi (Xi ⟨(0,[bs []]),AE _,rfl⟩ ?_) ?_))))
 .exact⟨Z3,Z1,Fh,Tv⟩
 intro⟨⟨i,A⟩,h1,hA⟩;have hA:A=bI (s.data.toList.take i):=hA;have ye:A.length<=i+1:=by
  have:=Vk 47 (s.data.toList.take i)
  rw[AA]at this;rw[hA,Lm];omega
 have oX:0<A.length:=by
  rw[hA,Lm];exact Hb.2 (LJ 47 _)
 refine Yi (fun h=>?_) (fun h=>?_)
 .have h:(i:Int)<(s.size:Nat):=h;have h:i<s.data.toList.length:=by omega
  have Vt:(0:Int)<=i/\s.data[((i:Nat):Int).toNat]?=some s.data.toList[i]:=⟨by omega,by rw[BE];exact Nu s i h⟩;have oY:s.data.toList.take (i+1)=s.data.toList.take i++[s.data.toList[i]]:=by rw[AZ,Ge h];rfl
  refine Xi s.data.toList[i] (Yi Vt (Yi (fun h2=>?_) (fun h2=>?_)))
  .have h2:s.data.toList[i]=47:=GG.1 (by show s.data.toList[i].toNat=47;omega);have GA:CR 1 [[vs (bs [])]]/\(A.map Gj).length=A.length/\((A.map Gj).length+[[vs (bs [])]].length)*16<=140737488355328/\(A.map Gj).length+[[vs (bs [])]].length<=9223372036854775807:=
    ⟨⟨rfl,trivial⟩,by rw[Lm],by rw[Lm,AJ];omega,by rw[Lm,AJ];omega⟩
   refine Yi GA (Xi ⟨[(0,vs s),(3,.msl 5 (A++[bs []]).length),(4,vi i)],[(5,.arr 1 ((A++[bs []]).map Gj))],Ad⟩ (Yi ?_ ?_))
   .have e1:AV.msl 5 ((A.map Gj).length+[[vs (bs [])]].length)=.msl 5 (A++[bs []]).length:=by simp
    have e2:HO.arr 1 (A.map Gj++[[vs (bs [])]])=.arr 1 ((A++[bs []]).map Gj):=by rw[Az];rfl
    exact⟨⟨Zr,⟨e1,rfl⟩,Zr,Tv⟩,⟨⟨e2,rfl⟩,Tv⟩,Fh,Tv⟩
   refine Yi (Ii i ch) ?_;have eA:A++[bs []]=bI (s.data.toList.take (i+1)):=by
    rw[hA,oY,h2];show _=(B2 47 _).map bs;rw[Vl,Az];rfl
   refine Xi ⟨(i+1,A++[bs []]),by omega,eA⟩ ?_;exact⟨Dl s.data.toList.length i ch,Z3,Z1,Fh,Tv⟩
  have h2:¬(s.data.toList[i].toNat:Int)=47:=h2;have h2:s.data.toList[i]≠47:=fun e=>h2 (by rw[e];rfl);have zL:A5 ((A.length:Int)-1):=by unfold A5;omega
  have Dx:A.length-1<A.length:=by omega
  have hn:((A.length:Int)-1).toNat=A.length-1:=by omega
  have hg:A[A.length-1]?=some A[A.length-1]:=Ge Dx;have xJ:Er A[A.length-1]:=by
   have qe:∀x∈A,x∈bI (s.data.toList.take i):=fun x hx=>hA▸hx;obtain⟨y,hy,e⟩:=Ak.1 (qe _ (Aq Dx));have h5:=Ml 47 _ y hy;rw[AA]at h5;unfold Er;rw[<-e,show(bs y).size=y.length from rfl];omega
  have SI:((A[A.length-1].size+(⟨[s.data.toList[i]].toArray⟩:ByteArray).size:Nat):Int)<=9223372036854775807:=by
   unfold Er at xJ
   have:(⟨[s.data.toList[i]].toArray⟩:ByteArray).size=1:=rfl
   omega
  refine Yi zL (Yi zL (Yi (show(0:Int)<=(A.length:Int)-1/\(A.length:Int)-1<(A.length:Int) by omega) (Yi (by rw[Lm]) ?_)));have hgm:(A.map Gj)[((A.length:Int)-1).toNat]?=some (Gj A[A.length-1]):=by rw[hn];exact Ee hg
  refine Xi (Gj A[A.length-1]) (Yi hgm (Xi s.data.toList[i] (Yi Vt (Xi [s.data.toList[i]] (Yi rfl (Yi SI (Yi (show(0:Int)<=(A.length:Int)-1/\(A.length:Int)-1<(A.length:Int) by omega) (Yi (by rw[Lm]) ?_))))))));refine Xi (Gj A[A.length-1]) (Yi hgm (yN (Yi aa0 (BA (show ∃B,B=A.set (A.length-1) (A[A.length-1]++bs [s.data.toList[i]])from⟨_,rfl⟩) (fun B hB=>?_)))));have l7:B.length=A.length:=by rw[hB,CZ]
  have e2:HO.arr 1 ((A.map Gj).set ((A.length:Int)-1).toNat [vs (A[A.length-1]++⟨[s.data.toList[i]].toArray⟩)])=.arr 1 (B.map Gj):=by rw[hn,hB,K8];rfl
  refine cU [(0,vs s),(3,.msl 5 B.length),(4,vi i)] [(5,.arr 1 (B.map Gj))] ⟨Zr,⟨Aa (AV.msl 5) l7.symm,rfl⟩,Zr,Tv⟩ ⟨⟨e2,rfl⟩,Tv⟩ (Yi (Ii i ch) ?_);have eB:B=bI (s.data.toList.take (i+1)):=by
   rw[oY,hB];subst hA;exact nA h2 hg
  refine Xi ⟨(i+1,B),by omega,eB⟩ ?_;exact⟨Dl s.data.toList.length i ch,Z3,Z1,Fh,Tv⟩
 .have h:¬(i:Int)<(s.size:Nat):=h;refine Yi (by rw[Lm]) ?_;exact .of_eq (Aa (sl Gj) (show A=bI s.data.toList by rw[hA,AB ch]))
theorem bC{s:List UInt8}{n:Int}(h:GU s=some n):0<=n:=by
 cases s with
 |nil=>unfold GU at h;cases h
 |cons c r=>
  have h:(if c=118 then(if(r.isEmpty||decide (3<r.length)||(decide (1<r.length)&&decide (r.headD 0=48))||!r.all CC)=true then none else some (Ea r))else none)=some n:=h
  by_cases hc:c=118
  .rw[As hc]at h
   by_cases hb:(r.isEmpty||decide (3<r.length)||(decide (1<r.length)&&decide (r.headD 0=48))||!r.all CC)=true
   .rw[As hb]at h;cases h
   .rw[Ah hb]at h;have ha:r.all CC=true:=by
     cases hr:r.all CC
     .rw[hr]at hb;simp at hb
     .rfl
    rw[<-BW h]
    suffices hh:∀i,i<=r.length->0<=Ea (r.take i) by
     have:=hh r.length (Ai _)
     rwa [CK]at this
    intro i
    induction i with
    |zero=>intro _;exact By _
    |succ i ih=>
     intro hi;have hd:=Lp (AP.1 ha _ (Aq (show i<r.length by omega)))
     have:=ih ch
     rw[LD r i ch];omega
  .rw[Ah hc]at h;cases h
theorem ny{l:List UInt8}{x:ByteArray}(h:(bI l)[(bI l).length-1]?=some x):(B2 47 l).getLastD []=x.data.toList:=by
 rw[Lm,Aw,<-List.getLast?_eq_getElem?]at h;obtain⟨y,hy,e⟩:=AD.1 h;rw[List.getLastD_eq_getLast?,hy,<-e];rfl
theorem wQ(hp:Er p):PC 156 [vs p] (Ra (Bs p)):=by
 have D5:p.size=p.data.toList.length:=by simp
 have hc:=AaI p hp;unfold Er at hp;obtain⟨A,hA⟩:∃A,A=bI p.data.toList:=⟨_,rfl⟩;rw[<-hA]at hc;have hAl:A.length=(B2 47 p.data.toList).length:=by rw[hA,Lm]
 have ye:=Vk 47 p.data.toList;have oX:0<A.length:=by rw[hAl];exact Hb.2 (LJ 47 _)
 have qd:∀x∈A,x.data.toList.length<4611686018427387904:=fun x hx=>by
  obtain⟨y,hy,e⟩:=Ak.1 (hA▸hx:x∈bI p.data.toList);have h5:=Ml 47 _ y hy;rw[<-e];show y.length<_;omega
 have FN:(B2 47 p.data.toList).all Hs=A.all fun x=>Hs x.data.toList:=by rw[hA,List.all_map];rfl
 have Dx:A.length-1<A.length:=by omega
 have hg:A[A.length-1]?=some A[A.length-1]:=Ge Dx;have aa:(B2 47 p.data.toList).getLastD []=A[A.length-1].data.toList:=by
  subst hA;exact ny hg
 have em:Bs p=match GU A[A.length-1].data.toList with
  |none=>none
  |some n=>if(decide (64<p.data.toList.length)||decide (A.length<2))=true then none else if(A.all fun x=>Hs x.data.toList)=true then some n else none:=by
  unfold Bs Rb;rw[aa,FN,<-hAl];cases GU A[A.length-1].data.toList with
  |none=>rfl
  |some n=>rfl
 clear FN aa
 have hv:=AaK A[A.length-1] (qd _ (Aq Dx));obtain⟨o,ho⟩:∃o,o=GU A[A.length-1].data.toList:=⟨_,rfl⟩;rw[<-ho]at hv em;have hz:∀n,o=some n->0<=n:=fun n e=>by
  rw[e]at ho;exact bC ho.symm
 refine Ps (I8 [4,9,10]) Tryz.func156 rfl (Nz rfl) (Yi (fun h=>?_) (fun h=>?_))
 .exact .of_eq (Aa Ra (show(none:Option Int)=Bs p by rw[em,Ap (by omega:64<p.data.toList.length)];cases o<;>rfl))
 have d1:decide (64<p.data.toList.length)=false:=Am ch;refine Xi .pure (Xi _ (Yi (hc) (cU [(4,sl Gj A)] [] Z1 Tv (Xi {i:Nat // i<=A.length/\∀j (hj:j<A.length),j<i->Hs (A[j]).data.toList=true} (Xi (fun i=>⟨[(4,sl Gj A),(5,vi i.1)],[],Ad⟩) (Xi (fun i=>A.length-i.1) (Yi (Xi ⟨0,AE _,fun j _ h=>by omega⟩ ?_) ?_)))))))
 .exact⟨Z2,Tv,Fh,Tv⟩
 intro⟨i,i1,i2⟩;refine Yi (fun h2=>?_) (fun h2=>?_)
 .have h2:i<A.length:=by simpa using h2
  have hg:A[i]?=some A[i]:=Ge h2;refine Xi (Gj A[i]) (Yi (Yi (Nn i) (by simp[hg])) (Yi rfl ?_));have hn:=AaJ A[i] (qd _ (Aq h2));refine BL (Bt (Hs A[i].data.toList)).symm (fun e1=>?_) (fun e1=>?_)
  .rw[e1]at hn;refine Xi .pure (Xi _ (Yi (hn) ?_));have e2:(A.all fun x=>Hs x.data.toList)=false:=by
    rw[AH];intro hh
    have:=AP.1 hh _ (Aq h2)
    rw[e1]at this;cases this
   exact .of_eq (Aa Ra (show(none:Option Int)=Bs p by
    rw[em,e2];cases o with
    |none=>rfl
    |some n=>cases (decide (64<p.data.toList.length)||decide (A.length<2))<;>rfl))
  rw[e1]at hn;refine Xi .pure (Xi _ (Yi (hn) (Yi (Ii i ch) (Xi ⟨i+1,by omega,fun j hj Iu=>?_⟩ ?_))))
  .rcases BT j i with z | z
   .exact i2 j hj z
   .have:j=i:=by omega
    subst this;exact e1
  .exact⟨Dl A.length i ch,Z2,Tv,Fh,Tv⟩
 have h2:¬i<A.length:=by simpa using h2
 have e2:(A.all fun x=>Hs x.data.toList)=true:=AP.2 fun x hx=>by
  obtain⟨j,hj,rfl⟩:=CE hx;exact i2 j hj ch
 have em:Bs p=match(generalizing:=false) o with
  |none=>none
  |some n=>if decide (A.length<2)=true then none else some n:=by
  rw[em,e2,d1];cases o<;>rfl
 refine cU [(4,sl Gj A)] [] Z1 Tv ?_
 have kk:(((A.map Gj).length:Int)-1).toNat=A.length-1:=by rw[Lm];omega
 refine Yi (by show A5 (((A.map Gj).length:Int)-1);rw[Lm];unfold A5;omega) ?_;refine Xi (Gj A[A.length-1]) (Yi (Yi (by show(0:Int)<=((A.map Gj).length:Int)-1;rw[Lm];omega) (by rw[kk];exact Ee hg)) (Yi rfl ?_));refine Xi .pure (Xi _ (Yi (hv) ?_));refine BA (show ∃z:Int,VW o=vi z/\(z<0↔o=none)/\∀n,o=some n->z=n by
  cases o with
  |none=>exact⟨-1,rfl,⟨fun _=>rfl,fun _=>by decide⟩,fun n h=>by cases h⟩
  |some n=>exact⟨n,rfl,⟨fun h=>absurd (hz n rfl) ch,fun h=>by cases h⟩,fun m h=>by cases h;rfl⟩) (fun z vT=>?_)
 refine cU [(4,sl Gj A),(6,vi z)] [] ⟨Zr,⟨vT.1,rfl⟩,Tv⟩ Tv (Yi (fun h3=>?_) (fun h3=>?_))
 .rw[Lm]at h3;exact .of_eq (Aa Ra (show(none:Option Int)=Bs p by rw[em,Ap (by omega:A.length<2)];cases o<;>rfl))
 rw[Lm]at h3;refine Yi (fun h4=>?_) (fun h4=>?_)
 .exact .of_eq (Aa Ra (show(none:Option Int)=Bs p by rw[em,vT.2.1.1 h4]))
 refine BA (show ∃n,o=some n by
  cases o with
  |none=>exact absurd (vT.2.1.2 rfl) h4
  |some n=>exact⟨n,rfl⟩) (fun n hn=>?_)
 exact .of_eq (show AV.tup [vi z,vi 0]=Ra (Bs p) by rw[em,hn,vT.2.2 n hn,Am (by omega:¬A.length<2)];rfl)
theorem AaE(hp:Er p):PC 155 [vs p] (vb (Bs p).isSome):=by
 have hc:=wQ p hp;cases h:Bs p with
 |none=>
  rw[h]at hc;refine Ps DU Tryz.func155 rfl (Nz rfl) (Xi .pure (Xi _ (Yi (hc) (Yi ?_ ?_))))
  .intro h;exact absurd (show(4:Int)=0 from h) Cl
  .intro _;exact .refl _
 |some n=>
  rw[h]at hc;refine Ps DU Tryz.func155 rfl (Nz rfl) (Xi .pure (Xi _ (Yi (hc) (Yi ?_ ?_))))
  .intro _;exact .refl _
  .intro h;exact absurd rfl h
theorem c80(s:List Sl)(hs:Cw s):PC 45 [sl Ao s] (vb (B6 s)):=by
 unfold Cw at hs;refine Ps DU Tryz.func45 rfl (Nz rfl) ?_;refine Xi {i:Nat // 1<=i/\(s=[]\/i<=s.length)/\B6 s=(match s[i-1]? with | none=>true | some y=>Lt (some y.path) (s.drop i))} (Xi (fun i=>⟨[(0,sl Ao s),(3,vi i.1)],[],Ad⟩) (Xi (fun i=>s.length-i.1) (Yi (Xi ⟨1,Ai _,by cases s with | nil=>exact .inl rfl | cons _ _=>exact .inr B0,by cases s<;>rfl⟩ ?_) ?_)))
 .exact⟨Z2,Tv,Fh,Tv⟩
 intro⟨i,h1,h2,h3⟩;refine Yi ?_ ?_
 .intro h;have h:i<s.length:=by simpa using h
  have hg:s[i]?=some s[i]:=Ge h;have h' : i-1<s.length:=by omega
  have VK : s[i-1]?=some s[i-1]:=Ge h';have e1:((i:Int)-1).toNat=i-1:=by omega
  have aq:B6 s=(FQ s[i-1].path s[i].path&&Lt (some s[i].path) (s.drop (i+1))):=by
   rw[h3,VK]
   have:=aw s (i-1) ch
   simp only[show i-1+1=i by omega,show i-1+2=i+1 by omega]at this;exact this
  refine Xi (Ao s[i]) (Yi (Yi (Nn i) (by simp[hg])) (Yi rfl ?_));refine Yi (by show A5 ((i:Int)-1);unfold A5;omega) (Xi (Ao s[i-1]) (Yi (Yi (by show(0:Int)<=(i:Int)-1;omega) (by show(s.map Ao)[((i:Int)-1).toNat]?=_;rw[e1];simp[VK])) (Yi rfl (Yi ?_ ?_))))
  .intro h4;rw[<-Hy]at h4;refine Yi aa0 ?_;exact .of_eq (Aa vb (show false=B6 s by rw[aq,h4];rfl))
  .intro h4;rw[<-Hy,RK]at h4;refine Yi aa0 (Yi (Ii i ch) (Xi ⟨i+1,by omega,.inr ch,by rw[aq,h4,show i+1-1=i by omega,hg];rfl⟩ ?_));exact⟨Dl s.length i ch,Z2,Tv,Fh,Tv⟩
 .intro h;have h:¬i<s.length:=by simpa using h
  have tQ:B6 s=true:=by
   rcases h2 with h2 | h2
   .rw[h2];rfl
   .have e:i=s.length:=by omega
    rw[h3,e,List.drop_length];cases s[s.length-1]?<;>rfl
  exact .of_eq (Aa vb tQ.symm)
end Go.Eng
