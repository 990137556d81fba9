/- Lemmas 23. -/
import Derived.Test.YteaiieomnhbmgaaGreatDoorFA22
import Derived.Test.YteaiieomnhbmgaaGreatDoorFA17
import Derived.Test.YteaiieomnhbmgaaGreatDoorFA03
import Derived.Lib.RepeatB
import Derived.Shelf.Sort.Plain
import Derived.Shelf.Slices.CompactS
import Derived.Ground.NamesProg
set_option maxHeartbeats 4000000
namespace Go.Eng
open Go.Proofs
variable {last:Int}(name:ByteArray)(x:HS)(n:Int)(s user:ByteArray)(i:Nat)
theorem oP(n:Nat):(⟨(Go.Lib.repeatL (ByteArray.mk #[0]).data.toList n).toArray⟩:ByteArray)=tW n:=by
 show(⟨(Go.Lib.repeatL (List.replicate 1 0) n).toArray⟩:ByteArray)=_;rw[Go.Lib.repeatL_replicate,tW];simp
theorem pJ(h0:0<=n)(h:n<=100):PC 151 [vs ⟨#[0]⟩,vi n] (vs (tW n.toNat)):=by
 refine NK [.string ⟨#[0]⟩,.int .i64 n] (.string (tW n.toNat)) (aN 151 Tryz.func151 Wk rfl) rfl (fun g w=>.v _ _) fun w _ _=>?_;have q:=Any.strings_Repeat Tryz.layRepeat Tryz.layRepeatX ⟨#[0]⟩ n.toNat w ch (by show 1*n.toNat<=_;omega);rw[oP,Int.toNat_of_nonneg h0]at q;exact q
theorem pB(h:s.size<=1000000000):PC 204 [vs s] (vs s):=
 NK [.string s] (.string s) (aN 204 Tryz.func204 Wk rfl) rfl (fun g w=>.v _ _) fun w _ _=>AnyPu.stringslite_Clone Tryz.layClone s w ch
theorem sE(h:s.size<=1000000000):PC 149 [vs s] (vs s):=by
 refine Ps Ej Tryz.func149 rfl (Nz rfl) (Xi .pure (Xi _ (Yi (pB s h) ?_)));exact .refl _
theorem AaQ  : A9 Tryz.prog 87 [] (As [] Ag) fun r h'=>r=.ref 2000 0/\h'=As [(2000,.cells (GN TG))] Ag:=by
 refine Cz (No Ej) [(3,2000)] rfl C3 hm rfl Tryz.func87 Wk rfl (Nz rfl) Wk rfl ?_;exact Xi _ (Yi (.refl _) Zr)
theorem pE:A9 Tryz.prog 150 [.ref 1000 0] (As [(1000,.cells (GN x))] Ag) fun r h'=>r=.ref 2000 0/\h'=As [(1000,.cells (GN x)),(2000,.cells (GN x))] Ag:=by
 refine Cz (No Ej) [(1000,1000),(3,2000)] rfl C3 hm rfl Tryz.func150 Wk rfl (Nz rfl) Wk rfl (yN (yN ?_));exact Xi _ (Yi (.refl _) Zr)
abbrev u8(x:Int):AV:=.v (.int .u8 x)
def bX:List AV:=(List.range i).map fun(j:Nat)=>u8 (IntKind.wrap .u8 (GK .shr .u64 n (56-8*(j:Int))))
def oe:List UInt8:=(List.range 8).map fun(i:Nat)=>UInt8.ofNat (IntKind.wrap .u8 (GK .shr .u64 n (56-8*(i:Int)))).toNat
theorem gS:(bX n i).length=i:=by rw[bX,Lm,LI]
theorem zK(h:Nat->HO)(n:Int)(i:Nat):TF h (.cells (bX n i++List.replicate (8-i) (u8 0)))=true:=by
 have e:∀l:List Int,Zi h (l.map u8++List.replicate (8-i) (u8 0))=true:=fun l=>by
  induction l with
  |nil=>show Zi h (List.replicate (8-i) (u8 0))=true;induction (8-i)with |zero=>rfl |succ k ih=>exact ih
  |cons a l ih=>exact ih
 have q:=e ((List.range i).map fun(j:Nat)=>IntKind.wrap .u8 (GK .shr .u64 n (56-8*(j:Int))));rw[Bq]at q;exact q
theorem og{n:Int}{i m:Nat}(h:i<8)(e:m=i):over (bX n i++List.replicate (8-i) (u8 0)) m [u8 (IntKind.wrap .u8 (GK .shr .u64 n (56-8*(i:Int))))]=bX n (i+1)++List.replicate (8-(i+1)) (u8 0):=by
 rw[show 8-i=(8-(i+1))+1 by omega,List.replicate_succ,QV (by rw[gS];exact e.symm),bX,bX,List.range_succ,At,BD];rfl
theorem tT(z:Int):((UInt8.ofNat (IntKind.wrap .u8 z).toNat).toNat:Int)=IntKind.wrap .u8 z:=by
 have h1:0<=IntKind.wrap .u8 z:=WZ _ Cl;have h2:IntKind.wrap .u8 z<256:=Int.emod_lt_of_pos _ Cl;rw[UInt8.toNat_ofNat',Nat.mod_eq_of_lt ch];omega
theorem kf(h:Nat->HO)(n:Int):(((bX n 8).map (str h)).map fun c=>[c])=(oe n).map fun b=>[AV.v (.int .u8 b.toNat)]:=by
 rw[bX,oe,Bq,Bq,Bq];refine Bg fun i _=>?_;show [AV.v (.int .u8 _)]=[AV.v (.int .u8 _)];rw[tT]
theorem pI:PC 89 [.v (.int .u64 n)] (vs (K5 n)):=by
 refine Ps ⟨[],[(17,1)],[],[(17,[3])],[],[],[],[],[],[],[7]⟩ Tryz.func89 rfl (Nz rfl) (Xi {q:Nat // q<=8} (Xi (fun q=>⟨[(0,.v (.int .u64 n)),(3,.ref 3 0),(5,vi q.1)],[(3,.cells (bX n q.1++List.replicate (8-q.1) (u8 0)))],Ag⟩) (Xi (fun q=>8-q.1) (Yi (Xi ⟨0,AB _⟩ ?_) ?_))))
 .exact⟨Z3,⟨⟨rfl,(zK _ _ _)⟩,Tv⟩,Fh,Tv⟩
 intro⟨i,i1⟩;have i1:i<=8:=i1;refine Yi (fun h1=>?_) (fun h1=>?_)
 .have h1:(i:Int)<(8:Int):=h1;refine Yi (by show Bc ((8:Int)*(i:Int));unfold Bc;omega) (Yi (by show Bc ((56:Int)-(8*i:Int));unfold Bc;omega) (Yi (show(0:Int)<=56-(8*i) by omega) (Yi (show(0:Int)<=i/\(i:Int)<(8:Nat)from by omega) (Yi (show(0+(i:Int).toNat*1)+1<=((bX n i++List.replicate (8-i) (u8 0))).length from by rw[Ac,gS,B3];omega) ?_))));refine Yi (Ii i ch) (Xi ⟨i+1,by omega⟩ ?_);exact⟨Dl 8 i ch,Z3,⟨⟨(show HO.cells (over (bX n i++List.replicate (8-i) (u8 0)) (0+(i:Int).toNat*1) [.v (.int .u8 (IntKind.wrap .u8 (GK .shr .u64 n (56-(8*i)))))])=.cells (bX n (i+1)++List.replicate (8-(i+1)) (u8 0))from Aa HO.cells (og (show i<8 by omega) ch)),(zK _ _ _)⟩,Tv⟩,Fh,Tv⟩
 have h1:¬((i:Int)<(8:Int)):=h1;refine cU [(3,.ref 3 0)] [(3,.cells (bX n 8))] Z1 ⟨⟨(show HO.cells (bX n i++List.replicate (8-i) (u8 0))=.cells (bX n 8) by rw[show i=8 by omega];rfl),rfl⟩,Tv⟩ ?_
 refine Yi (show 8=((bX n 8).map (str _)).length from rfl) (Xi (oe n) (Yi (kf _ n) ?_));exact .refl _
theorem T6(hb:(x.rest++s).size<=1000000000):A9 Tryz.prog 88 [.ref 1000 0,vs s] (As [(1000,.cells (GN x))] Ag) fun r h'=>r=.tup []/\h'=As [(1000,.cells (GN (HA x s)))] Ag:=by
 refine Cz (No Ej) [(1000,1000)] rfl C3 hm rfl Tryz.func88 Wk rfl (Nz rfl) Wk rfl (yN (Yi (show((x.rest.size+s.size:Nat):Int)<=9223372036854775807 by have q:=hb;rw[Da]at q;omega) (Xi {q:S8×ByteArray // JM q.1 q.2=JM x.v (x.rest++s)/\q.2.size<=1000000000} (Xi (fun q=>⟨[(0,.ref 1000 0),(1,vs q.1.2)],[(1000,.cells [.v (.int .u32 q.1.1.a),.v (.int .u32 q.1.1.b),.v (.int .u32 q.1.1.c),.v (.int .u32 q.1.1.d),.v (.int .u32 q.1.1.e),.v (.int .u32 q.1.1.f),.v (.int .u32 q.1.1.g),.v (.int .u32 q.1.1.h),vs x.rest,.v (.int .u64 (IntKind.wrap .u64 (x.tot+(IntKind.wrap .u64 (s.size:Int)))))])],Ag⟩) (Xi (fun q=>q.1.2.size) (Yi (Xi ⟨(x.v,x.rest++s),rfl,hb⟩ ?_) ?_))))))
 .exact⟨Z2,Z1,Fh,BV Wk⟩
 intro⟨⟨v,b⟩,v1,v2⟩;have v1:JM v b=JM x.v (x.rest++s):=v1;have v2:b.size<=1000000000:=v2;refine Yi (fun h1=>?_) (fun h1=>?_)
 .have h1:(64:Int)<=(b.size:Int):=h1;refine Yi (show(0:Int)<=0/\(0:Int)<=64/\(64:Int)<=(b.size:Int)from by omega) (Xi (.gen [(1000,1000)] 0) (Yi rfl (A9.to2 (AaD ⟨v,x.rest,(IntKind.wrap .u64 (x.tot+(IntKind.wrap .u64 (s.size:Int))))⟩ (b.extract 0 64) (by simp only[Io];omega)) ?_)));refine Yi (show(0:Int)<=64/\(64:Int)<=(b.size:Int)/\(b.size:Int)<=(b.size:Int)from by omega) (Xi ⟨(wz v (b.extract 0 64),b.extract 64 b.size),by rw[<-v1,JM.eq_1 v b,Ap ch],by simp only[Io];omega⟩ ?_);exact⟨by show(b.extract 64 b.size).size<b.size;simp only[Io];omega,Z2,Z1,Fh,BV Wk⟩
 have h1:¬((64:Int)<=(b.size:Int)):=h1;refine Xi .pure (Xi _ (Yi (sE b v2) (yN ?_)));exact Xi _ (Yi (.refl _) ⟨rfl,show As [(1000,HO.cells [.v (.int .u32 v.a),.v (.int .u32 v.b),.v (.int .u32 v.c),.v (.int .u32 v.d),.v (.int .u32 v.e),.v (.int .u32 v.f),.v (.int .u32 v.g),.v (.int .u32 v.h),vs b,.v (.int .u64 (IntKind.wrap .u64 (x.tot+(IntKind.wrap .u64 (s.size:Int)))))])] Ag=As [(1000,.cells (GN (HA x s)))] Ag from by rw[HA,<-v1,JM.eq_1 v b,Aj ch]⟩)
abbrev Kx(b:UInt8):List AV:=[.v (.int .u8 b.toNat)]
theorem Wq(n:Nat):(tW n).size=n:=by show(List.replicate n (0:UInt8)).toArray.size=n;simp
theorem L3:(K5 n).size=8:=by show(List.map _ (List.range 8)).toArray.size=8;simp
theorem ko:(Fc x).size<=80:=by
 rw[Fc,Da,Da,Wq,L3];show 1+_+8<=80;omega
theorem pP(x:Int):[[AV.v (.int .u8 (IntKind.wrap .u8 (GK .shr .u32 x 24)))],[.v (.int .u8 (IntKind.wrap .u8 (GK .shr .u32 x 16)))],[.v (.int .u8 (IntKind.wrap .u8 (GK .shr .u32 x 8)))],[.v (.int .u8 (IntKind.wrap .u8 x))]]=(G9 x).map Kx:=by
 simp only[G9,AJ,E6,Kx,tT]
theorem pQ(l:List Int)(i:Nat)(h:i<=8):((l.take i).flatMap G9).length<=32:=by
 have e:∀m:List Int,(m.flatMap G9).length=4*m.length:=fun m=>by
  induction m with
  |nil=>rfl
  |cons a m ih=>rw[List.flatMap_cons,Ac,ih];show 4+_=4*(_+1);omega
 rw[e,Ax];omega
theorem fM{l:List Int}{i:Nat}(h:i<l.length):(l.take i).flatMap G9++G9 (Z0 l i)=(l.take (i+1)).flatMap G9:=by
 rw[Bh,fK h,List.flatMap_append];simp
theorem wY(hx:x.rest.size<64):A9 Tryz.prog 90 [.ref 1000 0] (As [(1000,.cells (GN x))] Ag) fun r h'=>r=vs (so x)/\h'=As [(1000,.cells (GN x))] Ag:=by
 refine Cz (No ⟨[],[(5,1)],[],[],[],[],[],[],[(28,5)],[],[]⟩) [(1000,1000)] rfl C3 hm rfl Tryz.func90 Wk rfl (Nz rfl) Wk rfl (Xi (.gen [(1000,1000)] 1) (Yi rfl (A9.to2 (pE x) ?_)));refine Yi (by show Bc ((119:Int)-(x.rest.size:Int));unfold Bc;omega) (Yi ⟨by omega,by omega⟩ ?_);refine Xi _ (Yi (pJ (((119-x.rest.size) % 64:Int)) ch ch) (Yi (show(((⟨#[128]⟩:ByteArray).size+(tW (((119-x.rest.size) % 64:Int)).toNat).size:Nat):Int)<=9223372036854775807 by have q:(⟨#[128]⟩:ByteArray).size=1:=rfl;simp only[Wq];omega) ?_));refine Xi _ (Yi (pI (IntKind.wrap .u64 (8*x.tot))) (Yi (show(((⟨#[128]⟩++(tW (((119-x.rest.size) % 64:Int)).toNat):ByteArray).size+(K5 (IntKind.wrap .u64 (8*x.tot))).size:Nat):Int)<=9223372036854775807 by have q:(⟨#[128]⟩:ByteArray).size=1:=rfl;simp only[Da,Wq,L3];omega) ?_));refine Xi [(10900,1000)] (Xi [(1000,.cells (GN x))] (Xi [(1000,.cells (GN (HA x (Fc x))))] (Xi [.ref 1000 0,vs (Fc x)] (Xi (.tup []:AV) (Yi (fun h2 hh=>Yi ((Aa (fun o:HO=>As [(1000,o.ren (CI [(10900,1000)]) h2)] Ag) (show h2 10900=.cells (GN x)from hh 10900 Cl)).trans rfl) rfl) (Yi Wk (Yi (T6 x (Fc x) (by rw[Da];have q:=ko x;omega)) ?_)))))));refine Yi Wk (yN (Xi {q:Nat // q<=8} (Xi (fun q=>⟨[(5,.slice (.id 5 1) ((((S8.l (HA x (Fc x)).v).take q.1).flatMap G9).map Kx)),(32,.agg [.v (.int .u32 (HA x (Fc x)).v.a),.v (.int .u32 (HA x (Fc x)).v.b),.v (.int .u32 (HA x (Fc x)).v.c),.v (.int .u32 (HA x (Fc x)).v.d),.v (.int .u32 (HA x (Fc x)).v.e),.v (.int .u32 (HA x (Fc x)).v.f),.v (.int .u32 (HA x (Fc x)).v.g),.v (.int .u32 (HA x (Fc x)).v.h)]),(33,vi q.1)],[(5,.tok 1 ((((S8.l (HA x (Fc x)).v).take q.1).flatMap G9).map Kx).length),(1000,.cells (GN x))],Ag⟩) (Xi (fun q=>8-q.1) (Yi (Xi ⟨0,AB _⟩ ?_) ?_)))))
 .exact⟨Z3,Z2,Fh,BV Wk⟩
 intro⟨i,i1⟩;have i1:i<=8:=i1;refine Yi (fun h1=>?_) (fun h1=>?_)
 .have h1:(i:Int)<(8:Int):=h1;have hlw:=pQ (S8.l (HA x (Fc x)).v) i i1;refine Yi (show(0:Int)<=i/\(i:Int)<(8:Nat)from by omega) (HM (sY (v:=(HA x (Fc x)).v) (show i<8 by omega) (show((i:Int).toNat*1)=i by omega)) (Yi Cl (Yi Cl (Yi Cl ?_))));have b2:Cr 1 [[.v (.int .u8 (IntKind.wrap .u8 (GK .shr .u32 (S8.n (HA x (Fc x)).v i) 24)))],[.v (.int .u8 (IntKind.wrap .u8 (GK .shr .u32 (S8.n (HA x (Fc x)).v i) 16)))],[.v (.int .u8 (IntKind.wrap .u8 (GK .shr .u32 (S8.n (HA x (Fc x)).v i) 8)))],[.v (.int .u8 (IntKind.wrap .u8 (S8.n (HA x (Fc x)).v i)))]]/\((((S8.l (HA x (Fc x)).v).take i).flatMap G9).map Kx).length=((((S8.l (HA x (Fc x)).v).take i).flatMap G9).map Kx).length/\(((((S8.l (HA x (Fc x)).v).take i).flatMap G9).map Kx).length+([[.v (.int .u8 (IntKind.wrap .u8 (GK .shr .u32 (S8.n (HA x (Fc x)).v i) 24)))],[.v (.int .u8 (IntKind.wrap .u8 (GK .shr .u32 (S8.n (HA x (Fc x)).v i) 16)))],[.v (.int .u8 (IntKind.wrap .u8 (GK .shr .u32 (S8.n (HA x (Fc x)).v i) 8)))],[.v (.int .u8 (IntKind.wrap .u8 (S8.n (HA x (Fc x)).v i)))]]:List (List AV)).length)*1<=140737488355328/\((((S8.l (HA x (Fc x)).v).take i).flatMap G9).map Kx).length+([[.v (.int .u8 (IntKind.wrap .u8 (GK .shr .u32 (S8.n (HA x (Fc x)).v i) 24)))],[.v (.int .u8 (IntKind.wrap .u8 (GK .shr .u32 (S8.n (HA x (Fc x)).v i) 16)))],[.v (.int .u8 (IntKind.wrap .u8 (GK .shr .u32 (S8.n (HA x (Fc x)).v i) 8)))],[.v (.int .u8 (IntKind.wrap .u8 (S8.n (HA x (Fc x)).v i)))]]:List (List AV)).length<=9223372036854775807:=⟨⟨rfl,rfl,rfl,rfl,trivial⟩,rfl,(by simp only[Lm,Al,Au];omega),(by simp only[Lm,Al,Au];omega)⟩;refine Yi b2 (Yi (Ii i ch) ?_);have ew:(((((S8.l (HA x (Fc x)).v).take i).flatMap G9).map Kx++[[AV.v (.int .u8 (IntKind.wrap .u8 (GK .shr .u32 (S8.n (HA x (Fc x)).v i) 24)))],[.v (.int .u8 (IntKind.wrap .u8 (GK .shr .u32 (S8.n (HA x (Fc x)).v i) 16)))],[.v (.int .u8 (IntKind.wrap .u8 (GK .shr .u32 (S8.n (HA x (Fc x)).v i) 8)))],[.v (.int .u8 (IntKind.wrap .u8 (S8.n (HA x (Fc x)).v i)))]])=(((S8.l (HA x (Fc x)).v).take (i+1)).flatMap G9).map Kx):=by rw[pP,<-At];exact Aa (List.map Kx) (fM (show i<8 by omega))
  refine Xi ⟨i+1,by omega⟩ ?_;exact⟨Dl 8 i ch,⟨⟨(Aa (AV.slice (.id 5 1)) ew),rfl⟩,Zr,Zr,Tv⟩,⟨⟨(show HO.tok 1 (((((S8.l (HA x (Fc x)).v).take i).flatMap G9).map Kx).length+([[.v (.int .u8 (IntKind.wrap .u8 (GK .shr .u32 (S8.n (HA x (Fc x)).v i) 24)))],[.v (.int .u8 (IntKind.wrap .u8 (GK .shr .u32 (S8.n (HA x (Fc x)).v i) 16)))],[.v (.int .u8 (IntKind.wrap .u8 (GK .shr .u32 (S8.n (HA x (Fc x)).v i) 8)))],[.v (.int .u8 (IntKind.wrap .u8 (S8.n (HA x (Fc x)).v i)))]]:List (List AV)).length)=.tok 1 ((((S8.l (HA x (Fc x)).v).take (i+1)).flatMap G9).map Kx).length from Aa (HO.tok 1) (Ac.symm.trans (Aa List.length ew))),rfl⟩,Zr,Tv⟩,Fh,BV Wk⟩
 have h1:¬((i:Int)<(8:Int)):=h1;refine Xi (((S8.l (HA x (Fc x)).v)).flatMap G9) (Yi (show((((S8.l (HA x (Fc x)).v).take i).flatMap G9).map Kx)=(((S8.l (HA x (Fc x)).v)).flatMap G9).map Kx by rw[show i=8 by omega];rfl) ?_);exact Xi _ (Yi (.refl _) Zr)
theorem Xd:∀(n:Nat) (v:S8) (b:ByteArray),b.size<=n->(JM v b).2.size<64
 |0,v,b,h=>by rw[JM,Aj ch];show b.size<64;omega
 |n+1,v,b,h=>by
  rw[JM];split
  .exact Xd n _ _ (by simp only[Io];omega)
  .show b.size<64;omega
theorem ZR:(HA x s).rest.size<64:=Xd _ _ _ (Am _)
theorem iy{x:HS}(hx:x.rest.size<64):∀l:List ByteArray,(Ri x l).rest.size<64:=fun l=>by
 unfold Ri
 induction l generalizing x with
 |nil=>exact hx
 |cons a l ih=>exact ih (ZR _ _)
theorem kY(l:List ByteArray)(i:Nat)(h:i<l.length):Ri x (l.take (i+1))=HA (HA (Ri x (l.take i)) (K5 (IntKind.wrap .u64 (l[i].size:Int)))) l[i]:=by
 rw[BN h,Ri,Et];rfl
theorem kX:(so x).size=32:=by
 have e:∀m:List Int,(m.flatMap G9).length=4*m.length:=fun m=>by
  induction m with
  |nil=>rfl
  |cons a m ih=>rw[List.flatMap_cons,Ac,ih];show 4+_=4*(_+1);omega
 show((((HA x (Fc x)).v.l).flatMap G9).toArray).size=32;rw[Eb,e];rfl
def YR(d:ByteArray):Nat->Int
 |0=>0
 |i+1=>JV .or .u64 (GK .shl .u64 (YR d i) 8) (IntKind.wrap .u64 ((OX d i).toNat:Int))
def jk:Int:=YR (iz ⟨#[99,111,104,111,114,116]⟩ [name,user]) 8 % 100
theorem mh(d:ByteArray)(i:Nat):0<=YR d i:=by
 cases i with
 |zero=>exact Bs 0
 |succ i=>exact Wp _
theorem gg:0<=jk name user/\jk name user<100:=⟨WZ _ Cl,Int.emod_lt_of_pos _ Cl⟩
theorem pM(tag:ByteArray)(l:List ByteArray)(hn:l.length<=1000000)(ht:tag.size<=100000000)(hl:∀s∈l,s.size<=100000000):PC 48 [vs tag,sl AF l] (vs (iz tag l)):=by
 refine Ps Ej Tryz.func48 rfl (Nz rfl) (Xi (.gen [] 1) (Yi rfl (A9.to2 AaQ ?_)));refine Xi .pure (Xi _ (Yi (pI (IntKind.wrap .u64 tag.size)) (Yi (show(((K5 (IntKind.wrap .u64 (tag.size:Int))).size+tag.size:Nat):Int)<=9223372036854775807 by rw[L3];omega) ?_)));refine Xi (.gen [(10800,1000)] 0) (Yi rfl (A9.to2 (T6 TG ((K5 (IntKind.wrap .u64 tag.size))++tag) (by rw[Da];have q:=L3 (IntKind.wrap .u64 (tag.size:Int));rw[Da];show 0+_<=_;omega)) ?_));refine Xi {q:Nat // q<=l.length} (Xi (fun q=>⟨[(5,.ref 10800 0),(17,sl AF l),(18,vi (l.map AF).length),(19,vi q.1)],[(10800,.cells (GN (Ri (HA TG (K5 (IntKind.wrap .u64 (tag.size:Int))++tag)) (l.take q.1))))],Ag⟩) (Xi (fun q=>l.length-q.1) (Yi (Xi ⟨0,AB _⟩ ?_) ?_)))
 .exact⟨Z4,Z1,Fh,Tv⟩
 intro⟨i,i1⟩;have i1:i<=l.length:=i1;refine Yi (fun h1=>?_) (fun h1=>?_)
 .have h1:(i:Int)<((l.map AF).length:Int):=h1;have n1:=FJ h1;refine Xi (AF l[i]) (Yi (Lv n1) (Yi rfl (Xi .pure (Xi _ (Yi (pI (IntKind.wrap .u64 l[i].size)) (Xi (.gen [(10800,1000)] 0) (Yi rfl (A9.to2 (T6 (Ri (HA TG (K5 (IntKind.wrap .u64 (tag.size:Int))++tag)) (l.take i)) (K5 (IntKind.wrap .u64 l[i].size)) (by rw[Da];have q:=iy (ZR TG (K5 (IntKind.wrap .u64 (tag.size:Int))++tag)) (l.take i);have q2:=L3 (IntKind.wrap .u64 (l[i].size:Int));omega)) ?_))))))));refine Xi (.gen [(10800,1000)] 0) (Yi rfl (A9.to2 (T6 (HA (Ri (HA TG (K5 (IntKind.wrap .u64 (tag.size:Int))++tag)) (l.take i)) (K5 (IntKind.wrap .u64 l[i].size))) l[i] (by rw[Da];have q:=ZR (Ri (HA TG (K5 (IntKind.wrap .u64 (tag.size:Int))++tag)) (l.take i)) (K5 (IntKind.wrap .u64 (l[i].size:Int)));have q2:=hl l[i] (Ao n1);omega)) ?_));refine Yi (Ii i ch) (Xi ⟨i+1,by omega⟩ ?_);exact⟨Dl l.length i ch,Z4,⟨⟨(show HO.cells (GN (HA (HA (Ri (HA TG (K5 (IntKind.wrap .u64 (tag.size:Int))++tag)) (l.take i)) (K5 (IntKind.wrap .u64 l[i].size))) l[i]))=.cells (GN (Ri (HA TG (K5 (IntKind.wrap .u64 (tag.size:Int))++tag)) (l.take (i+1))))from Aa (fun z=>HO.cells (GN z)) (kY _ l i n1).symm),rfl⟩,Tv⟩,Fh,Tv⟩
 have h1:¬((i:Int)<((l.map AF).length:Int)):=h1;have n1:=DP h1;refine Xi (.gen [(10800,1000)] 0) (Yi rfl (A9.to2 (wY (Ri (HA TG (K5 (IntKind.wrap .u64 (tag.size:Int))++tag)) (l.take i)) (iy (ZR _ _) _)) ?_));have e:l.take i=l:=Av ch;exact CX.of_eq (Aa (fun z=>vs (so (Ri (HA TG (K5 (IntKind.wrap .u64 (tag.size:Int))++tag)) z))) e)
theorem wR(d:ByteArray)(hs:d.size=32)(hd:PC 48 [vs ⟨#[99,111,104,111,114,116]⟩,sl AF [name,user]] (vs d)):PC 15 [vs name,vs user] (vi (YR d 8 % 100)):=by
 refine Ps Ej Tryz.func15 rfl (Nz rfl) (Xi .pure (Xi _ (Yi hd (Xi {q:Nat // q<=8} (Xi (fun q=>⟨[(5,vs d),(6,.v (.int .u64 (YR d q.1))),(14,vi (min 8 d.size)),(15,vi q.1)],[],Ag⟩) (Xi (fun q=>8-q.1) (Yi (Xi ⟨0,AB _⟩ ?_) ?_)))))))
 .exact⟨Z4,Tv,Fh,Tv⟩
 intro⟨i,i1⟩;have i1:i<=8:=i1;refine Yi (fun h1=>?_) (fun h1=>?_)
 .have h1:(i:Int)<(min 8 d.size:Int):=h1;refine Yi Cl (Xi (OX d i) (Yi (fY (z:=(i:Int)) (show i<d.size by omega) rfl) (Yi (Ii i ch) (Xi ⟨i+1,by omega⟩ ?_))));exact⟨Dl 8 i ch,Z4,Tv,Fh,Tv⟩
 have h1:¬((i:Int)<(min 8 d.size:Int)):=h1;refine Yi (show 0<=YR d i/\(0:Int)<100 from⟨mh _ _,by decide⟩) (Yi (show Bc (YR d i % 100) by unfold Bc;have q1:=WZ (YR d i) (show(100:Int)≠0 by decide);have q2:=Int.emod_lt_of_pos (YR d i) (show(0:Int)<100 by decide);omega) ?_);have e:i=8:=by omega
 subst e;exact .refl _
theorem AaM(h1:name.size<=100000000)(h2:user.size<=100000000):PC 15 [vs name,vs user] (vi (jk name user)):=
 wR name user _ (kX _) (pM _ _ (show 2<=1000000 by omega) Cl (fun s hs=>by
  rcases Ay.1 hs with e|hs
  .rw[e];exact h1
  .rw[Ar.1 hs];exact h2))
structure cY where
 (t p:Int)
variable (l:List cY)
abbrev GI(s:cY):List AV:=[vi s.t,vi s.p]
def Wj(last:Int):List cY->Int
 | []=>0
 |s::r=>if s.t<=last\/s.p<0\/100<s.p then 1 else Wj s.t r
def DT:Int:=if 1024<l.length then 7 else Wj (-1) l
def T2(BR o:Int)(s:cY):Int:=if s.t<=BR then s.p else o
def LB(BR:Int):Int:=l.foldl (T2 BR) 0
theorem cr{l:List cY}{BR:Int}{i:Nat}(h:i<l.length):LB (l.take (i+1)) BR=T2 BR (LB (l.take i) BR) l[i]:=by
 rw[BN h,LB,Et];rfl
theorem sn{l:List cY}{i:Nat}(h:i<l.length)(h1:¬(l[i].t<=last\/l[i].p<0\/100<l[i].p)):Wj last (l.drop i)=Wj l[i].t (l.drop (i+1)):=by
 rw[AI h,Wj,Aj h1]
theorem fG{l:List cY}{i:Nat}(h:i<l.length)(h1:l[i].t<=last\/l[i].p<0\/100<l[i].p):Wj last (l.drop i)=1:=by
 rw[AI h,Wj,Ap h1]
theorem Wm(hl:B8 l):PC 13 [sl GI l] (vi (DT l)):=by
 have hl:l.length<=1073741824:=hl;refine Ps Ej Tryz.func13 rfl (Nz rfl) (Yi (fun h1=>?_) (fun h1=>?_))
 .have h1:(1024:Int)<((l.map GI).length:Int):=h1;have n1:1024<l.length:=by have q:=h1;rw[Lm]at q;omega
  exact CX.of_eq (Aa vi (show 7=DT l by rw[DT,Ap ch]))
 have h1:¬((1024:Int)<((l.map GI).length:Int)):=h1;have n1:¬1024<l.length:=by have q:=h1;rw[Lm]at q;omega
 refine Xi {q:Nat×Int // q.1<=l.length/\Wj q.2 (l.drop q.1)=Wj (-1) l} (Xi (fun q=>⟨[(3,vi q.1.2),(9,sl GI l),(10,vi (l.map GI).length),(11,vi q.1.1)],[],Ag⟩) (Xi (fun q=>l.length-q.1.1) (Yi (Xi ⟨(0,-1),AB _,rfl⟩ ?_) ?_)))
 .exact⟨Z4,Tv,Fh,Tv⟩
 intro⟨⟨i,la⟩,i1,i2⟩;have i1:i<=l.length:=i1;have i2:Wj la (l.drop i)=Wj (-1) l:=i2;refine Yi (fun h3=>?_) (fun h3=>?_)
 .have h3:(i:Int)<((l.map GI).length:Int):=h3;have n3:=FJ h3;refine Xi (GI l[i]) (Yi (Lv n3) (Yi rfl (yN (yN (Yi (fun h4=>?_) (fun h4=>?_))))))
  .have h4:(l[i].t:Int)<=(la:Int):=h4;exact CX.of_eq (Aa vi (show 1=DT l by rw[DT,Aj ch,<-i2,fG n3 ch]))
  have h4:¬((l[i].t:Int)<=(la:Int)):=h4;refine Yi (fun h6=>?_) (fun h6=>?_)
  .have h6:(l[i].p:Int)<(0:Int):=h6;exact CX.of_eq (Aa vi (show 1=DT l by rw[DT,Aj ch,<-i2,fG n3 ch]))
  have h6:¬((l[i].p:Int)<(0:Int)):=h6;refine Yi (fun h8=>?_) (fun h8=>?_)
  .have h8:(100:Int)<(l[i].p:Int):=h8;exact CX.of_eq (Aa vi (show 1=DT l by rw[DT,Aj ch,<-i2,fG n3 ch]))
  have h8:¬((100:Int)<(l[i].p:Int)):=h8;refine Yi (Ii i ch) (Xi ⟨(i+1,l[i].t),n3,by rw[<-i2,sn n3 ch]⟩ ?_);exact⟨Dl l.length i ch,Z4,Tv,Fh,Tv⟩
 have h3:¬((i:Int)<((l.map GI).length:Int)):=h3;have n3:=DP h3;exact CX.of_eq (Aa vi (show 0=DT l by rw[DT,Aj ch,<-i2,CA ch];rfl))
theorem tQ(BR:Int)(hl:B8 l):PC 47 [sl GI l,vi BR] (vi (LB l BR)):=by
 have hl:l.length<=1073741824:=hl;refine Ps Ej Tryz.func47 rfl (Nz rfl) (Xi {q:Nat // q<=l.length} (Xi (fun q=>⟨[(1,vi BR),(5,vi (LB (l.take q.1) BR)),(8,sl GI l),(9,vi (l.map GI).length),(10,vi q.1)],[],Ag⟩) (Xi (fun q=>l.length-q.1) (Yi (Xi ⟨0,AB _⟩ ?_) ?_))))
 .exact⟨Z5,Tv,Fh,Tv⟩
 intro⟨i,i1⟩;have i1:i<=l.length:=i1;refine Yi (fun h1=>?_) (fun h1=>?_)
 .have h1:(i:Int)<((l.map GI).length:Int):=h1;have n1:=FJ h1;refine Xi (GI l[i]) (Yi (Lv n1) (Yi rfl (yN (yN (Yi (fun h2=>?_) (fun h2=>?_))))))
  .have h2:(l[i].t:Int)<=(BR:Int):=h2;refine Yi (Ii i ch) (Xi ⟨i+1,n1⟩ ?_);exact⟨Dl l.length i ch,⟨Zr,⟨(Aa vi (show l[i].p=LB (l.take (i+1)) BR by rw[cr n1,T2,Ap h2])),rfl⟩,Zr,Zr,Zr,Tv⟩,Tv,Fh,Tv⟩
  have h2:¬((l[i].t:Int)<=(BR:Int)):=h2;refine Yi (Ii i ch) (Xi ⟨i+1,n1⟩ ?_);exact⟨Dl l.length i ch,⟨Zr,⟨(Aa vi (show(LB (l.take i) BR)=LB (l.take (i+1)) BR by rw[cr n1,T2,Aj h2])),rfl⟩,Zr,Zr,Zr,Tv⟩,Tv,Fh,Tv⟩
 have h1:¬((i:Int)<((l.map GI).length:Int)):=h1;have n1:=DP h1;exact CX.of_eq (Aa (fun z=>vi (LB z BR)) (Av (Bl (DP h1))))
def ff(BR:Int):Int:=if DT l=0 then LB l BR else 0
theorem tJ(BR:Int)(hl:B8 l):PC 11 [sl GI l,vi BR] (.tup [vi (ff l BR),vi (DT l)]):=by
 refine Ps Ej Tryz.func11 rfl (Nz rfl) (Xi .pure (Xi _ (Yi (Wm l hl) (Yi (fun h1=>?_) (fun h1=>?_)))))
 .have h1:((DT l):Int)≠(0:Int):=h1;exact CX.of_eq (show AV.tup [vi 0,vi (DT l)]=.tup [vi (ff l BR),vi (DT l)] by rw[ff,Aj h1])
 have h1:((DT l):Int)=(0:Int):=AH h1;refine Xi .pure (Xi _ (Yi (tQ l BR hl) ?_));exact CX.of_eq (show AV.tup [vi (LB l BR),vi 0]=.tup [vi (ff l BR),vi (DT l)] by rw[ff,Ap h1,h1])
end Go.Eng
namespace Go.Proofs
open Go.Shelf
def Tryz.laySortStr_ren:Go.Shelf.Ren:=⟨fun|190=>99|125=>161|258=>160|128=>228|129=>229|302=>220|303=>221|304=>222|305=>223|306=>224|307=>225|308=>159|309=>226|310=>227|333=>276|329=>277|330=>278|334=>279|335=>280|336=>198|344=>319|n=>n,fun|31=>52|9=>9|3=>3|46=>99|0=>0|51=>229|53=>98|4=>4|183=>316|182=>315|131=>214|5=>5|218=>357|222=>361|228=>389|229=>390|n=>n,fun|n=>n⟩
theorem Tryz.laySortStr:Go.Proofs.Lays.n190 Tryz.prog Tryz.laySortStr_ren:={
 mixed:=by kernel_rfl
 f125:=Tryz.func161.trans (congrArg some Go.Eng.Wk)
 f128:=Tryz.func228.trans (congrArg some Go.Eng.Wk)
 f129:=Tryz.func229.trans (congrArg some Go.Eng.Wk)
 f190:=Tryz.func99.trans (congrArg some Go.Eng.Wk)
 f258:=Tryz.func160.trans (congrArg some Go.Eng.Wk)
 f302:=Tryz.func220.trans (congrArg some Go.Eng.Wk)
 f303:=Tryz.func221.trans (congrArg some Go.Eng.Wk)
 f304:=Tryz.func222.trans (congrArg some Go.Eng.Wk)
 f305:=Tryz.func223.trans (congrArg some Go.Eng.Wk)
 f306:=Tryz.func224.trans (congrArg some Go.Eng.Wk)
 f307:=Tryz.func225.trans (congrArg some Go.Eng.Wk)
 f308:=Tryz.func159.trans (congrArg some Go.Eng.Wk)
 f309:=Tryz.func226.trans (congrArg some Go.Eng.Wk)
 f310:=Tryz.func227.trans (congrArg some Go.Eng.Wk)
 f329:=Tryz.func277.trans (congrArg some Go.Eng.Wk)
 f330:=Tryz.func278.trans (congrArg some Go.Eng.Wk)
 f333:=Tryz.func276.trans (congrArg some Go.Eng.Wk)
 f334:=Tryz.func279.trans (congrArg some Go.Eng.Wk)
 f335:=Tryz.func280.trans (congrArg some Go.Eng.Wk)
 f336:=Tryz.func198.trans (congrArg some Go.Eng.Wk)
 f344:=Tryz.func319.trans (congrArg some Go.Eng.Wk)
 t0:=Tryz.underlying0
 a0:=Tryz.isAgg0
 z0:=Tryz.sizeOf0
 v0:=Tryz.zeroValue0
 t3:=Tryz.underlying3
 a3:=Tryz.isAgg3
 z3:=Tryz.sizeOf3
 v3:=Tryz.zeroValue3
 t4:=Tryz.underlying4
 a4:=Tryz.isAgg4
 z4:=Tryz.sizeOf4
 v4:=Tryz.zeroValue4
 t5:=Tryz.underlying5
 a5:=Tryz.isAgg5
 z5:=Tryz.sizeOf5
 v5:=Tryz.zeroValue5
 t9:=Tryz.underlying9
 a9:=Tryz.isAgg9
 z9:=Tryz.sizeOf9
 v9:=Tryz.zeroValue9
 t31:=Tryz.underlying52
 a31:=Tryz.isAgg52
 z31:=Tryz.sizeOf52
 v31:=Tryz.zeroValue52
 t46:=Tryz.underlying99
 a46:=Tryz.isAgg99
 z46:=Tryz.sizeOf99
 v46:=Tryz.zeroValue99
 t51:=Tryz.underlying229
 a51:=Tryz.isAgg229
 z51:=Tryz.sizeOf229
 v51:=Tryz.zeroValue229
 t53:=Tryz.underlying98
 a53:=Tryz.isAgg98
 z53:=Tryz.sizeOf98
 v53:=Tryz.zeroValue98
 t131:=Tryz.underlying214
 a131:=Tryz.isAgg214
 z131:=Tryz.sizeOf214
 v131:=Tryz.zeroValue214
 t182:=Tryz.underlying315
 a182:=Tryz.isAgg315
 z182:=Tryz.sizeOf315
 v182:=Tryz.zeroValue315
 t183:=Tryz.underlying316
 a183:=Tryz.isAgg316
 z183:=Tryz.sizeOf316
 v183:=Tryz.zeroValue316
 t218:=Tryz.underlying357
 a218:=Tryz.isAgg357
 z218:=Tryz.sizeOf357
 v218:=Tryz.zeroValue357
 t222:=Tryz.underlying361
 a222:=Tryz.isAgg361
 z222:=Tryz.sizeOf361
 v222:=Tryz.zeroValue361
 t228:=Tryz.underlying389
 a228:=Tryz.isAgg389
 z228:=Tryz.sizeOf389
 v228:=Tryz.zeroValue389
 t229:=Tryz.underlying390
 a229:=Tryz.isAgg390
 z229:=Tryz.sizeOf390
 v229:=Tryz.zeroValue390 }
def Tryz.layCompactStr_ren:Go.Shelf.Ren:=⟨fun|194=>183|n=>n,fun|31=>52|9=>9|3=>3|4=>4|0=>0|n=>n,fun|n=>n⟩
theorem Tryz.layCompactStr:Go.Proofs.Lays.n194 Tryz.prog Tryz.layCompactStr_ren:={
 mixed:=by kernel_rfl
 f194:=Tryz.func183.trans (congrArg some Go.Eng.Wk)
 t0:=Tryz.underlying0
 a0:=Tryz.isAgg0
 z0:=Tryz.sizeOf0
 v0:=Tryz.zeroValue0
 t3:=Tryz.underlying3
 a3:=Tryz.isAgg3
 z3:=Tryz.sizeOf3
 v3:=Tryz.zeroValue3
 t4:=Tryz.underlying4
 a4:=Tryz.isAgg4
 z4:=Tryz.sizeOf4
 v4:=Tryz.zeroValue4
 t9:=Tryz.underlying9
 a9:=Tryz.isAgg9
 z9:=Tryz.sizeOf9
 v9:=Tryz.zeroValue9
 t31:=Tryz.underlying52
 a31:=Tryz.isAgg52
 z31:=Tryz.sizeOf52
 v31:=Tryz.zeroValue52 }
end Go.Proofs
namespace Go.Eng
open Go.Proofs Go.Shelf Go.RowKit Go.Lib Go.Sort
variable (ss:List ByteArray)(zs:List (List UInt8))(s:ByteArray)
abbrev K8:List UInt8:=s.data.toList
abbrev SG(l:List UInt8):ByteArray:=⟨l.toArray⟩
theorem qz:SG (K8 s)=s:=by cases s;simp
theorem N0:((zs.map SG).map AF).flatten=(zs.map Go.Proofs.encStr).map AV.v:=by
 induction zs with
 |nil=>rfl
 |cons z zs ih=>rw[AJ,AJ,BE,ih];rfl
theorem YK:(ss.map K8).map SG=ss:=by
 rw[Bq,show SG ∘ K8=id from funext qz,Gj]
theorem zX(t:List ByteArray)(hl:B8 ss)(DJ:ss≠[])(hp:t.Perm ss)(ht:(t.map K8).Pairwise fun a b=>a<=b) :
  A9 Tryz.prog 99 [.msl 1000 ss.length] (As [(1000,.arr 1 (ss.map AF))] Ag) fun r h'=>r=.tup []/\h'=As [(1000,.arr 1 (t.map AF))] Ag:=by
 have hE:F3 Tryz.prog 99:=aN 99 Tryz.func99 Wk rfl;obtain⟨zs,hz⟩:∃zs,zs=ss.map K8:=⟨_,rfl⟩;have ES:ss=zs.map SG:=by rw[hz,YK]
 have Ig:=Rv (P:=Tryz.prog) (f:=99) (es:=ss.map AF) (sz:=1) (rest:=[]) (Q:=fun F2=>F2=t.map AF) hE ?_ ?_
 .rw[Lm]at Ig;refine⟨hE,fun g w vals q1 q2 q3=>(Ig.2 g w vals q1 q2 q3).mono fun _ _ ⟨v,r,h',g',e1,⟨e2,F2,p1,p3⟩,rest⟩=>⟨v,r,h',g',e1,⟨e2,by rw[p3,p1]⟩,rest⟩⟩
 .intro e;exact absurd (DO.1 e) DJ
 .intro g w b cap F hr hF hH hb;have yI:F.toList=zs.map Go.Proofs.encStr:=MI (by rw[<-N0,<-ES];exact hr);have mT:F=zs.toArray.map Go.Proofs.encStr:=JG.1 (by rw[yI];simp);have Ol:zs.length=ss.length:=by rw[hz,Lm]
  have yJ:Holds Go.Proofs.encStr w b 0 zs.toArray:=fun j hj=>by
   have:=hH j (by rw[mT];simpa using hj)
   refine⟨this.1.trans ?_,this.2⟩;rw[mT,DY _ j (by simpa using hj),DY _ j hj];simp
  have hc:=Any.slices_Sort_string Tryz.laySortStr b 0 cap zs w yJ hb ch;have htz:(zs.mergeSort fun x y=>decide (x<=y))=t.map K8:=by
   have JZ:(zs.mergeSort fun x y=>decide (x<=y)).Perm zs:=Oq _ _;have zE:=K6 (le:=fun x y:List UInt8=>decide (x<=y)) (fun a b c h1 h2=>by simp only[AA]at *;exact List.le_trans h1 h2) (fun a b=>by simp only[CQ,AA];exact List.le_total a b) zs;refine List.Perm.eq_of_pairwise (le:=fun a b=>a<=b) (fun a b _ _ h k=>List.le_antisymm h k) (zE.imp fun h=>AP h) ht (JZ.trans ?_);rw[hz];exact(hp.map K8).symm
  rw[htz,Ol]at hc;rw[Lm];refine hc.mono ?_
  rintro e w' ⟨rfl,n,os,rfl⟩
  have DF:t.length=ss.length:=hp.length_eq;refine⟨rfl,(t.map K8).toArray.map Go.Proofs.encStr,t.map AF,n,os,?_,rfl,by simp[DF],fun cs hcs=>?_,fun g w _=>?_,by rw[Sa]⟩
  .rw[mT];simp[DF,Ol]
  .obtain⟨x,_,rfl⟩:=Ai.1 hcs;rfl
  .have e1:t.map AF=((t.map K8).map SG).map AF:=by rw[YK]
   rw[e1,N0];have e:(((t.map K8).toArray.map Go.Proofs.encStr).toList)=(t.map K8).map Go.Proofs.encStr:=by simp
   rw[e];exact Og _ _ _ _ fun x hx=>by
    obtain⟨z,_,rfl⟩:=Ai.1 hx;rfl
def Cq:List ByteArray:=(Lib.compact (ss.map K8)).map SG
theorem Nl:(Lib.compact zs).length<=zs.length:=by
 unfold Lib.compact Lib.compactUpTo;rw[Lm];exact AK (Bx _ _) (by rw[LI];exact Am _)
theorem Ae6(hl:B8 ss)(DJ:ss≠[]) :
  A9 Tryz.prog 183 [.msl 1000 ss.length] (As [(1000,.arr 1 (ss.map AF))] Ag) fun r h'=>r=.msl 2000 (Cq ss).length/\h'=As [(1000,.dead),(2000,.arr 1 ((Cq ss).map AF))] Ag:=by
 have hE:F3 Tryz.prog 183:=aN 183 Tryz.func183 Wk rfl;obtain⟨zs,hz⟩:∃zs,zs=ss.map K8:=⟨_,rfl⟩;have ES:ss=zs.map SG:=by rw[hz,YK]
 have Ol:zs.length=ss.length:=by rw[hz,Lm]
 have hcl:=Nl zs;have Ig:=Xe (P:=Tryz.prog) (f:=183) (es:=ss.map AF) (sz:=1) (rest:=[]) (n':=(Lib.compact zs).length) (Q:=fun F2=>F2=((Lib.compact zs++List.replicate (zs.length-(Lib.compact zs).length) []).map SG).map AF) hE (fun e=>DJ (DO.1 e)) (by rw[Lm];omega) ?_
 .rw[Lm]at Ig;have ez:Cq ss=(Lib.compact zs).map SG:=by unfold Cq;rw[hz]
  refine⟨hE,fun g w vals q1 q2 q3=>(Ig.2 g w vals q1 q2 q3).mono fun _ _ ⟨x,r,h',g',e1,⟨e2,F2,p1,p2⟩,rest⟩=>⟨x,r,h',g',e1,⟨by rw[e2,ez,Lm],by
   rw[p2,p1,ez,At,At,H7 (by rw[Lm,Lm];exact Am _),Av (by rw[Lm,Lm];exact Am _)]⟩,rest⟩⟩
 .intro g w b cap F hr hF hH hb hc;rw[Lm]at hF hc⊢;have yI:F.toList=zs.map Go.Proofs.encStr:=MI (by rw[<-N0,<-ES];exact hr);have mT:F=zs.toArray.map Go.Proofs.encStr:=JG.1 (by rw[yI];simp);have yJ:Holds Go.Proofs.encStr w b 0 zs.toArray:=fun j hj=>by
   have:=hH j (by rw[mT];simpa using hj)
   refine⟨this.1.trans ?_,this.2⟩;rw[mT,DY _ j (by simpa using hj),DY _ j hj];simp
  have hcon:=Any.slices_Compact_string Tryz.layCompactStr b 0 cap zs w yJ ch ch;rw[Ol]at hcon;refine hcon.mono ?_
  rintro e w' ⟨rfl,q,rfl⟩
  refine⟨rfl,(Lib.compact zs++List.replicate (zs.length-(Lib.compact zs).length) []).toArray.map Go.Proofs.encStr,_,q,#[],?_,rfl,?_,fun cs hcs=>?_,fun g w _=>?_,?_⟩
  .rw[mT];simp;omega
  .simp;omega
  .obtain⟨x,_,rfl⟩:=Ai.1 hcs;rfl
  .rw[N0];have e:((Lib.compact zs++List.replicate (zs.length-(Lib.compact zs).length) []).toArray.map Go.Proofs.encStr).toList=(Lib.compact zs++List.replicate (zs.length-(Lib.compact zs).length) []).map Go.Proofs.encStr:=by simp
   rw[e];exact Og _ _ _ _ fun x hx=>by
    obtain⟨z,_,rfl⟩:=Ai.1 hx;rfl
  .rw[Sa,grow_empty,Ol]
end Go.Eng
namespace Go.Eng
open Go.Proofs
variable {a b:ByteArray}{caps:List AV}{fF:Nat}
abbrev Aed(n:Nat):Tt:=⟨[],[],[(2,n),(5,n)],[],[],[],[5],[],[],[],[2,3]⟩
theorem AeY(l:List Sl)(hl:B8 l):A9 Tryz.prog 138 [sl Aq l] (As [] Ag) fun r h'=>r=.msl 2000 l.length/\h'=As [(2000,.arr 4 (l.map Aq))] Ag:=by
 refine Cz (No (Aed 4)) [(2,2000)] rfl C3 hm rfl Tryz.func138 Wk rfl (Nz rfl) Wk rfl ?_;have HG:Cr 4 (l.map Aq)/\([]:List (List AV)).length=0/\(([]:List (List AV)).length+(l.map Aq).length)*40<=140737488355328/\([]:List (List AV)).length+(l.map Aq).length<=9223372036854775807:=by
  refine⟨D5 (enc:=Aq) (n:=4) (fun _=>rfl) l,rfl,?_,?_⟩<;>simp only[Au,Lm]<;>unfold B8 at hl<;>omega
 have e1:AV.msl 2000 (([]:List (List AV)).length+(l.map Aq).length)=.msl 2000 l.length:=by simp
 refine Xi 0 (Xi 0 (Yi ?_ ?_))
 .intro _;refine cU [(0,sl Aq l)] [] Z1 Tv (Xi 2 (Yi HG ?_));exact Xi _ (Yi (.refl _) (Yi e1 rfl))
 .intro h;refine Yi ?_ ?_
  .refine Xi ⟨[],[],Ag⟩ (Yi ⟨trivial,trivial,fun _=>.inl rfl,BV Wk⟩ ?_);refine Xi 2 ?_;exact Xi _ (Yi (.refl _) (Yi (show AV.msl 2000 0=_ by rw[DO.1 h];rfl) (show As [(2000,HO.arr 4 [])] Ag=_ by rw[h])))
  .refine cU [(0,sl Aq l)] [] Z1 Tv (Xi 2 (Yi HG ?_));exact Xi _ (Yi (.refl _) (Yi e1 rfl))
theorem Xh{n:Nat}:∀{l:List (List AV)},(∀c∈l,c.length=n)->Cr n l
 | [],_=>trivial
 |c::_,h=>⟨h c (Ab ..),Xh fun d hd=>h d (Ah _ hd)⟩
theorem o70(hs:CU caps)(l:List (Sl))(p:Sl->Bool)(hF:∀x∈l,PC fF ([.agg (Aq x)]++caps) (vb (p x)))(hl:l.length<9223372036854775807) :
  PC 108 [sl Aq l,.clo fF caps] (vi (FS p l 0)):=by
 refine Ps Ej Tryz.func108 rfl (Nz rfl) (Xi {i:Nat // i<=l.length/\∀j (hj:j<l.length),j<i->p l[j]=false} (Xi (fun i=>⟨[(0,sl Aq l),(1,.clo fF caps),(7,vi (l.map Aq).length),(8,vi i.1)],[],Ag⟩) (Xi (fun i=>l.length-i.1) (Yi (Xi ⟨0,by simp⟩ ?_) ?_))))
 .exact⟨⟨Zr,⟨rfl,hs.ids _⟩,Zr,Zr,Tv⟩,Tv,Fh,Tv⟩
 .intro⟨i,h1,h2⟩;refine Yi ?_ ?_
  .intro h;have h:i<l.length:=by simpa using h
   have hg:l[i]?=some l[i]:=Ge h;refine Xi (Aq l[i]) (Yi (Yi (Nn i) (by simp[hg])) (Yi rfl (yN ?_)));have Ck:∀h,PC fF ([.agg (Aq l[i])]++caps.map (str0 h)) (vb (p l[i])):=fun h=>by rw[hs.map];exact hF l[i] (Ao _)
   cases hp:p l[i]with
   |true=>
    rw[hp]at Ck;refine Xi .pure (Xi (vb true) (Yi (Ck _) ?_));rw[H2 h (fun j hj I6=>h2 j hj I6) hp,EF];exact .refl _
   |false=>
    rw[hp]at Ck;refine Xi .pure (Xi (vb false) (Yi (Ck _) (Yi (Ii i ch) (Xi ⟨i+1,by omega,fun j hj I6=>?_⟩ ?_))))
    .by_cases e:j=i
     .subst e;exact hp
     .exact h2 j hj ch
    .exact⟨Dl l.length i ch,⟨Zr,⟨rfl,hs.ids _⟩,Zr,Zr,Tv⟩,Tv,Fh,Tv⟩
  .intro h;have h:¬i<l.length:=by simpa using h
   rw[F9 fun j hj=>h2 j hj ch];exact .refl _
theorem o25(hs:CU caps)(l:List (Sl))(p:Sl->Bool)(hF:∀x∈l,PC fF ([.agg (Aq x)]++caps) (vb (p x)))(hl:B8 l) :
  PC 79 [sl Aq l,.clo fF caps] (vb (l.any p)):=by
 refine Ps Ej Tryz.func79 rfl (Nz rfl) ?_;have hi:=o70 hs l p hF (by unfold B8 at hl;omega);have Ck:∀h,PC 108 [sl Aq l,.clo fF (caps.map (str0 h))] (vi (FS p l 0)):=fun h=>by rw[hs.map];exact hi
 refine Xi .pure (Xi _ (Yi (Ck _) ?_));have ha:=HW (p:=p) l 0 (Bs 0);refine Yi ?_ ?_
 .intro h;rw[<-ha,Ak h];exact .refl _
 .intro h;rw[<-ha,Ae h];exact .refl _
def aC(a b:Sl):Int:=if Lr a.path b.path≠0 then Lr a.path b.path else Qb a.ver b.ver
abbrev AcF:Sl->Sl->Int:=fun a b=>Lr a.path b.path
theorem aB:Lr a b<0↔Ed a b=true:=by
 unfold Lr
 by_cases h:Ed a b=true
 .rw[Ap h];simp[h]
 .rw[Aj h];split<;>simp[h]
theorem Pa:Lr a b=0↔a=b:=by
 unfold Lr;constructor
 .intro h;split at h
  .cases h
  .rename_i h1;split at h
   .cases h
   .rename_i h2;exact HQ (by simpa using h1) (by simpa using h2)
 .rintro rfl
  rw[Aj (by rw[Dm];decide),Aj (by rw[Dm];decide)]
abbrev kept{α:Type}(p:α->Bool)(l:List α):List α:=l.filter fun x=>!p x
abbrev MD(r:Rl):Sl:=⟨r.path,r.ver⟩
theorem o46(ifs:List (List AV))(hl:B8 ifs)(hs:∀c∈ifs,c.length=5):PC 103 [.slice .none ifs] (.slice .none ifs):=by
 refine Ps Ej Tryz.func103 rfl (Nz rfl) ?_;have HG:Cr 5 ifs/\([]:List (List AV)).length=0/\(([]:List (List AV)).length+ifs.length)*112<=140737488355328/\([]:List (List AV)).length+ifs.length<=9223372036854775807:=by
  refine⟨Xh hs,rfl,?_,?_⟩<;>simp only[Au]<;>unfold B8 at hl<;>omega
 refine Yi ?_ ?_
 .intro _;exact Yi HG (.refl _)
 .intro h;refine Yi ?_ ?_
  .show CX nzA (.slice .none ifs);rw[h];exact .nil
  .exact Yi HG (.refl _)
end Go.Eng
namespace Go.Eng
variable {α:Type}{l:List α}{a b:Int}
structure OC{α β:Type}(c:α->α->Int)(R:α->α->Prop)(key:α->β):Prop where
 lt:∀a b,c a b<0↔R a b
 eq:∀a b,c a b=0↔key a=key b
 tr:∀a b d,R a b->R b d->R a d
 irr:∀a b,key a=key b->¬R a b
 tri:∀a b,¬R a b->key a≠key b->R b a
 cl:∀a b d,key a=key b->R a d->R b d
section
variable {α β:Type}{c:α->α->Int}{R:α->α->Prop}{key:α->β}
theorem LX(h:OC c R key){a:List α}(ha:a.Pairwise R):(a.map key).Nodup:=by
 unfold List.Nodup;rw[LK];exact ha.imp fun q e=>h.irr _ _ e q
end
/-! The three comparisons. -/
def zP(a b:Sl):Prop:=Ed a.path b.path=true\/(a.path=b.path/\nM a.ver b.ver)
abbrev Vr(a b:Sl):Prop:=Ed a.path b.path=true
theorem UE:He a b<0↔a<b:=by
 unfold He;split
 .rename_i h;simp[h]
 .rename_i h;split<;>simp[h]
theorem Kv:He a b=0↔a=b:=by
 unfold He;split
 .rename_i h;simp;omega
 .rename_i h;split
  .rename_i h2;simp;omega
  .rename_i h2;simp;omega
theorem mg{a b:Ver}:Qb a b<0↔nM a b:=by
 refine⟨ge,fun h=>?_⟩;unfold Qb;rcases h with h|⟨h1,h|⟨h2,h⟩⟩
 .rw[Ap (fun c=>by have:=Kv.1 c;omega)];exact UE.2 h
 .rw[Aj (fun c=>c (Kv.2 h1)),Ap (fun c=>by have:=Kv.1 c;omega)];exact UE.2 h
 .rw[Aj (fun c=>c (Kv.2 h1)),Aj (fun c=>c (Kv.2 h2))];exact UE.2 h
theorem Nk{a b:Sl}:aC a b<0↔zP a b:=by
 unfold aC zP
 by_cases h:a.path=b.path
 .rw[Aj (fun c=>c (Pa.2 h)),mg];exact⟨fun q=>.inr ⟨h,q⟩,fun q=>q.elim (fun q=>by rw[h,Dm]at q;cases q) (·.2)⟩
 .rw[Ap (fun c=>h (Pa.1 c)),aB];exact⟨.inl,fun q=>q.elim id fun q=>absurd q.1 h⟩
theorem rx{a b:Sl}(h:¬zP a b)(hk:a≠b):zP b a:=by
 unfold zP at *
 by_cases e:a.path=b.path
 .refine .inr ⟨e.symm,?_⟩;have h2:¬nM a.ver b.ver:=fun q=>h (.inr ⟨e,q⟩);have h3:a.ver≠b.ver:=fun q=>hk (by cases a;cases b;simp_all);unfold nM at *
  by_cases q1:a.ver.a=b.ver.a
  .by_cases q2:a.ver.b=b.ver.b
   .by_cases q3:a.ver.c=b.ver.c
    .exact absurd (by cases ha:a.ver;cases hb:b.ver;simp_all) h3
    .omega
   .omega
  .omega
 .cases q:Ed b.path a.path with
  |true=>exact .inl rfl
  |false=>
   cases p:Ed a.path b.path with
   |true=>exact absurd (.inl p) h
   |false=>exact absurd (HQ p q) e
theorem zZ:OC AcF Vr (fun s:Sl=>s.path) where
 lt _ _:=aB
 eq _ _:=Pa
 tr _ _ _:=D8
 irr a b e h:=by rw[Vr,e,Dm]at h;cases h
 tri a b h e:=by
  cases q:Ed b.path a.path with
  |true=>exact q
  |false=>
   cases p:Ed a.path b.path with
   |true=>exact absurd p h
   |false=>exact absurd (HQ p q) e
 cl a b d e h:=by rw[Vr,<-e];exact h
/-! Pins. -/
theorem eT{β:Type}{f:α->β}(h:(l.map f).Nodup):l.Nodup:=by
 unfold List.Nodup at *
 rw[LK]at h;exact h.imp fun q e=>q (Aa f e)
/-! What the reference makes of a list. -/
theorem Ep{i:Nat}(h:i<l.length):l.take (i+1)=l.take i++[l[i]]:=BN h
end Go.Eng
namespace Go.Eng
open Go.Proofs
def gu(p:ByteArray)(r:Rl):Bool:=decide (r.path=p)&&!r.yanked
def Aax(r:Rl):Int×Int:=(plc r.ver,plc r.ver+1)
theorem i7{x:List Rl}{p:ByteArray}(h:A0 x=0):Co x p=canon ((x.filter (gu p)).map Aax):=by
 unfold Co Ly;rw[Aj (not_not_intro h),List.filter_filter]
 congr 3
 funext r
 unfold gu;rw[Bool.and_comm]
theorem qK{α:Type}{enc:α->List AV}{n:Nat}(h:∀x,(enc x).length=n)(l:List α):∀cs∈l.map enc,cs.length=n:=fun cs hc=>by
 obtain⟨x,_,rfl⟩:=Ai.1 hc;exact h x
theorem kk{α:Type}(o:Option α):(∃x,o=some x)\/o=none:=by
 cases o with
 |none=>exact .inr rfl
 |some x=>exact .inl ⟨x,rfl⟩
end Go.Eng
