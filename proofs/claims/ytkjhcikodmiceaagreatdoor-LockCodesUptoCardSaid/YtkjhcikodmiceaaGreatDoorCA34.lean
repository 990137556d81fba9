/- Lemmas 34. -/
import Derived.Test.YtkjhcikodmiceaaGreatDoorCA33
import Derived.Lib.RepeatB
set_option maxHeartbeats 4000000
set_option maxRecDepth 100000
namespace Go.Eng
open Go.Proofs Go.Proofs.Tryz
open IntKind(wrap)
abbrev Av4:=List CS
variable {p:CS}{ws:List Int}{v:S8}(x:HS)(s a:CS)(n:Int)(t tag:CS)(z:Int)(k:Nat)(b:CS)(i:Nat)
theorem tJ(n:Nat):(⟨(Go.Lib.repeatL (ByteArray.mk #[0]).data.toList n).toArray⟩:CS)=pV n:=by
 show(⟨(Go.Lib.repeatL (List.replicate 1 0) n).toArray⟩:CS)=_;rw[Go.Lib.repeatL_replicate,pV];simp
theorem uJ(h0:0<=n)(h:n<=100):PC 207 [vs ⟨#[0]⟩,G n] (vs (pV n.toNat)):=by
 refine TY [.string ⟨#[0]⟩,.int .i64 n] (.string (pV n.toNat)) (j9 207 func207 aa5 rfl) rfl (fun g w=>.v _ _) fun w _ _=>?_;have q:=Any.strings_Repeat Tryz.layRepeat Tryz.layRepeatX ⟨#[0]⟩ n.toNat w I (by show 1*n.toNat<=_;omega);rw[tJ,Int.toNat_of_nonneg h0]at q;exact q
theorem uE(h:s.size<=1000000000):PC 272 [vs s] (vs s):=
 TY [.string s] (.string s) (j9 272 func272 aa5 rfl) rfl (fun g w=>.v _ _) fun w _ _=>AnyPu.stringslite_Clone Tryz.layClone s w I
theorem yJ(h:s.size<=1000000000):PC 205 [vs s] (vs s):=by
 refine Ps CF func205 rfl C4 (C1 (H (uE s h) ?_));exact .refl _
theorem AgM  : A1 prog 139 [] (Ah [] Ab) fun r h'=>r=.ref 2000 0/\h'=Ah [(2000,.cells (Gb QK))] Ab:=by
 refine Bv (Ky CF) [(3,2000)] rfl BO hm rfl func139 aa5 rfl C4 aa5 rfl ?_;exact H (.refl _) Z
theorem uF:A1 prog 206 [.ref 1000 0] (Ah [(1000,.cells (Gb x))] Ab) fun r h'=>r=.ref 2000 0/\h'=Ah [(1000,.cells (Gb x)),(2000,.cells (Gb x))] Ab:=by
 refine Bv (Ky CF) [(1000,1000),(3,2000)] rfl BO hm rfl func206 aa5 rfl C4 aa5 rfl (U (U ?_));exact H (.refl _) Z
abbrev u8(x:Int):AV:=.v (.int .u8 x)
def eG:List AV:=(List.range i).map fun(j:Nat)=>u8 (wrap .u8 (DY .shr .u64 n (56-8*(j:Int))))
def sP:List UInt8:=(List.range 8).map fun(i:Nat)=>UInt8.ofNat (wrap .u8 (DY .shr .u64 n (56-8*(i:Int)))).toNat
theorem lp:(eG n i).length=i:=by grind [eG]
theorem AfD(h:Nat->HO)(n:Int)(i:Nat):Uj h (.cells (eG n i++List.replicate (8-i) (u8 0)))=true:=by
 have e:∀l:List Int,aC h (l.map u8++List.replicate (8-i) (u8 0))=true:=fun l=>by
  induction l with
  |nil=>show aC h (List.replicate (8-i) (u8 0))=true;induction (8-i)with |zero=>rfl |succ k ih=>exact ih
  |cons a l ih=>exact ih
 have q:=e ((List.range i).map fun(j:Nat)=>wrap .u8 (DY .shr .u64 n (56-8*(j:Int))));rw[Bo]at q;exact q
theorem sQ{n:Int}{i m:Nat}(h:i<8)(e:m=i):over (eG n i++List.replicate (8-i) (u8 0)) m [u8 (wrap .u8 (DY .shr .u64 n (56-8*(i:Int))))]=eG n (i+1)++List.replicate (8-(i+1)) (u8 0):=by
 rw[show 8-i=(8-(i+1))+1 by omega,List.replicate_succ,QS (by grind [lp]),eG,eG,List.range_succ,Au,Ct];rfl
theorem uN:((UInt8.ofNat (wrap .u8 z).toNat).toNat:Int)=wrap .u8 z:=by
 have h1:0<=wrap .u8 z:=Int.emod_nonneg _ aa3;have h2:wrap .u8 z<256:=Int.emod_lt_of_pos _ aa3
 grind [UInt8.toNat_ofNat']
theorem oC(h:Nat->HO)(n:Int):(((eG n 8).map (str h)).map fun c=>[c])=(sP n).map fun b=>[AV.v (.int .u8 b.toNat)]:=by
 rw[eG,sP,Bo,Bo,Bo];refine Ca fun i _=>?_;show [AV.v (.int .u8 _)]=[AV.v (.int .u8 _)];rw[uN]
theorem uI:PC 141 [.v (.int .u64 n)] (vs (Hj n)):=by
 refine Ps ⟨[],[(17,1)],[],[(17,[3])],[],[],[],[],[],[],[7]⟩ func141 rfl C4 (M {q:Nat // q<=8} (M (fun q=>⟨[(0,.v (.int .u64 n)),(3,.ref 3 0),(5,G q.1)],[(3,.cells (eG n q.1++List.replicate (8-q.1) (u8 0)))],Ab⟩) (M (fun q=>8-q.1) (J (M ⟨0,Ai _⟩ ?_) ?_))))
 .exact⟨Z3,⟨⟨rfl,(AfD _ _ _)⟩,X⟩,Fh,X⟩
 intro⟨i,i1⟩;have i1:i<=8:=i1;refine J (fun h1=>?_) (fun h1=>?_)
 .have h1:(i:Int)<(8:Int):=h1;refine J (by show As ((8:Int)*(i:Int));unfold As;omega) (J (by show As ((56:Int)-(8*i:Int));unfold As;omega) (J (show(0:Int)<=56-(8*i) by omega) (J (show(0:Int)<=i/\(i:Int)<(8:Nat)from by omega) (J (show(0+(i:Int).toNat*1)+1<=((eG n i++List.replicate (8-i) (u8 0))).length from by rw[Ac,lp,CA];omega) ?_))));refine J (Ii i I) (M ⟨i+1,by omega⟩ ?_);exact⟨Dl 8 i I,Z3,⟨⟨(show HO.cells (over (eG n i++List.replicate (8-i) (u8 0)) (0+(i:Int).toNat*1) [.v (.int .u8 (wrap .u8 (DY .shr .u64 n (56-(8*i)))))])=.cells (eG n (i+1)++List.replicate (8-(i+1)) (u8 0))from Aa HO.cells (sQ (show i<8 by omega) I)),(AfD _ _ _)⟩,X⟩,Fh,X⟩
 have h1:¬((i:Int)<(8:Int)):=h1;refine cU [(3,.ref 3 0)] [(3,.cells (eG n 8))] Z1 ⟨⟨(show HO.cells (eG n i++List.replicate (8-i) (u8 0))=.cells (eG n 8) by rw[show i=8 by omega];rfl),rfl⟩,X⟩ ?_
 refine J (show 8=((eG n 8).map (str _)).length from rfl) (M (sP n) (J (oC _ n) ?_));exact .refl _
theorem UP(hb:(x.rest++s).size<=1000000000):A1 prog 140 [.ref 1000 0,vs s] (Ah [(1000,.cells (Gb x))] Ab) fun r h'=>r=.tup []/\h'=Ah [(1000,.cells (Gb (ID x s)))] Ab:=by
 refine Bv (Ky CF) [(1000,1000)] rfl BO hm rfl func140 aa5 rfl C4 aa5 rfl (U (J (show((x.rest.size+s.size:Nat):Int)<=2^63-1 by have q:=hb;rw[Av]at q;omega) (M {q:S8×CS // CJ q.1 q.2=CJ x.v (x.rest++s)/\q.2.size<=1000000000} (M (fun q=>⟨[(0,.ref 1000 0),(1,vs q.1.2)],[(1000,.cells [.v (.int .u32 q.1.1.a),.v (.int .u32 q.1.1.b),.v (.int .u32 q.1.1.c),.v (.int .u32 q.1.1.d),.v (.int .u32 q.1.1.e),.v (.int .u32 q.1.1.f),.v (.int .u32 q.1.1.g),.v (.int .u32 q.1.1.h),vs x.rest,.v (.int .u64 (wrap .u64 (x.tot+(wrap .u64 (s.size:Int)))))])],Ab⟩) (M (fun q=>q.1.2.size) (J (M ⟨(x.v,x.rest++s),rfl,hb⟩ ?_) ?_))))))
 .exact⟨Z2,Z1,Fh,AX aa5⟩
 intro⟨⟨v,b⟩,v1,v2⟩;have v1:CJ v b=CJ x.v (x.rest++s):=v1;have v2:b.size<=1000000000:=v2;refine J (fun h1=>?_) (fun h1=>?_)
 .have h1:(64:Int)<=(b.size:Int):=h1;refine J (show(0:Int)<=0/\(0:Int)<=64/\(64:Int)<=(b.size:Int)from by omega) (M (.gen [(1000,1000)] 0) (J rfl (A1.to2 (AgL ⟨v,x.rest,(wrap .u64 (x.tot+(wrap .u64 (s.size:Int))))⟩ (b.extract 0 64) (by simp only[HA];omega)) ?_)));refine J (show(0:Int)<=64/\(64:Int)<=(b.size:Int)/\(b.size:Int)<=(b.size:Int)from by omega) (M ⟨(fI v (b.extract 0 64),b.extract 64 b.size),by rw[<-v1,CJ.eq_1 v b,AO I],by simp only[HA];omega⟩ ?_);exact⟨by show(b.extract 64 b.size).size<b.size;simp only[HA];omega,Z2,Z1,Fh,AX aa5⟩
 have h1:¬((64:Int)<=(b.size:Int)):=h1;refine C1 (H (yJ b v2) (U ?_));exact H (.refl _) ⟨rfl,show Ah [(1000,HO.cells [.v (.int .u32 v.a),.v (.int .u32 v.b),.v (.int .u32 v.c),.v (.int .u32 v.d),.v (.int .u32 v.e),.v (.int .u32 v.f),.v (.int .u32 v.g),.v (.int .u32 v.h),vs b,.v (.int .u64 (wrap .u64 (x.tot+(wrap .u64 (s.size:Int)))))])] Ab=Ah [(1000,.cells (Gb (ID x s)))] Ab from by rw[ID,<-v1,CJ.eq_1 v b,AB I]⟩
theorem Xa(n:Nat):(pV n).size=n:=by show(List.replicate n (0:UInt8)).toArray.size=n;simp
theorem Lg:(Hj n).size=8:=by show(List.map _ (List.range 8)).toArray.size=8;simp
theorem oL:(F8 x).size<=80:=by
 rw[F8,Av,Av,Xa,Lg];show 1+_+8<=80;omega
theorem fX(x:Int):[[AV.v (.int .u8 (wrap .u8 (DY .shr .u32 x 24)))],[.v (.int .u8 (wrap .u8 (DY .shr .u32 x 16)))],[.v (.int .u8 (wrap .u8 (DY .shr .u32 x 8)))],[.v (.int .u8 (wrap .u8 x))]]=(Fk x).map Cp:=by
 grind [Fk,uN]
theorem fY(l:List Int)(i:Nat)(h:i<=8):((l.take i).flatMap Fk).length<=32:=by
 have e:∀m:List Int,(m.flatMap Fk).length=4*m.length:=fun m=>by
  induction m with
  |nil=>rfl
  |cons a m ih=>rw[List.flatMap_cons,Ac,ih];show 4+_=4*(_+1);omega
 grind
theorem WZ{l:List Int}{i:Nat}(h:i<l.length):(l.take i).flatMap Fk++Fk (J4 l i)=(l.take (i+1)).flatMap Fk:=by
 grind [List.take_add_one,WY]
theorem AcS(hx:x.rest.size<64):A1 prog 142 [.ref 1000 0] (Ah [(1000,.cells (Gb x))] Ab) fun r h'=>r=vs (uj x)/\h'=Ah [(1000,.cells (Gb x))] Ab:=by
 refine Bv (Ky ⟨[],[(5,1)],[],[],[],[],[],[],[(28,5)],[],[]⟩) [(1000,1000)] rfl BO hm rfl func142 aa5 rfl C4 aa5 rfl (M (.gen [(1000,1000)] 1) (J rfl (A1.to2 (uF x) ?_)));refine J (by show As ((119:Int)-(x.rest.size:Int));unfold As;omega) (J ⟨by omega,by omega⟩ ?_);refine H (uJ (((119-x.rest.size) % 64:Int)) I I) (J (show(((⟨#[128]⟩:CS).size+(pV (((119-x.rest.size) % 64:Int)).toNat).size:Nat):Int)<=2^63-1 by have q:(⟨#[128]⟩:CS).size=1:=rfl;simp only[Xa];omega) ?_);refine H (uI (wrap .u64 (8*x.tot))) (J (show(((⟨#[128]⟩++(pV (((119-x.rest.size) % 64:Int)).toNat):CS).size+(Hj (wrap .u64 (8*x.tot))).size:Nat):Int)<=2^63-1 by have q:(⟨#[128]⟩:CS).size=1:=rfl;simp only[Av,Xa,Lg];omega) ?_);refine M [(10900,1000)] (M [(1000,.cells (Gb x))] (M [(1000,.cells (Gb (ID x (F8 x))))] (M [.ref 1000 0,vs (F8 x)] (M (.tup []:AV) (J (fun h2 hh=>J ((Aa (fun o:HO=>Ah [(1000,o.ren (Ck [(10900,1000)]) h2)] Ab) (show h2 10900=.cells (Gb x)from hh 10900 aa3)).trans rfl) rfl) (J aa5 (J (UP x (F8 x) (by rw[Av];have q:=oL x;omega)) ?_)))))));refine J aa5 (U (M {q:Nat // q<=8} (M (fun q=>⟨[(5,.slice (.id 5 1) ((((S8.l (ID x (F8 x)).v).take q.1).flatMap Fk).map Cp)),(32,.agg [.v (.int .u32 (ID x (F8 x)).v.a),.v (.int .u32 (ID x (F8 x)).v.b),.v (.int .u32 (ID x (F8 x)).v.c),.v (.int .u32 (ID x (F8 x)).v.d),.v (.int .u32 (ID x (F8 x)).v.e),.v (.int .u32 (ID x (F8 x)).v.f),.v (.int .u32 (ID x (F8 x)).v.g),.v (.int .u32 (ID x (F8 x)).v.h)]),(33,G q.1)],[(5,.tok 1 ((((S8.l (ID x (F8 x)).v).take q.1).flatMap Fk).map Cp).length),(1000,.cells (Gb x))],Ab⟩) (M (fun q=>8-q.1) (J (M ⟨0,Ai _⟩ ?_) ?_)))))
 .exact⟨Z3,Z2,Fh,AX aa5⟩
 intro⟨i,i1⟩;have i1:i<=8:=i1;refine J (fun h1=>?_) (fun h1=>?_)
 .have h1:(i:Int)<(8:Int):=h1;have hlw:=fY (S8.l (ID x (F8 x)).v) i i1;refine J (show(0:Int)<=i/\(i:Int)<(8:Nat)from by omega) (G2 (zr (v:=(ID x (F8 x)).v) (show i<8 by omega) (show((i:Int).toNat*1)=i by omega)) (J aa3 (J aa3 (J aa3 ?_))));have b2:=bT (sz:=1) (k:=1) (n:=((((S8.l (ID x (F8 x)).v).take i).flatMap Fk).map Cp).length) (l:=((((S8.l (ID x (F8 x)).v).take i).flatMap Fk).map Cp)) (ys:=[[.v (.int .u8 (wrap .u8 (DY .shr .u32 (S8.n (ID x (F8 x)).v i) 24)))],[.v (.int .u8 (wrap .u8 (DY .shr .u32 (S8.n (ID x (F8 x)).v i) 16)))],[.v (.int .u8 (wrap .u8 (DY .shr .u32 (S8.n (ID x (F8 x)).v i) 8)))],[.v (.int .u8 (wrap .u8 (S8.n (ID x (F8 x)).v i)))]]) ⟨rfl,rfl,rfl,rfl,trivial⟩ rfl (by simp only[Lm,AK,A4];omega);refine J b2 (J (Ii i I) ?_);have ew:(((((S8.l (ID x (F8 x)).v).take i).flatMap Fk).map Cp++[[AV.v (.int .u8 (wrap .u8 (DY .shr .u32 (S8.n (ID x (F8 x)).v i) 24)))],[.v (.int .u8 (wrap .u8 (DY .shr .u32 (S8.n (ID x (F8 x)).v i) 16)))],[.v (.int .u8 (wrap .u8 (DY .shr .u32 (S8.n (ID x (F8 x)).v i) 8)))],[.v (.int .u8 (wrap .u8 (S8.n (ID x (F8 x)).v i)))]])=(((S8.l (ID x (F8 x)).v).take (i+1)).flatMap Fk).map Cp):=by rw[fX,<-Au];exact Aa (List.map Cp) (WZ (show i<8 by omega))
  refine M ⟨i+1,by omega⟩ ?_;exact⟨Dl 8 i I,⟨⟨(Aa (AV.slice (.id 5 1)) ew),rfl⟩,Z,Z,X⟩,⟨⟨(tkM ew),rfl⟩,Z,X⟩,Fh,AX aa5⟩
 have h1:¬((i:Int)<(8:Int)):=h1;refine M (((S8.l (ID x (F8 x)).v)).flatMap Fk) (J (show((((S8.l (ID x (F8 x)).v).take i).flatMap Fk).map Cp)=(((S8.l (ID x (F8 x)).v)).flatMap Fk).map Cp by rw[show i=8 by omega];rfl) ?_);exact H (.refl _) Z
theorem XO:∀(n:Nat) (v:S8) (b:CS),b.size<=n->(CJ v b).2.size<64
 |0,v,b,h=>by grind [CJ]
 |n+1,v,b,h=>by
  rw[CJ];split
  .exact XO n _ _ (by grind [ByteArray.size_extract])
  simp_all
theorem bM:(ID x s).rest.size<64:=XO _ _ _ (Af _)
theorem mf{x:HS}(hx:x.rest.size<64):∀l:Av4,(Ol x l).rest.size<64:=fun l=>by
 unfold Ol
 induction l generalizing x<;>grind [bM]
theorem py(l:Av4)(i:Nat)(h:i<l.length):Ol x (l.take (i+1))=ID (ID (Ol x (l.take i)) (Hj (wrap .u64 (l[i].size:Int)))) l[i]:=by
 grind [List.take_succ_eq_append_getElem,Ol]
abbrev qq52:=fun(tag:CS)=>((Hj (wrap .u64 (tag.size:Int))++tag):CS)
theorem uK(l:Av4)(hn:l.length<=10^6)(ht:tag.size<=100000000)(hl:∀s∈l,s.size<=100000000):PC 73 [vs tag,sl Ci l] (vs (Kw tag l)):=by
 refine Ps CF func73 rfl C4 (M (.gen [] 1) (J rfl (A1.to2 AgM ?_)));refine C1 (H (uI (wrap .u64 tag.size)) (J (show(((Hj (wrap .u64 (tag.size:Int))).size+tag.size:Nat):Int)<=2^63-1 by rw[Lg];omega) ?_));refine M (.gen [(10800,1000)] 0) (J rfl (A1.to2 (UP QK ((Hj (wrap .u64 tag.size))++tag) (by rw[Av];have q:=Lg (wrap .u64 (tag.size:Int));rw[Av];show 0+_<=_;omega)) ?_));refine M {q:Nat // q<=l.length} (M (fun q=>⟨[(5,.ref 10800 0),(17,sl Ci l),(18,G (l.map Ci).length),(19,G q.1)],[(10800,.cells (Gb (Ol (ID QK (qq52 tag)) (l.take q.1))))],Ab⟩) (M (fun q=>l.length-q.1) (J (M ⟨0,Ai _⟩ ?_) ?_)))
 .exact⟨Z4,Z1,Fh,X⟩
 intro⟨i,i1⟩;have i1:i<=l.length:=i1;refine J (fun h1=>?_) (fun h1=>?_)
 .have n1:i<l.length:=Gj h1;refine M (Ci l[i]) (J (IM n1) (J rfl (C1 (H (uI (wrap .u64 l[i].size)) (M (.gen [(10800,1000)] 0) (J rfl (A1.to2 (UP (Ol (ID QK (qq52 tag)) (l.take i)) (Hj (wrap .u64 l[i].size)) (by rw[Av];have q:=mf (bM QK (qq52 tag)) (l.take i);have q2:=Lg (wrap .u64 (l[i].size:Int));omega)) ?_)))))));refine M (.gen [(10800,1000)] 0) (J rfl (A1.to2 (UP (ID (Ol (ID QK (qq52 tag)) (l.take i)) (Hj (wrap .u64 l[i].size))) l[i] (by rw[Av];have q:=bM (Ol (ID QK (qq52 tag)) (l.take i)) (Hj (wrap .u64 (l[i].size:Int)));have q2:=hl l[i] (Am n1);omega)) ?_));refine J (Ii i I) (M ⟨i+1,by omega⟩ ?_);exact⟨Dl l.length i I,Z4,⟨⟨(show HO.cells (Gb (ID (ID (Ol (ID QK (qq52 tag)) (l.take i)) (Hj (wrap .u64 l[i].size))) l[i]))=.cells (Gb (Ol (ID QK (qq52 tag)) (l.take (i+1))))from Aa (fun z=>HO.cells (Gb z)) (py _ l i n1).symm),rfl⟩,X⟩,Fh,X⟩
 have n1:¬i<l.length:=D6 h1;refine M (.gen [(10800,1000)] 0) (J rfl (A1.to2 (AcS (Ol (ID QK (qq52 tag)) (l.take i)) (mf (bM _ _) _)) ?_));have e:l.take i=l:=AD I;exact Da.of_eq (Aa (fun z=>vs (uj (Ol (ID QK (qq52 tag)) z))) e)
abbrev Dh(x:Int):List AV:=[Ek x]
theorem td(k:IntKind)(a b:Int):Dv .or k a b=Dv .or k b a:=by
 show k.wrap ((BitVec.ofInt k.bits a ||| BitVec.ofInt k.bits b).toNat:Int)=k.wrap ((BitVec.ofInt k.bits b ||| BitVec.ofInt k.bits a).toNat:Int)
 grind
theorem Acx{x n:Int}(e1:Dv .and .u64 (wrap .u64 (-n)) 31=32-n)(e2:wrap .u64 (32-(32-n))=n):Dv .or .u32 (DY .shr .u32 x n) (DY .shl .u32 x (32-n))=Ra x (-n):=by
 grind [Ra,td]
theorem Wi:BitVec.ofInt 32 (wrap .u32 z)=BitVec.ofInt 32 z:=by
 apply BitVec.eq_of_toNat_eq;show(BitVec.ofInt 32 (z % 4294967296)).toNat=_;simp_all
theorem Sn(a:Int)(n:Nat)(h:n<=32):BitVec.ofInt 32 (DY .shl .u32 a n)=BitVec.ofInt 32 a <<< n:=by
 show BitVec.ofInt 32 (wrap .u32 (a*2 ^ min (n:Int).toNat 32))=_;rw[Wi,Gp,Nat.min_eq_left h];apply BitVec.eq_of_toNat_eq;rw[BitVec.toNat_shiftLeft,BitVec.toNat_ofInt,BitVec.toNat_ofInt,Nat.shiftLeft_eq]
 grind [Int.mul_emod,Int.emod_emod]
theorem sZ(a b:Int):BitVec.ofInt 32 (Dv .or .u32 a b)=BitVec.ofInt 32 a ||| BitVec.ofInt 32 b:=by
 show BitVec.ofInt 32 (wrap .u32 ((BitVec.ofInt 32 a ||| BitVec.ofInt 32 b).toNat:Int))=_
 grind [Wi]
theorem Ag0{a b c d:Int}(h:BitVec.ofInt 32 a ||| BitVec.ofInt 32 b=BitVec.ofInt 32 c ||| BitVec.ofInt 32 d):Dv .or .u32 a b=Dv .or .u32 c d:=by
 show wrap .u32 ((BitVec.ofInt 32 a ||| BitVec.ofInt 32 b).toNat:Int)=wrap .u32 ((BitVec.ofInt 32 c ||| BitVec.ofInt 32 d).toNat:Int);rw[h]
theorem yM:Dv .or .u32 (Dv .or .u32 (Dv .or .u32 (DY .shl .u32 (wrap .u32 ((Bd s (4*k)).toNat:Int)) 24) (DY .shl .u32 (wrap .u32 ((Bd s (4*k+1)).toNat:Int)) 16)) (DY .shl .u32 (wrap .u32 ((Bd s (4*k+2)).toNat:Int)) 8)) (wrap .u32 ((Bd s (4*k+3)).toNat:Int))=OQ s k 4:=by
 have s24:∀a,BitVec.ofInt 32 (DY .shl .u32 a 24)=BitVec.ofInt 32 a <<< 24:=fun a=>Sn a 24 aa3;have s16:∀a,BitVec.ofInt 32 (DY .shl .u32 a 16)=BitVec.ofInt 32 a <<< 16:=fun a=>Sn a 16 aa3;have s8:∀a,BitVec.ofInt 32 (DY .shl .u32 a 8)=BitVec.ofInt 32 a <<< 8:=fun a=>Sn a 8 aa3;refine Ag0 ?_;simp only[OQ,sZ,s24,s16,s8,BitVec.shiftLeft_or_distrib,<-BitVec.shiftLeft_add,FF];simp_all
theorem AeC{n:Nat}(h:n<=a.size):(a++b).extract 0 n=a.extract 0 n:=by
 apply MI;simp_all
theorem AeD{n:Nat}(h:n<=a.size):(a++b).extract n (a++b).size=a.extract n a.size++b:=by
 apply MI;simp only[ByteArray.data_extract,ByteArray.data_append];rw[Array.extract_append];have h' : n<=a.data.size:=h;have e:(a++b).size=a.data.size+b.data.size:=aa0
 rw[e,show n-a.data.size=0 by omega,show a.data.size+b.data.size-a.data.size=b.data.size by omega];have x1:a.data.extract n (a.data.size+b.data.size)=a.data.extract n a.size:=by
  apply Array.ext';rw[Array.toList_extract,Array.toList_extract,List.extract_eq_take_drop,List.extract_eq_take_drop,AD aa2,AD aa0]
 grind
theorem OU:∀(n:Nat) (v:S8) (a b:CS),a.size<=n->CJ v (a++b)=CJ (CJ v a).1 ((CJ v a).2++b)
 |n,v,a,b,h=>by
  rw[CJ.eq_1 v a];split
  .rename_i rj;rw[CJ.eq_1 v (a++b),AO aa2,AeC a b rj,AeD a b rj]
   match n,h with
   |n+1,h=>exact OU n _ _ _ (by grind [ByteArray.size_extract])
   |0,h=>omega
  .rfl
theorem Th:∀(n:Nat) (v:S8) (b:CS),b.size<=n->(CJ v b).2.size=b.size % 64
 |n,v,b,h=>by
  rw[CJ.eq_1 v b];split
  .rename_i rj
   match n,h with
   |n+1,h=>rw[Th n _ _ (by grind [ByteArray.size_extract]),HA];omega
   |0,h=>omega
  grind
def kN:HS:=⟨(CJ dJ t).1,(CJ dJ t).2,(t.size:Nat)⟩
theorem mp{n:Int}(h0:0<=n)(h1:n<18446744073709551616):wrap .u64 n=n:=Int.emod_eq_of_lt h0 h1
theorem uM{t s:CS}(h:t.size+s.size<2^63):ID (kN t) s=kN (t++s):=by
 unfold ID kN;rw[<-OU _ dJ t s (Af _)]
 grind [mp]
theorem Aca:QK=kN ⟨#[]⟩:=by
 unfold QK kN;have e:CJ dJ ⟨#[]⟩=(dJ,⟨#[]⟩):=by rw[CJ.eq_1,AB aa3]
 rw[e];rfl
def PI(l:Av4):CS:=l.foldl (fun t s=>(t++Hj (wrap .u64 (s.size:Int)))++s) t
theorem FW:(Hj n).size=8:=by show(List.map _ (List.range 8)).toArray.size=8;simp
theorem me:∀{l:Av4} {t:CS},(∀s∈l,s.size<=100000000)->t.size+l.length*100000008<9223372036854775808->Ol (kN t) l=kN (PI t l)
 | [],_,_,_=>rfl
 |s::l,t,h,hb=>by
  have h1:=h s (Ad ..);rw[AK,Kd]at hb;show Ol (ID (ID (kN t) (Hj (wrap .u64 (s.size:Int)))) s) l=_;rw[uM (by grind [FW]),uM (by grind [FW]),me (fun u hu=>h u (Aj _ hu)) (by grind [FW])]
  rfl
def XD:CS:=((t++⟨#[128]⟩)++pV ((119-(t.size:Int)) % 64).toNat)++Hj (wrap .u64 (8*(t.size:Int)))
def bz:CS:=⟨(((CJ dJ (XD t)).1.l).flatMap Fk).toArray⟩
theorem AcJ:uj (kN t)=bz t:=by
 have e:F8 (kN t)=(⟨#[128]⟩++pV ((119-(t.size:Int)) % 64).toNat)++Hj (wrap .u64 (8*(t.size:Int))):=by
  unfold F8;have r:(((kN t).rest.size:Nat):Int)=(t.size:Int) % 64:=by
   show(((CJ dJ t).2.size:Nat):Int)=_;rw[Th _ dJ t (Af _)];omega
  rw[r,show(119-(t.size:Int) % 64) % 64=(119-(t.size:Int)) % 64 by omega]
  rfl
 have e2:(ID (kN t) (F8 (kN t))).v=(CJ dJ (XD t)).1:=by
  show(CJ (CJ dJ t).1 ((CJ dJ t).2++F8 (kN t))).1=_;rw[<-OU _ dJ t _ (Af _),e,XD,KK,KK,KK]
 grind [uj,bz]
theorem pE{tag:CS}{l:Av4}(ht:tag.size<=100000000)(hl:∀s∈l,s.size<=100000000)(hn:l.length<=10^6):Kw tag l=bz (PI (Hj (wrap .u64 (tag.size:Int))++tag) l):=by
 unfold Kw;rw[Aca,uM (by rw[Av,FW];show 0+_<_;omega),me hl (by rw[Av,Av,FW];show 0+_+_<_;omega),AcJ]
 congr 2
theorem ixU{i:Nat}(h:i<ws.length):(0:Int)<=((i:Nat):Int)/\(ws.map Dh)[((i:Nat):Int).toNat]?=some (Dh (J4 ws i)):=by
 grind [WY]
def IR:List UInt8:=(s.data.toList++[128])++List.replicate k 0
theorem Wm:(IR s k).length=s.size+1+k:=by
 rw[IR,Ac,Ac,CA,Array.length_toList];rfl
theorem oM:IR s k++[0]=IR s (k+1):=by
 grind [IR,List.replicate_succ']
theorem xT:(⟨(IR s k).toArray⟩:CS)=(s++⟨#[128]⟩)++pV k:=by
 apply MI;rw[ByteArray.data_append,ByteArray.data_append];show(IR s k).toArray=s.data++#[128]++(List.replicate k (0:UInt8)).toArray
 grind [IR]
theorem zj(n:Nat):(pV n).size=n:=by show(List.replicate n (0:UInt8)).toArray.size=n;simp
theorem YS:(XD t).size % 64=0/\(XD t).size<=t.size+80:=by
 rw[XD,Av,Av,Av,zj,FW];show(t.size+1+_+8) % 64=0/\t.size+1+_+8<=t.size+80;omega
theorem cc{k:Nat}(h:64*k+64<=p.size):CJ v (p.extract (64*k) p.size)=CJ (fI v (p.extract (64*k) (64*k+64))) (p.extract (64*(k+1)) p.size):=by
 have hp:p.size=p.data.size:=rfl
 grind [ByteArray.ext,ByteArray.data_extract,Array.extract_extract,ByteArray.size_extract,CJ]
theorem gz{k:Nat}(h:p.size<=64*k):(CJ v (p.extract (64*k) p.size)).1=v:=by
 grind [CJ,ByteArray.size_extract]
theorem pz{l:Av4}{i:Nat}(h:i<l.length):PI t (l.take (i+1))=(PI t (l.take i)++Hj (wrap .u64 (l[i].size:Int)))++l[i]:=by
 grind [PI,List.take_succ_eq_append_getElem]
theorem pB:∀{l:Av4},(∀s∈l,s.size<=100000000)->(PI t l).size<=t.size+l.length*100000008:=fun {l} h=>by
 induction l generalizing t with
 |nil=>show t.size<=t.size+0*_;omega
 |cons s l ih=>
  have h1:=h s (Ad ..);have h2:=ih ((t++Hj (wrap .u64 (s.size:Int)))++s) fun u hu=>h u (Aj _ hu)
  grind [FW,PI]
def Pn:List UInt8:=(List.range i).map fun(j:Nat)=>UInt8.ofNat (wrap .u8 (DY .shr .i64 n (8*(7-(j:Int))))).toNat
theorem oa:(Pn n i).map Cp++[[AV.v (.int .u8 (wrap .u8 (DY .shr .i64 n (8*(7-(i:Int))))))]]=(Pn n (i+1)).map Cp:=by
 grind [Pn,List.range_succ,uN]
theorem sa{n:Int}(h0:0<=n)(h1:n<18446744073709551616):(⟨(Pn n 8).toArray⟩:CS)=Hj (wrap .u64 n):=by
 rw[mp h0 h1,Hj,Pn]
 congr 2
theorem KF(x n:Int)(h0:0<=n)(h1:n<=32)(e1:Dv .and .u64 (wrap .u64 (-n)) 31=32-n)(e2:wrap .u64 (32-(32-n))=n):PC 281 [.v (.int .u32 x),G n] (.v (.int .u32 (Ra x (-n)))):=by
 refine Ps CF func281 rfl C4 (J (show(0:Int)<=n by omega) (J (by show As ((32:Int)-(n:Int));unfold As;omega) (J (show(0:Int)<=32-n by omega) (J aa5 ?_))));exact Da.of_eq (Aa Ek (show(Dv .or .u32 (DY .shr .u32 x n) (DY .shl .u32 x (32-n)))=Ra x (-n)from Acx e1 e2))
theorem yP  : PC 280 [] (sl Dh kK):=by
 refine Ps CF func280 rfl C4 ?_;exact .refl _
theorem uP(h0:0<=n)(h1:n<=2^63-1):PC 143 [G n] (vs (Hj (wrap .u64 n))):=by
 refine Ps CF func143 rfl C4 (M {q:Nat // q<=8} (M (fun q=>⟨[(0,G n),(3,.slice (.id 5 1) ((Pn n q.1).map Cp)),(4,G (7-(q.1:Int)))],[(5,.tok 1 ((Pn n q.1).map Cp).length)],Ab⟩) (M (fun q=>8-q.1) (J (M ⟨0,Ai _⟩ ?_) ?_))))
 .exact⟨Z3,Z1,Fh,X⟩
 intro⟨i,i1⟩;have i1:i<=8:=i1;have il:((Pn n i).map Cp).length<=8:=by rw[Lm,Pn,Lm,Te];exact i1
 have il2:(Pn n i).length<=8:=by rw[Pn,Lm,Te];exact i1
 refine J (fun h1=>?_) (fun h1=>?_)
 .have h1:(0:Int)<=((7-(i:Int)):Int):=h1;refine J (by show As ((8:Int)*((7-(i:Int)):Int));unfold As;omega) ?_;refine J (show(0:Int)<=8*(7-(i:Int)) by omega) ?_;have b2:=bT (sz:=1) (k:=1) (n:=((Pn n i).map Cp).length) (l:=((Pn n i).map Cp)) (ys:=[[.v (.int .u8 (wrap .u8 (DY .shr .i64 n (8*(7-(i:Int))))))]]) ⟨rfl,trivial⟩ rfl (by simp only[Lm,AK,A4];omega);refine J b2 (J (by show As (((7-(i:Int)):Int)-(1:Int));unfold As;omega) ?_);have ew:=oa n i;refine M ⟨i+1,by omega⟩ ?_;exact⟨Dl 8 i I,⟨Z,⟨(Aa (AV.slice (.id 5 1)) ew),rfl⟩,⟨(Aa G (show(7:Int)-(i:Int)-1=7-((i+1:Nat):Int) by omega)),rfl⟩,X⟩,⟨⟨(tkM ew),rfl⟩,X⟩,Fh,X⟩
 have h1:¬((0:Int)<=((7-(i:Int)):Int)):=h1;refine M (Pn n i) (J rfl ?_);exact Da.of_eq (Aa vs (show(⟨(Pn n i).toArray⟩:CS)=_ by rw[show i=8 by omega];exact sa h0 I))
theorem kQ{i c:Nat}(h:i-c<ws.length)(hc:c<=i):(0:Int)<=((i:Nat):Int)-(c:Nat)/\(ws.map Dh)[(((i:Nat):Int)-(c:Nat)).toNat]?=some (Dh (J4 ws (i-c))):=by
 refine⟨by omega,?_⟩;rw[show(((i:Nat):Int)-(c:Nat)).toNat=i-c by omega,BC,WY h];rfl
abbrev qq48:=fun(s:CS) i=>([.v (.int .u32 (wrap .u32 ((wrap .u32 ((wrap .u32 ((Dv .xor .u32 (Dv .xor .u32 (Ra (J4 (CG s i) (i-2)) (-17)) (Ra (J4 (CG s i) (i-2)) (-19))) (DY .shr .u32 (J4 (CG s i) (i-2)) 10))+(J4 (CG s i) (i-7))))+(Dv .xor .u32 (Dv .xor .u32 (Ra (J4 (CG s i) (i-15)) (-7)) (Ra (J4 (CG s i) (i-15)) (-18))) (DY .shr .u32 (J4 (CG s i) (i-15)) 3))))+(J4 (CG s i) (i-16)))))]:List AV)
abbrev qq49:=fun(s:CS) k=>([.v (.int .u32 (Dv .or .u32 (Dv .or .u32 (Dv .or .u32 (DY .shl .u32 (wrap .u32 ((Bd s (4*k)).toNat:Int)) 24) (DY .shl .u32 (wrap .u32 ((Bd s (4*k+1)).toNat:Int)) 16)) (DY .shl .u32 (wrap .u32 ((Bd s (4*k+2)).toNat:Int)) 8)) (wrap .u32 ((Bd s (4*k+3)).toNat:Int))))]:List AV)
theorem AgQ(hs:s.size=64):PC 279 [vs s] (sl Dh (CG s 64)):=by
 refine Ps CF func279 rfl C4 (M {q:Nat // q<=16} (M (fun q=>⟨[(0,vs s),(3,.slice (.id 10 1) ((CG s q.1).map Dh)),(4,G (4*(q.1:Int)))],[(10,.tok 1 ((CG s q.1).map Dh).length)],Ab⟩) (M (fun q=>16-q.1) (J (M ⟨0,Ai _⟩ ?_) ?_))))
 .exact⟨Z3,Z1,Fh,X⟩
 intro⟨k,k1⟩;have k1:k<=16:=k1;have kl:((CG s k).map Dh).length<=64:=by rw[Lm,EB];omega
 have kl2:(CG s k).length<=64:=by rw[EB];omega
 refine J (fun h1=>?_) (fun h1=>?_)
 .have h1:((4*(k:Int)):Int)<(64:Int):=h1;refine M (Bd s (4*k)) (J (Ly (z:=(4*(k:Int))) (show 4*k<s.size by omega) I) (J aa3 (J (by show As (((4*(k:Int)):Int)+(1:Int));unfold As;omega) ?_)));refine M (Bd s (4*k+1)) (J (Ly (z:=(4*(k:Int))+1) (show 4*k+1<s.size by omega) I) (J aa3 (J (by show As (((4*(k:Int)):Int)+(2:Int));unfold As;omega) ?_)));refine M (Bd s (4*k+2)) (J (Ly (z:=(4*(k:Int))+2) (show 4*k+2<s.size by omega) I) (J aa3 (J (by show As (((4*(k:Int)):Int)+(3:Int));unfold As;omega) ?_)));refine M (Bd s (4*k+3)) (J (Ly (z:=(4*(k:Int))+3) (show 4*k+3<s.size by omega) I) ?_);have b2:=bT (sz:=1) (k:=4) (n:=((CG s k).map Dh).length) (l:=((CG s k).map Dh)) (ys:=[(qq49 s k)]) ⟨rfl,trivial⟩ rfl (by simp only[Lm,AK,A4];omega);refine J b2 (J aa5 (J (by show As (((4*(k:Int)):Int)+(4:Int));unfold As;omega) ?_));have ew:(((CG s k).map Dh)++[(qq49 s k)])=(CG s (k+1)).map Dh:=by rw[CG,Au,Wd,AO (show k<16 by omega),<-yM];rfl
  refine M ⟨k+1,by omega⟩ ?_;exact⟨Dl 16 k I,⟨Z,⟨(Aa (AV.slice (.id 10 1)) ew),rfl⟩,⟨(Aa G (show 4*(k:Int)+4=4*((k+1:Nat):Int) by omega)),rfl⟩,X⟩,⟨⟨(tkM ew),rfl⟩,X⟩,Fh,X⟩
 have h1:¬(((4*(k:Int)):Int)<(64:Int)):=h1;refine M {q:Nat // 16<=q/\q<=64} (M (fun q=>⟨[(3,.slice (.id 10 1) ((CG s q.1).map Dh)),(5,G q.1)],[(10,.tok 1 ((CG s q.1).map Dh).length)],Ab⟩) (M (fun q=>64-q.1) (J (M ⟨16,Af _,by decide⟩ ?_) ?_)))
 .exact⟨⟨⟨(Aa (fun z:Nat=>AV.slice (.id 10 1) ((CG s z).map Dh)) (show k=16 by omega)),rfl⟩,Z,X⟩,⟨⟨(Aa (fun z:Nat=>HO.tok 1 ((CG s z).map Dh).length) (show k=16 by omega)),rfl⟩,X⟩,Fh,X⟩
 intro⟨i,i0,i1⟩;have i0:16<=i:=i0;have i1:i<=64:=i1;have il:((CG s i).map Dh).length<=64:=by rw[Lm,EB];omega
 have il2:(CG s i).length<=64:=by rw[EB];omega
 refine J (fun h4=>?_) (fun h4=>?_)
 .have h4:(i:Int)<(64:Int):=h4;refine J (by show As ((i:Int)-(15:Int));unfold As;omega) (M (Dh (J4 (CG s i) (i-15))) (J (kQ (c:=15) (show i-15<(CG s i).length by rw[EB];omega) (show 15<=i by omega)) (J rfl (J (by show As ((i:Int)-(2:Int));unfold As;omega) (M (Dh (J4 (CG s i) (i-2))) (J (kQ (c:=2) (show i-2<(CG s i).length by rw[EB];omega) (show 2<=i by omega)) (J rfl (J aa5 (C1 (H (KF (J4 (CG s i) (i-15)) 7 aa3 aa3 aa5 aa5) (C1 (H (KF (J4 (CG s i) (i-15)) 18 aa3 aa3 aa5 aa5) (J aa3 (C1 (H (KF (J4 (CG s i) (i-2)) 17 aa3 aa3 aa5 aa5) (C1 (H (KF (J4 (CG s i) (i-2)) 19 aa3 aa3 aa5 aa5) (J aa3 (J (by show As ((i:Int)-(7:Int));unfold As;omega) (M (Dh (J4 (CG s i) (i-7))) (J (kQ (c:=7) (show i-7<(CG s i).length by rw[EB];omega) (show 7<=i by omega)) (J rfl (J (by show As ((i:Int)-(16:Int));unfold As;omega) (M (Dh (J4 (CG s i) (i-16))) (J (kQ (c:=16) (show i-16<(CG s i).length by rw[EB];omega) (show 16<=i by omega)) (J rfl ?_))))))))))))))))))))))))));have b5:=bT (sz:=1) (k:=4) (n:=((CG s i).map Dh).length) (l:=((CG s i).map Dh)) (ys:=[(qq48 s i)]) ⟨rfl,trivial⟩ rfl (by simp only[Lm,AK,A4];omega);refine J b5 (J aa5 (J (Ii i I) ?_));have ew:(((CG s i).map Dh)++[(qq48 s i)])=(CG s (i+1)).map Dh:=by rw[CG,Au,Wd,AB (show ¬i<16 by omega)];rfl
  refine M ⟨i+1,by omega,by omega⟩ ?_;exact⟨Dl 64 i I,⟨⟨(Aa (AV.slice (.id 10 1)) ew),rfl⟩,Z,X⟩,⟨⟨(tkM ew),rfl⟩,X⟩,Fh,X⟩
 have h4:¬((i:Int)<(64:Int)):=h4;exact Da.of_eq (show sl Dh (CG s i)=sl Dh (CG s 64) by rw[show i=64 by omega])
theorem yO(v:S8)(s:CS)(W Kk:List Int)(r8:S8)(hW:W.length=64)(hK:Kk.length=64)(hr:DP W Kk v 64=r8)(hc:PC 279 [vs s] (sl Dh W))(hk:PC 280 [] (sl Dh Kk)):PC 209 [sl Dh (S8.l v),vs s] (sl Dh (S8.l (vE v r8))):=by
 refine Ps (pC [] [3,9]) func209 rfl C4 (C1 (H hc (C1 (H hk (M (Dh v.a) (J ⟨by decide,rfl⟩ (J rfl ?_)))))));refine M (Dh v.b) (J ⟨by decide,rfl⟩ (J rfl ?_));refine M (Dh v.c) (J ⟨by decide,rfl⟩ (J rfl ?_));refine M (Dh v.d) (J ⟨by decide,rfl⟩ (J rfl ?_));refine M (Dh v.e) (J ⟨by decide,rfl⟩ (J rfl ?_));refine M (Dh v.f) (J ⟨by decide,rfl⟩ (J rfl ?_));refine M (Dh v.g) (J ⟨by decide,rfl⟩ (J rfl ?_));refine M (Dh v.h) (J ⟨by decide,rfl⟩ (J rfl ?_));refine J aa5 (cU [(0,sl Dh (S8.l v)),(5,sl Dh W),(6,sl Dh Kk),(7,.v (.int .u32 v.a)),(8,.v (.int .u32 v.b)),(9,.v (.int .u32 v.c)),(10,.v (.int .u32 v.d)),(11,.v (.int .u32 v.e)),(12,.v (.int .u32 v.f)),(13,.v (.int .u32 v.g)),(14,.v (.int .u32 v.h))] [] Z11 X (M {q:Nat // q<=64} (M (fun q=>⟨[(0,sl Dh (S8.l v)),(5,sl Dh W),(6,sl Dh Kk),(7,.v (.int .u32 (DP W Kk v q.1).a)),(8,.v (.int .u32 (DP W Kk v q.1).b)),(9,.v (.int .u32 (DP W Kk v q.1).c)),(10,.v (.int .u32 (DP W Kk v q.1).d)),(11,.v (.int .u32 (DP W Kk v q.1).e)),(12,.v (.int .u32 (DP W Kk v q.1).f)),(13,.v (.int .u32 (DP W Kk v q.1).g)),(14,.v (.int .u32 (DP W Kk v q.1).h)),(15,G q.1)],[],Ab⟩) (M (fun q=>64-q.1) (J (M ⟨0,Ai _⟩ ?_) ?_)))))
 .exact⟨Z12,X,Fh,X⟩
 intro⟨i,i1⟩;have i1:i<=64:=i1;refine J (fun h1=>?_) (fun h1=>?_)
 .have h1:(i:Int)<(64:Int):=h1;refine H (KF (DP W Kk v i).e 6 aa3 aa3 aa5 aa5) (H (KF (DP W Kk v i).e 11 aa3 aa3 aa5 aa5) (H (KF (DP W Kk v i).e 25 aa3 aa3 aa5 aa5) (M (Dh (J4 Kk i)) (J (ixU (show i<Kk.length by omega)) (J rfl (M (Dh (J4 W i)) (J (ixU (show i<W.length by omega)) (J rfl (J aa5 (C1 (H (KF (DP W Kk v i).a 2 aa3 aa3 aa5 aa5) (C1 (H (KF (DP W Kk v i).a 13 aa3 aa3 aa5 aa5) (C1 (H (KF (DP W Kk v i).a 22 aa3 aa3 aa5 aa5) (J (Ii i I) (M ⟨i+1,by omega⟩ ?_)))))))))))))))));exact⟨Dl 64 i I,Z12,X,Fh,X⟩
 have h1:¬((i:Int)<(64:Int)):=h1;refine cU [(0,sl Dh (S8.l v)),(7,.v (.int .u32 (DP W Kk v i).a)),(8,.v (.int .u32 (DP W Kk v i).b)),(9,.v (.int .u32 (DP W Kk v i).c)),(10,.v (.int .u32 (DP W Kk v i).d)),(11,.v (.int .u32 (DP W Kk v i).e)),(12,.v (.int .u32 (DP W Kk v i).f)),(13,.v (.int .u32 (DP W Kk v i).g)),(14,.v (.int .u32 (DP W Kk v i).h))] [] Z9 X (M (Dh v.a) (J ⟨by decide,rfl⟩ (J rfl ?_)));refine M (Dh v.b) (J ⟨by decide,rfl⟩ (J rfl ?_));refine M (Dh v.c) (J ⟨by decide,rfl⟩ (J rfl ?_));refine M (Dh v.d) (J ⟨by decide,rfl⟩ (J rfl ?_));refine M (Dh v.e) (J ⟨by decide,rfl⟩ (J rfl ?_));refine M (Dh v.f) (J ⟨by decide,rfl⟩ (J rfl ?_));refine M (Dh v.g) (J ⟨by decide,rfl⟩ (J rfl ?_));refine M (Dh v.h) (J ⟨by decide,rfl⟩ (J rfl ?_));refine J aa5 ?_;have e64:i=64:=I
 have er:(DP W Kk v i)=r8:=by rw[e64,hr]
 exact Da.of_eq (show .slice .none [[.v (.int .u32 (wrap .u32 (v.a+(DP W Kk v i).a)))],[.v (.int .u32 (wrap .u32 (v.b+(DP W Kk v i).b)))],[.v (.int .u32 (wrap .u32 (v.c+(DP W Kk v i).c)))],[.v (.int .u32 (wrap .u32 (v.d+(DP W Kk v i).d)))],[.v (.int .u32 (wrap .u32 (v.e+(DP W Kk v i).e)))],[.v (.int .u32 (wrap .u32 (v.f+(DP W Kk v i).f)))],[.v (.int .u32 (wrap .u32 (v.g+(DP W Kk v i).g)))],[.v (.int .u32 (wrap .u32 (v.h+(DP W Kk v i).h)))]]=sl Dh (S8.l (vE v r8)) by rw[er];rfl)
theorem AcV(v:S8)(s:CS)(hs:s.size=64):PC 209 [sl Dh (S8.l v),vs s] (sl Dh (S8.l (fI v s))):=
 yO v s (CG s 64) kK _ (EB s 64) rfl rfl (AgQ s hs) yP
theorem eZ:s.data.toList.map Cp++[[AV.v (.int .u8 128)]]=(IR s 0).map Cp:=by
 grind [IR]
theorem Aci:HO.tok 1 ((s.data.toList.map Cp).length+([[AV.v (.int .u8 128)]]:C0).length)=.tok 1 ((IR s 0).map Cp).length:=
 Aa (HO.tok 1) (Ac.symm.trans (Aa List.length (eZ s)))
theorem AgP(hs:s.size<=1000000000000):PC 208 [vs s] (vs (XD s)):=by
 have hdl:(s.data.toList.map Cp).length=s.size:=by rw[Lm,Array.length_toList];rfl
 have Af3:s.data.toList.length=s.size:=by rw[Array.length_toList];rfl
 refine Ps CF func208 rfl C4 ?_;have b1:=bT (sz:=1) (k:=1) (n:=(s.data.toList.map Cp).length) (l:=(s.data.toList.map Cp)) (ys:=[[.v (.int .u8 128)]]) ⟨rfl,trivial⟩ rfl (by simp only[Lm,AK,A4];omega);refine J b1 (M {q:Nat // q<=((119-(s.size:Int)) % 64).toNat} (M (fun q=>⟨[(0,vs s),(3,.slice (.id 5 1) ((IR s q.1).map Cp))],[(5,.tok 1 ((IR s q.1).map Cp).length)],Ab⟩) (M (fun q=>((119-(s.size:Int)) % 64).toNat-q.1) (J (M ⟨0,Ai _⟩ ?_) ?_))))
 .exact⟨⟨Z,⟨(Aa (AV.slice (.id 5 1)) (eZ s)),rfl⟩,X⟩,⟨⟨(Aci s),rfl⟩,X⟩,Fh,X⟩
 intro⟨k,k1⟩;have k1:k<=((119-(s.size:Int)) % 64).toNat:=k1;have kl:((IR s k).map Cp).length=s.size+1+k:=by rw[Lm,Wm]
 have kl2:(IR s k).length=s.size+1+k:=Wm _ _;refine J ⟨by omega,by omega⟩ ?_;refine J (fun h2=>?_) (fun h2=>?_)
 .have h2:(((IR s k).map Cp).length % 64:Int)≠(56:Int):=h2;have b3:=bT (sz:=1) (k:=1) (n:=((IR s k).map Cp).length) (l:=((IR s k).map Cp)) (ys:=[[.v (.int .u8 0)]]) ⟨rfl,trivial⟩ rfl (by simp only[Lm,AK,A4];omega);refine J b3 ?_;have ew:(((IR s k).map Cp)++[[.v (.int .u8 0)]])=(IR s (k+1)).map Cp:=by rw[<-oM,Au];rfl
  refine M ⟨k+1,by have q:=h2;rw[kl]at q;omega⟩ ?_;exact⟨by show((119-(s.size:Int)) % 64).toNat-(k+1)<((119-(s.size:Int)) % 64).toNat-k;have q:=h2;rw[kl]at q;omega,⟨Z,⟨(Aa (AV.slice (.id 5 1)) ew),rfl⟩,X⟩,⟨⟨(tkM ew),rfl⟩,X⟩,Fh,X⟩
 have h2:(((IR s k).map Cp).length % 64:Int)=(56:Int):=AH h2;refine M (IR s k) (J rfl (J (by show As ((8:Int)*(s.size:Int));unfold As;omega) (H (uP (8*(s.size:Int)) I I) (J (show(((⟨(IR s k).toArray⟩:CS).size+(Hj (wrap .u64 (8*(s.size:Int)))).size:Nat):Int)<=2^63-1 by rw[FW,show(⟨(IR s k).toArray⟩:CS).size=s.size+1+k by show(IR s k).toArray.size=_;rw[List.size_toArray,Wm]];omega) ?_))));refine J aa5 ?_;have ek:k=((119-(s.size:Int)) % 64).toNat:=by have q:=h2;rw[kl]at q;omega
 exact Da.of_eq (Aa vs (show(⟨(IR s k).toArray⟩:CS)++Hj (wrap .u64 (8*(s.size:Int)))=XD s by rw[xT,XD,ek]))
theorem wm(p:CS):p.extract 0 p.size=p:=by
 simp_all
theorem AcW(p:CS)(hp:XD s=p)(ApP:p.size % 64=0)(hpl:p.size<=1000000000100)(Ajs:PC 208 [vs s] (vs p)):PC 144 [vs s] (vs (bz s)):=by
 refine Ps (pT [] [(3,0)] []) func144 rfl C4 (C1 (H Ajs (M {q:S8×Nat // 64*q.2<=p.size/\CJ q.1 (p.extract (64*q.2) p.size)=CJ dJ p} (M (fun q=>⟨[(3,sl Dh (S8.l q.1.1)),(4,vs p),(5,G (64*(q.1.2:Int)))],[],Ab⟩) (M (fun q=>p.size-64*q.1.2) (J (M ⟨(dJ,0),Ai _,by rw[Nat.mul_zero,wm]⟩ ?_) ?_))))))
 .exact⟨Z3,X,Fh,X⟩
 intro⟨⟨v,k⟩,k1,k2⟩;have k1:64*k<=p.size:=k1;have k2:CJ v (p.extract (64*k) p.size)=CJ dJ p:=k2;refine J (fun h1=>?_) (fun h1=>?_)
 .have h1:((64*(k:Int)):Int)<(p.size:Int):=h1;refine J (by show As (((64*(k:Int)):Int)+(64:Int));unfold As;omega) ?_;have Afd:64*k+64<=p.size:=I
  have eb:(p.extract (64*(k:Int)).toNat (64*(k:Int)+64).toNat)=p.extract (64*k) (64*k+64):=by rw[show(64*(k:Int)).toNat=64*k by omega,show(64*(k:Int)+64).toNat=64*k+64 by omega]
  refine J (show(0:Int)<=64*(k:Int)/\64*(k:Int)<=64*(k:Int)+64/\64*(k:Int)+64<=(p.size:Int) by omega) (C1 (H (AcV v (p.extract (64*(k:Int)).toNat (64*(k:Int)+64).toNat) (by rw[eb,HA];omega)) ?_));refine J (by show As (((64*(k:Int)):Int)+(64:Int));unfold As;omega) ?_;refine M ⟨(fI v (p.extract (64*k) (64*k+64)),k+1),by have q:=Afd;omega,by rw[<-cc Afd];exact k2⟩ ?_;exact⟨by show p.size-64*(k+1)<p.size-64*k;omega,⟨⟨(show sl Dh (S8.l (fI v (p.extract (64*(k:Int)).toNat (64*(k:Int)+64).toNat)))=sl Dh (S8.l (fI v (p.extract (64*k) (64*k+64)))) by rw[eb]),rfl⟩,Z,⟨(Aa G (show 64*(k:Int)+64=64*((k+1:Nat):Int) by omega)),rfl⟩,X⟩,X,Fh,X⟩
 have h1:¬(((64*(k:Int)):Int)<(p.size:Int)):=h1;refine M {q:Nat // q<=8} (M (fun q=>⟨[(3,sl Dh (S8.l v)),(6,.slice (.id 24 1) ((((S8.l v).take q.1).flatMap Fk).map Cp)),(7,G q.1)],[(24,.tok 1 ((((S8.l v).take q.1).flatMap Fk).map Cp).length)],Ab⟩) (M (fun q=>8-q.1) (J (M ⟨0,Ai _⟩ ?_) ?_)))
 .exact⟨Z3,Z1,Fh,X⟩
 intro⟨j,j1⟩;have j1:j<=8:=j1;have hlw:=fY (S8.l v) j j1;have hlm:((((S8.l v).take j).flatMap Fk).map Cp).length<=32:=by rw[Lm];exact hlw
 refine J (fun h3=>?_) (fun h3=>?_)
 .have h3:(j:Int)<(8:Int):=h3;refine M (Dh (J4 (S8.l v) j)) (J (ixU (show j<(S8.l v).length from by show j<8;omega)) (J rfl (J aa3 (M (Dh (J4 (S8.l v) j)) (J (ixU (show j<(S8.l v).length from by show j<8;omega)) (J rfl (J aa3 (M (Dh (J4 (S8.l v) j)) (J (ixU (show j<(S8.l v).length from by show j<8;omega)) (J rfl (J aa3 (M (Dh (J4 (S8.l v) j)) (J (ixU (show j<(S8.l v).length from by show j<8;omega)) (J rfl ?_))))))))))))));have b4:=bT (sz:=1) (k:=1) (n:=((((S8.l v).take j).flatMap Fk).map Cp).length) (l:=((((S8.l v).take j).flatMap Fk).map Cp)) (ys:=[[.v (.int .u8 (wrap .u8 (DY .shr .u32 (J4 (S8.l v) j) 24)))],[.v (.int .u8 (wrap .u8 (DY .shr .u32 (J4 (S8.l v) j) 16)))],[.v (.int .u8 (wrap .u8 (DY .shr .u32 (J4 (S8.l v) j) 8)))],[.v (.int .u8 (wrap .u8 (J4 (S8.l v) j)))]]) ⟨rfl,rfl,rfl,rfl,trivial⟩ rfl (by simp only[Lm,AK,A4];omega);refine J b4 (J aa5 (J (Ii j I) ?_));have ew:(((((S8.l v).take j).flatMap Fk).map Cp)++[[.v (.int .u8 (wrap .u8 (DY .shr .u32 (J4 (S8.l v) j) 24)))],[.v (.int .u8 (wrap .u8 (DY .shr .u32 (J4 (S8.l v) j) 16)))],[.v (.int .u8 (wrap .u8 (DY .shr .u32 (J4 (S8.l v) j) 8)))],[.v (.int .u8 (wrap .u8 (J4 (S8.l v) j)))]])=(((S8.l v).take (j+1)).flatMap Fk).map Cp:=by rw[fX,<-Au];exact Aa (List.map Cp) (WZ (l:=(S8.l v)) (show j<8 by omega))
  refine M ⟨j+1,by omega⟩ ?_;exact⟨Dl 8 j I,⟨Z,⟨(Aa (AV.slice (.id 24 1)) ew),rfl⟩,Z,X⟩,⟨⟨(tkM ew),rfl⟩,X⟩,Fh,X⟩
 have h3:¬((j:Int)<(8:Int)):=h3;refine M ((S8.l v).flatMap Fk) (J (show((((S8.l v).take j).flatMap Fk).map Cp)=((S8.l v).flatMap Fk).map Cp by rw[show j=8 by omega];rfl) ?_);have ev:v=(CJ dJ p).1:=by rw[<-k2];exact(gz (by have q:=h1;omega)).symm
 exact Da.of_eq (Aa vs (show(⟨((S8.l v).flatMap Fk).toArray⟩:CS)=bz s by rw[bz,hp,ev]))
theorem AgR(hs:s.size<=1000000000000):PC 144 [vs s] (vs (bz s)):=
 AcW s _ rfl (YS s).1 (by grind [YS]) (AgP s hs)
abbrev qq50:=fun(tag:CS)=>((Hj (wrap .u64 (tag.size:Int))++tag):CS)
theorem pD{tag:CS}{l:Av4}(ht:tag.size<=100000)(hl:∀s∈l,s.size<=100000)(hn:l.length<=1000)(i:Nat):(PI (qq50 tag) (l.take i)).size<=200000000000:=by
 grind [pB,FW]
theorem AcX(l:Av4)(ht:tag.size<=100000)(hl:∀s∈l,s.size<=100000)(hn:l.length<=1000):PC 74 [vs tag,sl Ci l] (vs (bz (PI (qq50 tag) l))):=by
 refine Ps CF func74 rfl C4 (C1 (H (uP tag.size I I) (J (show((((Hj (wrap .u64 (tag.size:Int))):CS).size+(tag:CS).size:Nat):Int)<=2^63-1 by simp only[FW];omega) ?_)));refine M {q:Nat // q<=l.length} (M (fun q=>⟨[(1,sl Ci l),(5,vs (PI (qq50 tag) (l.take q.1))),(6,G q.1)],[],Ab⟩) (M (fun q=>l.length-q.1) (J (M ⟨0,Ai _⟩ ?_) ?_)))
 .exact⟨Z3,X,Fh,X⟩
 intro⟨i,i1⟩;have i1:i<=l.length:=i1;have hti:(PI (qq50 tag) (l.take i)).size<=200000000000:=pD ht hl hn i;refine J (fun h1=>?_) (fun h1=>?_)
 .have n1:i<l.length:=Gj h1;have hsi:=hl _ (Am n1);refine M (Ci l[i]) (J (IM n1) (J rfl (H (uP l[i].size I I) (J (show((((PI (qq50 tag) (l.take i)):CS).size+((Hj (wrap .u64 (l[i].size:Int))):CS).size:Nat):Int)<=2^63-1 by simp only[FW];omega) ?_))));refine M (Ci l[i]) (J (IM n1) (J rfl (J (show((((PI (qq50 tag) (l.take i))++(Hj (wrap .u64 (l[i].size:Int))):CS).size+(l[i]:CS).size:Nat):Int)<=2^63-1 by simp only[Av,FW];omega) ?_)));refine J aa5 (J (Ii i I) (M ⟨i+1,n1⟩ ?_));exact⟨Dl l.length i I,⟨Z,⟨(Aa vs (pz (qq50 tag) n1).symm),rfl⟩,Z,X⟩,X,Fh,X⟩
 have h1:¬((i:Int)<((l.map Ci).length:Int)):=h1;have n1:=D6 h1;refine C1 (H (AgR (PI (qq50 tag) (l.take i)) (Az hti aa3)) ?_);exact Da.of_eq (Aa vs (show bz (PI (qq50 tag) (l.take i))=_ by rw[AD (BL (D6 h1))]))
theorem uQ(l:Av4)(ht:tag.size<=100000)(hl:∀s∈l,s.size<=100000)(hn:l.length<=1000):PC 74 [vs tag,sl Ci l] (vs (Kw tag l)):=by
 grind [pE,AcX]
abbrev Yy:CS:=⟨#[108,111,99,107]⟩
theorem AlU(ha:a.size<=100000):PC 73 [vs Yy,sl Ci [a]] (vs (Kw Yy [a])):=uK _ _ (show 1<=10^6 by decide) aa3 fun s hs=>by grind
theorem AlV(ha:a.size<=100000):PC 74 [vs Yy,sl Ci [a]] (vs (Kw Yy [a])):=uQ _ _ aa3 (fun s hs=>by simp_all) (show 1<=1000 by decide)
theorem AgW(l:Lk)(a:CS)(ke:PC 27 [.agg (Bu l)] (.tup [vs a,G 0]))(ha:a.size<=100000):PC 31 [.agg (Bu l)] (.tup [vs (Kw Yy [a]),G 0]):=by
 refine Ps CF func31 rfl C4 (U (C1 (H ke (J (fun h=>absurd h aa3) (fun _=>?_)))));refine C1 (H (AlU a ha) ?_);exact .refl _
theorem AgX(l:Lk)(a:CS)(ke:PC 27 [.agg (Bu l)] (.tup [vs a,G 1])):PC 31 [.agg (Bu l)] (.tup [vs mt,G 1]):=by
 refine Ps CF func31 rfl C4 (U (C1 (H ke (J (fun _=>?_) (fun h=>absurd aa3 h)))));exact .refl _
theorem AgY(l:Lk)(a:CS)(ke:PC 29 [.agg (Bu l)] (.tup [vs a,G 0]))(ha:a.size<=100000):PC 32 [.agg (Bu l)] (.tup [vs (Kw Yy [a]),G 0]):=by
 refine Ps CF func32 rfl C4 (U (C1 (H ke (J (fun h=>absurd h aa3) (fun _=>?_)))));refine C1 (H (AlV a ha) ?_);exact .refl _
theorem AgZ(l:Lk)(a:CS)(ke:PC 29 [.agg (Bu l)] (.tup [vs a,G 1])):PC 32 [.agg (Bu l)] (.tup [vs mt,G 1]):=by
 refine Ps CF func32 rfl C4 (U (C1 (H ke (J (fun _=>?_) (fun h=>absurd aa3 h)))));exact .refl _
theorem AfI(l:Lk)(s:CS)(hA:PC 9 [] (Q true))(xm:PC 17 [.agg (Bu l)] (Q false)):PC 8 [.agg (Bu l),vs s] (Q true):=by
 refine Ps CF func8 rfl C4 (C1 (H hA (U (C1 (H xm ?_)))));exact .refl _
theorem AfH(l:Lk)(s:CS)(hA:PC 9 [] (Q true))(xm:PC 17 [.agg (Bu l)] (Q true))(c0:(5000:Int)<(s.size:Int)):PC 8 [.agg (Bu l),vs s] (Q true):=by
 refine Ps CF func8 rfl C4 (C1 (H hA (U (C1 (H xm (J (fun _=>?_) (fun hf=>absurd c0 hf)))))));exact .refl _
theorem zY(l:Lk)(s:CS)(hA:PC 9 [] (Q true))(xm:PC 17 [.agg (Bu l)] (Q true))(a u:CS)(m:Lk)(e1 e2:Int)(ka:PC 27 [.agg (Bu l)] (.tup [vs a,G e1]))(kb:PC 29 [.agg (Bu l)] (.tup [vs a,G e1]))(kc:PC 28 [vs s] (.tup [.agg (Bu m),G e2]))(kd:PC 30 [vs s] (.tup [.agg (Bu m),G e2]))(ku:PC 31 [.agg (Bu l)] (.tup [vs u,G e1]))(kv:PC 32 [.agg (Bu l)] (.tup [vs u,G e1]))(km:PC 13 [.agg (Bu m),.agg (Bu m)] (Q true)):PC 8 [.agg (Bu l),vs s] (Q true):=by
 refine Ps CF func8 rfl C4 (C1 (H hA (U (C1 (H xm (J (fun h1=>?_) (fun h1=>?_)))))))
 .have h1:(5000:Int)<(s.size:Int):=h1;exact .refl _
 have h1:¬((5000:Int)<(s.size:Int)):=h1;refine U (C1 (H ka (U (C1 (H kb (C1 (H kc (U (C1 (H kd (U (U (C1 (H ku (U (C1 (H kv (J (fun h3=>?_) (fun h3=>?_)))))))))))))))))))
 .have h3:(a:CS)=a:=h3;refine J (fun h4=>?_) (fun h4=>?_)
  .have h4:(e1:Int)=(e1:Int):=h4;refine U (U (C1 (H km (J (fun h5=>?_) (fun h5=>?_)))))
   .have h5:(e2:Int)=(e2:Int):=h5;refine J (fun h6=>?_) (fun h6=>?_)
    .have h6:(u:CS)=u:=h6;refine J (fun _=>?_) (fun hf=>absurd h4 hf);exact .refl _
    have h6:¬(u:CS)=u:=h6;exact absurd rfl h6
   have h5:¬((e2:Int)=(e2:Int)):=h5;exact absurd rfl h5
  have h4:¬((e1:Int)=(e1:Int)):=h4;exact absurd rfl h4
 have h3:¬(a:CS)=a:=h3;exact absurd rfl h3
theorem qG{s:CS}(hs:s.size<=10^6):PC 13 [.agg (Bu (MB s).1),.agg (Bu (MB s).1)] (Q true):=by
 unfold MB;split
 .exact uT _ ⟨Az (Hx _) hs,Az (Hx _) hs,by show((Um s).1.ents.map JT).length<=_;rw[Lm];exact Az (Hx _) hs,Az (Hx _) hs⟩ (fun q hq=>(qF s hs q hq).1)
 .exact uT _ ⟨Ai _,Ai _,Ai _,Ai _⟩ (fun _ h=>nomatch h)
theorem AkS(l:Lk)(s:CS)(hR:l.roots.length<=1048576)(hK:pZ l)(hi:∀i∈l.infs,i.place<2^63/\i.number<2^63/\i.left<2^63/\i.right<2^63)(hk:∀s∈l.skips,s.place<2^63/\s.inf<2^63):PC 8 [.agg (Bu l),vs s] (Q true):=by
 have hA:=yQ;have xm:=Ah0 l (by grind [pZ.el]) (by grind [pZ.il]) (by grind [pZ.kl]) I;cases hfw:Tz l with
 |false=>grind [AfI]
 |true=>
  rw[hfw]at xm;have F:=qO hfw
  by_cases EC:5000<s.size
  .grind [AfH]
  .have hr:=F.rq;simp only[Ef,Md,Ao,AP,AZ]at hr;have he:=F.en;have n1:=F.el;have n2:=F.il;have n3:=F.kl;simp only[AZ,j7,AP]at he;have f1:∀q∈l.roots,J5 q:=fun q hq=>by
    grind
   have f2:∀e∈l.ents,Er e.path:=fun e h=>by grind
   have kf:=bP l f1 f2 I I I;have kc:=uR l f1 f2 I I I;have ks:=uS s I;have kt:=pL s I;have km:=qG (s:=s) I;cases hf:Cz l with
   |false=>
    rw[hf]at kf kc;have ke:=W8 l false (fun h=>by cases h) kf (fun h=>by cases h);have kr:=zh l kc;exact zY l s hA xm mt mt _ 1 _ ke kr ks kt (AgX l _ ke) (AgZ l _ kr) km
   |true=>
    rw[hf]at kf kc;have ok:=la hf (fun q hq=>by grind) I hi hk;have CN:=wq F ok;have ke:=W8 l true (fun _=>ok) kf (fun _=>by omega);have kr:=Ad8 l kc ok I;have ha:(bB (I0 l)).size<=100000:=by grind [PY]
    exact zY l s hA xm _ _ _ 0 _ ke kr ks kt (AgW l _ ke ha) (AgY l _ kr ha) km
end Go.Eng
