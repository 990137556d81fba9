/- Lemmas for the claims of this seat, without a condition: part 23 (W5, W6, W7, W8, LayStrs, O15, S17, O1, O2, R1, R2, R3, R4, R5, C60, C61, C62, C63, C64, R6, R7, R8, R9, R10, R11, O3, R12, R13, O4, O5, O6, O7, O8, O9, O10, R14, R15, R16, R17, R18, R19, R20, R21, R22, R23, O11, O12, O13, O14, O16, O17). -/
import Derived.Test.YteaiieomnhbmgaaGreatDoorA22
import Derived.Test.YteaiieomnhbmgaaGreatDoorA17
import Derived.Test.YteaiieomnhbmgaaGreatDoorA03
import Derived.Shelf.Sort.Plain
import Derived.Shelf.Slices.CompactS
import Derived.Ground.NamesProg
set_option maxHeartbeats 4000000
namespace Go.Eng
open Go.Proofs
variable {i:Nat}{last:Int}(name:ByteArray)(x:HS)(s user:ByteArray)
theorem Tq(hb:(x.rest++s).size<=1000000000):A9 Tryz.prog 88 [.ref 1000 0,vs s] (Ao [(1000,.cells (Gz x))] Af) fun r h'=>r=.tup []/\h'=Ao [(1000,.cells (Gz (Hh x s)))] Af:=by
 refine Cq (MK Ee) [(1000,1000)] rfl CQ hm rfl Tryz.func88 Wk rfl (Nz rfl) Wk rfl (yN (Yi (show((x.rest.size+s.size:Nat):Int)<=9223372036854775807 by have q:=hb;rw[Cj]at q;omega) (Xi {q:S8×ByteArray // Ji q.1 q.2=Ji x.v (x.rest++s)/\q.2.size<=1000000000} (Xi (fun q=>⟨[(0,.ref 1000 0),(1,vs q.1.2)],[(1000,.cells [.v (.int .u32 q.1.1.a),.v (.int .u32 q.1.1.b),.v (.int .u32 q.1.1.c),.v (.int .u32 q.1.1.d),.v (.int .u32 q.1.1.e),.v (.int .u32 q.1.1.f),.v (.int .u32 q.1.1.g),.v (.int .u32 q.1.1.h),vs x.rest,.v (.int .u64 (IntKind.wrap .u64 (x.tot+(IntKind.wrap .u64 (s.size:Int)))))])],Af⟩) (Xi (fun q=>q.1.2.size) (Yi (Xi ⟨(x.v,x.rest++s),rfl,hb⟩ ?_) ?_))))))
 .exact⟨Z2,Z1,Fh,BN Wk⟩
 intro⟨⟨v,b⟩,v1,v2⟩;have v1:Ji v b=Ji x.v (x.rest++s):=v1;have v2:b.size<=1000000000:=v2;refine Yi (fun h1=>?_) (fun h1=>?_)
 .have h1:(64:Int)<=(b.size:Int):=h1;refine Yi (show(0:Int)<=0/\(0:Int)<=64/\(64:Int)<=(b.size:Int)from by omega) (Xi (.gen [(1000,1000)] 0) (Yi rfl (A9.to2 (yQ ⟨v,x.rest,(IntKind.wrap .u64 (x.tot+(IntKind.wrap .u64 (s.size:Int))))⟩ (b.extract 0 64) (by simp only[HY];omega)) ?_)));refine Yi (show(0:Int)<=64/\(64:Int)<=(b.size:Int)/\(b.size:Int)<=(b.size:Int)from by omega) (Xi ⟨(uv v (b.extract 0 64),b.extract 64 b.size),by rw[<-v1,Ji.eq_1 v b,Al ch],by simp only[HY];omega⟩ ?_);exact⟨by show(b.extract 64 b.size).size<b.size;simp only[HY];omega,Z2,Z1,Fh,BN Wk⟩
 have h1:¬((64:Int)<=(b.size:Int)):=h1;refine Xi .pure (Xi _ (Yi (qR b v2) (yN ?_)));exact Xi _ (Yi (.refl _) ⟨rfl,show Ao [(1000,HO.cells [.v (.int .u32 v.a),.v (.int .u32 v.b),.v (.int .u32 v.c),.v (.int .u32 v.d),.v (.int .u32 v.e),.v (.int .u32 v.f),.v (.int .u32 v.g),.v (.int .u32 v.h),vs b,.v (.int .u64 (IntKind.wrap .u64 (x.tot+(IntKind.wrap .u64 (s.size:Int)))))])] Af=Ao [(1000,.cells (Gz (Hh x s)))] Af from by rw[Hh,<-v1,Ji.eq_1 v b,Ai ch]⟩)
abbrev JX(b:UInt8):List AV:=[.v (.int .u8 b.toNat)]
theorem Vu(n:Nat):(r7 n).size=n:=by show(List.replicate n (0:UInt8)).toArray.size=n;simp
theorem Lw(n:Int):(Kv n).size=8:=by show(List.map _ (List.range 8)).toArray.size=8;simp
theorem iX:(E3 x).size<=80:=by
 rw[E3,Cj,Cj,Vu,Lw];show 1+_+8<=80;omega
theorem nU(x:Int):[[AV.v (.int .u8 (IntKind.wrap .u8 (Gx .shr .u32 x 24)))],[.v (.int .u8 (IntKind.wrap .u8 (Gx .shr .u32 x 16)))],[.v (.int .u8 (IntKind.wrap .u8 (Gx .shr .u32 x 8)))],[.v (.int .u8 (IntKind.wrap .u8 x))]]=(GT x).map JX:=by
 simp only[GT,AI,E0,JX,r5]
theorem nV(l:List Int)(i:Nat)(h:i<=8):((l.take i).flatMap GT).length<=32:=by
 have e:∀m:List Int,(m.flatMap GT).length=4*m.length:=fun m=>by
  induction m with
  |nil=>rfl
  |cons a m ih=>rw[List.flatMap_cons,Ac,ih];show 4+_=4*(_+1);omega
 rw[e,Av];omega
theorem dH{l:List Int}(h:i<l.length):(l.take i).flatMap GT++GT (Y3 l i)=(l.take (i+1)).flatMap GT:=by
 rw[Bi,dF h,List.flatMap_append];simp
theorem uR(hx:x.rest.size<64):A9 Tryz.prog 90 [.ref 1000 0] (Ao [(1000,.cells (Gz x))] Af) fun r h'=>r=vs (qI x)/\h'=Ao [(1000,.cells (Gz x))] Af:=by
 refine Cq (MK ⟨[],[(5,1)],[],[],[],[],[],[],[(28,5)],[],[]⟩) [(1000,1000)] rfl CQ hm rfl Tryz.func90 Wk rfl (Nz rfl) Wk rfl (Xi (.gen [(1000,1000)] 1) (Yi rfl (A9.to2 (nL x) ?_)));refine Yi (by show A7 ((119:Int)-(x.rest.size:Int));unfold A7;omega) (Yi ⟨by omega,by omega⟩ ?_);refine Xi _ (Yi (nQ (((119-x.rest.size) % 64:Int)) ch ch) (Yi (show(((⟨#[128]⟩:ByteArray).size+(r7 (((119-x.rest.size) % 64:Int)).toNat).size:Nat):Int)<=9223372036854775807 by have q:(⟨#[128]⟩:ByteArray).size=1:=rfl;simp only[Vu];omega) ?_));refine Xi _ (Yi (nP (IntKind.wrap .u64 (8*x.tot))) (Yi (show(((⟨#[128]⟩++(r7 (((119-x.rest.size) % 64:Int)).toNat):ByteArray).size+(Kv (IntKind.wrap .u64 (8*x.tot))).size:Nat):Int)<=9223372036854775807 by have q:(⟨#[128]⟩:ByteArray).size=1:=rfl;simp only[Cj,Vu,Lw];omega) ?_));refine Xi [(10900,1000)] (Xi [(1000,.cells (Gz x))] (Xi [(1000,.cells (Gz (Hh x (E3 x))))] (Xi [.ref 1000 0,vs (E3 x)] (Xi (.tup []:AV) (Yi (fun h2 hh=>Yi ((Aa (fun o:HO=>Ao [(1000,o.ren (CC [(10900,1000)]) h2)] Af) (show h2 10900=.cells (Gz x)from hh 10900 Cl)).trans rfl) rfl) (Yi Wk (Yi (Tq x (E3 x) (by rw[Cj];have q:=iX x;omega)) ?_)))))));refine Yi Wk (yN (Xi {q:Nat // q<=8} (Xi (fun q=>⟨[(5,.slice (.id 5 1) ((((S8.l (Hh x (E3 x)).v).take q.1).flatMap GT).map JX)),(32,.agg [.v (.int .u32 (Hh x (E3 x)).v.a),.v (.int .u32 (Hh x (E3 x)).v.b),.v (.int .u32 (Hh x (E3 x)).v.c),.v (.int .u32 (Hh x (E3 x)).v.d),.v (.int .u32 (Hh x (E3 x)).v.e),.v (.int .u32 (Hh x (E3 x)).v.f),.v (.int .u32 (Hh x (E3 x)).v.g),.v (.int .u32 (Hh x (E3 x)).v.h)]),(33,vi q.1)],[(5,.tok 1 ((((S8.l (Hh x (E3 x)).v).take q.1).flatMap GT).map JX).length),(1000,.cells (Gz x))],Af⟩) (Xi (fun q=>8-q.1) (Yi (Xi ⟨0,AE _⟩ ?_) ?_)))))
 .exact⟨Z3,Z2,Fh,BN Wk⟩
 intro⟨i,i1⟩;have i1:i<=8:=i1;refine Yi (fun h1=>?_) (fun h1=>?_)
 .have h1:(i:Int)<(8:Int):=h1;have hlw:=nV (S8.l (Hh x (E3 x)).v) i i1;refine Yi (show(0:Int)<=i/\(i:Int)<(8:Nat)from by omega) (Ht (rh (v:=(Hh x (E3 x)).v) (show i<8 by omega) (show((i:Int).toNat*1)=i by omega)) (Yi Cl (Yi Cl (Yi Cl ?_))));have b2:Cn 1 [[.v (.int .u8 (IntKind.wrap .u8 (Gx .shr .u32 (S8.n (Hh x (E3 x)).v i) 24)))],[.v (.int .u8 (IntKind.wrap .u8 (Gx .shr .u32 (S8.n (Hh x (E3 x)).v i) 16)))],[.v (.int .u8 (IntKind.wrap .u8 (Gx .shr .u32 (S8.n (Hh x (E3 x)).v i) 8)))],[.v (.int .u8 (IntKind.wrap .u8 (S8.n (Hh x (E3 x)).v i)))]]/\((((S8.l (Hh x (E3 x)).v).take i).flatMap GT).map JX).length=((((S8.l (Hh x (E3 x)).v).take i).flatMap GT).map JX).length/\(((((S8.l (Hh x (E3 x)).v).take i).flatMap GT).map JX).length+([[.v (.int .u8 (IntKind.wrap .u8 (Gx .shr .u32 (S8.n (Hh x (E3 x)).v i) 24)))],[.v (.int .u8 (IntKind.wrap .u8 (Gx .shr .u32 (S8.n (Hh x (E3 x)).v i) 16)))],[.v (.int .u8 (IntKind.wrap .u8 (Gx .shr .u32 (S8.n (Hh x (E3 x)).v i) 8)))],[.v (.int .u8 (IntKind.wrap .u8 (S8.n (Hh x (E3 x)).v i)))]]:List (List AV)).length)*1<=140737488355328/\((((S8.l (Hh x (E3 x)).v).take i).flatMap GT).map JX).length+([[.v (.int .u8 (IntKind.wrap .u8 (Gx .shr .u32 (S8.n (Hh x (E3 x)).v i) 24)))],[.v (.int .u8 (IntKind.wrap .u8 (Gx .shr .u32 (S8.n (Hh x (E3 x)).v i) 16)))],[.v (.int .u8 (IntKind.wrap .u8 (Gx .shr .u32 (S8.n (Hh x (E3 x)).v i) 8)))],[.v (.int .u8 (IntKind.wrap .u8 (S8.n (Hh x (E3 x)).v i)))]]:List (List AV)).length<=9223372036854775807:=⟨⟨rfl,rfl,rfl,rfl,trivial⟩,rfl,(by simp only[Lm,Ak,At];omega),(by simp only[Lm,Ak,At];omega)⟩;refine Yi b2 (Yi (Ii i ch) ?_);have ew:(((((S8.l (Hh x (E3 x)).v).take i).flatMap GT).map JX++[[AV.v (.int .u8 (IntKind.wrap .u8 (Gx .shr .u32 (S8.n (Hh x (E3 x)).v i) 24)))],[.v (.int .u8 (IntKind.wrap .u8 (Gx .shr .u32 (S8.n (Hh x (E3 x)).v i) 16)))],[.v (.int .u8 (IntKind.wrap .u8 (Gx .shr .u32 (S8.n (Hh x (E3 x)).v i) 8)))],[.v (.int .u8 (IntKind.wrap .u8 (S8.n (Hh x (E3 x)).v i)))]])=(((S8.l (Hh x (E3 x)).v).take (i+1)).flatMap GT).map JX):=by rw[nU,<-Ar];exact Aa (List.map JX) (dH (show i<8 by omega))
  refine Xi ⟨i+1,by omega⟩ ?_;exact⟨Dl 8 i ch,⟨⟨(Aa (AV.slice (.id 5 1)) ew),rfl⟩,Zr,Zr,Tv⟩,⟨⟨(show HO.tok 1 (((((S8.l (Hh x (E3 x)).v).take i).flatMap GT).map JX).length+([[.v (.int .u8 (IntKind.wrap .u8 (Gx .shr .u32 (S8.n (Hh x (E3 x)).v i) 24)))],[.v (.int .u8 (IntKind.wrap .u8 (Gx .shr .u32 (S8.n (Hh x (E3 x)).v i) 16)))],[.v (.int .u8 (IntKind.wrap .u8 (Gx .shr .u32 (S8.n (Hh x (E3 x)).v i) 8)))],[.v (.int .u8 (IntKind.wrap .u8 (S8.n (Hh x (E3 x)).v i)))]]:List (List AV)).length)=.tok 1 ((((S8.l (Hh x (E3 x)).v).take (i+1)).flatMap GT).map JX).length from Aa (HO.tok 1) (Ac.symm.trans (Aa List.length ew))),rfl⟩,Zr,Tv⟩,Fh,BN Wk⟩
 have h1:¬((i:Int)<(8:Int)):=h1;refine Xi (((S8.l (Hh x (E3 x)).v)).flatMap GT) (Yi (show((((S8.l (Hh x (E3 x)).v).take i).flatMap GT).map JX)=(((S8.l (Hh x (E3 x)).v)).flatMap GT).map JX by rw[show i=8 by omega];rfl) ?_);exact Xi _ (Yi (.refl _) Zr)
theorem Wf:∀(n:Nat) (v:S8) (b:ByteArray),b.size<=n->(Ji v b).2.size<64
 |0,v,b,h=>by rw[Ji,Ai ch];show b.size<64;omega
 |n+1,v,b,h=>by
  rw[Ji];split
  .exact Wf n _ _ (by simp only[HY];omega)
  .show b.size<64;omega
theorem YU:(Hh x s).rest.size<64:=Wf _ _ _ (Aj _)
theorem fO{x:HS}(hx:x.rest.size<64):∀l:List ByteArray,(Qu x l).rest.size<64:=fun l=>by
 unfold Qu
 induction l generalizing x with
 |nil=>exact hx
 |cons a l ih=>exact ih (YU _ _)
theorem jy(l:List ByteArray)(i:Nat)(h:i<l.length):Qu x (l.take (i+1))=Hh (Hh (Qu x (l.take i)) (Kv (IntKind.wrap .u64 (l[i].size:Int)))) l[i]:=by
 rw[BW h,Qu,Em];rfl
theorem jx:(qI x).size=32:=by
 have e:∀m:List Int,(m.flatMap GT).length=4*m.length:=fun m=>by
  induction m with
  |nil=>rfl
  |cons a m ih=>rw[List.flatMap_cons,Ac,ih];show 4+_=4*(_+1);omega
 show((((Hh x (E3 x)).v.l).flatMap GT).toArray).size=32;rw[D4,e];rfl
def X1(d:ByteArray):Nat->Int
 |0=>0
 |i+1=>Jq .or .u64 (Gx .shl .u64 (X1 d i) 8) (IntKind.wrap .u64 ((Ol d i).toNat:Int))
def Hp:Int:=X1 (fP ⟨#[99,111,104,111,114,116]⟩ [name,user]) 8 % 100
theorem kD(d:ByteArray)(i:Nat):0<=X1 d i:=by
 cases i with
 |zero=>exact Bs 0
 |succ i=>exact Vt _
theorem SW:0<=Hp name user/\Hp name user<100:=⟨Wa _ Cl,Int.emod_lt_of_pos _ Cl⟩
theorem nS(tag:ByteArray)(l:List ByteArray)(hn:l.length<=1000000)(ht:tag.size<=100000000)(hl:∀s∈l,s.size<=100000000):PC 48 [vs tag,sl AD l] (vs (fP tag l)):=by
 refine Ps Ee Tryz.func48 rfl (Nz rfl) (Xi (.gen [] 1) (Yi rfl (A9.to2 y7 ?_)));refine Xi .pure (Xi _ (Yi (nP (IntKind.wrap .u64 tag.size)) (Yi (show(((Kv (IntKind.wrap .u64 (tag.size:Int))).size+tag.size:Nat):Int)<=9223372036854775807 by rw[Lw];omega) ?_)));refine Xi (.gen [(10800,1000)] 0) (Yi rfl (A9.to2 (Tq SL ((Kv (IntKind.wrap .u64 tag.size))++tag) (by rw[Cj];have q:=Lw (IntKind.wrap .u64 (tag.size:Int));rw[Cj];show 0+_<=_;omega)) ?_));refine Xi {q:Nat // q<=l.length} (Xi (fun q=>⟨[(5,.ref 10800 0),(17,sl AD l),(18,vi (l.map AD).length),(19,vi q.1)],[(10800,.cells (Gz (Qu (Hh SL (Kv (IntKind.wrap .u64 (tag.size:Int))++tag)) (l.take q.1))))],Af⟩) (Xi (fun q=>l.length-q.1) (Yi (Xi ⟨0,AE _⟩ ?_) ?_)))
 .exact⟨Z4,Z1,Fh,Tv⟩
 intro⟨i,i1⟩;have i1:i<=l.length:=i1;refine Yi (fun h1=>?_) (fun h1=>?_)
 .have h1:(i:Int)<((l.map AD).length:Int):=h1;have n1:=FW h1;refine Xi (AD l[i]) (Yi (LH n1) (Yi rfl (Xi .pure (Xi _ (Yi (nP (IntKind.wrap .u64 l[i].size)) (Xi (.gen [(10800,1000)] 0) (Yi rfl (A9.to2 (Tq (Qu (Hh SL (Kv (IntKind.wrap .u64 (tag.size:Int))++tag)) (l.take i)) (Kv (IntKind.wrap .u64 l[i].size)) (by rw[Cj];have q:=fO (YU SL (Kv (IntKind.wrap .u64 (tag.size:Int))++tag)) (l.take i);have q2:=Lw (IntKind.wrap .u64 (l[i].size:Int));omega)) ?_))))))));refine Xi (.gen [(10800,1000)] 0) (Yi rfl (A9.to2 (Tq (Hh (Qu (Hh SL (Kv (IntKind.wrap .u64 (tag.size:Int))++tag)) (l.take i)) (Kv (IntKind.wrap .u64 l[i].size))) l[i] (by rw[Cj];have q:=YU (Qu (Hh SL (Kv (IntKind.wrap .u64 (tag.size:Int))++tag)) (l.take i)) (Kv (IntKind.wrap .u64 (l[i].size:Int)));have q2:=hl l[i] (Aq n1);omega)) ?_));refine Yi (Ii i ch) (Xi ⟨i+1,by omega⟩ ?_);exact⟨Dl l.length i ch,Z4,⟨⟨(show HO.cells (Gz (Hh (Hh (Qu (Hh SL (Kv (IntKind.wrap .u64 (tag.size:Int))++tag)) (l.take i)) (Kv (IntKind.wrap .u64 l[i].size))) l[i]))=.cells (Gz (Qu (Hh SL (Kv (IntKind.wrap .u64 (tag.size:Int))++tag)) (l.take (i+1))))from Aa (fun z=>HO.cells (Gz z)) (jy _ l i n1).symm),rfl⟩,Tv⟩,Fh,Tv⟩
 have h1:¬((i:Int)<((l.map AD).length:Int)):=h1;have n1:=DT h1;refine Xi (.gen [(10800,1000)] 0) (Yi rfl (A9.to2 (uR (Qu (Hh SL (Kv (IntKind.wrap .u64 (tag.size:Int))++tag)) (l.take i)) (fO (YU _ _) _)) ?_));have e:l.take i=l:=As ch;exact CZ.of_eq (Aa (fun z=>vs (qI (Qu (Hh SL (Kv (IntKind.wrap .u64 (tag.size:Int))++tag)) z))) e)
theorem uM(d:ByteArray)(hs:d.size=32)(hd:PC 48 [vs ⟨#[99,111,104,111,114,116]⟩,sl AD [name,user]] (vs d)):PC 15 [vs name,vs user] (vi (X1 d 8 % 100)):=by
 refine Ps Ee Tryz.func15 rfl (Nz rfl) (Xi .pure (Xi _ (Yi hd (Xi {q:Nat // q<=8} (Xi (fun q=>⟨[(5,vs d),(6,.v (.int .u64 (X1 d q.1))),(14,vi (min 8 d.size)),(15,vi q.1)],[],Af⟩) (Xi (fun q=>8-q.1) (Yi (Xi ⟨0,AE _⟩ ?_) ?_)))))))
 .exact⟨Z4,Tv,Fh,Tv⟩
 intro⟨i,i1⟩;have i1:i<=8:=i1;refine Yi (fun h1=>?_) (fun h1=>?_)
 .have h1:(i:Int)<(min 8 d.size:Int):=h1;refine Yi Cl (Xi (Ol d i) (Yi (dT (z:=(i:Int)) (show i<d.size by omega) rfl) (Yi (Ii i ch) (Xi ⟨i+1,by omega⟩ ?_))));exact⟨Dl 8 i ch,Z4,Tv,Fh,Tv⟩
 have h1:¬((i:Int)<(min 8 d.size:Int)):=h1;refine Yi (show 0<=X1 d i/\(0:Int)<100 from⟨kD _ _,by decide⟩) (Yi (show A7 (X1 d i % 100) by unfold A7;have q1:=Wa (X1 d i) (show(100:Int)≠0 by decide);have q2:=Int.emod_lt_of_pos (X1 d i) (show(0:Int)<100 by decide);omega) ?_);have e:i=8:=by omega
 subst e;exact .refl _
theorem nJ(h1:name.size<=100000000)(h2:user.size<=100000000):PC 15 [vs name,vs user] (vi (Hp name user)) :=
 uM name user _ (jx _) (nS _ _ (show 2<=1000000 by omega) Cl (fun s hs=>by
  rcases Az.1 hs with e | hs
  .rw[e];exact h1
  .rw[Ap.1 hs];exact h2))
structure Y8 where
 (t p:Int)
variable (l:List Y8)
abbrev Gv(s:Y8):List AV:=[vi s.t,vi s.p]
def Rx(last:Int):List Y8->Int
 | []=>0
 |s::r=>if s.t<=last\/s.p<0\/100<s.p then 1 else Rx s.t r
def Dw:Int:=if 1024<l.length then 7 else Rx (-1) l
def Tl(BK o:Int)(s:Y8):Int:=if s.t<=BK then s.p else o
def Kd(BK:Int):Int:=l.foldl (Tl BK) 0
theorem aP{l:List Y8}{BK:Int}(h:i<l.length):Kd (l.take (i+1)) BK=Tl BK (Kd (l.take i) BK) l[i]:=by
 rw[BW h,Kd,Em];rfl
theorem qH{l:List Y8}(h:i<l.length)(h1:¬(l[i].t<=last\/l[i].p<0\/100<l[i].p)):Rx last (l.drop i)=Rx l[i].t (l.drop (i+1)):=by
 rw[AH h,Rx,Ai h1]
theorem dB{l:List Y8}(h:i<l.length)(h1:l[i].t<=last\/l[i].p<0\/100<l[i].p):Rx last (l.drop i)=1:=by
 rw[AH h,Rx,Al h1]
theorem Vr(hl:B9 l):PC 13 [sl Gv l] (vi (Dw l)):=by
 have hl:l.length<=1073741824:=hl;refine Ps Ee Tryz.func13 rfl (Nz rfl) (Yi (fun h1=>?_) (fun h1=>?_))
 .have h1:(1024:Int)<((l.map Gv).length:Int):=h1;have n1:1024<l.length:=by have q:=h1;rw[Lm]at q;omega
  exact CZ.of_eq (Aa vi (show 7=Dw l by rw[Dw,Al ch]))
 have h1:¬((1024:Int)<((l.map Gv).length:Int)):=h1;have n1:¬1024<l.length:=by have q:=h1;rw[Lm]at q;omega
 refine Xi {q:Nat×Int // q.1<=l.length/\Rx q.2 (l.drop q.1)=Rx (-1) l} (Xi (fun q=>⟨[(3,vi q.1.2),(9,sl Gv l),(10,vi (l.map Gv).length),(11,vi q.1.1)],[],Af⟩) (Xi (fun q=>l.length-q.1.1) (Yi (Xi ⟨(0,-1),AE _,rfl⟩ ?_) ?_)))
 .exact⟨Z4,Tv,Fh,Tv⟩
 intro⟨⟨i,la⟩,i1,i2⟩;have i1:i<=l.length:=i1;have i2:Rx la (l.drop i)=Rx (-1) l:=i2;refine Yi (fun h3=>?_) (fun h3=>?_)
 .have h3:(i:Int)<((l.map Gv).length:Int):=h3;have n3:=FW h3;refine Xi (Gv l[i]) (Yi (LH n3) (Yi rfl (yN (yN (Yi (fun h4=>?_) (fun h4=>?_))))))
  .have h4:(l[i].t:Int)<=(la:Int):=h4;exact CZ.of_eq (Aa vi (show 1=Dw l by rw[Dw,Ai ch,<-i2,dB n3 ch]))
  have h4:¬((l[i].t:Int)<=(la:Int)):=h4;refine Yi (fun h6=>?_) (fun h6=>?_)
  .have h6:(l[i].p:Int)<(0:Int):=h6;exact CZ.of_eq (Aa vi (show 1=Dw l by rw[Dw,Ai ch,<-i2,dB n3 ch]))
  have h6:¬((l[i].p:Int)<(0:Int)):=h6;refine Yi (fun h8=>?_) (fun h8=>?_)
  .have h8:(100:Int)<(l[i].p:Int):=h8;exact CZ.of_eq (Aa vi (show 1=Dw l by rw[Dw,Ai ch,<-i2,dB n3 ch]))
  have h8:¬((100:Int)<(l[i].p:Int)):=h8;refine Yi (Ii i ch) (Xi ⟨(i+1,l[i].t),n3,by rw[<-i2,qH n3 ch]⟩ ?_);exact⟨Dl l.length i ch,Z4,Tv,Fh,Tv⟩
 have h3:¬((i:Int)<((l.map Gv).length:Int)):=h3;have n3:=DT h3;exact CZ.of_eq (Aa vi (show 0=Dw l by rw[Dw,Ai ch,<-i2,Cr ch];rfl))
theorem rZ(BK:Int)(hl:B9 l):PC 47 [sl Gv l,vi BK] (vi (Kd l BK)):=by
 have hl:l.length<=1073741824:=hl;refine Ps Ee Tryz.func47 rfl (Nz rfl) (Xi {q:Nat // q<=l.length} (Xi (fun q=>⟨[(1,vi BK),(5,vi (Kd (l.take q.1) BK)),(8,sl Gv l),(9,vi (l.map Gv).length),(10,vi q.1)],[],Af⟩) (Xi (fun q=>l.length-q.1) (Yi (Xi ⟨0,AE _⟩ ?_) ?_))))
 .exact⟨Z5,Tv,Fh,Tv⟩
 intro⟨i,i1⟩;have i1:i<=l.length:=i1;refine Yi (fun h1=>?_) (fun h1=>?_)
 .have h1:(i:Int)<((l.map Gv).length:Int):=h1;have n1:=FW h1;refine Xi (Gv l[i]) (Yi (LH n1) (Yi rfl (yN (yN (Yi (fun h2=>?_) (fun h2=>?_))))))
  .have h2:(l[i].t:Int)<=(BK:Int):=h2;refine Yi (Ii i ch) (Xi ⟨i+1,n1⟩ ?_);exact⟨Dl l.length i ch,⟨Zr,⟨(Aa vi (show l[i].p=Kd (l.take (i+1)) BK by rw[aP n1,Tl,Al h2])),rfl⟩,Zr,Zr,Zr,Tv⟩,Tv,Fh,Tv⟩
  have h2:¬((l[i].t:Int)<=(BK:Int)):=h2;refine Yi (Ii i ch) (Xi ⟨i+1,n1⟩ ?_);exact⟨Dl l.length i ch,⟨Zr,⟨(Aa vi (show(Kd (l.take i) BK)=Kd (l.take (i+1)) BK by rw[aP n1,Tl,Ai h2])),rfl⟩,Zr,Zr,Zr,Tv⟩,Tv,Fh,Tv⟩
 have h1:¬((i:Int)<((l.map Gv).length:Int)):=h1;have n1:=DT h1;exact CZ.of_eq (Aa (fun z=>vi (Kd z BK)) (As (Bz (DT h1))))
def dg(BK:Int):Int:=if Dw l=0 then Kd l BK else 0
theorem rU(BK:Int)(hl:B9 l):PC 11 [sl Gv l,vi BK] (.tup [vi (dg l BK),vi (Dw l)]):=by
 refine Ps Ee Tryz.func11 rfl (Nz rfl) (Xi .pure (Xi _ (Yi (Vr l hl) (Yi (fun h1=>?_) (fun h1=>?_)))))
 .have h1:((Dw l):Int)≠(0:Int):=h1;exact CZ.of_eq (show AV.tup [vi 0,vi (Dw l)]=.tup [vi (dg l BK),vi (Dw l)] by rw[dg,Ai h1])
 have h1:((Dw l):Int)=(0:Int):=AL h1;refine Xi .pure (Xi _ (Yi (rZ l BK hl) ?_));exact CZ.of_eq (show AV.tup [vi (Kd l BK),vi 0]=.tup [vi (dg l BK),vi (Dw l)] by rw[dg,Al h1,h1])
end Go.Eng
namespace Go.Proofs
open Go.Shelf
def Tryz.laySortStr_ren:Go.Shelf.Ren:=⟨fun | 190=>99 | 125=>161 | 258=>160 | 128=>228 | 129=>229 | 302=>220 | 303=>221 | 304=>222 | 305=>223 | 306=>224 | 307=>225 | 308=>159 | 309=>226 | 310=>227 | 333=>276 | 329=>277 | 330=>278 | 334=>279 | 335=>280 | 336=>198 | 344=>319 | n=>n,fun | 31=>52 | 9=>9 | 3=>3 | 46=>99 | 0=>0 | 51=>229 | 53=>98 | 4=>4 | 183=>316 | 182=>315 | 131=>214 | 5=>5 | 218=>357 | 222=>361 | 228=>389 | 229=>390 | n=>n,fun | n=>n⟩
theorem Tryz.laySortStr:Go.Proofs.Lays.n190 Tryz.prog Tryz.laySortStr_ren:={
 mixed:=by kernel_rfl
 f125:=Tryz.func161.trans (congrArg some Go.Eng.Wk)
 f128:=Tryz.func228.trans (congrArg some Go.Eng.Wk)
 f129:=Tryz.func229.trans (congrArg some Go.Eng.Wk)
 f190:=Tryz.func99.trans (congrArg some Go.Eng.Wk)
 f258:=Tryz.func160.trans (congrArg some Go.Eng.Wk)
 f302:=Tryz.func220.trans (congrArg some Go.Eng.Wk)
 f303:=Tryz.func221.trans (congrArg some Go.Eng.Wk)
 f304:=Tryz.func222.trans (congrArg some Go.Eng.Wk)
 f305:=Tryz.func223.trans (congrArg some Go.Eng.Wk)
 f306:=Tryz.func224.trans (congrArg some Go.Eng.Wk)
 f307:=Tryz.func225.trans (congrArg some Go.Eng.Wk)
 f308:=Tryz.func159.trans (congrArg some Go.Eng.Wk)
 f309:=Tryz.func226.trans (congrArg some Go.Eng.Wk)
 f310:=Tryz.func227.trans (congrArg some Go.Eng.Wk)
 f329:=Tryz.func277.trans (congrArg some Go.Eng.Wk)
 f330:=Tryz.func278.trans (congrArg some Go.Eng.Wk)
 f333:=Tryz.func276.trans (congrArg some Go.Eng.Wk)
 f334:=Tryz.func279.trans (congrArg some Go.Eng.Wk)
 f335:=Tryz.func280.trans (congrArg some Go.Eng.Wk)
 f336:=Tryz.func198.trans (congrArg some Go.Eng.Wk)
 f344:=Tryz.func319.trans (congrArg some Go.Eng.Wk)
 t0:=Tryz.underlying0
 a0:=Tryz.isAgg0
 z0:=Tryz.sizeOf0
 v0:=Tryz.zeroValue0
 t3:=Tryz.underlying3
 a3:=Tryz.isAgg3
 z3:=Tryz.sizeOf3
 v3:=Tryz.zeroValue3
 t4:=Tryz.underlying4
 a4:=Tryz.isAgg4
 z4:=Tryz.sizeOf4
 v4:=Tryz.zeroValue4
 t5:=Tryz.underlying5
 a5:=Tryz.isAgg5
 z5:=Tryz.sizeOf5
 v5:=Tryz.zeroValue5
 t9:=Tryz.underlying9
 a9:=Tryz.isAgg9
 z9:=Tryz.sizeOf9
 v9:=Tryz.zeroValue9
 t31:=Tryz.underlying52
 a31:=Tryz.isAgg52
 z31:=Tryz.sizeOf52
 v31:=Tryz.zeroValue52
 t46:=Tryz.underlying99
 a46:=Tryz.isAgg99
 z46:=Tryz.sizeOf99
 v46:=Tryz.zeroValue99
 t51:=Tryz.underlying229
 a51:=Tryz.isAgg229
 z51:=Tryz.sizeOf229
 v51:=Tryz.zeroValue229
 t53:=Tryz.underlying98
 a53:=Tryz.isAgg98
 z53:=Tryz.sizeOf98
 v53:=Tryz.zeroValue98
 t131:=Tryz.underlying214
 a131:=Tryz.isAgg214
 z131:=Tryz.sizeOf214
 v131:=Tryz.zeroValue214
 t182:=Tryz.underlying315
 a182:=Tryz.isAgg315
 z182:=Tryz.sizeOf315
 v182:=Tryz.zeroValue315
 t183:=Tryz.underlying316
 a183:=Tryz.isAgg316
 z183:=Tryz.sizeOf316
 v183:=Tryz.zeroValue316
 t218:=Tryz.underlying357
 a218:=Tryz.isAgg357
 z218:=Tryz.sizeOf357
 v218:=Tryz.zeroValue357
 t222:=Tryz.underlying361
 a222:=Tryz.isAgg361
 z222:=Tryz.sizeOf361
 v222:=Tryz.zeroValue361
 t228:=Tryz.underlying389
 a228:=Tryz.isAgg389
 z228:=Tryz.sizeOf389
 v228:=Tryz.zeroValue389
 t229:=Tryz.underlying390
 a229:=Tryz.isAgg390
 z229:=Tryz.sizeOf390
 v229:=Tryz.zeroValue390 }
def Tryz.layCompactStr_ren:Go.Shelf.Ren:=⟨fun | 194=>183 | n=>n,fun | 31=>52 | 9=>9 | 3=>3 | 4=>4 | 0=>0 | n=>n,fun | n=>n⟩
theorem Tryz.layCompactStr:Go.Proofs.Lays.n194 Tryz.prog Tryz.layCompactStr_ren:={
 mixed:=by kernel_rfl
 f194:=Tryz.func183.trans (congrArg some Go.Eng.Wk)
 t0:=Tryz.underlying0
 a0:=Tryz.isAgg0
 z0:=Tryz.sizeOf0
 v0:=Tryz.zeroValue0
 t3:=Tryz.underlying3
 a3:=Tryz.isAgg3
 z3:=Tryz.sizeOf3
 v3:=Tryz.zeroValue3
 t4:=Tryz.underlying4
 a4:=Tryz.isAgg4
 z4:=Tryz.sizeOf4
 v4:=Tryz.zeroValue4
 t9:=Tryz.underlying9
 a9:=Tryz.isAgg9
 z9:=Tryz.sizeOf9
 v9:=Tryz.zeroValue9
 t31:=Tryz.underlying52
 a31:=Tryz.isAgg52
 z31:=Tryz.sizeOf52
 v31:=Tryz.zeroValue52 }
end Go.Proofs
namespace Go.Eng
open Go.Proofs Go.Shelf Go.RowKit Go.Lib Go.Sort
variable (ss:List ByteArray)(zs:List (List UInt8))(s:ByteArray)
abbrev Kr:List UInt8:=s.data.toList
abbrev QJ(l:List UInt8):ByteArray:=⟨l.toArray⟩
theorem oV:QJ (Kr s)=s:=by cases s;simp
theorem Nr:((zs.map QJ).map AD).flatten=(zs.map Go.Proofs.encStr).map AV.v:=by
 induction zs with
 |nil=>rfl
 |cons z zs ih=>rw[AI,AI,BB,ih];rfl
theorem XU:(ss.map Kr).map QJ=ss:=by
 rw[Bo,show QJ ∘ Kr=id from funext oV,F3]
theorem x5(t:List ByteArray)(hl:B9 ss)(Dy:ss≠[])(hp:t.Perm ss)(ht:(t.map Kr).Pairwise fun a b=>a<=b) :
  A9 Tryz.prog 99 [.msl 1000 ss.length] (Ao [(1000,.arr 1 (ss.map AD))] Af) fun r h'=>r=.tup []/\h'=Ao [(1000,.arr 1 (t.map AD))] Af:=by
 have hE:FQ Tryz.prog 99:=Zy 99 Tryz.func99 Wk rfl;obtain⟨zs,hz⟩:∃zs,zs=ss.map Kr:=⟨_,rfl⟩;have EM:ss=zs.map QJ:=by rw[hz,XU]
 have HT:=QF (P:=Tryz.prog) (f:=99) (es:=ss.map AD) (sz:=1) (rest:=[]) (Q:=fun FP=>FP=t.map AD) hE ?_ ?_
 .rw[Lm]at HT;refine⟨hE,fun g w vals q1 q2 q3=>(HT.2 g w vals q1 q2 q3).mono fun _ _ ⟨v,r,h',g',e1,⟨e2,FP,p1,p3⟩,rest⟩=>⟨v,r,h',g',e1,⟨e2,by rw[p3,p1]⟩,rest⟩⟩
 .intro e;exact absurd (DE.1 e) Dy
 .intro g w b cap F hr hF hH hb;have wN:F.toList=zs.map Go.Proofs.encStr:=Mb (by rw[<-Nr,<-EM];exact hr);have ll:F=zs.toArray.map Go.Proofs.encStr:=Jf.1 (by rw[wN];simp);have NP:zs.length=ss.length:=by rw[hz,Lm]
  have wO:Holds Go.Proofs.encStr w b 0 zs.toArray:=fun j hj=>by
   have:=hH j (by rw[ll];simpa using hj)
   refine⟨this.1.trans ?_,this.2⟩;rw[ll,DR _ j (by simpa using hj),DR _ j hj];simp
  have hc:=Any.slices_Sort_string Tryz.laySortStr b 0 cap zs w wO hb ch;have htz:(zs.mergeSort fun x y=>decide (x<=y))=t.map Kr:=by
   have Ju:(zs.mergeSort fun x y=>decide (x<=y)).Perm zs:=NT _ _;have xI:=Ky (le:=fun x y:List UInt8=>decide (x<=y)) (fun a b c h1 h2=>by simp only[AA]at *;exact List.le_trans h1 h2) (fun a b=>by simp only[CJ,AA];exact List.le_total a b) zs;refine List.Perm.eq_of_pairwise (le:=fun a b=>a<=b) (fun a b _ _ h k=>List.le_antisymm h k) (xI.imp fun h=>AU h) ht (Ju.trans ?_);rw[hz];exact(hp.map Kr).symm
  rw[htz,NP]at hc;rw[Lm];refine hc.mono ?_
  rintro e w' ⟨rfl,n,os,rfl⟩
  have Dz:t.length=ss.length:=hp.length_eq;refine⟨rfl,(t.map Kr).toArray.map Go.Proofs.encStr,t.map AD,n,os,?_,rfl,by simp[Dz],fun cs hcs=>?_,fun g w _=>?_,by rw[Rk]⟩
  .rw[ll];simp[Dz,NP]
  .obtain⟨x,_,rfl⟩:=Ag.1 hcs;rfl
  .have e1:t.map AD=((t.map Kr).map QJ).map AD:=by rw[XU]
   rw[e1,Nr];have e:(((t.map Kr).toArray.map Go.Proofs.encStr).toList)=(t.map Kr).map Go.Proofs.encStr:=by simp
   rw[e];exact NJ _ _ _ _ fun x hx=>by
    obtain⟨z,_,rfl⟩:=Ag.1 hx;rfl
def Cg:List ByteArray:=(Lib.compact (ss.map Kr)).map QJ
theorem MI:(Lib.compact zs).length<=zs.length:=by
 unfold Lib.compact Lib.compactUpTo;rw[Lm];exact AJ (Bq _ _) (by rw[La];exact Aj _)
theorem Acm(hl:B9 ss)(Dy:ss≠[]) :
  A9 Tryz.prog 183 [.msl 1000 ss.length] (Ao [(1000,.arr 1 (ss.map AD))] Af) fun r h'=>r=.msl 2000 (Cg ss).length/\h'=Ao [(1000,.dead),(2000,.arr 1 ((Cg ss).map AD))] Af:=by
 have hE:FQ Tryz.prog 183:=Zy 183 Tryz.func183 Wk rfl;obtain⟨zs,hz⟩:∃zs,zs=ss.map Kr:=⟨_,rfl⟩;have EM:ss=zs.map QJ:=by rw[hz,XU]
 have NP:zs.length=ss.length:=by rw[hz,Lm]
 have hcl:=MI zs;have HT:=Wg (P:=Tryz.prog) (f:=183) (es:=ss.map AD) (sz:=1) (rest:=[]) (n':=(Lib.compact zs).length) (Q:=fun FP=>FP=((Lib.compact zs++List.replicate (zs.length-(Lib.compact zs).length) []).map QJ).map AD) hE (fun e=>Dy (DE.1 e)) (by rw[Lm];omega) ?_
 .rw[Lm]at HT;have ez:Cg ss=(Lib.compact zs).map QJ:=by unfold Cg;rw[hz]
  refine⟨hE,fun g w vals q1 q2 q3=>(HT.2 g w vals q1 q2 q3).mono fun _ _ ⟨x,r,h',g',e1,⟨e2,FP,p1,p2⟩,rest⟩=>⟨x,r,h',g',e1,⟨by rw[e2,ez,Lm],by
   rw[p2,p1,ez,Ar,Ar,HI (by rw[Lm,Lm];exact Aj _),As (by rw[Lm,Lm];exact Aj _)]⟩,rest⟩⟩
 .intro g w b cap F hr hF hH hb hc;rw[Lm]at hF hc⊢;have wN:F.toList=zs.map Go.Proofs.encStr:=Mb (by rw[<-Nr,<-EM];exact hr);have ll:F=zs.toArray.map Go.Proofs.encStr:=Jf.1 (by rw[wN];simp);have wO:Holds Go.Proofs.encStr w b 0 zs.toArray:=fun j hj=>by
   have:=hH j (by rw[ll];simpa using hj)
   refine⟨this.1.trans ?_,this.2⟩;rw[ll,DR _ j (by simpa using hj),DR _ j hj];simp
  have hcon:=Any.slices_Compact_string Tryz.layCompactStr b 0 cap zs w wO ch ch;rw[NP]at hcon;refine hcon.mono ?_
  rintro e w' ⟨rfl,q,rfl⟩
  refine⟨rfl,(Lib.compact zs++List.replicate (zs.length-(Lib.compact zs).length) []).toArray.map Go.Proofs.encStr,_,q,#[],?_,rfl,?_,fun cs hcs=>?_,fun g w _=>?_,?_⟩
  .rw[ll];simp;omega
  .simp;omega
  .obtain⟨x,_,rfl⟩:=Ag.1 hcs;rfl
  .rw[Nr];have e:((Lib.compact zs++List.replicate (zs.length-(Lib.compact zs).length) []).toArray.map Go.Proofs.encStr).toList=(Lib.compact zs++List.replicate (zs.length-(Lib.compact zs).length) []).map Go.Proofs.encStr:=by simp
   rw[e];exact NJ _ _ _ _ fun x hx=>by
    obtain⟨z,_,rfl⟩:=Ag.1 hx;rfl
  .rw[Rk,grow_empty,NP]
end Go.Eng
namespace Go.Eng
open Go.Proofs
variable {a b:ByteArray}{caps:List AV}{fF:Nat}
abbrev Acu(n:Nat):SB:=⟨[],[],[(2,n),(5,n)],[],[],[],[5],[],[],[],[2,3]⟩
theorem Adh(l:List Sl)(hl:B9 l):A9 Tryz.prog 138 [sl Am l] (Ao [] Af) fun r h'=>r=.msl 2000 l.length/\h'=Ao [(2000,.arr 4 (l.map Am))] Af:=by
 refine Cq (MK (Acu 4)) [(2,2000)] rfl CQ hm rfl Tryz.func138 Wk rfl (Nz rfl) Wk rfl ?_;have Ho:Cn 4 (l.map Am)/\([]:List (List AV)).length=0/\(([]:List (List AV)).length+(l.map Am).length)*40<=140737488355328/\([]:List (List AV)).length+(l.map Am).length<=9223372036854775807:=by
  refine⟨DZ (enc:=Am) (n:=4) (fun _=>rfl) l,rfl,?_,?_⟩<;>simp only[At,Lm]<;>unfold B9 at hl<;>omega
 have e1:AV.msl 2000 (([]:List (List AV)).length+(l.map Am).length)=.msl 2000 l.length:=by simp
 refine Xi 0 (Xi 0 (Yi ?_ ?_))
 .intro _;refine cU [(0,sl Am l)] [] Z1 Tv (Xi 2 (Yi Ho ?_));exact Xi _ (Yi (.refl _) (Yi e1 rfl))
 .intro h;refine Yi ?_ ?_
  .refine Xi ⟨[],[],Af⟩ (Yi ⟨trivial,trivial,fun _=>.inl rfl,BN Wk⟩ ?_);refine Xi 2 ?_;exact Xi _ (Yi (.refl _) (Yi (show AV.msl 2000 0=_ by rw[DE.1 h];rfl) (show Ao [(2000,HO.arr 4 [])] Af=_ by rw[h])))
  .refine cU [(0,sl Am l)] [] Z1 Tv (Xi 2 (Yi Ho ?_));exact Xi _ (Yi (.refl _) (Yi e1 rfl))
theorem Wi{n:Nat}:∀{l:List (List AV)},(∀c∈l,c.length=n)->Cn n l
 | [],_=>trivial
 |c::_,h=>⟨h c (Ab ..),Wi fun d hd=>h d (Ah _ hd)⟩
theorem o70(hs:CV caps)(l:List (Sl))(p:Sl->Bool)(hF:∀x∈l,PC fF ([.agg (Am x)]++caps) (vb (p x)))(hl:l.length<9223372036854775807) :
  PC 108 [sl Am l,.clo fF caps] (vi (Jv p l 0)):=by
 refine Ps Ee Tryz.func108 rfl (Nz rfl) (Xi {i:Nat // i<=l.length/\∀j (hj:j<l.length),j<i->p l[j]=false} (Xi (fun i=>⟨[(0,sl Am l),(1,.clo fF caps),(7,vi (l.map Am).length),(8,vi i.1)],[],Af⟩) (Xi (fun i=>l.length-i.1) (Yi (Xi ⟨0,by simp⟩ ?_) ?_))))
 .exact⟨⟨Zr,⟨rfl,hs.ids _⟩,Zr,Zr,Tv⟩,Tv,Fh,Tv⟩
 .intro⟨i,h1,h2⟩;refine Yi ?_ ?_
  .intro h;have h:i<l.length:=by simpa using h
   have hg:l[i]?=some l[i]:=Ge h;refine Xi (Am l[i]) (Yi (Yi (Nn i) (by simp[hg])) (Yi rfl (yN ?_)));have Ca:∀h,PC fF ([.agg (Am l[i])]++caps.map (str0 h)) (vb (p l[i])):=fun h=>by rw[hs.map];exact hF l[i] (Aq _)
   cases hp:p l[i]with
   |true =>
    rw[hp]at Ca;refine Xi .pure (Xi (vb true) (Yi (Ca _) ?_));rw[HC h (fun j hj JG=>h2 j hj JG) hp,Ew];exact .refl _
   |false =>
    rw[hp]at Ca;refine Xi .pure (Xi (vb false) (Yi (Ca _) (Yi (Ii i ch) (Xi ⟨i+1,by omega,fun j hj JG=>?_⟩ ?_))))
    .by_cases e:j=i
     .subst e;exact hp
     .exact h2 j hj ch
    .exact⟨Dl l.length i ch,⟨Zr,⟨rfl,hs.ids _⟩,Zr,Zr,Tv⟩,Tv,Fh,Tv⟩
  .intro h;have h:¬i<l.length:=by simpa using h
   rw[Gk fun j hj=>h2 j hj ch];exact .refl _
theorem o25(hs:CV caps)(l:List (Sl))(p:Sl->Bool)(hF:∀x∈l,PC fF ([.agg (Am x)]++caps) (vb (p x)))(hl:B9 l) :
  PC 79 [sl Am l,.clo fF caps] (vb (l.any p)):=by
 refine Ps Ee Tryz.func79 rfl (Nz rfl) ?_;have hi:=o70 hs l p hF (by unfold B9 at hl;omega);have Ca:∀h,PC 108 [sl Am l,.clo fF (caps.map (str0 h))] (vi (Jv p l 0)):=fun h=>by rw[hs.map];exact hi
 refine Xi .pure (Xi _ (Yi (Ca _) ?_));have ha:=Hy (p:=p) l 0 (Bs 0);refine Yi ?_ ?_
 .intro h;rw[<-ha,Ax h];exact .refl _
 .intro h;rw[<-ha,AB h];exact .refl _
def gJ(a b:Sl):Int:=if KR a.path b.path≠0 then KR a.path b.path else Pn a.ver b.ver
abbrev AaU:Sl->Sl->Int:=fun a b=>KR a.path b.path
theorem Zm:KR a b<0↔Ea a b=true:=by
 unfold KR
 by_cases h:Ea a b=true
 .rw[Al h];simp[h]
 .rw[Ai h];split<;>simp[h]
theorem Oq:KR a b=0↔a=b:=by
 unfold KR;constructor
 .intro h;split at h
  .cases h
  .rename_i h1;split at h
   .cases h
   .rename_i h2;exact H8 (by simpa using h1) (by simpa using h2)
 .rintro rfl
  rw[Ai (by rw[Df];decide),Ai (by rw[Df];decide)]
abbrev kept{α:Type}(p:α->Bool)(l:List α):List α:=l.filter fun x=>!p x
abbrev bx(r:Rl):Sl:=⟨r.path,r.ver⟩
theorem o46(ifs:List (List AV))(hl:B9 ifs)(hs:∀c∈ifs,c.length=5):PC 103 [.slice .none ifs] (.slice .none ifs):=by
 refine Ps Ee Tryz.func103 rfl (Nz rfl) ?_;have Ho:Cn 5 ifs/\([]:List (List AV)).length=0/\(([]:List (List AV)).length+ifs.length)*112<=140737488355328/\([]:List (List AV)).length+ifs.length<=9223372036854775807:=by
  refine⟨Wi hs,rfl,?_,?_⟩<;>simp only[At]<;>unfold B9 at hl<;>omega
 refine Yi ?_ ?_
 .intro _;exact Yi Ho (.refl _)
 .intro h;refine Yi ?_ ?_
  .show CZ nzA (.slice .none ifs);rw[h];exact .nil
  .exact Yi Ho (.refl _)
end Go.Eng
namespace Go.Eng
variable {α:Type}{l:List α}{a b:Int}
structure OC{α β:Type}(c:α->α->Int)(R:α->α->Prop)(key:α->β):Prop where
 lt:∀a b,c a b<0↔R a b
 eq:∀a b,c a b=0↔key a=key b
 tr:∀a b d,R a b->R b d->R a d
 irr:∀a b,key a=key b->¬R a b
 tri:∀a b,¬R a b->key a≠key b->R b a
 cl:∀a b d,key a=key b->R a d->R b d
section
variable {α β:Type}{c:α->α->Int}{R:α->α->Prop}{key:α->β}
theorem Q0(h:OC c R key){a:List α}(ha:a.Pairwise R):(a.map key).Nodup:=by
 unfold List.Nodup;rw[Lc];exact ha.imp fun q e=>h.irr _ _ e q
end
/-! The three comparisons. -/
def ltS(a b:Sl):Prop:=Ea a.path b.path=true\/(a.path=b.path/\pQ a.ver b.ver)
abbrev UK(a b:Sl):Prop:=Ea a.path b.path=true
theorem TZ:GZ a b<0↔a<b:=by
 unfold GZ;split
 .rename_i h;simp[h]
 .rename_i h;split<;>simp[h]
theorem JW:GZ a b=0↔a=b:=by
 unfold GZ;split
 .rename_i h;simp;omega
 .rename_i h;split
  .rename_i h2;simp;omega
  .rename_i h2;simp;omega
theorem kB{a b:Ver}:Pn a b<0↔pQ a b:=by
 refine⟨dV,fun h=>?_⟩;unfold Pn;rcases h with h | ⟨h1,h | ⟨h2,h⟩⟩
 .rw[Al (fun c=>by have:=JW.1 c;omega)];exact TZ.2 h
 .rw[Ai (fun c=>c (JW.2 h1)),Al (fun c=>by have:=JW.1 c;omega)];exact TZ.2 h
 .rw[Ai (fun c=>c (JW.2 h1)),Ai (fun c=>c (JW.2 h2))];exact TZ.2 h
theorem Pm{a b:Sl}:gJ a b<0↔ltS a b:=by
 unfold gJ ltS
 by_cases h:a.path=b.path
 .rw[Ai (fun c=>c (Oq.2 h)),kB];exact⟨fun q=>.inr ⟨h,q⟩,fun q=>q.elim (fun q=>by rw[h,Df]at q;cases q) (·.2)⟩
 .rw[Al (fun c=>h (Oq.1 c)),Zm];exact⟨.inl,fun q=>q.elim id fun q=>absurd q.1 h⟩
theorem ocP:OC AaU UK (fun s:Sl=>s.path) where
 lt _ _:=Zm
 eq _ _:=Oq
 tr _ _ _:=D2
 irr a b e h:=by rw[UK,e,Df]at h;cases h
 tri a b h e:=by
  cases q:Ea b.path a.path with
  |true=>exact q
  |false =>
   cases p:Ea a.path b.path with
   |true=>exact absurd p h
   |false=>exact absurd (H8 p q) e
 cl a b d e h:=by rw[UK,<-e];exact h
/-! Pins. -/
theorem cX{β:Type}{f:α->β}(h:(l.map f).Nodup):l.Nodup:=by
 unfold List.Nodup at *
 rw[Lc]at h;exact h.imp fun q e=>q (Aa f e)
/-! What the reference makes of a list. -/
theorem Ej{i:Nat}(h:i<l.length):l.take (i+1)=l.take i++[l[i]]:=BW h
end Go.Eng
namespace Go.Eng
open Go.Proofs
variable {α:Type}{i:Nat}(l m:List Sl)(p:ByteArray)
def d7(r:Rl):Bool:=decide (r.path=p)&&!r.yanked
def yK(r:Rl):Int×Int:=(plc r.ver,plc r.ver+1)
theorem gy{x:List Rl}{p:ByteArray}(h:A4 x=0):Ch x p=canon ((x.filter (d7 p)).map yK):=by
 unfold Ch KY;rw[Ai (not_not_intro h),List.filter_filter]
 congr 3
 funext r
 unfold d7;rw[Bool.and_comm]
theorem pc{enc:α->List AV}{n:Nat}(h:∀x,(enc x).length=n)(l:List α):∀cs∈l.map enc,cs.length=n:=fun cs hc=>by
 obtain⟨x,_,rfl⟩:=Ag.1 hc;exact h x
theorem iU(o:Option α):(∃x,o=some x)\/o=none:=by
 cases o with
 |none=>exact .inr rfl
 |some x=>exact .inl ⟨x,rfl⟩
structure Mv where
 path:ByteArray
 a:Int
 b:Int
abbrev Hr(m:Mv):List AV:=[vs m.path,vi m.a,vi m.b]
abbrev plP(s:Sl):Value×AV:=(.string s.path,vi (place s.ver))
abbrev H3:List (Value×AV):=l.map plP
def Jb:Int:=match BY l p with | some s=>place s.ver | none=>-1
def Jl:Option Mv:=if Jb l p≠Jb m p then some ⟨p,Jb l p,Jb m p⟩else none
abbrev Im(ps:List ByteArray):List Mv:=ps.filterMap (Jl l m)
structure Iz(l:List Sl):Prop where
 few:B9 l
 val:∀s∈l,Ct s.ver=true
 inc:l.Pairwise UK
theorem Iz.step{l:List Sl}(h:Iz l)(hi:i<l.length)(h0:0<i):Ea (l[i-1]' ch).path l[i].path=true:=(AX.1 h.inc) (i-1) i ch hi ch
theorem mQ{l:List Sl}(h:Iz l)(hi:i<l.length):∀b,(Value.string l[i].path,b)∉H3 (l.take i):=fun b hb=>by
 obtain⟨s,hs,e⟩:=Ag.1 hb;obtain⟨j,hj,rfl⟩:=Cf.1 hs;rw[GE]at e;rw[Av]at hj;have q:=(AX.1 h.inc) j i ch hi ch;have e2:l[j].path=l[i].path:=by injection e with e1;injection e1
 rw[UK,e2,Df]at q;cases q
theorem uh{l:List Sl}(h:Iz l){p:ByteArray}{a:AV}(ha:(Value.string p,a)∈H3 l):a=vi (Jb l p):=by
 obtain⟨s,hs,e⟩:=Ag.1 ha;have e1:s.path=p:=by injection e with e1;injection e1
 have e2:vi (place s.ver)=a:=by injection e
 rw[<-e2];unfold Jb;rw[<-e1,JZ (Q0 ocP h.inc) hs]
theorem ui{l:List Sl}{p:ByteArray}(h:∀a,(Value.string p,a)∉H3 l):Jb l p=-1:=by
 unfold Jb;rw[show BY l p=none from DO.2 fun s hs e=>h _ (Ag.2 ⟨s,hs,by rw[<-AU e]⟩)]
theorem ff{l m:List Sl}{ps:List ByteArray}{k:Nat}(h:k<ps.length):Im l m (ps.take (k+1))=Im l m (ps.take k)++(Jl l m ps[k]).toList:=by
 unfold Im;rw[Ej h,List.filterMap_append]
 congr 1
theorem qf(hl:Iz l):A9 Tryz.prog 181 [sl Am l] (Ao [] Af) fun r h'=>r=.tup [.mref 2000,vb true]/\h'=Ao [(2000,.map Cm (H3 l))] Af:=by
 have hfl:l.length<=1073741824:=hl.few;refine Cq (MK Ee) [(9,2000)] rfl CQ hm rfl Tryz.func181 Wk rfl (Nz rfl) Wk rfl (Xi {q:Nat // q<=l.length} (Xi (fun q=>⟨[(0,sl Am l),(4,.mref 9),(10,sl Am l),(11,vi (l.map Am).length),(12,vi q.1)],[(9,.map Cm (H3 (l.take q.1)))],Af⟩) (Xi (fun q=>l.length-q.1) (Yi (Xi ⟨0,AE _⟩ ?_) ?_))))
 .exact⟨Z5,Z1,Fh,BN Wk⟩
 intro⟨i,i1⟩;refine Yi (fun h1=>?_) (fun h1=>?_)
 .have h1:(i:Int)<((l.map Am).length:Int):=h1;have n1:=FW h1;refine Xi (Am l[i]) (Yi (LH n1) (Yi rfl (yN (yN (yN (Xi .pure (Xi _ (Yi (by have q:=vo l[i].ver;rw[Al (hl.val _ (Aq n1)),Al (hl.val _ (Aq n1))]at q;exact q) ?_))))))));refine Yi (fun h=>absurd h Cl) (fun _=>?_);refine Yi (fun h2=>?_) (fun h2=>?_)
  .have h2:(0:Int)<(i:Int):=h2;refine Yi (by show A7 ((i:Int)-(1:Int));unfold A7;omega) ?_;have ry:0<i:=by omega
   refine Xi (Am (l[i-1])) (Yi (Yi (show(0:Int)<=(i:Int)-1 by omega) (by rw[show((i:Int)-1).toNat=i-1 by omega];exact Ed (Ge ch))) (Yi rfl ?_));refine Yi (fun h3=>?_) (fun h3=>?_)
   .have h3:Ea (l[i-1]).path l[i].path=false:=(F9 _ _).trans h3;exact absurd (hl.step n1 ry) (by rw[h3];decide)
   refine Yi Wk (Yi (Ii i ch) (Xi ⟨i+1,n1⟩ ?_));exact⟨Dl l.length i ch,Z5,⟨⟨(show HO.map Cm (EX (H3 (l.take i)) (.string l[i].path) (vi (place l[i].ver)))=.map Cm (H3 (l.take (i+1))) by rw[IL (mQ hl n1),Ej n1];unfold H3;rw[Ar];rfl),rfl⟩,Tv⟩,Fh,BN Wk⟩
  refine Yi Wk (Yi (Ii i ch) (Xi ⟨i+1,n1⟩ ?_));exact⟨Dl l.length i ch,Z5,⟨⟨(show HO.map Cm (EX (H3 (l.take i)) (.string l[i].path) (vi (place l[i].ver)))=.map Cm (H3 (l.take (i+1))) by rw[IL (mQ hl n1),Ej n1];unfold H3;rw[Ar];rfl),rfl⟩,Tv⟩,Fh,BN Wk⟩
 have h1:¬((i:Int)<((l.map Am).length:Int)):=h1;have n1:=DT h1;have ei:l.take i=l:=As (by have q:=h1;rw[Lm]at q;omega);exact Xi _ (Yi (.refl _) ⟨rfl,show Ao [(2000,HO.map Cm (H3 (l.take i)))] Af=Ao [(2000,.map Cm (H3 l))] Af by rw[ei]⟩)
theorem x6(hl:Iz l):PC 182 [.cmap Cm (H3 l),vs p] (vi (Jb l p)):=by
 refine Ps Ee Tryz.func182 rfl (Nz rfl) (Yi (fun a ha=>?_) (fun NO=>?_))
 .have ea:=uh hl ha;subst ea;exact .refl _
 exact .of_eq (show vi (-1)=vi (Jb l p) by rw[ui NO])
theorem o75(t:List ByteArray)(hl:Iz l)(zI:Iz m)(hfs:l.length+m.length<=1073741824)(Dy:l++m≠[])(hp:t.Perm ((l++m).map (·.path)))(ht:(t.map Kr).Pairwise fun a b=>a<=b):PC 130 [sl Am l,sl Am m] (.tup [sl Hr (Im l m (Cg t)),vi 0]):=by
 obtain⟨LM,te⟩:∃LM,LM=l++m:=⟨_,rfl⟩;have hm:=zI;rw[<-te]at hp;have hLl:LM.length=l.length+m.length:=by rw[te,Ac]
 refine FZ (gO ⟨[],[(14,3)],[(10,1)],[(34,[12000,12500])],[],[],[],[],[],[],[6,7,8,9,11,13,14,15,16,17,18,19,21]⟩) rfl CQ Go.Eng.hm rfl Tryz.func130 Wk rfl (Nz rfl) Wk (Xi (.gen [] 1) (Yi rfl (A9.to2 (qf l hl) ?_)));refine Xi (.gen [] 1) (Yi rfl (A9.to2 (qf m hm) ?_));refine cU [(0,sl Am l),(1,sl Am m),(6,.mref 12000),(8,.mref 12500),(10,.msl 10 0)] [(10,.arr 1 []),(12000,.map Cm (H3 l)),(12500,.map Cm (H3 m))] Z5 Z3 (Xi (.gen [] 1) (Yi rfl (A9.to2 (sU l hl.few) ?_)));have b4:Cn 4 (m.map Am)/\(l.map Am).length=(l.map Am).length/\((l.map Am).length+(m.map Am).length)*40<=140737488355328/\(l.map Am).length+(m.map Am).length<=9223372036854775807:=⟨(DZ (enc:=Am) (n:=4) (fun _=>rfl) m),rfl,(by simp only[Lm];omega),(by simp only[Lm];omega)⟩;refine Yi b4 (Xi {q:Nat×List ByteArray // q.1<=LM.length/\q.2=(LM.take q.1).map (·.path)} (Xi (fun q=>⟨[(6,.mref 12000),(8,.mref 12500),(10,.msl 10 q.1.2.length),(37,.slice (.id 13500 4) (LM.map Am)),(38,vi (LM.length:Nat)),(39,vi q.1.1)],[(10,.arr 1 (q.1.2.map AD)),(12000,.rom Cm (H3 l)),(12500,.rom Cm (H3 m)),(13500,.tok 4 LM.length)],Af⟩) (Xi (fun q=>LM.length-q.1.1) (Yi (Xi ⟨(0,[]),AE _,rfl⟩ ?_) ?_))))
 .exact⟨⟨Zr,Zr,Zr,⟨(show AV.slice (.id 13500 4) (l.map Am++m.map Am)=.slice (.id 13500 4) (LM.map Am) by rw[te,Ar]),rfl⟩,⟨(show vi ((l.map Am++m.map Am:List (List AV)).length:Int)=vi ((LM.length:Nat):Int) by rw[te,Ac,Ac,Lm,Lm]),rfl⟩,Zr,Tv⟩,⟨Zr,Zr,Zr,⟨(show HO.tok 4 ((l.map Am).length+(m.map Am).length)=.tok 4 LM.length by rw[te,Ac,Lm,Lm]),rfl⟩,Tv⟩,Fh,Tv⟩
 intro⟨⟨i,P⟩,i1,i2⟩;have i2:P=(LM.take i).map (·.path):=i2;have i3:P.length<=i:=by rw[i2,Lm,Av];omega
 refine cU [(6,.mref 12000),(8,.mref 12500),(10,.msl 10 P.length),(37,.slice (.id 13500 4) (LM.map Am)),(38,vi (LM.length:Nat)),(39,vi i)] [(10,.arr 1 (P.map AD)),(12000,.rom Cm (H3 l)),(12500,.rom Cm (H3 m)),(13500,.tok 4 LM.length)] Z6 Z4 (Yi (fun h5=>?_) (fun h5=>?_))
 .have n5:i<LM.length:=by omega
  refine cU [(6,.mref 12000),(8,.mref 12500),(10,.msl 10 P.length),(37,.slice (.id 13500 4) (LM.map Am)),(38,vi (LM.length:Nat)),(39,vi i)] [(10,.arr 1 (P.map AD)),(12000,.rom Cm (H3 l)),(12500,.rom Cm (H3 m)),(13500,.tok 4 LM.length)] Z6 Z4 (Xi (Am LM[i]) (Yi (LH n5) (Yi rfl (yN (yN (cU [(6,.mref 12000),(8,.mref 12500),(10,.msl 10 P.length),(12,.ref 12 0),(37,.slice (.id 13500 4) (LM.map Am)),(38,vi (LM.length:Nat)),(39,vi i)] [(10,.arr 1 (P.map AD)),(12,.cells (Am LM[i])),(12000,.rom Cm (H3 l)),(12500,.rom Cm (H3 m)),(13500,.tok 4 LM.length)] Z7 Z5 ?_))))))
  have b6:Cn 1 [[vs LM[i].path]]/\(P.map AD).length=P.length/\((P.map AD).length+([[vs LM[i].path]]:List (List AV)).length)*16<=140737488355328/\(P.map AD).length+([[vs LM[i].path]]:List (List AV)).length<=9223372036854775807:=⟨⟨rfl,trivial⟩,(by rw[Lm]),(by simp only[Lm,Ak,At];omega),(by simp only[Lm,Ak,At];omega)⟩;refine Yi b6 (Yi (Ii i ch) (Xi ⟨(i+1,P++[LM[i].path]),n5,by show P++[LM[i].path]=_;rw[Ej n5,Ar,i2];rfl⟩ ?_));exact⟨Dl LM.length i ch,⟨Zr,Zr,⟨(show AV.msl 10 ((P.map AD).length+([[vs LM[i].path]]:List (List AV)).length)=.msl 10 (P++[LM[i].path]).length by rw[Ac,Lm];rfl),rfl⟩,Zr,Zr,Zr,Tv⟩,⟨⟨(show HO.arr 1 (P.map AD++[[vs LM[i].path]])=.arr 1 ((P++[LM[i].path]).map AD) by rw[Ar];rfl),rfl⟩,Zr,Zr,Zr,Tv⟩,Fh,Tv⟩
 have zw:P=LM.map (·.path):=by rw[i2,As (by have q:=h5;omega)]
 have hPf:B9 P:=by unfold B9;rw[zw,Lm,te,Ac];exact hfs
 have hPn:P≠[]:=fun e=>by rw[zw]at e;exact Dy (by rw[<-te];exact DE.1 e)
 have hPt:t.length=P.length:=by rw[zw];exact hp.length_eq
 have tK:t.length<=1073741824:=by rw[hPt];exact hPf
 have htn:t≠[]:=fun e=>hPn (AP (by rw[<-hPt,e];rfl));have hcl:(Cg t).length<=t.length:=by unfold Cg;rw[Lm];exact AJ (MI _) (by rw[Lm];exact Aj _)
 refine cU [(6,.mref 12000),(8,.mref 12500),(10,.msl 10 P.length)] [(10,.arr 1 (P.map AD)),(12000,.rom Cm (H3 l)),(12500,.rom Cm (H3 m))] Z3 Z3 (Xi (.gen [(10,1000)] 0) (Yi rfl (A9.to2 (x5 P t hPf hPn (by rw[zw];exact hp) ht) ?_)));refine cU [(6,.mref 12000),(8,.mref 12500),(10,.msl 10 P.length),(13,.v (.func (.func 182) #[] #[]))] [(10,.arr 1 (t.map AD)),(12000,.rom Cm (H3 l)),(12500,.rom Cm (H3 m))] Z4 Z3 (cU [(6,.mref 12000),(8,.mref 12500),(10,.msl 10 t.length),(13,.v (.func (.func 182) #[] #[])),(14,.slice (.id 14 3) [])] [(10,.arr 1 (t.map AD)),(14,.tok 3 0),(12000,.rom Cm (H3 l)),(12500,.rom Cm (H3 m))] ⟨Zr,Zr,⟨(Aa (AV.msl 10) hPt.symm),rfl⟩,Zr,Zr,Tv⟩ Z4 (Xi (.gen [(10,1000)] 1) (Yi rfl (A9.to2 (Acm t (by unfold B9;omega) htn) ?_))));refine Xi {q:Nat×List Mv // q.1<=(Cg t).length/\q.2=Im l m ((Cg t).take q.1)} (Xi (fun q=>⟨[(6,.mref 12000),(8,.mref 12500),(13,.v (.func (.func 182) #[] #[])),(14,.slice (.id 14 3) (q.1.2.map Hr)),(52,.msl 15200 (Cg t).length),(53,vi (Cg t).length),(54,vi q.1.1)],[(14,.tok 3 q.1.2.length),(12000,.rom Cm (H3 l)),(12500,.rom Cm (H3 m)),(15200,.arr 1 ((Cg t).map AD))],Af⟩) (Xi (fun q=>(Cg t).length-q.1.1) (Yi (Xi ⟨(0,[]),AE _,rfl⟩ ?_) ?_)))
 .exact⟨Z7,Z4,Fh,Tv⟩
 intro⟨⟨k,O⟩,k1,k2⟩;have k2:O=Im l m ((Cg t).take k):=k2;have k3:O.length<=k:=by rw[k2];exact AJ (List.length_filterMap_le ..) (by rw[Av];omega)
 refine cU [(6,.mref 12000),(8,.mref 12500),(13,.v (.func (.func 182) #[] #[])),(14,.slice (.id 14 3) (O.map Hr)),(52,.msl 15200 (Cg t).length),(53,vi (Cg t).length),(54,vi k)] [(14,.tok 3 O.length),(12000,.rom Cm (H3 l)),(12500,.rom Cm (H3 m)),(15200,.arr 1 ((Cg t).map AD))] Z7 Z4 (Yi (fun d8=>?_) (fun d8=>?_))
 .have nb:k<(Cg t).length:=by omega
  have n10:=nb;have gb:(Cg t)[k]?=some (Cg t)[k]:=Ge nb;refine cU [(6,.mref 12000),(8,.mref 12500),(13,.v (.func (.func 182) #[] #[])),(14,.slice (.id 14 3) (O.map Hr)),(52,.msl 15200 (Cg t).length),(53,vi (Cg t).length),(54,vi k)] [(14,.tok 3 O.length),(12000,.rom Cm (H3 l)),(12500,.rom Cm (H3 m)),(15200,.arr 1 ((Cg t).map AD))] Z7 Z4 (Yi (by show(0:Int)<=k/\(k:Int)<((Cg t).length:Nat);omega) (Yi (show(Cg t).length=((Cg t).map AD).length by rw[Lm]) (Xi (AD ((Cg t)[k])) (Yi (Ed gb) (cU [(6,.mref 12000),(8,.mref 12500),(13,.v (.func (.func 182) #[] #[])),(14,.slice (.id 14 3) (O.map Hr)),(16,vs ((Cg t)[k])),(52,.msl 15200 (Cg t).length),(53,vi (Cg t).length),(54,vi k)] [(14,.tok 3 O.length),(12000,.rom Cm (H3 l)),(12500,.rom Cm (H3 m)),(15200,.arr 1 ((Cg t).map AD))] Z8 Z4 (Xi .pure (Xi _ (Yi (x6 l (Cg t)[k] hl) (Xi .pure (Xi _ (Yi (x6 m (Cg t)[k] hm) (yN (cU [(6,.mref 12000),(8,.mref 12500),(13,.v (.func (.func 182) #[] #[])),(14,.slice (.id 14 3) (O.map Hr)),(17,.ref 17 0),(52,.msl 15200 (Cg t).length),(53,vi (Cg t).length),(54,vi k)] [(14,.tok 3 O.length),(17,.cells [vs ((Cg t)[k]),vi (Jb l (Cg t)[k]),vi (Jb m (Cg t)[k])]),(12000,.rom Cm (H3 l)),(12500,.rom Cm (H3 m)),(15200,.arr 1 ((Cg t).map AD))] Z8 Z5 (Yi (fun Mk=>?_) (fun Mk=>?_)))))))))))))))
  .refine cU [(6,.mref 12000),(8,.mref 12500),(13,.v (.func (.func 182) #[] #[])),(14,.slice (.id 14 3) (O.map Hr)),(17,.ref 17 0),(52,.msl 15200 (Cg t).length),(53,vi (Cg t).length),(54,vi k)] [(14,.tok 3 O.length),(17,.cells [vs ((Cg t)[k]),vi (Jb l (Cg t)[k]),vi (Jb m (Cg t)[k])]),(12000,.rom Cm (H3 l)),(12500,.rom Cm (H3 m)),(15200,.arr 1 ((Cg t).map AD))] Z8 Z5 (yN (Yi (jF rfl ch Cl) (Yi (Ii k ch) ?_)));have eO:=ff (l:=l) (m:=m) n10;have eM:Jl l m (Cg t)[k]=some ⟨(Cg t)[k],(Jb l (Cg t)[k]),(Jb m (Cg t)[k])⟩:=Al Mk;rw[eM]at eO;refine Xi ⟨(k+1,(O++[(⟨(Cg t)[k],(Jb l (Cg t)[k]),(Jb m (Cg t)[k])⟩:Mv)])),n10,by show(O++[(⟨(Cg t)[k],(Jb l (Cg t)[k]),(Jb m (Cg t)[k])⟩:Mv)])=_;rw[eO,k2];rfl⟩ ?_;exact⟨by show(Cg t).length-(k+1)<(Cg t).length-k;omega,⟨Zr,Zr,Zr,⟨(show AV.slice (.id 14 3) (O.map Hr++[[vs (Cg t)[k],vi (Jb l (Cg t)[k]),vi (Jb m (Cg t)[k])]])=.slice (.id 14 3) ((O++[(⟨(Cg t)[k],(Jb l (Cg t)[k]),(Jb m (Cg t)[k])⟩:Mv)]).map Hr) by rw[Ar];rfl),rfl⟩,Zr,Zr,Zr,Tv⟩,⟨⟨hkA,rfl⟩,Zr,Zr,Zr,Tv⟩,Fh,Tv⟩
  have Mk:((Jb l (Cg t)[k]):Int)=((Jb m (Cg t)[k]):Int):=AL Mk;refine Yi (Ii k ch) ?_;have eO:=ff (l:=l) (m:=m) n10;have eM:Jl l m (Cg t)[k]=none:=Ai (fun c=>c Mk);rw[eM]at eO;rw[show(none:Option Mv).toList=[]from rfl,BP]at eO;refine Xi ⟨(k+1,O),n10,by show O=_;rw[eO,k2]⟩ ?_;exact⟨by show(Cg t).length-(k+1)<(Cg t).length-k;omega,Z7,Z4,Fh,Tv⟩
 refine cU [(14,.slice (.id 14 3) (O.map Hr))] [(14,.tok 3 O.length)] Z1 Z1 ?_
 have ek:(Cg t).take k=Cg t:=As ch;have eO:O=Im l m (Cg t):=by rw[k2,ek]
 exact .of_eq (Aa (fun z=>AV.tup [sl Hr z,vi 0]) eO)
end Go.Eng
