/- Lemmas 23. -/
import Derived.Test.YteaiieomnhbmgaaGreatDoorAA22
import Derived.Test.YteaiieomnhbmgaaGreatDoorAA17
import Derived.Test.YteaiieomnhbmgaaGreatDoorAA03
import Derived.Shelf.Sort.Plain
import Derived.Shelf.Slices.CompactS
import Derived.Ground.NamesProg
set_option maxHeartbeats 4000000
namespace Go.Eng
open Go.Proofs
variable {i:Nat}{last:Int}(name:ByteArray)(x:HS)(s user:ByteArray)
theorem TY(hb:(x.rest++s).size<=1000000000):Ba Tryz.prog 88 [.ref 1000 0,vs s] (Ap [(1000,.cells (GO x))] Ae) fun r h'=>r=.tup []/\h'=Ap [(1000,.cells (GO (G9 x s)))] Ae:=by
 refine Cu (M7 El) [(1000,1000)] rfl Da hm rfl Tryz.func88 Wk rfl (Nz rfl) Wk rfl (yN (Yi (show((x.rest.size+s.size:Nat):Int)<=9223372036854775807 by have q:=hb;rw[A2]at q;omega) (Xi {q:S8×ByteArray // Dv q.1 q.2=Dv x.v (x.rest++s)/\q.2.size<=1000000000} (Xi (fun q=>⟨[(0,.ref 1000 0),(1,vs q.1.2)],[(1000,.cells [.v (.int .u32 q.1.1.a),.v (.int .u32 q.1.1.b),.v (.int .u32 q.1.1.c),.v (.int .u32 q.1.1.d),.v (.int .u32 q.1.1.e),.v (.int .u32 q.1.1.f),.v (.int .u32 q.1.1.g),.v (.int .u32 q.1.1.h),vs x.rest,.v (.int .u64 (IntKind.wrap .u64 (x.tot+(IntKind.wrap .u64 (s.size:Int)))))])],Ae⟩) (Xi (fun q=>q.1.2.size) (Yi (Xi ⟨(x.v,x.rest++s),rfl,hb⟩ ?_) ?_))))))
 .exact⟨Z2,Z1,Fh,BT Wk⟩
 intro⟨⟨v,b⟩,v1,v2⟩;have v1:Dv v b=Dv x.v (x.rest++s):=v1;have v2:b.size<=1000000000:=v2;refine Yi (fun h1=>?_) (fun h1=>?_)
 .have h1:(64:Int)<=(b.size:Int):=h1;refine Yi (show(0:Int)<=0/\(0:Int)<=64/\(64:Int)<=(b.size:Int)from by omega) (Xi (.gen [(1000,1000)] 0) (Yi rfl (Ba.to2 (Aa5 ⟨v,x.rest,(IntKind.wrap .u64 (x.tot+(IntKind.wrap .u64 (s.size:Int))))⟩ (b.extract 0 64) (by simp only[CP];omega)) ?_)));refine Yi (show(0:Int)<=64/\(64:Int)<=(b.size:Int)/\(b.size:Int)<=(b.size:Int)from by omega) (Xi ⟨(bY v (b.extract 0 64),b.extract 64 b.size),by rw[<-v1,Dv.eq_1 v b,Al ch],by simp only[CP];omega⟩ ?_);exact⟨by show(b.extract 64 b.size).size<b.size;simp only[CP];omega,Z2,Z1,Fh,BT Wk⟩
 have h1:¬((64:Int)<=(b.size:Int)):=h1;refine Xi .pure (Xi _ (Yi (rY b v2) (yN ?_)));exact Xi _ (Yi (.refl _) ⟨rfl,show Ap [(1000,HO.cells [.v (.int .u32 v.a),.v (.int .u32 v.b),.v (.int .u32 v.c),.v (.int .u32 v.d),.v (.int .u32 v.e),.v (.int .u32 v.f),.v (.int .u32 v.g),.v (.int .u32 v.h),vs b,.v (.int .u64 (IntKind.wrap .u64 (x.tot+(IntKind.wrap .u64 (s.size:Int)))))])] Ae=Ap [(1000,.cells (GO (G9 x s)))] Ae from by rw[G9,<-v1,Dv.eq_1 v b,Aj ch]⟩)
abbrev CX(b:UInt8):List AV:=[.v (.int .u8 b.toNat)]
theorem Wj(n:Nat):(kS n).size=n:=by show(List.replicate n (0:UInt8)).toArray.size=n;simp
theorem LU(n:Int):(Fl n).size=8:=by show(List.map _ (List.range 8)).toArray.size=8;simp
theorem jO:(ER x).size<=80:=by
 rw[ER,A2,A2,Wj,LU];show 1+_+8<=80;omega
theorem cq(x:Int):[[AV.v (.int .u8 (IntKind.wrap .u8 (CZ .shr .u32 x 24)))],[.v (.int .u8 (IntKind.wrap .u8 (CZ .shr .u32 x 16)))],[.v (.int .u8 (IntKind.wrap .u8 (CZ .shr .u32 x 8)))],[.v (.int .u8 (IntKind.wrap .u8 x))]]=(Ev x).map CX:=by
 simp only[Ev,AK,Fe,CX,pf]
theorem cr(l:List Int)(i:Nat)(h:i<=8):((l.take i).flatMap Ev).length<=32:=by
 have e:∀m:List Int,(m.flatMap Ev).length=4*m.length:=fun m=>by
  induction m with
  |nil=>rfl
  |cons a m ih=>rw[List.flatMap_cons,Ac,ih];show 4+_=4*(_+1);omega
 rw[e,Au];omega
theorem Wf{l:List Int}(h:i<l.length):(l.take i).flatMap Ev++Ev (FD l i)=(l.take (i+1)).flatMap Ev:=by
 rw[Bj,We h,List.flatMap_append];simp
theorem wj(hx:x.rest.size<64):Ba Tryz.prog 90 [.ref 1000 0] (Ap [(1000,.cells (GO x))] Ae) fun r h'=>r=vs (kn x)/\h'=Ap [(1000,.cells (GO x))] Ae:=by
 refine Cu (M7 ⟨[],[(5,1)],[],[],[],[],[],[],[(28,5)],[],[]⟩) [(1000,1000)] rfl Da hm rfl Tryz.func90 Wk rfl (Nz rfl) Wk rfl (Xi (.gen [(1000,1000)] 1) (Yi rfl (Ba.to2 (oY x) ?_)));refine Yi (by show AX ((119:Int)-(x.rest.size:Int));unfold AX;omega) (Yi ⟨by omega,by omega⟩ ?_);refine Xi _ (Yi (o7 (((119-x.rest.size) % 64:Int)) ch ch) (Yi (show(((⟨#[128]⟩:ByteArray).size+(kS (((119-x.rest.size) % 64:Int)).toNat).size:Nat):Int)<=9223372036854775807 by have q:(⟨#[128]⟩:ByteArray).size=1:=rfl;simp only[Wj];omega) ?_));refine Xi _ (Yi (o6 (IntKind.wrap .u64 (8*x.tot))) (Yi (show(((⟨#[128]⟩++(kS (((119-x.rest.size) % 64:Int)).toNat):ByteArray).size+(Fl (IntKind.wrap .u64 (8*x.tot))).size:Nat):Int)<=9223372036854775807 by have q:(⟨#[128]⟩:ByteArray).size=1:=rfl;simp only[A2,Wj,LU];omega) ?_));refine Xi [(10900,1000)] (Xi [(1000,.cells (GO x))] (Xi [(1000,.cells (GO (G9 x (ER x))))] (Xi [.ref 1000 0,vs (ER x)] (Xi (.tup []:AV) (Yi (fun h2 hh=>Yi ((Aa (fun o:HO=>Ap [(1000,o.ren (CF [(10900,1000)]) h2)] Ae) (show h2 10900=.cells (GO x)from hh 10900 Cl)).trans rfl) rfl) (Yi Wk (Yi (TY x (ER x) (by rw[A2];have q:=jO x;omega)) ?_)))))));refine Yi Wk (yN (Xi {q:Nat // q<=8} (Xi (fun q=>⟨[(5,.slice (.id 5 1) ((((S8.l (G9 x (ER x)).v).take q.1).flatMap Ev).map CX)),(32,.agg [.v (.int .u32 (G9 x (ER x)).v.a),.v (.int .u32 (G9 x (ER x)).v.b),.v (.int .u32 (G9 x (ER x)).v.c),.v (.int .u32 (G9 x (ER x)).v.d),.v (.int .u32 (G9 x (ER x)).v.e),.v (.int .u32 (G9 x (ER x)).v.f),.v (.int .u32 (G9 x (ER x)).v.g),.v (.int .u32 (G9 x (ER x)).v.h)]),(33,vi q.1)],[(5,.tok 1 ((((S8.l (G9 x (ER x)).v).take q.1).flatMap Ev).map CX).length),(1000,.cells (GO x))],Ae⟩) (Xi (fun q=>8-q.1) (Yi (Xi ⟨0,Ax _⟩ ?_) ?_)))))
 .exact⟨Z3,Z2,Fh,BT Wk⟩
 intro⟨i,i1⟩;have i1:i<=8:=i1;refine Yi (fun h1=>?_) (fun h1=>?_)
 .have h1:(i:Int)<(8:Int):=h1;have hlw:=cr (S8.l (G9 x (ER x)).v) i i1;refine Yi (show(0:Int)<=i/\(i:Int)<(8:Nat)from by omega) (HH (su (v:=(G9 x (ER x)).v) (show i<8 by omega) (show((i:Int).toNat*1)=i by omega)) (Yi Cl (Yi Cl (Yi Cl ?_))));have b2:B5 1 [[.v (.int .u8 (IntKind.wrap .u8 (CZ .shr .u32 (S8.n (G9 x (ER x)).v i) 24)))],[.v (.int .u8 (IntKind.wrap .u8 (CZ .shr .u32 (S8.n (G9 x (ER x)).v i) 16)))],[.v (.int .u8 (IntKind.wrap .u8 (CZ .shr .u32 (S8.n (G9 x (ER x)).v i) 8)))],[.v (.int .u8 (IntKind.wrap .u8 (S8.n (G9 x (ER x)).v i)))]]/\((((S8.l (G9 x (ER x)).v).take i).flatMap Ev).map CX).length=((((S8.l (G9 x (ER x)).v).take i).flatMap Ev).map CX).length/\(((((S8.l (G9 x (ER x)).v).take i).flatMap Ev).map CX).length+([[.v (.int .u8 (IntKind.wrap .u8 (CZ .shr .u32 (S8.n (G9 x (ER x)).v i) 24)))],[.v (.int .u8 (IntKind.wrap .u8 (CZ .shr .u32 (S8.n (G9 x (ER x)).v i) 16)))],[.v (.int .u8 (IntKind.wrap .u8 (CZ .shr .u32 (S8.n (G9 x (ER x)).v i) 8)))],[.v (.int .u8 (IntKind.wrap .u8 (S8.n (G9 x (ER x)).v i)))]]:List (List AV)).length)*1<=140737488355328/\((((S8.l (G9 x (ER x)).v).take i).flatMap Ev).map CX).length+([[.v (.int .u8 (IntKind.wrap .u8 (CZ .shr .u32 (S8.n (G9 x (ER x)).v i) 24)))],[.v (.int .u8 (IntKind.wrap .u8 (CZ .shr .u32 (S8.n (G9 x (ER x)).v i) 16)))],[.v (.int .u8 (IntKind.wrap .u8 (CZ .shr .u32 (S8.n (G9 x (ER x)).v i) 8)))],[.v (.int .u8 (IntKind.wrap .u8 (S8.n (G9 x (ER x)).v i)))]]:List (List AV)).length<=9223372036854775807:=⟨⟨rfl,rfl,rfl,rfl,trivial⟩,rfl,(by simp only[Lm,Ag,Ao];omega),(by simp only[Lm,Ag,Ao];omega)⟩;refine Yi b2 (Yi (Ii i ch) ?_);have ew:(((((S8.l (G9 x (ER x)).v).take i).flatMap Ev).map CX++[[AV.v (.int .u8 (IntKind.wrap .u8 (CZ .shr .u32 (S8.n (G9 x (ER x)).v i) 24)))],[.v (.int .u8 (IntKind.wrap .u8 (CZ .shr .u32 (S8.n (G9 x (ER x)).v i) 16)))],[.v (.int .u8 (IntKind.wrap .u8 (CZ .shr .u32 (S8.n (G9 x (ER x)).v i) 8)))],[.v (.int .u8 (IntKind.wrap .u8 (S8.n (G9 x (ER x)).v i)))]])=(((S8.l (G9 x (ER x)).v).take (i+1)).flatMap Ev).map CX):=by rw[cq,<-As];exact Aa (List.map CX) (Wf (show i<8 by omega))
  refine Xi ⟨i+1,by omega⟩ ?_;exact⟨Dl 8 i ch,⟨⟨(Aa (AV.slice (.id 5 1)) ew),rfl⟩,Zr,Zr,Tv⟩,⟨⟨(show HO.tok 1 (((((S8.l (G9 x (ER x)).v).take i).flatMap Ev).map CX).length+([[.v (.int .u8 (IntKind.wrap .u8 (CZ .shr .u32 (S8.n (G9 x (ER x)).v i) 24)))],[.v (.int .u8 (IntKind.wrap .u8 (CZ .shr .u32 (S8.n (G9 x (ER x)).v i) 16)))],[.v (.int .u8 (IntKind.wrap .u8 (CZ .shr .u32 (S8.n (G9 x (ER x)).v i) 8)))],[.v (.int .u8 (IntKind.wrap .u8 (S8.n (G9 x (ER x)).v i)))]]:List (List AV)).length)=.tok 1 ((((S8.l (G9 x (ER x)).v).take (i+1)).flatMap Ev).map CX).length from Aa (HO.tok 1) (Ac.symm.trans (Aa List.length ew))),rfl⟩,Zr,Tv⟩,Fh,BT Wk⟩
 have h1:¬((i:Int)<(8:Int)):=h1;refine Xi (((S8.l (G9 x (ER x)).v)).flatMap Ev) (Yi (show((((S8.l (G9 x (ER x)).v).take i).flatMap Ev).map CX)=(((S8.l (G9 x (ER x)).v)).flatMap Ev).map CX by rw[show i=8 by omega];rfl) ?_);exact Xi _ (Yi (.refl _) Zr)
theorem WV:∀(n:Nat) (v:S8) (b:ByteArray),b.size<=n->(Dv v b).2.size<64
 |0,v,b,h=>by rw[Dv,Aj ch];show b.size<64;omega
 |n+1,v,b,h=>by
  rw[Dv];split
  .exact WV n _ _ (by simp only[CP];omega)
  .show b.size<64;omega
theorem ZA:(G9 x s).rest.size<64:=WV _ _ _ (Ak _)
theorem gP{x:HS}(hx:x.rest.size<64):∀l:List ByteArray,(Oh x l).rest.size<64:=fun l=>by
 unfold Oh
 induction l generalizing x with
 |nil=>exact hx
 |cons a l ih=>exact ih (ZA _ _)
theorem ko(l:List ByteArray)(i:Nat)(h:i<l.length):Oh x (l.take (i+1))=G9 (G9 (Oh x (l.take i)) (Fl (IntKind.wrap .u64 (l[i].size:Int)))) l[i]:=by
 rw[BM h,Oh,Ef];rfl
theorem X8:(kn x).size=32:=by
 have e:∀m:List Int,(m.flatMap Ev).length=4*m.length:=fun m=>by
  induction m with
  |nil=>rfl
  |cons a m ih=>rw[List.flatMap_cons,Ac,ih];show 4+_=4*(_+1);omega
 show((((G9 x (ER x)).v.l).flatMap Ev).toArray).size=32;rw[DV,e];rfl
def LH(d:ByteArray):Nat->Int
 |0=>0
 |i+1=>CW .or .u64 (CZ .shl .u64 (LH d i) 8) (IntKind.wrap .u64 ((DB d i).toNat:Int))
def OW:Int:=LH (Rc ⟨#[99,111,104,111,114,116]⟩ [name,user]) 8 % 100
theorem ac(d:ByteArray)(i:Nat):0<=LH d i:=by
 cases i with
 |zero=>exact Bu 0
 |succ i=>exact Wh _
theorem fw:0<=OW name user/\OW name user<100:=⟨In _ Cl,PA _ Cl⟩
theorem o9(tag:ByteArray)(l:List ByteArray)(hn:l.length<=1000000)(ht:tag.size<=100000000)(hl:∀s∈l,s.size<=100000000):PC 48 [vs tag,sl AB l] (vs (Rc tag l)):=by
 refine Ps El Tryz.func48 rfl (Nz rfl) (Xi (.gen [] 1) (Yi rfl (Ba.to2 Aag ?_)));refine Xi .pure (Xi _ (Yi (o6 (IntKind.wrap .u64 tag.size)) (Yi (show(((Fl (IntKind.wrap .u64 (tag.size:Int))).size+tag.size:Nat):Int)<=9223372036854775807 by rw[LU];omega) ?_)));refine Xi (.gen [(10800,1000)] 0) (Yi rfl (Ba.to2 (TY QE ((Fl (IntKind.wrap .u64 tag.size))++tag) (by rw[A2];have q:=LU (IntKind.wrap .u64 (tag.size:Int));rw[A2];show 0+_<=_;omega)) ?_));refine Xi {q:Nat // q<=l.length} (Xi (fun q=>⟨[(5,.ref 10800 0),(17,sl AB l),(18,vi (l.map AB).length),(19,vi q.1)],[(10800,.cells (GO (Oh (G9 QE (Fl (IntKind.wrap .u64 (tag.size:Int))++tag)) (l.take q.1))))],Ae⟩) (Xi (fun q=>l.length-q.1) (Yi (Xi ⟨0,Ax _⟩ ?_) ?_)))
 .exact⟨Z4,Z1,Fh,Tv⟩
 intro⟨i,i1⟩;have i1:i<=l.length:=i1;refine Yi (fun h1=>?_) (fun h1=>?_)
 .have h1:(i:Int)<((l.map AB).length:Int):=h1;have n1:=FO h1;refine Xi (AB l[i]) (Yi (JL n1) (Yi rfl (Xi .pure (Xi _ (Yi (o6 (IntKind.wrap .u64 l[i].size)) (Xi (.gen [(10800,1000)] 0) (Yi rfl (Ba.to2 (TY (Oh (G9 QE (Fl (IntKind.wrap .u64 (tag.size:Int))++tag)) (l.take i)) (Fl (IntKind.wrap .u64 l[i].size)) (by rw[A2];have q:=gP (ZA QE (Fl (IntKind.wrap .u64 (tag.size:Int))++tag)) (l.take i);have q2:=LU (IntKind.wrap .u64 (l[i].size:Int));omega)) ?_))))))));refine Xi (.gen [(10800,1000)] 0) (Yi rfl (Ba.to2 (TY (G9 (Oh (G9 QE (Fl (IntKind.wrap .u64 (tag.size:Int))++tag)) (l.take i)) (Fl (IntKind.wrap .u64 l[i].size))) l[i] (by rw[A2];have q:=ZA (Oh (G9 QE (Fl (IntKind.wrap .u64 (tag.size:Int))++tag)) (l.take i)) (Fl (IntKind.wrap .u64 (l[i].size:Int)));have q2:=hl l[i] (Aq n1);omega)) ?_));refine Yi (Ii i ch) (Xi ⟨i+1,by omega⟩ ?_);exact⟨Dl l.length i ch,Z4,⟨⟨(show HO.cells (GO (G9 (G9 (Oh (G9 QE (Fl (IntKind.wrap .u64 (tag.size:Int))++tag)) (l.take i)) (Fl (IntKind.wrap .u64 l[i].size))) l[i]))=.cells (GO (Oh (G9 QE (Fl (IntKind.wrap .u64 (tag.size:Int))++tag)) (l.take (i+1))))from Aa (fun z=>HO.cells (GO z)) (ko _ l i n1).symm),rfl⟩,Tv⟩,Fh,Tv⟩
 have h1:¬((i:Int)<((l.map AB).length:Int)):=h1;have n1:=DP h1;refine Xi (.gen [(10800,1000)] 0) (Yi rfl (Ba.to2 (wj (Oh (G9 QE (Fl (IntKind.wrap .u64 (tag.size:Int))++tag)) (l.take i)) (gP (ZA _ _) _)) ?_));have e:l.take i=l:=At ch;exact CV.of_eq (Aa (fun z=>vs (kn (Oh (G9 QE (Fl (IntKind.wrap .u64 (tag.size:Int))++tag)) z))) e)
theorem wd(d:ByteArray)(hs:d.size=32)(hd:PC 48 [vs ⟨#[99,111,104,111,114,116]⟩,sl AB [name,user]] (vs d)):PC 15 [vs name,vs user] (vi (LH d 8 % 100)):=by
 refine Ps El Tryz.func15 rfl (Nz rfl) (Xi .pure (Xi _ (Yi hd (Xi {q:Nat // q<=8} (Xi (fun q=>⟨[(5,vs d),(6,.v (.int .u64 (LH d q.1))),(14,vi (min 8 d.size)),(15,vi q.1)],[],Ae⟩) (Xi (fun q=>8-q.1) (Yi (Xi ⟨0,Ax _⟩ ?_) ?_)))))))
 .exact⟨Z4,Tv,Fh,Tv⟩
 intro⟨i,i1⟩;have i1:i<=8:=i1;refine Yi (fun h1=>?_) (fun h1=>?_)
 .have h1:(i:Int)<(min 8 d.size:Int):=h1;refine Yi Cl (Xi (DB d i) (Yi (L7 (z:=(i:Int)) (show i<d.size by omega) rfl) (Yi (Ii i ch) (Xi ⟨i+1,by omega⟩ ?_))));exact⟨Dl 8 i ch,Z4,Tv,Fh,Tv⟩
 have h1:¬((i:Int)<(min 8 d.size:Int)):=h1;refine Yi (show 0<=LH d i/\(0:Int)<100 from⟨ac _ _,by decide⟩) (Yi (show AX (LH d i % 100) by unfold AX;have q1:=In (LH d i) (show(100:Int)≠0 by decide);have q2:=PA (LH d i) (show(0:Int)<100 by decide);omega) ?_);have e:i=8:=by omega
 subst e;exact .refl _
theorem oW(h1:name.size<=100000000)(h2:user.size<=100000000):PC 15 [vs name,vs user] (vi (OW name user)):=
 wd name user _ (X8 _) (o9 _ _ (show 2<=1000000 by omega) Cl (fun s hs=>by
  rcases AA.1 hs with e | hs
  .rw[e];exact h1
  .rw[Ar.1 hs];exact h2))
structure Ud where
 (t p:Int)
variable (l:List Ud)
abbrev Cr(s:Ud):List AV:=[vi s.t,vi s.p]
def Og(last:Int):List Ud->Int
 | []=>0
 |s::r=>if s.t<=last\/s.p<0\/100<s.p then 1 else Og s.t r
def BI:Int:=if 1024<l.length then 7 else Og (-1) l
def N5(Bn o:Int)(s:Ud):Int:=if s.t<=Bn then s.p else o
def I3(Bn:Int):Int:=l.foldl (N5 Bn) 0
theorem QP{l:List Ud}{Bn:Int}(h:i<l.length):I3 (l.take (i+1)) Bn=N5 Bn (I3 (l.take i) Bn) l[i]:=by
 rw[BM h,I3,Ef];rfl
theorem Zq{l:List Ud}(h:i<l.length)(h1:¬(l[i].t<=last\/l[i].p<0\/100<l[i].p)):Og last (l.drop i)=Og l[i].t (l.drop (i+1)):=by
 rw[AH h,Og,Aj h1]
theorem MA{l:List Ud}(h:i<l.length)(h1:l[i].t<=last\/l[i].p<0\/100<l[i].p):Og last (l.drop i)=1:=by
 rw[AH h,Og,Al h1]
theorem NF(hl:Cb l):PC 13 [sl Cr l] (vi (BI l)):=by
 have hl:l.length<=1073741824:=hl;refine Ps El Tryz.func13 rfl (Nz rfl) (Yi (fun h1=>?_) (fun h1=>?_))
 .have h1:(1024:Int)<((l.map Cr).length:Int):=h1;have n1:1024<l.length:=by have q:=h1;rw[Lm]at q;omega
  exact CV.of_eq (Aa vi (show 7=BI l by rw[BI,Al ch]))
 have h1:¬((1024:Int)<((l.map Cr).length:Int)):=h1;have n1:¬1024<l.length:=by have q:=h1;rw[Lm]at q;omega
 refine Xi {q:Nat×Int // q.1<=l.length/\Og q.2 (l.drop q.1)=Og (-1) l} (Xi (fun q=>⟨[(3,vi q.1.2),(9,sl Cr l),(10,vi (l.map Cr).length),(11,vi q.1.1)],[],Ae⟩) (Xi (fun q=>l.length-q.1.1) (Yi (Xi ⟨(0,-1),Ax _,rfl⟩ ?_) ?_)))
 .exact⟨Z4,Tv,Fh,Tv⟩
 intro⟨⟨i,la⟩,i1,i2⟩;have i1:i<=l.length:=i1;have i2:Og la (l.drop i)=Og (-1) l:=i2;refine Yi (fun h3=>?_) (fun h3=>?_)
 .have h3:(i:Int)<((l.map Cr).length:Int):=h3;have n3:=FO h3;refine Xi (Cr l[i]) (Yi (JL n3) (Yi rfl (yN (yN (Yi (fun h4=>?_) (fun h4=>?_))))))
  .have h4:(l[i].t:Int)<=(la:Int):=h4;exact CV.of_eq (Aa vi (show 1=BI l by rw[BI,Aj ch,<-i2,MA n3 ch]))
  have h4:¬((l[i].t:Int)<=(la:Int)):=h4;refine Yi (fun h6=>?_) (fun h6=>?_)
  .have h6:(l[i].p:Int)<(0:Int):=h6;exact CV.of_eq (Aa vi (show 1=BI l by rw[BI,Aj ch,<-i2,MA n3 ch]))
  have h6:¬((l[i].p:Int)<(0:Int)):=h6;refine Yi (fun h8=>?_) (fun h8=>?_)
  .have h8:(100:Int)<(l[i].p:Int):=h8;exact CV.of_eq (Aa vi (show 1=BI l by rw[BI,Aj ch,<-i2,MA n3 ch]))
  have h8:¬((100:Int)<(l[i].p:Int)):=h8;refine Yi (Ii i ch) (Xi ⟨(i+1,l[i].t),n3,by rw[<-i2,Zq n3 ch]⟩ ?_);exact⟨Dl l.length i ch,Z4,Tv,Fh,Tv⟩
 have h3:¬((i:Int)<((l.map Cr).length:Int)):=h3;have n3:=DP h3;exact CV.of_eq (Aa vi (show 0=BI l by rw[BI,Aj ch,<-i2,Ce ch];rfl))
theorem tg(Bn:Int)(hl:Cb l):PC 47 [sl Cr l,vi Bn] (vi (I3 l Bn)):=by
 have hl:l.length<=1073741824:=hl;refine Ps El Tryz.func47 rfl (Nz rfl) (Xi {q:Nat // q<=l.length} (Xi (fun q=>⟨[(1,vi Bn),(5,vi (I3 (l.take q.1) Bn)),(8,sl Cr l),(9,vi (l.map Cr).length),(10,vi q.1)],[],Ae⟩) (Xi (fun q=>l.length-q.1) (Yi (Xi ⟨0,Ax _⟩ ?_) ?_))))
 .exact⟨Z5,Tv,Fh,Tv⟩
 intro⟨i,i1⟩;have i1:i<=l.length:=i1;refine Yi (fun h1=>?_) (fun h1=>?_)
 .have h1:(i:Int)<((l.map Cr).length:Int):=h1;have n1:=FO h1;refine Xi (Cr l[i]) (Yi (JL n1) (Yi rfl (yN (yN (Yi (fun h2=>?_) (fun h2=>?_))))))
  .have h2:(l[i].t:Int)<=(Bn:Int):=h2;refine Yi (Ii i ch) (Xi ⟨i+1,n1⟩ ?_);exact⟨Dl l.length i ch,⟨Zr,⟨(Aa vi (show l[i].p=I3 (l.take (i+1)) Bn by rw[QP n1,N5,Al h2])),rfl⟩,Zr,Zr,Zr,Tv⟩,Tv,Fh,Tv⟩
  have h2:¬((l[i].t:Int)<=(Bn:Int)):=h2;refine Yi (Ii i ch) (Xi ⟨i+1,n1⟩ ?_);exact⟨Dl l.length i ch,⟨Zr,⟨(Aa vi (show(I3 (l.take i) Bn)=I3 (l.take (i+1)) Bn by rw[QP n1,N5,Aj h2])),rfl⟩,Zr,Zr,Zr,Tv⟩,Tv,Fh,Tv⟩
 have h1:¬((i:Int)<((l.map Cr).length:Int)):=h1;have n1:=DP h1;exact CV.of_eq (Aa (fun z=>vi (I3 z Bn)) (At (Bm (DP h1))))
def J3(Bn:Int):Int:=if BI l=0 then I3 l Bn else 0
theorem gT(Bn:Int)(hl:Cb l):PC 11 [sl Cr l,vi Bn] (.tup [vi (J3 l Bn),vi (BI l)]):=by
 refine Ps El Tryz.func11 rfl (Nz rfl) (Xi .pure (Xi _ (Yi (NF l hl) (Yi (fun h1=>?_) (fun h1=>?_)))))
 .have h1:((BI l):Int)≠(0:Int):=h1;exact CV.of_eq (show AV.tup [vi 0,vi (BI l)]=.tup [vi (J3 l Bn),vi (BI l)] by rw[J3,Aj h1])
 have h1:((BI l):Int)=(0:Int):=AJ h1;refine Xi .pure (Xi _ (Yi (tg l Bn hl) ?_));exact CV.of_eq (show AV.tup [vi (I3 l Bn),vi 0]=.tup [vi (J3 l Bn),vi (BI l)] by rw[J3,Al h1,h1])
end Go.Eng
namespace Go.Proofs
open Go.Shelf
def Tryz.laySortStr_ren:Go.Shelf.Ren:=⟨fun | 190=>99 | 125=>161 | 258=>160 | 128=>228 | 129=>229 | 302=>220 | 303=>221 | 304=>222 | 305=>223 | 306=>224 | 307=>225 | 308=>159 | 309=>226 | 310=>227 | 333=>276 | 329=>277 | 330=>278 | 334=>279 | 335=>280 | 336=>198 | 344=>319 | n=>n,fun | 31=>52 | 9=>9 | 3=>3 | 46=>99 | 0=>0 | 51=>229 | 53=>98 | 4=>4 | 183=>316 | 182=>315 | 131=>214 | 5=>5 | 218=>357 | 222=>361 | 228=>389 | 229=>390 | n=>n,fun | n=>n⟩
theorem Tryz.laySortStr:Go.Proofs.Lays.n190 Tryz.prog Tryz.laySortStr_ren:={
 mixed:=by kernel_rfl
 f125:=Tryz.func161.trans (congrArg some Go.Eng.Wk)
 f128:=Tryz.func228.trans (congrArg some Go.Eng.Wk)
 f129:=Tryz.func229.trans (congrArg some Go.Eng.Wk)
 f190:=Tryz.func99.trans (congrArg some Go.Eng.Wk)
 f258:=Tryz.func160.trans (congrArg some Go.Eng.Wk)
 f302:=Tryz.func220.trans (congrArg some Go.Eng.Wk)
 f303:=Tryz.func221.trans (congrArg some Go.Eng.Wk)
 f304:=Tryz.func222.trans (congrArg some Go.Eng.Wk)
 f305:=Tryz.func223.trans (congrArg some Go.Eng.Wk)
 f306:=Tryz.func224.trans (congrArg some Go.Eng.Wk)
 f307:=Tryz.func225.trans (congrArg some Go.Eng.Wk)
 f308:=Tryz.func159.trans (congrArg some Go.Eng.Wk)
 f309:=Tryz.func226.trans (congrArg some Go.Eng.Wk)
 f310:=Tryz.func227.trans (congrArg some Go.Eng.Wk)
 f329:=Tryz.func277.trans (congrArg some Go.Eng.Wk)
 f330:=Tryz.func278.trans (congrArg some Go.Eng.Wk)
 f333:=Tryz.func276.trans (congrArg some Go.Eng.Wk)
 f334:=Tryz.func279.trans (congrArg some Go.Eng.Wk)
 f335:=Tryz.func280.trans (congrArg some Go.Eng.Wk)
 f336:=Tryz.func198.trans (congrArg some Go.Eng.Wk)
 f344:=Tryz.func319.trans (congrArg some Go.Eng.Wk)
 t0:=Tryz.underlying0
 a0:=Tryz.isAgg0
 z0:=Tryz.sizeOf0
 v0:=Tryz.zeroValue0
 t3:=Tryz.underlying3
 a3:=Tryz.isAgg3
 z3:=Tryz.sizeOf3
 v3:=Tryz.zeroValue3
 t4:=Tryz.underlying4
 a4:=Tryz.isAgg4
 z4:=Tryz.sizeOf4
 v4:=Tryz.zeroValue4
 t5:=Tryz.underlying5
 a5:=Tryz.isAgg5
 z5:=Tryz.sizeOf5
 v5:=Tryz.zeroValue5
 t9:=Tryz.underlying9
 a9:=Tryz.isAgg9
 z9:=Tryz.sizeOf9
 v9:=Tryz.zeroValue9
 t31:=Tryz.underlying52
 a31:=Tryz.isAgg52
 z31:=Tryz.sizeOf52
 v31:=Tryz.zeroValue52
 t46:=Tryz.underlying99
 a46:=Tryz.isAgg99
 z46:=Tryz.sizeOf99
 v46:=Tryz.zeroValue99
 t51:=Tryz.underlying229
 a51:=Tryz.isAgg229
 z51:=Tryz.sizeOf229
 v51:=Tryz.zeroValue229
 t53:=Tryz.underlying98
 a53:=Tryz.isAgg98
 z53:=Tryz.sizeOf98
 v53:=Tryz.zeroValue98
 t131:=Tryz.underlying214
 a131:=Tryz.isAgg214
 z131:=Tryz.sizeOf214
 v131:=Tryz.zeroValue214
 t182:=Tryz.underlying315
 a182:=Tryz.isAgg315
 z182:=Tryz.sizeOf315
 v182:=Tryz.zeroValue315
 t183:=Tryz.underlying316
 a183:=Tryz.isAgg316
 z183:=Tryz.sizeOf316
 v183:=Tryz.zeroValue316
 t218:=Tryz.underlying357
 a218:=Tryz.isAgg357
 z218:=Tryz.sizeOf357
 v218:=Tryz.zeroValue357
 t222:=Tryz.underlying361
 a222:=Tryz.isAgg361
 z222:=Tryz.sizeOf361
 v222:=Tryz.zeroValue361
 t228:=Tryz.underlying389
 a228:=Tryz.isAgg389
 z228:=Tryz.sizeOf389
 v228:=Tryz.zeroValue389
 t229:=Tryz.underlying390
 a229:=Tryz.isAgg390
 z229:=Tryz.sizeOf390
 v229:=Tryz.zeroValue390 }
def Tryz.layCompactStr_ren:Go.Shelf.Ren:=⟨fun | 194=>183 | n=>n,fun | 31=>52 | 9=>9 | 3=>3 | 4=>4 | 0=>0 | n=>n,fun | n=>n⟩
theorem Tryz.layCompactStr:Go.Proofs.Lays.n194 Tryz.prog Tryz.layCompactStr_ren:={
 mixed:=by kernel_rfl
 f194:=Tryz.func183.trans (congrArg some Go.Eng.Wk)
 t0:=Tryz.underlying0
 a0:=Tryz.isAgg0
 z0:=Tryz.sizeOf0
 v0:=Tryz.zeroValue0
 t3:=Tryz.underlying3
 a3:=Tryz.isAgg3
 z3:=Tryz.sizeOf3
 v3:=Tryz.zeroValue3
 t4:=Tryz.underlying4
 a4:=Tryz.isAgg4
 z4:=Tryz.sizeOf4
 v4:=Tryz.zeroValue4
 t9:=Tryz.underlying9
 a9:=Tryz.isAgg9
 z9:=Tryz.sizeOf9
 v9:=Tryz.zeroValue9
 t31:=Tryz.underlying52
 a31:=Tryz.isAgg52
 z31:=Tryz.sizeOf52
 v31:=Tryz.zeroValue52 }
end Go.Proofs
namespace Go.Eng
open Go.Proofs Go.Shelf Go.RowKit Go.Lib Go.Sort
variable (ss:List ByteArray)(zs:List (List UInt8))(s:ByteArray)
abbrev KP:List UInt8:=s.data.toList
abbrev SB(l:List UInt8):ByteArray:=⟨l.toArray⟩
theorem p8:SB (KP s)=s:=by cases s;simp
theorem NR:((zs.map SB).map AB).flatten=(zs.map Go.Proofs.encStr).map AV.v:=by
 induction zs with
 |nil=>rfl
 |cons z zs ih=>rw[AK,AK,BD,ih];rfl
theorem YA:(ss.map KP).map SB=ss:=by
 rw[Bs,show SB ∘ KP=id from funext p8,Gk]
theorem zp(t:List ByteArray)(hl:Cb ss)(DH:ss≠[])(hp:t.Perm ss)(ht:(t.map KP).Pairwise fun a b=>a<=b) :
  Ba Tryz.prog 99 [.msl 1000 ss.length] (Ap [(1000,.arr 1 (ss.map AB))] Ae) fun r h'=>r=.tup []/\h'=Ap [(1000,.arr 1 (t.map AB))] Ae:=by
 have hE:F6 Tryz.prog 99:=au 99 Tryz.func99 Wk rfl;obtain⟨zs,hz⟩:∃zs,zs=ss.map KP:=⟨_,rfl⟩;have EZ:ss=zs.map SB:=by rw[hz,YA]
 have Ia:=Rn (P:=Tryz.prog) (f:=99) (es:=ss.map AB) (sz:=1) (rest:=[]) (Q:=fun F5=>F5=t.map AB) hE ?_ ?_
 .rw[Lm]at Ia;refine⟨hE,fun g w vals q1 q2 q3=>(Ia.2 g w vals q1 q2 q3).mono fun _ _ ⟨v,r,h',g',e1,⟨e2,F5,p1,p3⟩,rest⟩=>⟨v,r,h',g',e1,⟨e2,by rw[p3,p1]⟩,rest⟩⟩
 .intro e;exact absurd (DN.1 e) DH
 .intro g w b cap F hr hF hH hb;have xZ:F.toList=zs.map Go.Proofs.encStr:=Mx (by rw[<-NR,<-EZ];exact hr);have mq:F=zs.toArray.map Go.Proofs.encStr:=Jv.1 (by rw[xZ];simp);have Oe:zs.length=ss.length:=by rw[hz,Lm]
  have x5:Holds Go.Proofs.encStr w b 0 zs.toArray:=fun j hj=>by
   have:=hH j (by rw[mq];simpa using hj)
   refine⟨this.1.trans ?_,this.2⟩;rw[mq,D2 _ j (by simpa using hj),D2 _ j hj];simp
  have hc:=Any.slices_Sort_string Tryz.laySortStr b 0 cap zs w x5 hb ch;have htz:(zs.mergeSort fun x y=>decide (x<=y))=t.map KP:=by
   have JJ:(zs.mergeSort fun x y=>decide (x<=y)).Perm zs:=Ok _ _;have y0:=KN (le:=fun x y:List UInt8=>decide (x<=y)) (fun a b c h1 h2=>by simp only[AC]at *;exact List.le_trans h1 h2) (fun a b=>by simp only[CN,AC];exact List.le_total a b) zs;refine List.Perm.eq_of_pairwise (le:=fun a b=>a<=b) (fun a b _ _ h k=>List.le_antisymm h k) (y0.imp fun h=>AU h) ht (JJ.trans ?_);rw[hz];exact(hp.map KP).symm
  rw[htz,Oe]at hc;rw[Lm];refine hc.mono ?_
  rintro e w' ⟨rfl,n,os,rfl⟩
  have Du:t.length=ss.length:=hp.length_eq;refine⟨rfl,(t.map KP).toArray.map Go.Proofs.encStr,t.map AB,n,os,?_,rfl,by simp[Du],fun cs hcs=>?_,fun g w _=>?_,by rw[RV]⟩
  .rw[mq];simp[Du,Oe]
  .obtain⟨x,_,rfl⟩:=Ai.1 hcs;rfl
  .have e1:t.map AB=((t.map KP).map SB).map AB:=by rw[YA]
   rw[e1,NR];have e:(((t.map KP).toArray.map Go.Proofs.encStr).toList)=(t.map KP).map Go.Proofs.encStr:=by simp
   rw[e];exact N8 _ _ _ _ fun x hx=>by
    obtain⟨z,_,rfl⟩:=Ai.1 hx;rfl
def Cm:List ByteArray:=(Lib.compact (ss.map KP)).map SB
theorem M5:(Lib.compact zs).length<=zs.length:=by
 unfold Lib.compact Lib.compactUpTo;rw[Lm];exact AI (Bw _ _) (by rw[GV];exact Ak _)
theorem Adw(hl:Cb ss)(DH:ss≠[]) :
  Ba Tryz.prog 183 [.msl 1000 ss.length] (Ap [(1000,.arr 1 (ss.map AB))] Ae) fun r h'=>r=.msl 2000 (Cm ss).length/\h'=Ap [(1000,.dead),(2000,.arr 1 ((Cm ss).map AB))] Ae:=by
 have hE:F6 Tryz.prog 183:=au 183 Tryz.func183 Wk rfl;obtain⟨zs,hz⟩:∃zs,zs=ss.map KP:=⟨_,rfl⟩;have EZ:ss=zs.map SB:=by rw[hz,YA]
 have Oe:zs.length=ss.length:=by rw[hz,Lm]
 have hcl:=M5 zs;have Ia:=WW (P:=Tryz.prog) (f:=183) (es:=ss.map AB) (sz:=1) (rest:=[]) (n':=(Lib.compact zs).length) (Q:=fun F5=>F5=((Lib.compact zs++List.replicate (zs.length-(Lib.compact zs).length) []).map SB).map AB) hE (fun e=>DH (DN.1 e)) (by rw[Lm];omega) ?_
 .rw[Lm]at Ia;have ez:Cm ss=(Lib.compact zs).map SB:=by unfold Cm;rw[hz]
  refine⟨hE,fun g w vals q1 q2 q3=>(Ia.2 g w vals q1 q2 q3).mono fun _ _ ⟨x,r,h',g',e1,⟨e2,F5,p1,p2⟩,rest⟩=>⟨x,r,h',g',e1,⟨by rw[e2,ez,Lm],by
   rw[p2,p1,ez,As,As,H2 (by rw[Lm,Lm];exact Ak _),At (by rw[Lm,Lm];exact Ak _)]⟩,rest⟩⟩
 .intro g w b cap F hr hF hH hb hc;rw[Lm]at hF hc⊢;have xZ:F.toList=zs.map Go.Proofs.encStr:=Mx (by rw[<-NR,<-EZ];exact hr);have mq:F=zs.toArray.map Go.Proofs.encStr:=Jv.1 (by rw[xZ];simp);have x5:Holds Go.Proofs.encStr w b 0 zs.toArray:=fun j hj=>by
   have:=hH j (by rw[mq];simpa using hj)
   refine⟨this.1.trans ?_,this.2⟩;rw[mq,D2 _ j (by simpa using hj),D2 _ j hj];simp
  have hcon:=Any.slices_Compact_string Tryz.layCompactStr b 0 cap zs w x5 ch ch;rw[Oe]at hcon;refine hcon.mono ?_
  rintro e w' ⟨rfl,q,rfl⟩
  refine⟨rfl,(Lib.compact zs++List.replicate (zs.length-(Lib.compact zs).length) []).toArray.map Go.Proofs.encStr,_,q,#[],?_,rfl,?_,fun cs hcs=>?_,fun g w _=>?_,?_⟩
  .rw[mq];simp;omega
  .simp;omega
  .obtain⟨x,_,rfl⟩:=Ai.1 hcs;rfl
  .rw[NR];have e:((Lib.compact zs++List.replicate (zs.length-(Lib.compact zs).length) []).toArray.map Go.Proofs.encStr).toList=(Lib.compact zs++List.replicate (zs.length-(Lib.compact zs).length) []).map Go.Proofs.encStr:=by simp
   rw[e];exact N8 _ _ _ _ fun x hx=>by
    obtain⟨z,_,rfl⟩:=Ai.1 hx;rfl
  .rw[RV,grow_empty,Oe]
end Go.Eng
namespace Go.Eng
open Go.Proofs
variable {a b:ByteArray}{caps:List AV}{fF:Nat}
abbrev AdD(n:Nat):Tn:=⟨[],[],[(2,n),(5,n)],[],[],[],[5],[],[],[],[2,3]⟩
theorem Aeo(l:List Sl)(hl:Cb l):Ba Tryz.prog 138 [sl Am l] (Ap [] Ae) fun r h'=>r=.msl 2000 l.length/\h'=Ap [(2000,.arr 4 (l.map Am))] Ae:=by
 refine Cu (M7 (AdD 4)) [(2,2000)] rfl Da hm rfl Tryz.func138 Wk rfl (Nz rfl) Wk rfl ?_;have HC:B5 4 (l.map Am)/\([]:List (List AV)).length=0/\(([]:List (List AV)).length+(l.map Am).length)*40<=140737488355328/\([]:List (List AV)).length+(l.map Am).length<=9223372036854775807:=by
  refine⟨Ea (enc:=Am) (n:=4) (fun _=>rfl) l,rfl,?_,?_⟩<;>simp only[Ao,Lm]<;>unfold Cb at hl<;>omega
 have e1:AV.msl 2000 (([]:List (List AV)).length+(l.map Am).length)=.msl 2000 l.length:=by simp
 refine Xi 0 (Xi 0 (Yi ?_ ?_))
 .intro _;refine cU [(0,sl Am l)] [] Z1 Tv (Xi 2 (Yi HC ?_));exact Xi _ (Yi (.refl _) (Yi e1 rfl))
 .intro h;refine Yi ?_ ?_
  .refine Xi ⟨[],[],Ae⟩ (Yi ⟨trivial,trivial,fun _=>.inl rfl,BT Wk⟩ ?_);refine Xi 2 ?_;exact Xi _ (Yi (.refl _) (Yi (show AV.msl 2000 0=_ by rw[DN.1 h];rfl) (show Ap [(2000,HO.arr 4 [])] Ae=_ by rw[h])))
  .refine cU [(0,sl Am l)] [] Z1 Tv (Xi 2 (Yi HC ?_));exact Xi _ (Yi (.refl _) (Yi e1 rfl))
theorem WY{n:Nat}:∀{l:List (List AV)},(∀c∈l,c.length=n)->B5 n l
 | [],_=>trivial
 |c::_,h=>⟨h c (Ab ..),WY fun d hd=>h d (Ah _ hd)⟩
theorem o70(hs:De caps)(l:List (Sl))(p:Sl->Bool)(hF:∀x∈l,PC fF ([.agg (Am x)]++caps) (vb (p x)))(hl:l.length<9223372036854775807) :
  PC 108 [sl Am l,.clo fF caps] (vi (JK p l 0)):=by
 refine Ps El Tryz.func108 rfl (Nz rfl) (Xi {i:Nat // i<=l.length/\∀j (hj:j<l.length),j<i->p l[j]=false} (Xi (fun i=>⟨[(0,sl Am l),(1,.clo fF caps),(7,vi (l.map Am).length),(8,vi i.1)],[],Ae⟩) (Xi (fun i=>l.length-i.1) (Yi (Xi ⟨0,by simp⟩ ?_) ?_))))
 .exact⟨⟨Zr,⟨rfl,hs.ids _⟩,Zr,Zr,Tv⟩,Tv,Fh,Tv⟩
 .intro⟨i,h1,h2⟩;refine Yi ?_ ?_
  .intro h;have h:i<l.length:=by simpa using h
   have hg:l[i]?=some l[i]:=Ge h;refine Xi (Am l[i]) (Yi (Yi (Nn i) (by simp[hg])) (Yi rfl (yN ?_)));have Cg:∀h,PC fF ([.agg (Am l[i])]++caps.map (str0 h)) (vb (p l[i])):=fun h=>by rw[hs.map];exact hF l[i] (Aq _)
   cases hp:p l[i]with
   |true=>
    rw[hp]at Cg;refine Xi .pure (Xi (vb true) (Yi (Cg _) ?_));rw[HT h (fun j hj JX=>h2 j hj JX) hp,EI];exact .refl _
   |false=>
    rw[hp]at Cg;refine Xi .pure (Xi (vb false) (Yi (Cg _) (Yi (Ii i ch) (Xi ⟨i+1,by omega,fun j hj JX=>?_⟩ ?_))))
    .by_cases e:j=i
     .subst e;exact hp
     .exact h2 j hj ch
    .exact⟨Dl l.length i ch,⟨Zr,⟨rfl,hs.ids _⟩,Zr,Zr,Tv⟩,Tv,Fh,Tv⟩
  .intro h;have h:¬i<l.length:=by simpa using h
   rw[GA fun j hj=>h2 j hj ch];exact .refl _
theorem o25(hs:De caps)(l:List (Sl))(p:Sl->Bool)(hF:∀x∈l,PC fF ([.agg (Am x)]++caps) (vb (p x)))(hl:Cb l) :
  PC 79 [sl Am l,.clo fF caps] (vb (l.any p)):=by
 refine Ps El Tryz.func79 rfl (Nz rfl) ?_;have hi:=o70 hs l p hF (by unfold Cb at hl;omega);have Cg:∀h,PC 108 [sl Am l,.clo fF (caps.map (str0 h))] (vi (JK p l 0)):=fun h=>by rw[hs.map];exact hi
 refine Xi .pure (Xi _ (Yi (Cg _) ?_));have ha:=HN (p:=p) l 0 (Bu 0);refine Yi ?_ ?_
 .intro h;rw[<-ha,Ay h];exact .refl _
 .intro h;rw[<-ha,AD h];exact .refl _
def iF(a b:Sl):Int:=if Ld a.path b.path≠0 then Ld a.path b.path else PU a.ver b.ver
abbrev Ac5:Sl->Sl->Int:=fun a b=>Ld a.path b.path
theorem ab:Ld a b<0↔Ek a b=true:=by
 unfold Ld
 by_cases h:Ek a b=true
 .rw[Al h];simp[h]
 .rw[Aj h];split<;>simp[h]
theorem OV:Ld a b=0↔a=b:=by
 unfold Ld;constructor
 .intro h;split at h
  .cases h
  .rename_i h1;split at h
   .cases h
   .rename_i h2;exact Ir (by simpa using h1) (by simpa using h2)
 .rintro rfl
  rw[Aj (by rw[Dn];decide),Aj (by rw[Dn];decide)]
abbrev kept{α:Type}(p:α->Bool)(l:List α):List α:=l.filter fun x=>!p x
abbrev cw(r:Rl):Sl:=⟨r.path,r.ver⟩
theorem o46(ifs:List (List AV))(hl:Cb ifs)(hs:∀c∈ifs,c.length=5):PC 103 [.slice .none ifs] (.slice .none ifs):=by
 refine Ps El Tryz.func103 rfl (Nz rfl) ?_;have HC:B5 5 ifs/\([]:List (List AV)).length=0/\(([]:List (List AV)).length+ifs.length)*112<=140737488355328/\([]:List (List AV)).length+ifs.length<=9223372036854775807:=by
  refine⟨WY hs,rfl,?_,?_⟩<;>simp only[Ao]<;>unfold Cb at hl<;>omega
 refine Yi ?_ ?_
 .intro _;exact Yi HC (.refl _)
 .intro h;refine Yi ?_ ?_
  .show CV nzA (.slice .none ifs);rw[h];exact .nil
  .exact Yi HC (.refl _)
end Go.Eng
namespace Go.Eng
variable {α:Type}{l:List α}{a b:Int}
structure OC{α β:Type}(c:α->α->Int)(R:α->α->Prop)(key:α->β):Prop where
 lt:∀a b,c a b<0↔R a b
 eq:∀a b,c a b=0↔key a=key b
 tr:∀a b d,R a b->R b d->R a d
 irr:∀a b,key a=key b->¬R a b
 tri:∀a b,¬R a b->key a≠key b->R b a
 cl:∀a b d,key a=key b->R a d->R b d
section
variable {α β:Type}{c:α->α->Int}{R:α->α->Prop}{key:α->β}
theorem RJ(h:OC c R key){a:List α}(ha:a.Pairwise R):(a.map key).Nodup:=by
 unfold List.Nodup;rw[Lx];exact ha.imp fun q e=>h.irr _ _ e q
end
/-! The three comparisons. -/
def ltS(a b:Sl):Prop:=Ek a.path b.path=true\/(a.path=b.path/\qR a.ver b.ver)
abbrev Vl(a b:Sl):Prop:=Ek a.path b.path=true
theorem Ux:He a b<0↔a<b:=by
 unfold He;split
 .rename_i h;simp[h]
 .rename_i h;split<;>simp[h]
theorem Kg:He a b=0↔a=b:=by
 unfold He;split
 .rename_i h;simp;omega
 .rename_i h;split
  .rename_i h2;simp;omega
  .rename_i h2;simp;omega
theorem lK{a b:Ver}:PU a b<0↔qR a b:=by
 refine⟨fu,fun h=>?_⟩;unfold PU;rcases h with h | ⟨h1,h | ⟨h2,h⟩⟩
 .rw[Al (fun c=>by have:=Kg.1 c;omega)];exact Ux.2 h
 .rw[Aj (fun c=>c (Kg.2 h1)),Al (fun c=>by have:=Kg.1 c;omega)];exact Ux.2 h
 .rw[Aj (fun c=>c (Kg.2 h1)),Aj (fun c=>c (Kg.2 h2))];exact Ux.2 h
theorem PT{a b:Sl}:iF a b<0↔ltS a b:=by
 unfold iF ltS
 by_cases h:a.path=b.path
 .rw[Aj (fun c=>c (OV.2 h)),lK];exact⟨fun q=>.inr ⟨h,q⟩,fun q=>q.elim (fun q=>by rw[h,Dn]at q;cases q) (·.2)⟩
 .rw[Al (fun c=>h (OV.1 c)),ab];exact⟨.inl,fun q=>q.elim id fun q=>absurd q.1 h⟩
theorem ocP:OC Ac5 Vl (fun s:Sl=>s.path) where
 lt _ _:=ab
 eq _ _:=OV
 tr _ _ _:=Ed
 irr a b e h:=by rw[Vl,e,Dn]at h;cases h
 tri a b h e:=by
  cases q:Ek b.path a.path with
  |true=>exact q
  |false=>
   cases p:Ek a.path b.path with
   |true=>exact absurd p h
   |false=>exact absurd (Ir p q) e
 cl a b d e h:=by rw[Vl,<-e];exact h
/-! Pins. -/
theorem dV{β:Type}{f:α->β}(h:(l.map f).Nodup):l.Nodup:=by
 unfold List.Nodup at *
 rw[Lx]at h;exact h.imp fun q e=>q (Aa f e)
/-! What the reference makes of a list. -/
theorem Ew{i:Nat}(h:i<l.length):l.take (i+1)=l.take i++[l[i]]:=BM h
end Go.Eng
namespace Go.Eng
open Go.Proofs
variable {α:Type}{i:Nat}(l m:List Sl)(p:ByteArray)
def fH(r:Rl):Bool:=decide (r.path=p)&&!r.yanked
def Aa0(r:Rl):Int×Int:=(plc r.ver,plc r.ver+1)
theorem iu{x:List Rl}{p:ByteArray}(h:A5 x=0):Cn x p=canon ((x.filter (fH p)).map Aa0):=by
 unfold Cn Ll;rw[Aj (not_not_intro h),List.filter_filter]
 congr 3
 funext r
 unfold fH;rw[Bool.and_comm]
theorem qj{enc:α->List AV}{n:Nat}(h:∀x,(enc x).length=n)(l:List α):∀cs∈l.map enc,cs.length=n:=fun cs hc=>by
 obtain⟨x,_,rfl⟩:=Ai.1 hc;exact h x
theorem jK(o:Option α):(∃x,o=some x)\/o=none:=by
 cases o with
 |none=>exact .inr rfl
 |some x=>exact .inl ⟨x,rfl⟩
structure Mv where
 path:ByteArray
 a:Int
 b:Int
abbrev HF(m:Mv):List AV:=[vs m.path,vi m.a,vi m.b]
abbrev plP(s:Sl):Value×AV:=(.string s.path,vi (place s.ver))
abbrev Ik:List (Value×AV):=l.map plP
def Jr:Int:=match B1 l p with | some s=>place s.ver | none=>-1
def JB:Option Mv:=if Jr l p≠Jr m p then some ⟨p,Jr l p,Jr m p⟩else none
abbrev IB(ps:List ByteArray):List Mv:=ps.filterMap (JB l m)
structure IP(l:List Sl):Prop where
 few:Cb l
 val:∀s∈l,Cw s.ver=true
 inc:l.Pairwise Vl
theorem IP.step{l:List Sl}(h:IP l)(hi:i<l.length)(h0:0<i):Ek (l[i-1]' ch).path l[i].path=true:=(AY.1 h.inc) (i-1) i ch hi ch
theorem nW{l:List Sl}(h:IP l)(hi:i<l.length):∀b,(Value.string l[i].path,b)∉Ik (l.take i):=fun b hb=>by
 obtain⟨s,hs,e⟩:=Ai.1 hb;obtain⟨j,hj,rfl⟩:=Ck.1 hs;rw[GU]at e;rw[Au]at hj;have q:=(AY.1 h.inc) j i ch hi ch;have e2:l[j].path=l[i].path:=by injection e with e1;injection e1
 rw[Vl,e2,Dn]at q;cases q
theorem vz{l:List Sl}(h:IP l){p:ByteArray}{a:AV}(ha:(Value.string p,a)∈Ik l):a=vi (Jr l p):=by
 obtain⟨s,hs,e⟩:=Ai.1 ha;have e1:s.path=p:=by injection e with e1;injection e1
 have e2:vi (place s.ver)=a:=by injection e
 rw[<-e2];unfold Jr;rw[<-e1,Ki (RJ ocP h.inc) hs]
theorem vA{l:List Sl}{p:ByteArray}(h:∀a,(Value.string p,a)∉Ik l):Jr l p=-1:=by
 unfold Jr;rw[show B1 l p=none from DZ.2 fun s hs e=>h _ (Ai.2 ⟨s,hs,by rw[<-AU e]⟩)]
theorem gl{l m:List Sl}{ps:List ByteArray}{k:Nat}(h:k<ps.length):IB l m (ps.take (k+1))=IB l m (ps.take k)++(JB l m ps[k]).toList:=by
 unfold IB;rw[Ew h,List.filterMap_append]
 congr 1
theorem ri(hl:IP l):Ba Tryz.prog 181 [sl Am l] (Ap [] Ae) fun r h'=>r=.tup [.mref 2000,vb true]/\h'=Ap [(2000,.map Cq (Ik l))] Ae:=by
 have hfl:l.length<=1073741824:=hl.few;refine Cu (M7 El) [(9,2000)] rfl Da hm rfl Tryz.func181 Wk rfl (Nz rfl) Wk rfl (Xi {q:Nat // q<=l.length} (Xi (fun q=>⟨[(0,sl Am l),(4,.mref 9),(10,sl Am l),(11,vi (l.map Am).length),(12,vi q.1)],[(9,.map Cq (Ik (l.take q.1)))],Ae⟩) (Xi (fun q=>l.length-q.1) (Yi (Xi ⟨0,Ax _⟩ ?_) ?_))))
 .exact⟨Z5,Z1,Fh,BT Wk⟩
 intro⟨i,i1⟩;refine Yi (fun h1=>?_) (fun h1=>?_)
 .have h1:(i:Int)<((l.map Am).length:Int):=h1;have n1:=FO h1;refine Xi (Am l[i]) (Yi (JL n1) (Yi rfl (yN (yN (yN (Xi .pure (Xi _ (Yi (by have q:=wK l[i].ver;rw[Al (hl.val _ (Aq n1)),Al (hl.val _ (Aq n1))]at q;exact q) ?_))))))));refine Yi (fun h=>absurd h Cl) (fun _=>?_);refine Yi (fun h2=>?_) (fun h2=>?_)
  .have h2:(0:Int)<(i:Int):=h2;refine Yi (by show AX ((i:Int)-(1:Int));unfold AX;omega) ?_;have sJ:0<i:=by omega
   refine Xi (Am (l[i-1])) (Yi (Yi (show(0:Int)<=(i:Int)-1 by omega) (by rw[show((i:Int)-1).toNat=i-1 by omega];exact Eo (Ge ch))) (Yi rfl ?_));refine Yi (fun h3=>?_) (fun h3=>?_)
   .have h3:Ek (l[i-1]).path l[i].path=false:=(Gr _ _).trans h3;exact absurd (hl.step n1 sJ) (by rw[h3];decide)
   refine Yi Wk (Yi (Ii i ch) (Xi ⟨i+1,n1⟩ ?_));exact⟨Dl l.length i ch,Z5,⟨⟨(show HO.map Cq (Fa (Ik (l.take i)) (.string l[i].path) (vi (place l[i].ver)))=.map Cq (Ik (l.take (i+1))) by rw[I0 (nW hl n1),Ew n1];unfold Ik;rw[As];rfl),rfl⟩,Tv⟩,Fh,BT Wk⟩
  refine Yi Wk (Yi (Ii i ch) (Xi ⟨i+1,n1⟩ ?_));exact⟨Dl l.length i ch,Z5,⟨⟨(show HO.map Cq (Fa (Ik (l.take i)) (.string l[i].path) (vi (place l[i].ver)))=.map Cq (Ik (l.take (i+1))) by rw[I0 (nW hl n1),Ew n1];unfold Ik;rw[As];rfl),rfl⟩,Tv⟩,Fh,BT Wk⟩
 have h1:¬((i:Int)<((l.map Am).length:Int)):=h1;have n1:=DP h1;have ei:l.take i=l:=At (by have q:=h1;rw[Lm]at q;omega);exact Xi _ (Yi (.refl _) ⟨rfl,show Ap [(2000,HO.map Cq (Ik (l.take i)))] Ae=Ap [(2000,.map Cq (Ik l))] Ae by rw[ei]⟩)
theorem zq(hl:IP l):PC 182 [.cmap Cq (Ik l),vs p] (vi (Jr l p)):=by
 refine Ps El Tryz.func182 rfl (Nz rfl) (Yi (fun a ha=>?_) (fun Od=>?_))
 .have ea:=vz hl ha;subst ea;exact .refl _
 exact .of_eq (show vi (-1)=vi (Jr l p) by rw[vA Od])
theorem o75(t:List ByteArray)(hl:IP l)(hm2:IP m)(hfs:l.length+m.length<=1073741824)(DH:l++m≠[])(hp:t.Perm ((l++m).map (·.path)))(ht:(t.map KP).Pairwise fun a b=>a<=b):PC 130 [sl Am l,sl Am m] (.tup [sl HF (IB l m (Cm t)),vi 0]):=by
 obtain⟨LM,ur⟩:∃LM,LM=l++m:=⟨_,rfl⟩;have hm:=hm2;rw[<-ur]at hp;have hLl:LM.length=l.length+m.length:=by rw[ur,Ac]
 refine Gd (iK ⟨[],[(14,3)],[(10,1)],[(34,[12000,12500])],[],[],[],[],[],[],[6,7,8,9,11,13,14,15,16,17,18,19,21]⟩) rfl Da Go.Eng.hm rfl Tryz.func130 Wk rfl (Nz rfl) Wk (Xi (.gen [] 1) (Yi rfl (Ba.to2 (ri l hl) ?_)));refine Xi (.gen [] 1) (Yi rfl (Ba.to2 (ri m hm) ?_));refine cU [(0,sl Am l),(1,sl Am m),(6,.mref 12000),(8,.mref 12500),(10,.msl 10 0)] [(10,.arr 1 []),(12000,.map Cq (Ik l)),(12500,.map Cq (Ik m))] Z5 Z3 (Xi (.gen [] 1) (Yi rfl (Ba.to2 (ue l hl.few) ?_)));have b4:B5 4 (m.map Am)/\(l.map Am).length=(l.map Am).length/\((l.map Am).length+(m.map Am).length)*40<=140737488355328/\(l.map Am).length+(m.map Am).length<=9223372036854775807:=⟨(Ea (enc:=Am) (n:=4) (fun _=>rfl) m),rfl,(by simp only[Lm];omega),(by simp only[Lm];omega)⟩;refine Yi b4 (Xi {q:Nat×List ByteArray // q.1<=LM.length/\q.2=(LM.take q.1).map (·.path)} (Xi (fun q=>⟨[(6,.mref 12000),(8,.mref 12500),(10,.msl 10 q.1.2.length),(37,.slice (.id 13500 4) (LM.map Am)),(38,vi (LM.length:Nat)),(39,vi q.1.1)],[(10,.arr 1 (q.1.2.map AB)),(12000,.rom Cq (Ik l)),(12500,.rom Cq (Ik m)),(13500,.tok 4 LM.length)],Ae⟩) (Xi (fun q=>LM.length-q.1.1) (Yi (Xi ⟨(0,[]),Ax _,rfl⟩ ?_) ?_))))
 .exact⟨⟨Zr,Zr,Zr,⟨(show AV.slice (.id 13500 4) (l.map Am++m.map Am)=.slice (.id 13500 4) (LM.map Am) by rw[ur,As]),rfl⟩,⟨(show vi ((l.map Am++m.map Am:List (List AV)).length:Int)=vi ((LM.length:Nat):Int) by rw[ur,Ac,Ac,Lm,Lm]),rfl⟩,Zr,Tv⟩,⟨Zr,Zr,Zr,⟨(show HO.tok 4 ((l.map Am).length+(m.map Am).length)=.tok 4 LM.length by rw[ur,Ac,Lm,Lm]),rfl⟩,Tv⟩,Fh,Tv⟩
 intro⟨⟨i,P⟩,i1,i2⟩;have i2:P=(LM.take i).map (·.path):=i2;have i3:P.length<=i:=by rw[i2,Lm,Au];omega
 refine cU [(6,.mref 12000),(8,.mref 12500),(10,.msl 10 P.length),(37,.slice (.id 13500 4) (LM.map Am)),(38,vi (LM.length:Nat)),(39,vi i)] [(10,.arr 1 (P.map AB)),(12000,.rom Cq (Ik l)),(12500,.rom Cq (Ik m)),(13500,.tok 4 LM.length)] Z6 Z4 (Yi (fun h5=>?_) (fun h5=>?_))
 .have n5:i<LM.length:=by omega
  refine cU [(6,.mref 12000),(8,.mref 12500),(10,.msl 10 P.length),(37,.slice (.id 13500 4) (LM.map Am)),(38,vi (LM.length:Nat)),(39,vi i)] [(10,.arr 1 (P.map AB)),(12000,.rom Cq (Ik l)),(12500,.rom Cq (Ik m)),(13500,.tok 4 LM.length)] Z6 Z4 (Xi (Am LM[i]) (Yi (JL n5) (Yi rfl (yN (yN (cU [(6,.mref 12000),(8,.mref 12500),(10,.msl 10 P.length),(12,.ref 12 0),(37,.slice (.id 13500 4) (LM.map Am)),(38,vi (LM.length:Nat)),(39,vi i)] [(10,.arr 1 (P.map AB)),(12,.cells (Am LM[i])),(12000,.rom Cq (Ik l)),(12500,.rom Cq (Ik m)),(13500,.tok 4 LM.length)] Z7 Z5 ?_))))))
  have b6:B5 1 [[vs LM[i].path]]/\(P.map AB).length=P.length/\((P.map AB).length+([[vs LM[i].path]]:List (List AV)).length)*16<=140737488355328/\(P.map AB).length+([[vs LM[i].path]]:List (List AV)).length<=9223372036854775807:=⟨⟨rfl,trivial⟩,(by rw[Lm]),(by simp only[Lm,Ag,Ao];omega),(by simp only[Lm,Ag,Ao];omega)⟩;refine Yi b6 (Yi (Ii i ch) (Xi ⟨(i+1,P++[LM[i].path]),n5,by show P++[LM[i].path]=_;rw[Ew n5,As,i2];rfl⟩ ?_));exact⟨Dl LM.length i ch,⟨Zr,Zr,⟨(show AV.msl 10 ((P.map AB).length+([[vs LM[i].path]]:List (List AV)).length)=.msl 10 (P++[LM[i].path]).length by rw[Ac,Lm];rfl),rfl⟩,Zr,Zr,Zr,Tv⟩,⟨⟨(show HO.arr 1 (P.map AB++[[vs LM[i].path]])=.arr 1 ((P++[LM[i].path]).map AB) by rw[As];rfl),rfl⟩,Zr,Zr,Zr,Tv⟩,Fh,Tv⟩
 have hPe:P=LM.map (·.path):=by rw[i2,At (by have q:=h5;omega)]
 have hPf:Cb P:=by unfold Cb;rw[hPe,Lm,ur,Ac];exact hfs
 have hPn:P≠[]:=fun e=>by rw[hPe]at e;exact DH (by rw[<-ur];exact DN.1 e)
 have hPt:t.length=P.length:=by rw[hPe];exact hp.length_eq
 have uQ:t.length<=1073741824:=by rw[hPt];exact hPf
 have htn:t≠[]:=fun e=>hPn (AP (by rw[<-hPt,e];rfl));have hcl:(Cm t).length<=t.length:=by unfold Cm;rw[Lm];exact AI (M5 _) (by rw[Lm];exact Ak _)
 refine cU [(6,.mref 12000),(8,.mref 12500),(10,.msl 10 P.length)] [(10,.arr 1 (P.map AB)),(12000,.rom Cq (Ik l)),(12500,.rom Cq (Ik m))] Z3 Z3 (Xi (.gen [(10,1000)] 0) (Yi rfl (Ba.to2 (zp P t hPf hPn (by rw[hPe];exact hp) ht) ?_)));refine cU [(6,.mref 12000),(8,.mref 12500),(10,.msl 10 P.length),(13,.v (.func (.func 182) #[] #[]))] [(10,.arr 1 (t.map AB)),(12000,.rom Cq (Ik l)),(12500,.rom Cq (Ik m))] Z4 Z3 (cU [(6,.mref 12000),(8,.mref 12500),(10,.msl 10 t.length),(13,.v (.func (.func 182) #[] #[])),(14,.slice (.id 14 3) [])] [(10,.arr 1 (t.map AB)),(14,.tok 3 0),(12000,.rom Cq (Ik l)),(12500,.rom Cq (Ik m))] ⟨Zr,Zr,⟨(Aa (AV.msl 10) hPt.symm),rfl⟩,Zr,Zr,Tv⟩ Z4 (Xi (.gen [(10,1000)] 1) (Yi rfl (Ba.to2 (Adw t (by unfold Cb;omega) htn) ?_))));refine Xi {q:Nat×List Mv // q.1<=(Cm t).length/\q.2=IB l m ((Cm t).take q.1)} (Xi (fun q=>⟨[(6,.mref 12000),(8,.mref 12500),(13,.v (.func (.func 182) #[] #[])),(14,.slice (.id 14 3) (q.1.2.map HF)),(52,.msl 15200 (Cm t).length),(53,vi (Cm t).length),(54,vi q.1.1)],[(14,.tok 3 q.1.2.length),(12000,.rom Cq (Ik l)),(12500,.rom Cq (Ik m)),(15200,.arr 1 ((Cm t).map AB))],Ae⟩) (Xi (fun q=>(Cm t).length-q.1.1) (Yi (Xi ⟨(0,[]),Ax _,rfl⟩ ?_) ?_)))
 .exact⟨Z7,Z4,Fh,Tv⟩
 intro⟨⟨k,O⟩,k1,k2⟩;have k2:O=IB l m ((Cm t).take k):=k2;have k3:O.length<=k:=by rw[k2];exact AI (List.length_filterMap_le ..) (by rw[Au];omega)
 refine cU [(6,.mref 12000),(8,.mref 12500),(13,.v (.func (.func 182) #[] #[])),(14,.slice (.id 14 3) (O.map HF)),(52,.msl 15200 (Cm t).length),(53,vi (Cm t).length),(54,vi k)] [(14,.tok 3 O.length),(12000,.rom Cq (Ik l)),(12500,.rom Cq (Ik m)),(15200,.arr 1 ((Cm t).map AB))] Z7 Z4 (Yi (fun Wz=>?_) (fun Wz=>?_))
 .have nb:k<(Cm t).length:=by omega
  have n10:=nb;have gb:(Cm t)[k]?=some (Cm t)[k]:=Ge nb;refine cU [(6,.mref 12000),(8,.mref 12500),(13,.v (.func (.func 182) #[] #[])),(14,.slice (.id 14 3) (O.map HF)),(52,.msl 15200 (Cm t).length),(53,vi (Cm t).length),(54,vi k)] [(14,.tok 3 O.length),(12000,.rom Cq (Ik l)),(12500,.rom Cq (Ik m)),(15200,.arr 1 ((Cm t).map AB))] Z7 Z4 (Yi (by show(0:Int)<=k/\(k:Int)<((Cm t).length:Nat);omega) (Yi (show(Cm t).length=((Cm t).map AB).length by rw[Lm]) (Xi (AB ((Cm t)[k])) (Yi (Eo gb) (cU [(6,.mref 12000),(8,.mref 12500),(13,.v (.func (.func 182) #[] #[])),(14,.slice (.id 14 3) (O.map HF)),(16,vs ((Cm t)[k])),(52,.msl 15200 (Cm t).length),(53,vi (Cm t).length),(54,vi k)] [(14,.tok 3 O.length),(12000,.rom Cq (Ik l)),(12500,.rom Cq (Ik m)),(15200,.arr 1 ((Cm t).map AB))] Z8 Z4 (Xi .pure (Xi _ (Yi (zq l (Cm t)[k] hl) (Xi .pure (Xi _ (Yi (zq m (Cm t)[k] hm) (yN (cU [(6,.mref 12000),(8,.mref 12500),(13,.v (.func (.func 182) #[] #[])),(14,.slice (.id 14 3) (O.map HF)),(17,.ref 17 0),(52,.msl 15200 (Cm t).length),(53,vi (Cm t).length),(54,vi k)] [(14,.tok 3 O.length),(17,.cells [vs ((Cm t)[k]),vi (Jr l (Cm t)[k]),vi (Jr m (Cm t)[k])]),(12000,.rom Cq (Ik l)),(12500,.rom Cq (Ik m)),(15200,.arr 1 ((Cm t).map AB))] Z8 Z5 (Yi (fun KV=>?_) (fun KV=>?_)))))))))))))))
  .refine cU [(6,.mref 12000),(8,.mref 12500),(13,.v (.func (.func 182) #[] #[])),(14,.slice (.id 14 3) (O.map HF)),(17,.ref 17 0),(52,.msl 15200 (Cm t).length),(53,vi (Cm t).length),(54,vi k)] [(14,.tok 3 O.length),(17,.cells [vs ((Cm t)[k]),vi (Jr l (Cm t)[k]),vi (Jr m (Cm t)[k])]),(12000,.rom Cq (Ik l)),(12500,.rom Cq (Ik m)),(15200,.arr 1 ((Cm t).map AB))] Z8 Z5 (yN (Yi (kF rfl ch Cl) (Yi (Ii k ch) ?_)));have eO:=gl (l:=l) (m:=m) n10;have eM:JB l m (Cm t)[k]=some ⟨(Cm t)[k],(Jr l (Cm t)[k]),(Jr m (Cm t)[k])⟩:=Al KV;rw[eM]at eO;refine Xi ⟨(k+1,(O++[(⟨(Cm t)[k],(Jr l (Cm t)[k]),(Jr m (Cm t)[k])⟩:Mv)])),n10,by show(O++[(⟨(Cm t)[k],(Jr l (Cm t)[k]),(Jr m (Cm t)[k])⟩:Mv)])=_;rw[eO,k2];rfl⟩ ?_;exact⟨by show(Cm t).length-(k+1)<(Cm t).length-k;omega,⟨Zr,Zr,Zr,⟨(show AV.slice (.id 14 3) (O.map HF++[[vs (Cm t)[k],vi (Jr l (Cm t)[k]),vi (Jr m (Cm t)[k])]])=.slice (.id 14 3) ((O++[(⟨(Cm t)[k],(Jr l (Cm t)[k]),(Jr m (Cm t)[k])⟩:Mv)]).map HF) by rw[As];rfl),rfl⟩,Zr,Zr,Zr,Tv⟩,⟨⟨hkA,rfl⟩,Zr,Zr,Zr,Tv⟩,Fh,Tv⟩
  have KV:((Jr l (Cm t)[k]):Int)=((Jr m (Cm t)[k]):Int):=AJ KV;refine Yi (Ii k ch) ?_;have eO:=gl (l:=l) (m:=m) n10;have eM:JB l m (Cm t)[k]=none:=Aj (fun c=>c KV);rw[eM]at eO;rw[show(none:Option Mv).toList=[]from rfl,BP]at eO;refine Xi ⟨(k+1,O),n10,by show O=_;rw[eO,k2]⟩ ?_;exact⟨by show(Cm t).length-(k+1)<(Cm t).length-k;omega,Z7,Z4,Fh,Tv⟩
 refine cU [(14,.slice (.id 14 3) (O.map HF))] [(14,.tok 3 O.length)] Z1 Z1 ?_
 have ek:(Cm t).take k=Cm t:=At ch;have eO:O=IB l m (Cm t):=by rw[k2,ek]
 exact .of_eq (Aa (fun z=>AV.tup [sl HF z,vi 0]) eO)
end Go.Eng
