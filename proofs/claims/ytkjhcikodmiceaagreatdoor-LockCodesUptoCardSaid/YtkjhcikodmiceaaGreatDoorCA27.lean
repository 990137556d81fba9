/- Lemmas 27. -/
import Derived.Test.YtkjhcikodmiceaaGreatDoorCA26
namespace Go.Proofs
open Go.Eng
abbrev At2:=ByteArray
abbrev At3:=List UInt8
abbrev At4:=List (List Value)
abbrev Ai1:=@Lib.cell_of_heap
abbrev Ai2:=@Lib.frozen_of_heap
abbrev Ai3:=@RowKit.Below.heap_setCell
abbrev Ai4:=@RowKit.Below.heap_alloc
structure LkW(most:Nat)(l:Lk):Prop where
 r:LW (RqW most) most l.roots
 e:LW LoW most l.ents
 i:LW NfW most l.infs
 k:LW SkW most l.skips
theorem qC{s:At2}(most:Nat):Mi s (Sy s most) I0 (LkW most):=
 ((MY (AaZ most)).seq ((MY (AaX most)).seq ((MY (AaY most)).seq (MY (Ab0 most))))).map (fun x=>(⟨x.1,x.2.1,x.2.2.1,x.2.2.2⟩:Lk)) (fun y=>(y.roots,y.ents,y.infs,y.skips)) I0 _
  (fun _ hx=>⟨⟨hx.1,hx.2.1,hx.2.2.1,hx.2.2.2⟩,by grind [I0]⟩) (fun _ hy=>⟨⟨hy.r,hy.e,hy.i,hy.k⟩,rfl,by grind [I0]⟩)
def z0(e:Lo):Lo:=⟨e.path,⟨0,e.ver.b,e.ver.c⟩,e.arch,e.ifc⟩
abbrev z0L(l:Lk):Lk:=⟨l.roots,l.ents.map z0,l.infs,l.skips⟩
theorem kX{α:Type}{f:α->At3}{g:α->α}(h:∀x,f (g x)=f x)(l:List α):G9 f (l.map g)=G9 f l:=by
 unfold G9;rw[Bs,List.flatMap_map];simp_all
theorem sb(l:Lk):I0 (z0L l)=I0 l:=by
 unfold I0;rw[kX (g:=z0) (fun _=>rfl)]
theorem kZ(l:Lk):I0 (Nj l)=I0 l:=by
 unfold I0;rw[kX (g:=JT) (fun _=>rfl)]
theorem cY{α:Type}{f:α->At3}{x:α}{xs:List α}(h:x∈xs):(f x).length<=(xs.flatMap f).length:=by
 obtain⟨a,b,rfl⟩:=List.append_of_mem h<;>grind
theorem M4{α:Type}{f:α->At3}(h:∀x,1<=(f x).length):∀xs:List α,xs.length<=(xs.flatMap f).length
 | []=>Af _
 |x::xs=>by
  have:=M4 h xs
  grind
theorem NR{α:Type}{f:α->At3}{c:Nat}:∀{xs:List α},(∀x∈xs,(f x).length<=c)->(xs.flatMap f).length<=xs.length*c
 | [],_=>Ai _
 |x::xs,h=>by
  have h1:=NR (fun y hy=>h y (.tail _ hy))
  grind [Nat.succ_mul]
theorem jq(x:At2):1<=(tL x).length:=by
 grind [tL,WW]
theorem bx(x:Int×Int):1<=(T7 x).length:=by
 grind [T7,ME,WW]
theorem br(x:Rq):1<=(I3 x).length:=by
 grind [I3,jq]
theorem aM(x:Lo):1<=(MD x).length:=by
 grind [MD,jq]
theorem aS(x:Nf):1<=(Oj x).length:=by
 grind [Oj,WW]
theorem bv(x:Sk):1<=(Rv x).length:=by
 grind [Rv,jq]
theorem NY{α:Type}{f:α->At3}(h:∀x,1<=(f x).length)(xs:List α):xs.length<=(G9 f xs).length:=by
 grind [G9,M4]
structure LkT(l:Lk):Prop where
 r:∀q∈l.roots,bX q.path
 e:∀e∈l.ents,bX e.path/\bX e.arch/\bX e.ifc
 i:∀i∈l.infs,bX i.path
 k:∀s∈l.skips,bX s.path
theorem Ac5{l:Lk}{most:Nat}(hI:gv l)(hT:LkT l)(hn:(I0 l).length<=most)(hm:most<2^63):LkW most (z0L l):=by
 have hl:(G9 I3 l.roots).length<=most/\(G9 MD l.ents).length<=most/\(G9 Oj l.infs).length<=most/\(G9 Rv l.skips).length<=most:=by
  grind [I0]
 have n1:=NY br l.roots;have n2:=NY aM l.ents;have n3:=NY aS l.infs;have n4:=NY bv l.skips;refine⟨⟨fun q hq=>⟨hT.r q hq,⟨(hI.rq q hq).i,?_,?_⟩⟩,by grind,by grind⟩,⟨fun e he=>?_,by grind,by grind⟩,⟨fun i hi=>?_,by grind,by grind⟩,⟨fun i hi=>?_,by grind,by grind⟩⟩
 .grind [Go.Proofs.Aaq.n,Go.Proofs.gv.rq]
 .grind [NY,bx,I3,cY,G9]
 .obtain⟨x,hx,rfl⟩:=Ap.1 he;exact⟨rfl,(hT.e x hx).1,(hI.lo x hx).1,(hI.lo x hx).2,(hT.e x hx).2.1,(hT.e x hx).2.2⟩
 all_goals grind [Go.Proofs.gv.nf,Go.Proofs.NfW.mk,Go.Proofs.LkT.i,Go.Proofs.gv.sk,Go.Proofs.SkW.mk,Go.Proofs.LkT.k]
theorem Ab2{l:Lk}(hW:LkW (I0 l).length (z0L l))(hf:Cz l=true)(hm:∀e∈l.ents,JT (z0 e)=e):MB (bB (I0 l))=(l,0):=by
 have e:=(qC (s:=bB (I0 l)) (I0 l).length).cpl 0 (z0L l) [] hW (by grind [sb]);rw[sb,Dp]at e;have e:Um (bB (I0 l))=(z0L l,((I0 l).length,0)):=e;have ApA:Nj (z0L l)=l:=by
  have:(l.ents.map z0).map JT=l.ents:=by
   rw[Bo]
   conv=>rhs;rw[<-Kc l.ents]
   grind [List.map_congr_left]
  obtain⟨a,b,c,d⟩:=l<;>simp_all
 grind [MB,gW,PY]
theorem okp{n:Int}(h:0<=n)(h2:n<2^63):HB n:=⟨h,h2⟩
theorem la{l:Lk}(hf:Cz l=true)(hq:∀q∈l.roots,q.set.length<=10^6)(hr:l.roots.length<=10^6)(hi:∀i∈l.infs,i.place<2^63/\i.number<2^63/\i.left<2^63/\i.right<2^63)(hk:∀s∈l.skips,s.place<2^63/\s.inf<2^63):gv l:=by
 simp only[Cz,Ao,AP,AZ]at hf;obtain⟨h1,h2,h3,h4,_,h6,h7,h8⟩:=hf;refine⟨fun q ax=>⟨fun s hs=>?_,hq q ax⟩,fun e he=>?_,fun i Oi=>?_,fun s hs=>?_,hr,by omega,by omega,by omega⟩
 .have:=((Jh h1 q ax).2).low s hs
  grind [okp]
 all_goals grind [G0,Cf,okPart,okp,OJ,OO]
theorem Ac6{l:Lk}(hf:Cz l=true):∀e∈l.ents,JT (z0 e)=e:=fun e he=>by
 simp only[Cz,Ao,AP,AZ]at hf;obtain⟨_,_,_,_,_,h6,_,_⟩:=hf
 have:=h6 e he
 simp only[G0,Ao,AP]at this;obtain⟨p,⟨a,b,c⟩,d,f⟩:=e;show(⟨p,⟨(AR p).getD 0,b,c⟩,d,f⟩:Lo)=_;simp_all
theorem Aad:∀(k n:Nat),n<128 ^ k->1<=k->(uL n).length<=k
 |0,_,_,h=>by omega
 |k+1,n,h,_=>by
  by_cases c:n<128
  .grind [Zx]
  .rw[fO c,AK];have h1:n / 128<128 ^ k:=I
   have h2:1<=k:=by
    grind
   have:=Aad k (n / 128) h1 h2
   omega
theorem NG{n:Nat}(h:n<2^63):(uL n).length<=10:=Aad 10 n (AF h aa3) aa3
theorem md{x:At2}(h:x.size<=100):(tL x).length<=110:=by
 unfold tL
 have:=NG (n:=x.size) I
 have e:x.data.toList.length=x.size:=rfl
 grind
theorem wq{l:Lk}(h:IE l)(hI:gv l):(I0 l).length<=100000:=by
 have hr:=h.rq;simp only[Ef,Md,Ao,AP,AZ]at hr;have he:=h.en;have hi:=h.nf;have hk:=h.sk;simp only[AZ,j7,z8,fJ,AP]at he hi hk;have a1:(l.roots.flatMap I3).length<=l.roots.length*300:=NR fun q hq=>by
  have b1:=hr.1 q hq;have b2:=md b1.1;have b3:(q.set.flatMap T7).length<=q.set.length*20:=NR fun s hs=>by
   have c:=(hI.rq q hq).i s hs
   grind [NG,T7,ME,Go.Proofs.HB.nat]
  grind [NG,I3,G9]
 have a2:(l.ents.flatMap MD).length<=l.ents.length*350:=NR fun e hq=>by
  grind [md,NG,MD,ME,Go.Proofs.gv.lo,Go.Proofs.HB.nat]
 have a3:(l.infs.flatMap Oj).length<=l.infs.length*160:=NR fun e hq=>by
  grind [md,NG,Oj,sM,Go.Proofs.gv.nf,Go.Proofs.HB.nat]
 have a4:(l.skips.flatMap Rv).length<=l.skips.length*130:=NR fun e hq=>by
  grind [md,NG,Rv,ME,Go.Proofs.gv.sk,Go.Proofs.HB.nat]
 have n1:=NG (n:=l.roots.length) I;have n2:=NG (n:=l.ents.length) (by grind [IE.el]);have n3:=NG (n:=l.infs.length) (by grind [IE.il]);have n4:=NG (n:=l.skips.length) (by grind [IE.kl])
 have:=h.el
 have:=h.il
 have:=h.kl
 grind [I0,G9]
end Go.Proofs
set_option maxHeartbeats 8000000
namespace Go.Eng
open Go.Proofs Go.Proofs.Tryz
open IntKind(wrap)
variable {m j b:Nat}(s x:CS)(n:Int)(q:N)(a:Nat)
theorem p8:wrap .u8 (wrap .u8 ((m:Int) % 128)+128)=((UInt8.ofNat (m % 128+128)).toNat:Int):=by
 have e:(m:Int) % 128=((m % 128:Nat):Int):=I
 have e2:(UInt8.ofNat (m % 128+128)).toNat=m % 128+128:=by simp;omega
 rw[e,bN,e2,show(((m % 128 % 256:Nat):Int)+128)=((m % 128 % 256+128:Nat):Int) by omega,bN];omega
theorem fp:((m:Int) / 128)=((m / 128:Nat):Int):=I
theorem u7(N:Nat)(hN:N<18446744073709551616):PC 136 [.v (.int .u64 (N:Int))] (vs (uB N)):=by
 refine Ps CF func136 rfl C4 (M {q:Nat×At3 // q.2++uL q.1=uL N/\(q.2=[]\/1<=q.1)/\q.1*128 ^ q.2.length<=N} (M (fun q=>⟨[(0,.v (.int .u64 (q.1.1:Int))),(3,.slice (.id 4 1) (q.1.2.map Cp))],[(4,.tok 1 (q.1.2.map Cp).length)],Ab⟩) (M (fun q=>q.1.1) (J (M ⟨(N,[]),rfl,.inl rfl,by simp⟩ ?_) ?_))))
 .exact⟨Z2,Z1,Fh,X⟩
 intro⟨⟨m,a⟩,i1,i2,i3⟩;have i1:a++uL m=uL N:=i1;have i2:a=[]\/1<=m:=i2;have i3:m*128 ^ a.length<=N:=i3;have aL:a.length<=10^6:=ml hN i2 i3;have aT:(a.map Cp).length<=10^6:=by rw[Lm];exact aL
 have mN:m<=N:=Az (US m (Nat.pow_pos aa3)) i3;refine J (fun h1=>?_) (fun h1=>?_)
 .have h1:(128:Int)<=((m:Int):Int):=h1;refine J I ?_;have b2:=bT (sz:=1) (k:=1) (n:=(a.map Cp).length) (l:=(a.map Cp)) (ys:=[[.v (.int .u8 (wrap .u8 ((wrap .u8 ((m:Int) % 128))+128)))]]) ⟨rfl,trivial⟩ rfl (by simp only[Lm,AK,A4];omega);refine J b2 (J ⟨by omega,by decide,by rw[fp];exact XJ (show m / 128<18446744073709551616 by omega)⟩ ?_);have ew:((a.map Cp)++[[.v (.int .u8 (wrap .u8 ((wrap .u8 ((m:Int) % 128))+128)))]])=(a++[UInt8.ofNat (m % 128+128)]).map Cp:=by rw[Au,p8];rfl
  refine M ⟨(m / 128,a++[UInt8.ofNat (m % 128+128)]),by rw[<-i1,fO (show ¬m<128 by omega),Ct];rfl,.inr (show 1<=m / 128 by omega),by rw[Ac];exact fR i3⟩ ?_;exact⟨by show(m / 128)<m;omega,⟨⟨(Aa (fun z:Int=>AV.v (.int .u64 z)) fp),rfl⟩,⟨(Aa (AV.slice (.id 4 1)) ew),rfl⟩,X⟩,⟨⟨(tkM ew),rfl⟩,X⟩,Fh,X⟩
 have h1:¬((128:Int)<=((m:Int):Int)):=h1;have b4:=bT (sz:=1) (k:=1) (n:=(a.map Cp).length) (l:=(a.map Cp)) (ys:=[[.v (.int .u8 (wrap .u8 (m:Int)))]]) ⟨rfl,trivial⟩ rfl (by simp only[Lm,AK,A4];omega);refine J b4 (M (uL N) (J (show((a.map Cp)++[[.v (.int .u8 (wrap .u8 (m:Int)))]])=(uL N).map Cp by rw[<-i1,Zx (show m<128 by omega),Au,kW];rfl) ?_));exact .refl _
theorem AgO{n:Int}(h:HB n):wrap .u64 n=((n.toNat:Nat):Int):=by
 grind [XJ,Int.toNat_of_nonneg,Go.Proofs.HB.nat,Go.Proofs.HB.pos]
theorem mA(hn:HB n):PC 135 [G n] (.tup [vs (uB n.toNat),G 0]):=by
 refine Ps CF func135 rfl C4 (J (fun h1=>?_) (fun h1=>?_))
 .have h1:(n:Int)<(0:Int):=h1;exact absurd hn.1 I
 have h1:¬((n:Int)<(0:Int)):=h1;refine C1 (H (show PC 136 [.v (.int .u64 (wrap .u64 n))] (vs (uB n.toNat))from by rw[AgO hn];exact u7 n.toNat (by have:=hn.nat;omega)) ?_);exact .refl _
theorem mz(hn:HB n):PC 134 [G n] (vs (uB n.toNat)):=by
 refine Ps CF func134 rfl C4 (C1 (H (mA n hn) ?_));exact .refl _
theorem AcK:uB x.size++x=bB (tL x):=by
 conv=>lhs;rw[<-jR x]
 exact In _ _
theorem AgF{x:CS}(h:(tL x).length<=1000000000):x.size<=1000000000/\((uB x.size).size+x.size)<=1000000000:=by
 have:(tL x).length=(uL x.size).length+x.data.toList.length:=Ac
 have e:x.data.toList.length=x.size:=rfl;have e2:(uB x.size).size=(uL x.size).length:=rfl;omega
theorem Ta(hx:(tL x).length<=1000000000):PC 69 [vs x] (vs (bB (tL x))):=by
 obtain⟨hx1,hx2⟩:=AgF hx;refine Ps CF func69 rfl C4 (C1 (H (show PC 136 [.v (.int .u64 (wrap .u64 (x.size:Int)))] (vs (uB x.size))from by rw[XJ I];exact u7 x.size I) ?_));refine J (show((((uB x.size):CS).size+(x:CS).size:Nat):Int)<=2^63-1 by(try simp only[Av]);omega) ?_
 exact C vs (AcK x)
theorem AcF(hj:j<=9)(h9:j=9->b % 128<=1)(hb:b<256):DY .shl .u64 (wrap .u64 (b:Int) % 128) (7*(j:Int))=((b % 128*128 ^ j:Nat):Int):=by
 have hc:b % 128<128:=Nat.mod_lt _ aa3;have hl:=t8 hj hc h9;rw[XJ I,show((b:Int) % 128)=((b % 128:Nat):Int) by omega];show wrap .u64 (((b % 128:Nat):Int)*2 ^ min (7*(j:Int)).toNat IntKind.u64.bits)=_;rw[show min (7*(j:Int)).toNat IntKind.u64.bits=7*j by show min _ 64=_;omega];rw[show(((b % 128:Nat):Int)*2 ^ (7*j))=((b % 128*128 ^ j:Nat):Int) by grind [Ach]];exact XJ I
theorem MS(hj:j<=9)(hm:m<128 ^ j)(hb:b<256)(h9:j=9->b % 128<=1) :
  wrap .u64 ((m:Int)+DY .shl .u64 (wrap .u64 (b:Int) % 128) (7*(j:Int)))=((m+b % 128*128 ^ j:Nat):Int):=by
 have hl:=t8 hj (show b % 128<128 by omega) h9;have hp:=lA hj;rw[AcF hj h9 hb,<-Int.natCast_add];exact XJ I
theorem zi(hs:s.size<=2^62)(ha:a<=2^62):PC 203 [vs s,G (a:Int)] (scV (F0 s a)):=by
 refine Ps (pC [] [4,6,7,9,10]) func203 rfl C4 (M {q:Nat×Nat // q.1<=10/\q.2<128 ^ q.1/\MH q.1 q.2 (a+q.1) (s.data.toList.drop (a+q.1))=F0 s a} (M (fun q=>⟨[(0,vs s),(1,G (a:Int)),(7,.v (.int .u64 (q.1.2:Int))),(8,G q.1.1)],[],Ab⟩) (M (fun q=>10-q.1.1) (J (M ⟨(0,0),Ai _,J0,rfl⟩ ?_) ?_))))
 .exact⟨Z4,X,Fh,X⟩
 intro⟨⟨j,m⟩,i1,i2,i3⟩;have i1:j<=10:=i1;have i2:m<128 ^ j:=i2;have i3:MH j m (a+j) (s.data.toList.drop (a+j))=F0 s a:=i3;have hB:=(Bd s (a+j)).toNat_lt;have hW:wrap .u64 ((Bd s (a+j)).toNat:Int)=((Bd s (a+j)).toNat:Int):=XJ I;refine J (fun h1=>?_) (fun h1=>?_)
 .have h1:(j:Int)<(10:Int):=h1;refine J (by show As (((a:Int):Int)+(j:Int));unfold As;omega) ?_;refine J (fun h2=>?_) (fun h2=>?_)
  .have h2:((a:Int)+j:Int)<(0:Int):=h2;refine cU [] [] X X ?_
   exact .of_eq (EF i3 (by first | exact PB I | exact PD I _ | exact PA I I I) rfl rfl rfl)
  have h2:¬(((a:Int)+j:Int)<(0:Int)):=h2;refine J (by show As (((a:Int):Int)+(j:Int));unfold As;omega) ?_;refine J (fun h4=>?_) (fun h4=>?_)
  .have h4:(s.size:Int)<=((a:Int)+j:Int):=h4;refine cU [] [] X X ?_
   exact .of_eq (EF i3 (by first | exact PB I | exact PD I _ | exact PA I I I) rfl rfl rfl)
  have h4:¬((s.size:Int)<=((a:Int)+j:Int)):=h4;refine cU [(0,vs s),(1,G (a:Int)),(7,.v (.int .u64 (m:Int))),(8,G j)] [] Z4 X (J (by show As (((a:Int):Int)+(j:Int));unfold As;omega) ?_);refine M (Bd s (a+j)) (J (Ly (z:=(a:Int)+j) (n:=a+j) (show a+j<s.size by omega) I) (J (fun h6=>?_) (fun h6=>?_)))
  .have h6:(j:Int)=(9:Int):=h6;refine J (fun h7=>?_) (fun h7=>?_)
   .have h7:(1:Int)<wrap .u64 (Bd s (a+j)).toNat:=h7;refine cU [] [] X X ?_
    exact .of_eq (EF i3 (by first | exact PB I | exact PD I _ | exact PA I I I) rfl rfl rfl)
   have h7:¬((1:Int)<wrap .u64 (Bd s (a+j)).toNat):=h7;refine cU [(0,vs s),(1,G (a:Int)),(7,.v (.int .u64 (m:Int))),(8,G j),(9,.v (.int .u64 (wrap .u64 (Bd s (a+j)).toNat)))] [] Z5 X (J I (J (by show As ((7:Int)*(j:Int));unfold As;omega) (J I (J (fun h9=>?_) (fun h9=>?_)))))
   .have h9:wrap .u64 (Bd s (a+j)).toNat<(128:Int):=h9;refine J (by show As (((a:Int):Int)+(j:Int));unfold As;omega) ?_;refine J (by show As (((a:Int)+j:Int)+(1:Int));unfold As;omega) ?_;refine J (fun KH=>?_) (fun KH=>?_)
    .have KH:(j:Int)=(0:Int):=KH;exact .of_eq (EF i3 (Ha I I I I) ((MS I i2 hB I).trans (by rw[show(Bd s (a+j)).toNat % 128=(Bd s (a+j)).toNat by omega])) (show(a:Int)+(j:Int)+1=((a+j+1:Nat):Int) by omega) (Aq I).symm)
    have KH:¬((j:Int)=(0:Int)):=KH;refine J (fun Qx=>?_) (fun Qx=>?_)
    .have Qx:wrap .u64 (Bd s (a+j)).toNat≠(0:Int):=Qx;exact .of_eq (EF i3 (Ha I I I I) ((MS I i2 hB I).trans (by rw[show(Bd s (a+j)).toNat % 128=(Bd s (a+j)).toNat by omega])) (show(a:Int)+(j:Int)+1=((a+j+1:Nat):Int) by omega) (Aq I).symm)
    have Qx:wrap .u64 (Bd s (a+j)).toNat=(0:Int):=AH Qx;exact .of_eq (EF i3 (Ha I I I I) ((MS I i2 hB I).trans (by rw[show(Bd s (a+j)).toNat % 128=(Bd s (a+j)).toNat by omega])) (show(a:Int)+(j:Int)+1=((a+j+1:Nat):Int) by omega) (Al I).symm)
   have h9:¬(wrap .u64 (Bd s (a+j)).toNat<(128:Int)):=h9;refine cU [(0,vs s),(1,G (a:Int)),(7,.v (.int .u64 (wrap .u64 ((m:Int)+(DY .shl .u64 ((wrap .u64 (Bd s (a+j)).toNat) % 128) (7*j)))))),(8,G j)] [] Z4 X (J (Ii j I) (M ⟨(j+1,m+(Bd s (a+j)).toNat % 128*128 ^ j),by show j+1<=10;omega,yq i2,UN i3 I I I I⟩ ?_));exact⟨Dl 10 j I,⟨Z,Z,⟨(Aa (fun z:Int=>AV.v (.int .u64 z)) (MS I i2 hB I)),rfl⟩,Z,X⟩,X,Fh,X⟩
  have h6:¬((j:Int)=(9:Int)):=h6;refine cU [(0,vs s),(1,G (a:Int)),(7,.v (.int .u64 (m:Int))),(8,G j),(9,.v (.int .u64 (wrap .u64 (Bd s (a+j)).toNat)))] [] Z5 X (J I (J (by show As ((7:Int)*(j:Int));unfold As;omega) (J I (J (fun RT=>?_) (fun RT=>?_)))))
  .have RT:wrap .u64 (Bd s (a+j)).toNat<(128:Int):=RT;refine J (by show As (((a:Int):Int)+(j:Int));unfold As;omega) ?_;refine J (by show As (((a:Int)+j:Int)+(1:Int));unfold As;omega) ?_;refine J (fun Pd=>?_) (fun Pd=>?_)
   .have Pd:(j:Int)=(0:Int):=Pd;exact .of_eq (EF i3 (Ha I I I I) ((MS I i2 hB I).trans (by rw[show(Bd s (a+j)).toNat % 128=(Bd s (a+j)).toNat by omega])) (show(a:Int)+(j:Int)+1=((a+j+1:Nat):Int) by omega) (Aq I).symm)
   have Pd:¬((j:Int)=(0:Int)):=Pd;refine J (fun ig=>?_) (fun ig=>?_)
   .have ig:wrap .u64 (Bd s (a+j)).toNat≠(0:Int):=ig;exact .of_eq (EF i3 (Ha I I I I) ((MS I i2 hB I).trans (by rw[show(Bd s (a+j)).toNat % 128=(Bd s (a+j)).toNat by omega])) (show(a:Int)+(j:Int)+1=((a+j+1:Nat):Int) by omega) (Aq I).symm)
   have ig:wrap .u64 (Bd s (a+j)).toNat=(0:Int):=AH ig;exact .of_eq (EF i3 (Ha I I I I) ((MS I i2 hB I).trans (by rw[show(Bd s (a+j)).toNat % 128=(Bd s (a+j)).toNat by omega])) (show(a:Int)+(j:Int)+1=((a+j+1:Nat):Int) by omega) (Al I).symm)
  have RT:¬(wrap .u64 (Bd s (a+j)).toNat<(128:Int)):=RT;refine cU [(0,vs s),(1,G (a:Int)),(7,.v (.int .u64 (wrap .u64 ((m:Int)+(DY .shl .u64 ((wrap .u64 (Bd s (a+j)).toNat) % 128) (7*j)))))),(8,G j)] [] Z4 X (J (Ii j I) (M ⟨(j+1,m+(Bd s (a+j)).toNat % 128*128 ^ j),by show j+1<=10;omega,yq i2,UN i3 I I I I⟩ ?_));exact⟨Dl 10 j I,⟨Z,Z,⟨(Aa (fun z:Int=>AV.v (.int .u64 z)) (MS I i2 hB I)),rfl⟩,Z,X⟩,X,Fh,X⟩
 have h1:¬((j:Int)<(10:Int)):=h1;exact .of_eq (EF i3 (by first | exact PB I | exact PD I _ | exact PA I I I) rfl rfl rfl)
theorem Adg(N k:Int)(kS:PC 203 [vs s,G (a:Int)] (.tup [.v (.int .u64 N),G k,Q false])):PC 137 [vs s,G (a:Int)] (.tup [G 0,G 0,Q false]):=by
 refine Ps CF func137 rfl C4 (C1 (H kS ?_));exact .refl _
theorem Adh(N k:Int)(kS:PC 203 [vs s,G (a:Int)] (.tup [.v (.int .u64 N),G k,Q true]))(hN:9223372036854775807<N):PC 137 [vs s,G (a:Int)] (.tup [G 0,G 0,Q false]):=by
 refine Ps CF func137 rfl C4 (C1 (H kS (J (fun h1=>?_) (fun h1=>?_))))
 .have h1:(9223372036854775807:Int)<(N:Int):=h1;exact .refl _
 have h1:¬((9223372036854775807:Int)<(N:Int)):=h1;refine J I ?_;omega
theorem Adi(N k:Int)(kS:PC 203 [vs s,G (a:Int)] (.tup [.v (.int .u64 N),G k,Q true]))(hN:N<=2^63-1)(h0:0<=N):PC 137 [vs s,G (a:Int)] (.tup [G N,G k,Q true]):=by
 refine Ps CF func137 rfl C4 (C1 (H kS (J (fun h1=>?_) (fun h1=>?_))))
 .have h1:(9223372036854775807:Int)<(N:Int):=h1;omega
 have h1:¬((9223372036854775807:Int)<(N:Int)):=h1;refine J (by unfold As;omega) ?_;exact .refl _
theorem Adc(kR:PC 137 [vs s,G (a:Int)] (.tup [G 0,G 0,Q false])):PC 138 [vs s,G (a:Int)] (.tup [vs mt,G 0,Q false]):=by
 refine Ps CF func138 rfl C4 (C1 (H kR ?_));exact .refl _
theorem Ade(hs:s.size<=2^62)(N k:Nat)(hk:k<=s.size)(hn:N<=2^63-1)(kR:PC 137 [vs s,G (a:Int)] (.tup [G (N:Int),G (k:Int),Q true]))(hN:s.size-k<N):PC 138 [vs s,G (a:Int)] (.tup [vs mt,G 0,Q false]):=by
 refine Ps CF func138 rfl C4 (C1 (H kR (J (by show As ((s.size:Int)-((k:Int):Int));unfold As;omega) ?_)));refine J (fun h1=>?_) (fun h1=>?_)
 .have h1:(s.size-(k:Int):Int)<((N:Int):Int):=h1;exact .refl _
 have h1:¬((s.size-(k:Int):Int)<((N:Int):Int)):=h1;refine J (by show As (((k:Int):Int)+((N:Int):Int));unfold As;omega) ?_;refine J (show(0:Int)<=(k:Int)/\((k:Int):Int)<=(k:Int)+(N:Int)/\((k:Int)+(N:Int):Int)<=(s.size:Int)from⟨by omega,by omega,by omega⟩) (J (by show As (((k:Int):Int)+((N:Int):Int));unfold As;omega) ?_);omega
theorem Adf(hs:s.size<=2^62)(N k:Nat)(hk:k<=s.size)(hn:N<=2^63-1)(kR:PC 137 [vs s,G (a:Int)] (.tup [G (N:Int),G (k:Int),Q true]))(hN:N<=s.size-k):PC 138 [vs s,G (a:Int)] (.tup [vs (s.extract k (k+N)),G ((k+N:Nat):Int),Q true]):=by
 refine Ps CF func138 rfl C4 (C1 (H kR (J (by show As ((s.size:Int)-((k:Int):Int));unfold As;omega) ?_)));refine J (fun h1=>?_) (fun h1=>?_)
 .have h1:(s.size-(k:Int):Int)<((N:Int):Int):=h1;omega
 have h1:¬((s.size-(k:Int):Int)<((N:Int):Int)):=h1;refine J (by show As (((k:Int):Int)+((N:Int):Int));unfold As;omega) ?_;refine J (show(0:Int)<=(k:Int)/\((k:Int):Int)<=(k:Int)+(N:Int)/\((k:Int)+(N:Int):Int)<=(s.size:Int)from⟨by omega,by omega,by omega⟩) (J (by show As (((k:Int):Int)+((N:Int):Int));unfold As;omega) ?_);exact C (fun z=>AV.tup [vs z,G ((k:Int)+(N:Int)),Q true]) (show s.extract (k:Int).toNat ((k:Int)+(N:Int)).toNat=_ by rw[show((k:Int)+(N:Int)).toNat=k+N by omega];rfl)
def SC:Nat×Nat×Bool:=if jp s a=true then((F0 s a).1,(F0 s a).2.1,true)else(0,0,false)
theorem u6(hs:s.size<=2^62)(ha:a<=2^62):PC 137 [vs s,G (a:Int)] (.tup [G ((SC s a).1:Int),G ((SC s a).2.1:Int),Q (SC s a).2.2]):=by
 have k:=zi s a hs ha;unfold SC jp;generalize F0 s a=r at k⊢;obtain⟨N,n,u⟩:=r;cases u<;>grind [Adg,Adi,Adh]
theorem Aal(hs:s.size<=2^62)(ha:a<=s.size):PC 138 [vs s,G (a:Int)] (.tup [vs (J9 s a).1,G ((J9 s a).2.1:Int),Q (J9 s a).2.2]):=by
 have k:=u6 s a hs I;unfold SC at k;unfold J9
 by_cases hu:jp s a=true
 .rw[AO hu]at k;have hk:(F0 s a).2.1<=s.size:=SE ha (Ri hu);have hn:=bA hu
  by_cases h:(F0 s a).1<=s.size-(F0 s a).2.1
  .rw[AO ⟨hu,h⟩];exact Adf s a hs _ _ hk I k h
  .rw[AB (fun c=>h c.2)];exact Ade s a hs _ _ hk I k I
 .rw[AB hu]at k;rw[AB (fun c=>hu c.1)];exact Adc s a k
def jt{α:Type}(z:α)(r:α×Nat×Bool)(q:N):α×N:=if q.2=0 then(bif r.2.2 then(r.1,(r.2.1,0))else(z,(0,1)))else(z,q)
def nR:Nat×N:=jt 0 (SC s q.1) q
def tR:CS×N:=jt ⟨#[]⟩ (J9 s q.1) q
abbrev Je:Bool:=decide (q.2=0)
theorem AcB{s:CS}{a:Nat}(h:(SC s a).2.2=false):SC s a=(0,0,false):=by
 grind [SC]
theorem uy{s:CS}{a:Nat}(h:(J9 s a).2.2=false):J9 s a=(⟨#[]⟩,0,false):=by
 grind [J9]
theorem AfS{s:CS}{a:Nat}:nR s (a,0)=((SC s a).1,((SC s a).2.1,bif (SC s a).2.2 then 0 else 1)):=by
 grind [nR,jt,AcB]
theorem Aab{s:CS}{a:Nat}:tR s (a,0)=((J9 s a).1,((J9 s a).2.1,bif (J9 s a).2.2 then 0 else 1)):=by
 grind [tR,jt,uy]
theorem iN(b:Bool):decide ((bif b then(0:Int)else 1)=0)=b:=aa2
theorem Ahb(a:Int):PC 71 [.agg [vs s,G a,Q false]] (.tup [G 0,.agg [vs s,G a,Q false]]):=by
 refine Ps CF func71 rfl C4 (J (fun h=>absurd h aa3) (fun _=>?_));refine U (U (J aa5 (U ?_)));exact .refl _
theorem Ahc(a:Int):PC 72 [.agg [vs s,G a,Q false]] (.tup [vs mt,.agg [vs s,G a,Q false]]):=by
 refine Ps CF func72 rfl C4 (J (fun h=>absurd h aa3) (fun _=>?_));refine U (U (J aa5 (U ?_)));exact .refl _
theorem Adb(a n k:Int)(kR:PC 137 [vs s,G a] (.tup [G n,G k,Q true])):PC 71 [.agg [vs s,G a,Q true]] (.tup [G n,.agg [vs s,G k,Q true]]):=by
 refine Ps CF func71 rfl C4 (J (fun _=>?_) (fun h=>absurd h aa3));refine C1 (H kR (U (J aa5 (U ?_))));exact .refl _
theorem Adk(a k:Int)(x:CS)(kR:PC 138 [vs s,G a] (.tup [vs x,G k,Q true])):PC 72 [.agg [vs s,G a,Q true]] (.tup [vs x,.agg [vs s,G k,Q true]]):=by
 refine Ps CF func72 rfl C4 (J (fun _=>?_) (fun h=>absurd h aa3));refine C1 (H kR (U (J aa5 (U ?_))));exact .refl _
theorem Ada(a n k:Int)(kR:PC 137 [vs s,G a] (.tup [G n,G k,Q false])):PC 71 [.agg [vs s,G a,Q true]] (.tup [G n,.agg [vs s,G k,Q false]]):=by
 refine Ps CF func71 rfl C4 (J (fun _=>?_) (fun h=>absurd h aa3));refine C1 (H kR (U (J aa5 (U ?_))));exact .refl _
theorem Adj(a k:Int)(x:CS)(kR:PC 138 [vs s,G a] (.tup [vs x,G k,Q false])):PC 72 [.agg [vs s,G a,Q true]] (.tup [vs x,.agg [vs s,G k,Q false]]):=by
 refine Ps CF func72 rfl C4 (J (fun _=>?_) (fun h=>absurd h aa3));refine C1 (H kR (U (J aa5 (U ?_))));exact .refl _
abbrev Tw:List AV:=[vs s,G (q.1:Int),Q (Je q)]
theorem Am6(hs:s.size<=2^62)(hq:q.1<=s.size):PC 71 [.agg (Tw s q)] (.tup [G ((nR s q).1:Int),.agg (Tw s (nR s q).2)]):=by
 grind [u6,SC,Adb,Ada,nR,jt,decide_eq_false,Ahb]
theorem Am7(hs:s.size<=2^62)(hq:q.1<=s.size):PC 72 [.agg (Tw s q)] (.tup [vs (tR s q).1,.agg (Tw s (tR s q).2)]):=by
 obtain⟨a,e⟩:=q
 by_cases he:e=0
 .subst he;have k:=Aal s a hs hq;rw[Aab];unfold Tw Je;rw[iN]
  grind [J9,Adk,Adj]
 .have e1:tR s (a,e)=(⟨#[]⟩,(a,e)):=by grind [tR,jt]
  rw[e1];unfold Tw Je;rw[Al he];exact Ahc s a
end Go.Eng
namespace Go.Proofs
open Go.Eng
variable {s:At2}
theorem Mi.same{α:Type}{rd rd' : N->α×N}{enc:α->At3}{V:α->Prop}(h:Mi s rd enc V)(he:∀q:N,q.2≠0->(rd' q).2=q)(e:∀p,((rd (p,0)).2.2=0\/(rd' (p,0)).2.2=0)->rd' (p,0)=rd (p,0)):Mi s rd' enc V where
 err:=he
 snd:=fun p p' hq=>by
  grind [Go.Proofs.Mi.snd]
 cpl:=fun p x r hv hq=>by
  have k:=h.cpl p x r hv hq;simp_all
theorem bD{α:Type}{z:α}{r:α×Nat×Bool}{q:N}(h:q.2≠0):jt z r q=(z,q):=by
 grind [jt]
theorem mg{α:Type}{z z' : α}{r r' : α×Nat×Bool}{p:Nat}(hr:r.2.2=r'.2.2)(h1:r'.2.2=true->r=r'):((tk z r (p,0)).2.2=0\/(jt z' r' (p,0)).2.2=0)->jt z' r' (p,0)=tk z r (p,0):=by
 grind [Rj,jt]
theorem IX:Mi s (nR s) uL (fun n=>n<2^63):=
 G8.same (fun q hq=>by grind [nR,bD]) (fun p=>mg (by grind [SC]) (fun h=>by
  grind [SC]))
theorem RJ:Mi s (tR s) tL bX:=LH.same (fun q hq=>by grind [tR,bD]) (fun p=>mg rfl (fun _=>rfl))
def T4{α:Type}(rd:N->α×N)(s:At2)(q:N):List α×N:=ER rd (nR s q).1 (nR s q).2 []
theorem Qf{α:Type}{rd:N->α×N}{enc:α->At3}{V:α->Prop}(h:Mi s rd enc V):Mi s (T4 rd s) (G9 enc) (fun xs=>(∀x∈xs,V x)/\xs.length<2^63):=
 X6 IX (fun q hq=>by grind [nR,bD]) h
def Py(s:At2)(q:N):(Int×Int)×N:=((((nR s q).1:Int),((nR s (nR s q).2).1:Int)),(nR s (nR s q).2).2)
def QZ(s:At2)(q:N):Rq×N:=(⟨(tR s q).1,(T4 (Py s) s (tR s q).2).1⟩,(T4 (Py s) s (tR s q).2).2)
def fB(s:At2)(q:N):Lo×N:=
 let a:=tR s q
 let b:=nR s a.2
 let c:=nR s b.2
 let d:=tR s c.2
 let e:=tR s d.2
 (⟨a.1,⟨K8 a.1,(b.1:Int),(c.1:Int)⟩,d.1,e.1⟩,e.2)
def jf(s:At2)(q:N):Nf×N:=
 let k:=nR s q
 let p:=tR s k.2
 let a:=nR s p.2
 let b:=nR s a.2
 let c:=nR s b.2
 let d:=nR s c.2
 (⟨(k.1:Int),p.1,(a.1:Int),(b.1:Int),(c.1:Int),(d.1:Int)⟩,d.2)
def jg(s:At2)(q:N):Sk×N:=
 let p:=tR s q
 let a:=nR s p.2
 let b:=nR s a.2
 (⟨p.1,(a.1:Int),(b.1:Int)⟩,b.2)
theorem cC:Mi s (Py s) T7 (fun x=>HB x.1/\HB x.2):=
 (IX.seq IX).map (fun x=>((x.1:Int),(x.2:Int))) (fun y=>(y.1.toNat,y.2.toNat)) T7 _ (fun _ hx=>⟨⟨D1 hx.1,D1 hx.2⟩,ME _ _⟩) (fun _ hy=>⟨⟨hy.1.nat,hy.2.nat⟩,UV hy.1.cast hy.2.cast,ME _ _⟩)
structure LoR(e:Lo):Prop where
 a:e.ver.a=K8 e.path
 p:bX e.path
 b:HB e.ver.b
 c:HB e.ver.c
 d:bX e.arch
 i:bX e.ifc
theorem cy:Mi s (fB s) MD LoR:=
 (RJ.seq (IX.seq (IX.seq (RJ.seq RJ)))).map (fun x=>(⟨x.1,⟨K8 x.1,(x.2.1:Int),(x.2.2.1:Int)⟩,x.2.2.2.1,x.2.2.2.2⟩:Lo)) (fun y=>(y.path,y.ver.b.toNat,y.ver.c.toNat,y.arch,y.ifc)) MD _
  (fun x hx=>⟨⟨rfl,hx.1,D1 hx.2.1,D1 hx.2.2.1,hx.2.2.2.1,hx.2.2.2.2⟩,by grind [MD,ME]⟩)
  (fun y hy=>⟨⟨hy.p,hy.b.nat,hy.c.nat,hy.d,hy.i⟩,by
   obtain⟨p,⟨a,b,c⟩,d,i⟩:=y;have ha:a=K8 p:=hy.a;have hb:((b.toNat:Nat):Int)=b:=hy.b.cast;have hc:((c.toNat:Nat):Int)=c:=hy.c.cast;simp_all,by grind [MD,ME]⟩)
theorem cz:Mi s (jf s) Oj NfW:=
 (IX.seq (RJ.seq (IX.seq (IX.seq (IX.seq IX))))).map (fun x=>(⟨(x.1:Int),x.2.1,(x.2.2.1:Int),(x.2.2.2.1:Int),(x.2.2.2.2.1:Int),(x.2.2.2.2.2:Int)⟩:Nf)) (fun y=>(y.kind.toNat,y.path,y.place.toNat,y.number.toNat,y.left.toNat,y.right.toNat)) Oj _
  (fun x hx=>⟨⟨D1 hx.1,hx.2.1,D1 hx.2.2.1,D1 hx.2.2.2.1,D1 hx.2.2.2.2.1,D1 hx.2.2.2.2.2⟩,by grind [Oj,sM,Int.toNat_natCast]⟩)
  (fun y hy=>⟨⟨hy.k.nat,hy.p,hy.a.nat,hy.b.nat,hy.c.nat,hy.d.nat⟩,by
   grind [Nf,Go.Proofs.HB.cast,Go.Proofs.NfW.k,Go.Proofs.NfW.a,Go.Proofs.NfW.b,Go.Proofs.NfW.c,Go.Proofs.NfW.d],by grind [Oj,sM]⟩)
theorem cB:Mi s (jg s) Rv SkW:=
 (RJ.seq (IX.seq IX)).map (fun x=>(⟨x.1,(x.2.1:Int),(x.2.2:Int)⟩:Sk)) (fun y=>(y.path,y.place.toNat,y.inf.toNat)) Rv _
  (fun x hx=>⟨⟨hx.1,D1 hx.2.1,D1 hx.2.2⟩,by grind [Rv,ME]⟩)
  (fun y hy=>⟨⟨hy.p,hy.a.nat,hy.b.nat⟩,by
   grind [Sk,Go.Proofs.HB.cast,Go.Proofs.SkW.a,Go.Proofs.SkW.b],by grind [Rv,ME]⟩)
abbrev LV{α:Type}(V:α->Prop)(xs:List α):Prop:=(∀x∈xs,V x)/\xs.length<2^63
structure RqV(q:Rq):Prop where
 p:bX q.path
 s:LV (fun x:Int×Int=>HB x.1/\HB x.2) q.set
theorem cA:Mi s (QZ s) I3 RqV:=
 (RJ.seq (Qf cC)).map (fun x=>(⟨x.1,x.2⟩:Rq)) (fun y=>(y.path,y.set)) I3 _ (fun _ hx=>⟨⟨hx.1,hx.2⟩,rfl⟩) (fun _ hy=>⟨⟨hy.p,hy.s⟩,rfl,rfl⟩)
def QY(s:At2)(q:N):Lk×N:=
 let a:=T4 (QZ s) s q
 let b:=T4 (fB s) s a.2
 let c:=T4 (jf s) s b.2
 let d:=T4 (jg s) s c.2
 (⟨a.1,b.1,c.1,d.1⟩,d.2)
structure LkV(l:Lk):Prop where
 r:LV RqV l.roots
 e:LV LoR l.ents
 i:LV NfW l.infs
 k:LV SkW l.skips
theorem Vf:Mi s (QY s) I0 LkV:=
 ((Qf cA).seq ((Qf cy).seq ((Qf cz).seq (Qf cB)))).map (fun x=>(⟨x.1,x.2.1,x.2.2.1,x.2.2.2⟩:Lk)) (fun y=>(y.roots,y.ents,y.infs,y.skips)) I0 _
  (fun _ hx=>⟨⟨hx.1,hx.2.1,hx.2.2.1,hx.2.2.2⟩,by grind [I0]⟩) (fun _ hy=>⟨⟨hy.r,hy.e,hy.i,hy.k⟩,rfl,by grind [I0]⟩)
def T3(s:At2):Lk×Int:=if((QY s (0,0)).2.2=0/\(QY s (0,0)).2.1=s.size)/\Cz (QY s (0,0)).1=true then((QY s (0,0)).1,0)else(⟨[],[],[],[]⟩,9)
theorem ld(l:Lk):l.roots.length<=(I0 l).length/\l.ents.length<=(I0 l).length/\l.infs.length<=(I0 l).length/\l.skips.length<=(I0 l).length/\∀q∈l.roots,q.set.length<=(I0 l).length:=by
 grind [NY,br,aM,aS,bv,G9,I3,I0,bx,cY]
theorem Aa8(h:gW s=true):(QY s (0,0))=(Nj (Um s).1,(s.size,0))/\Cz (Nj (Um s).1)=true:=by
 unfold gW at h;obtain⟨c1,c2⟩:=Ao _ _▸h;have c1:=B7 c1;obtain⟨p',hp⟩:∃p',(Um s).2=(p',0):=⟨(Um s).2.1,by grind⟩;obtain⟨a1,a2,a3⟩:=(qC (s:=s) s.size).snd 0 p' hp;have ok:=bi (s:=s) (most:=s.size) (q:=(0,0)) ⟨Ai _,.inl rfl⟩;have xd : p'=s.size:=by
  grind
 have hd:dr s p'=[]:=FE (by rw[xd];exact Af _);rw[hd,B9]at a2;have hV:LkV (Nj (Um s).1):=⟨⟨fun q hq=>⟨(a1.r.1 q hq).p,(a1.r.1 q hq).s.1,(a1.r.1 q hq).s.2.1⟩,a1.r.2.1⟩,⟨fun e he=>by
  obtain⟨x,hx,rfl⟩:=Ap.1 he;have w:=a1.e.1 x hx;exact⟨rfl,w.p,w.b,w.c,w.d,w.i⟩,by show((Um s).1.ents.map JT).length<_;rw[Bs];exact a1.e.2.1⟩,⟨a1.i.1,a1.i.2.1⟩,⟨a1.k.1,a1.k.2.1⟩⟩
 have k:=(Vf (s:=s)).cpl 0 (Nj (Um s).1) [] hV (by grind [kZ])
 grind [kZ]
theorem Ag9(hs:s.size<=10^6):T3 s=MB s:=by
 by_cases h:((QY s (0,0)).2.2=0/\(QY s (0,0)).2.1=s.size)/\Cz (QY s (0,0)).1=true
 .unfold T3;rw[AO h];obtain⟨⟨h1,h2⟩,h3⟩:=h;obtain⟨a1,a2,a3⟩:=(Vf (s:=s)).snd 0 s.size (UV h2 h1);have hd:dr s s.size=[]:=FE (Af _);rw[hd,B9]at a2;have a2:s.data.toList=I0 (QY s (0,0)).1:=a2
  clear h1 h2 hd
  generalize (QY s (0,0)).1=m at a1 a2 a3 h3;have e:bB (I0 m)=s:=by rw[<-a2]
  have hl:(I0 m).length=s.size:=I
  have n:=ld m;have ok:=la h3 (fun q hq=>by grind) I (fun i hi=>by have:=a1.i.1 i hi;exact⟨this.a.2,this.b.2,this.c.2,this.d.2⟩) (fun i hi=>by have:=a1.k.1 i hi;exact⟨this.a.2,this.b.2⟩);have hT:LkT m:=⟨fun q hq=>(a1.r.1 q hq).p,fun e he=>⟨(a1.e.1 e he).p,(a1.e.1 e he).d,(a1.e.1 e he).i⟩,fun i hi=>(a1.i.1 i hi).p,fun i hi=>(a1.k.1 i hi).p⟩
  grind [Ab2,Ac5,Ac6]
 grind [T3,MB,Aa8]
end Go.Proofs
namespace Go.Proofs
open Go.Shelf Go.RowKit Go.Lib Go.Sort Go.Eng
theorem Ahf(s:At2)(a:Nat)(hs:s.size<=2^62)(ha:a<=s.size)(W:World)(hM:HM W) :
  Calls Tryz.prog 137 #[.string s,.int .i64 (a:Int)] W fun x w'=>x=.returned (.tuple #[.int .i64 ((SC s a).1:Int),.int .i64 ((SC s a).2.1:Int),.bool (SC s a).2.2])/\Below W.heap.size W w':=by
 refine(GY (vals:=#[.string s,.int .i64 (a:Int)]) (u6 s a hs I) hM rfl (fun i av x e1 e2=>?_)).mono fun x W' ⟨⟨v,g',U,e1,e2⟩,hb⟩=>⟨by rw[e1,NF (vs:=[.int .i64 ((SC s a).1:Int),.int .i64 ((SC s a).2.1:Int),.bool (SC s a).2.2]) e2],hb⟩
 grind [O.v]
theorem Ahe(s:At2)(a:Nat)(hs:s.size<=2^62)(ha:a<=s.size)(W:World)(hM:HM W) :
  Calls Tryz.prog 138 #[.string s,.int .i64 (a:Int)] W fun x w'=>x=.returned (.tuple #[.string (J9 s a).1,.int .i64 ((J9 s a).2.1:Int),.bool (J9 s a).2.2])/\Below W.heap.size W w':=by
 refine(GY (vals:=#[.string s,.int .i64 (a:Int)]) (Aal s a hs ha) hM rfl (fun i av x e1 e2=>?_)).mono fun x W' ⟨⟨v,g',U,e1,e2⟩,hb⟩=>⟨by rw[e1,NF (vs:=[.string (J9 s a).1,.int .i64 ((J9 s a).2.1:Int),.bool (J9 s a).2.2]) e2],hb⟩
 grind [O.v]
abbrev GF(s:At2)(q:N):Prop:=q.1<=s.size
theorem AcA{s:At2}{a:Nat}(ha:a<=s.size):(SC s a).2.1<=s.size:=by
 grind [SC,SE]
theorem yE{s:At2}{a:Nat}(ha:a<=s.size):(J9 s a).2.1<=s.size:=by
 grind [ux,uy]
theorem OG{s:At2}{q:N}(h:GF s q):GF s (nR s q).2:=by
 grind [nR,jt,AcA]
theorem uo{s:At2}{q:N}(h:GF s q):GF s (tR s q).2:=by
 grind [tR,jt,yE]
theorem HM.setNe{W:World}{a k:Nat}{v:Value}(h:HM W)(ha:0<a):HM (W.setCell ⟨a,k,none⟩ v):=h.imp fun m hm=>by
 grind [World.cell?,Below.heap_setCell]
theorem AlT{s:At2}{q:N}(h:q.2=0):tR s q=((J9 s q.1).1,((J9 s q.1).2.1,bif (J9 s q.1).2.2 then 0 else 1)):=by
 grind [Aab]
theorem AfT{s:At2}{q:N}(h:q.2=0):nR s q=((SC s q.1).1,((SC s q.1).2.1,bif (SC s q.1).2.2 then 0 else 1)):=by
 grind [AfS]
theorem xB{s:At2}{q:N}(h:¬q.2=0):nR s q=(0,q):=by grind [nR,jt]
theorem zl(s:At2)(q:N)(hs:s.size<=10^6)(h0:q.2=0)(hq:GF s q)(W:World)(hM:HM W) :
  Calls Tryz.prog 137 #[.string s,.int .i64 (q.1:Int)] W fun x w'=>x=.returned (.tuple #[.int .i64 ((nR s q).1:Int),.int .i64 ((nR s q).2.1:Int),.bool (Je (nR s q).2)])/\Below W.heap.size W w':=by
 rw[AfT h0];unfold Je;rw[iN]
 grind [Ahf]
theorem Amb(s:At2)(q:N)(hs:s.size<=10^6)(h0:q.2=0)(hq:GF s q)(W:World)(hM:HM W) :
  Calls Tryz.prog 138 #[.string s,.int .i64 (q.1:Int)] W fun x w'=>x=.returned (.tuple #[.string (tR s q).1,.int .i64 ((tR s q).2.1:Int),.bool (Je (tR s q).2)])/\Below W.heap.size W w':=by
 rw[AlT h0];unfold Je;rw[iN]
 grind [Ahe]
def At{α:Type}(one:N->α×N)(n k:Nat)(q:N)(xs:List α)(fin:List α×N):Prop:=xs.length=k/\k<=n/\((q.2=0/\k<=q.1/\ER one (n-k) q xs=fin)\/(q.2≠0/\fin=(xs,q)))
theorem At.next{α:Type}{one:N->α×N}{n k:Nat}{q:N}{xs:List α}{fin:List α×N}(h:At one n k q xs fin)(ho:∀q:N,q.2=0->(one q).2.2=0->q.1<(one q).2.1)(hq:q.2=0)(hk:k<n):At one n (k+1) (one q).2 (xs++[(one q).1]) fin:=by
 obtain⟨hl,_,h⟩:=h;refine⟨by simp_all,hk,?_⟩;rcases h with ⟨_,h1,h⟩ | ⟨h,_⟩
 .rw[show n-k=(n-(k+1))+1 by omega,ER]at h
  grind
 omega
theorem At.fin{α:Type}{one:N->α×N}{n k:Nat}{q:N}{xs:List α}{fin:List α×N}(h:At one n k q xs fin)(e:¬(q.2=0/\k<n)):fin=(xs,q):=by
 rcases h with ⟨_,h2,⟨h1,_,h⟩ | ⟨_,h⟩⟩
 .have:k=n:=I
  subst this
  grind [ER]
 omega
theorem At.le{α:Type}{one:N->α×N}{n k:Nat}{q:N}{xs:List α}{fin:List α×N}(h:At one n k q xs fin)(e:q.2=0):k<=q.1:=by
 rcases h with ⟨_,_,⟨_,h,_⟩ | ⟨h,_⟩⟩<;>simp_all
theorem At.start{α:Type}(one:N->α×N)(s:At2)(q:N)(h:q.2=0):At one (nR s q).1 0 (nR s q).2 [] (T4 one s q):=by
 refine⟨rfl,Ai _,?_⟩
 by_cases e:(nR s q).2.2=0
 .exact .inl ⟨e,Ai _,rfl⟩
 .refine .inr ⟨e,?_⟩;have h0:(nR s q).1=0:=by
   grind [AfT,SC]
  unfold T4;rw[h0];rfl
theorem At.none{α:Type}(one:N->α×N)(s:At2)(q:N)(h:¬q.2=0):At one 0 0 q [] (T4 one s q):=by
 refine⟨rfl,Ai _,.inr ⟨h,?_⟩⟩;unfold T4;rw[xB h];rfl
theorem Mi.lt{α:Type}{s:At2}{rd:N->α×N}{enc:α->At3}{V:α->Prop}(h:Mi s rd enc V)(hp:∀x,1<=(enc x).length)(q:N)(h0:q.2=0)(h1:(rd q).2.2=0):q.1<(rd q).2.1:=by
 obtain⟨a,e⟩:=q;obtain rfl:e=0:=h0
 have:=(h.snd a (rd (a,0)).2.1 (UV rfl h1)).2.2
 grind
theorem lM{α:Type}{s:At2}{one:N->α×N}(ho:∀q,GF s q->GF s (one q).2):∀(n:Nat) (q:N) (xs:List α),GF s q->GF s (ER one n q xs).2
 |0,_,_,h=>h
 |n+1,q,xs,h=>by
  rw[ER];split
  .exact lM ho n _ _ (ho q h)
  simp_all
theorem Aa7{α:Type}{s:At2}{one:N->α×N}(ho:∀q,GF s q->GF s (one q).2){q:N}(h:GF s q):GF s (T4 one s q).2:=lM ho _ _ _ (OG h)
theorem tQ{s:At2}(q:N)(h:GF s q):GF s (Py s q).2:=OG (OG h)
theorem Acr{s:At2}(q:N)(h:GF s q):GF s (QZ s q).2:=Aa7 tQ (uo h)
theorem hsC{w:World}{b k j:Nat}{v:Value}(h:j≠b):(w.setCell ⟨b,k,none⟩ v).heap[j]?=w.heap[j]?:=Ai3 _ _ _ _ h
theorem Below.setC{n:Nat}{W w:World}{b k:Nat}{v:Value}(h:Below n W w)(hb:n<=b):Below n W (w.setCell ⟨b,k,none⟩ v):=
 ⟨h.os,h.tape,h.output,by simpa[World.setCell]using h.size,fun j j1=>(Ai3 _ _ _ _ (show j≠b by omega)).trans (h.block j j1)⟩
theorem Ip(w:World)(vs:List Value)(T:Nat){g:Nat}(hg:g=w.heap.size):∀j u,vs[j]?=some u->(w.alloc (.cells vs.toArray T)).cell? ((⟨g,0,none⟩:Addr).add j)=some u:=by
 subst hg;exact X2 w vs T
theorem lN{W w:World}(h:Below W.heap.size W w)(R:Nat):RB R R W w:=⟨h.os,h.tape,h.output,h.size,fun k k1 _ _=>h.block k k1⟩
structure MO{α:Type}(B E sz R b:Nat)(enc:α->List AV)(wr w w' : World)(v' : Value)(xs:List α):Prop where
 row:∃S us,F4 B E sz enc S w' v' xs us
 os:w'.os=wr.os
 tape:w'.tape=wr.tape
 output:w'.output=wr.output
 size:wr.heap.size<=w'.heap.size
 rr:R<B->w'.heap[R]?=w.heap[R]?
 old:∀j,j<B->j≠R->j≠b->w'.heap[j]?=wr.heap[j]?
theorem Oc{α:Type}{w wr:World}{ops:Array Oper}{rest:List Oper}{o:Oper}{a:Act}{Q:Exit->Act->World->Prop}{B E sz bytes:Nat}{enc:α->List AV}{S S2:Nat->Nat->Prop}{xs:List α}{us:At4}{x:α}{u:List Value}{va:Option Addr}{vn vc c R:Nat}{ad:Addr}{i:TypeInfo}{z:Value}
  (hgd:o.guard=none) (s y:Operand) (t:TypeId) (ho:o.op=.call { callee:=.builtin .append,args:=#[s,y],argTypes:=#[t,t] })
  (ht:Tryz.prog.underlying t=some (.slice E)) (hi:Tryz.prog.info? E=some i) (hz:i.zero=some z) (rL:i.size=sz) (hby:i.bytes=bytes) (hzs:z.cells.size=sz) (EC:0<sz/\bytes<=1000)
  (row:F4 B E sz enc S wr (.slice va vn vc) xs us) (CN:xs.length<=10^6) (hB:B<=wr.heap.size) (hR:R<B\/wr.heap.size<=R) (hb:RB R R wr w) (he:Ka S2 wr w (enc x) u) (hul:u.length=sz) (h1:∀y∈u,y.oneCell'=true)
  (hs:a.eval s=.slice va vn vc) (hx:a.eval y=.slice (some ad) 1 c) (Hr:∀j v,u[j]?=some v->w.cell? (ad.add j)=some v)
  (h:∀va vn vc w',MO B E sz R R enc wr w w' (.slice va vn vc) (xs++[x])->wpList Tryz.prog ops Q rest (a.put o.dst (.slice va vn vc)) w') :
  wpList Tryz.prog ops Q (o::rest) a w:=by
 have z1:=hb.size;have hm:=Nat.mul_le_mul (show xs.length+1<=1000001 by omega) EC.2;have hk:∀k,B<=k->k<wr.heap.size->w.heap[k]?=wr.heap[k]?:=fun k k1 k2=>hb.block k k2 I I;refine wpList_append_own_at _ hgd s y t ho B E i z sz bytes ht hi hz rL hby hzs EC.1 (.slice va vn vc) xs.length us.flatten hs (Rb row.own fun k k1 k2 _=>hk k k1 k2) ad 1 c u hx I Hr h1 (by grind [maxLen]) I I fun v' w6 Ph hg _ vo=>?_;obtain⟨wa,wn,wc,rfl⟩:∃q k c,v'=.slice q k c:=by rcases Ph.2 with ⟨e,_⟩ | ⟨g,cap,DU,e,_⟩<;>exact⟨_,_,_,e⟩
 have z2:=hg.size;have hv:∀k,k<B->some k≠(Value.slice va vn vc).ownBlock:=fun k k1 e=>by have:=(Rc row.own e).1;omega
 exact h _ _ _ _ ⟨⟨_,_,row.push (wa:=wr) (Af _) he hul hk z1 (fun k _ k2 k3=>hg.block k k2 k3) Ph (fun g e=>vo.elim (fun z=>.inl (e.trans z)) (fun z=>.inr aa0)) z2 hB⟩,hg.os.trans hb.os,hg.tape.trans hb.tape,hg.output.trans hb.output,by omega,fun r=>hg.block R I (hv R r),fun j j1 j2 _=>(hg.block j I (hv j j1)).trans (hb.block j I j2 j2)⟩
theorem MO.store{α:Type}{B E sz R b k:Nat}{enc:α->List AV}{wr w0 w:World}{v' : Value}{xs:List α}(h:MO B E sz R R enc wr w0 w v' xs)(hb:b<B)(hR:R≠b) :
  MO B E sz R b enc wr w0 (w.setCell ⟨b,k,none⟩ v') v' xs where
 row:=let ⟨S,us,r⟩:=h.row;⟨S,us,r.keep aa0 fun j j1 _ _=>Ai3 _ _ _ _ (show j≠b by omega)⟩
 os:=h.os
 tape:=h.tape
 output:=h.output
 size:=by have:=h.size;simp_all
 rr:=fun r=>(Ai3 _ _ _ _ hR).trans (h.rr r)
 old:=fun j j1 j2 j3=>(Ai3 _ _ _ _ j3).trans (h.old j j1 j2 j2)
theorem MO.below{α:Type}{B E sz R b:Nat}{enc:α->List AV}{W wr w w' : World}{v' : Value}{xs:List α}(h:MO B E sz R b enc wr w w' v' xs)(hb:Below W.heap.size W wr)(hB:W.heap.size<=B)(h2:W.heap.size<=R)(h3:W.heap.size<=b):Below W.heap.size W w':=
 ⟨h.os.trans hb.os,h.tape.trans hb.tape,h.output.trans hb.output,Az hb.size h.size,fun j j1=>(h.old j I I I).trans (hb.block j j1)⟩
theorem yg{W w:World}{p:At2}{ss:List (Int×Int)}{v:Value}{S2:Nat->Nat->Prop}{us2:At4}{B:Nat}(h:F4 B 64 2 Y S2 w v ss us2)(hB:W.heap.size<=B):Ka (fun b o=>S2 b o\/some b=v.ownBlock) W w (Ak ⟨p,ss⟩) [.string p,v] where
 len:=rfl
 fresh:=(h.done hB fun _=>rfl).fresh
 rep:=fun j av y e1 e2=>by
  match j,e1,e2 with
  |0,e1,e2=>cases e1;cases e2;exact⟨.v _ _,rfl⟩
  |1,e1,e2=>cases e1;cases e2;exact(h.done hB fun _=>rfl).rep 0 _ _ rfl rfl
end Go.Proofs
namespace Go.Proofs
open Go.Proofs.Tryz
open Go.Shelf Go.RowKit Go.Lib Go.Sort Go.Eng
set_option maxRecDepth 100000 in
theorem Adp(s:At2)(hs:s.size<=10^6)(W:World)(hM:HM W) :
  Calls prog 70 #[.string s,.int .i64 0] W fun x w'=>∃v S us,x=.returned (.tuple #[v,.int .i64 ((T4 (QZ s) s (0,0)).2.1:Int),.bool (Je (T4 (QZ s) s (0,0)).2)])/\Below W.heap.size W w'/\F4 W.heap.size 68 2 Ak S w' v (T4 (QZ s) s (0,0)).1 us:=by
 have c0:=zl s (0,0) hs rfl (Ai _) W hM;have Jp:GF s (nR s (0,0)).2:=OG (Ai _);have iq:=At.start (QZ s) s (0,0) rfl;generalize hF:T4 (QZ s) s (0,0)=F at iq⊢;generalize hnn:(nR s (0,0)).1=n at iq c0;generalize hqq:(nR s (0,0)).2=q0 at iq Jp c0;obtain⟨j0,hj,hj0,hj1,wX⟩:=info_parts (P:=prog) (e:=64) (z:=.agg #[zI,zI]) (size:=2) (bytes:=16) aa5;obtain⟨i0,hi,hi0,rA,hi2⟩:=info_parts (P:=prog) (e:=68) (z:=.agg #[zT,.slice none 0 0]) (size:=2) (bytes:=40) aa5
 go_enter func70,ntmps70
 go_wp2_with (go_at_call 137;go_loud (refine c0.mono ?_;rintro x w1 ⟨rfl,hb⟩))
 have hM1:=hM.below hb
 go_loopw [1,8,9,10] (fun a o v i wr=>∃(k:Nat) (q:N) (xs:List Rq) (S:Nat->Nat->Prop) (us:At4) (va:Option Addr) (vn vc:Nat),a=.int .i64 (q.1:Int)/\o=.bool (Je q)/\v=.slice va vn vc/\i=.int .i64 k/\At (QZ s) n k q xs F/\GF s q/\Below W.heap.size W wr/\F4 W.heap.size 68 2 Ak S wr (.slice va vn vc) xs us) (fun _ _ _ i _=>n-(intOf i).toNat)
 case atStart=>
  refine⟨0,q0,[],fun _ _=>False,[],some ⟨w1.heap.size,0,none⟩,0,0,rfl,rfl,rfl,rfl,iq,Jp,hb.alloc hb.size _,⟨rfl,.inr ⟨w1.heap.size,0,#[],rfl,hb.size,Dk _ _,Af _,Ai _,rfl,rfl⟩⟩,rfl,fun _ _ e=>e.elim,fun i x u e _=>by simp at e⟩
 case round=>
  obtain⟨k,q,xs,S,us,va,vn,vc,rfl,rfl,rfl,rfl,Ij,hqo,ar,Hh⟩:=hrel;obtain⟨wo,hwo⟩:∃wo:World,wo=wr:=⟨_,rfl⟩;subst hwo
  by_cases hq:q.2=0/\k<n
  .have EZ:Je q=true:=Aq hq.1;have TJ:=hM.below ar;have CN:=Ij.1;have hkq:=Ij.le hq.1;have hqs:q.1<=s.size:=hqo;simp only[EZ];have hqt:=uo hqo;have z0:=ar.size;have hc:=Amb s q hs hq.1 hqo (wo.alloc (.cells #[zT,.slice none 0 0] 68)) (TJ.alloc _)
   by_cases hp:(tR s q).2.2=0
   case' pos=>
    have w7:Je (tR s q).2=true:=Aq hp;simp only[w7]at hc
    go_wp2_with (first
     |(go_at_call 138;go_loud (refine hc.mono ?_;rintro x w2 ⟨rfl,b2⟩;have k2:=(b2.block wo.heap.size aa1).trans (Dk _ _);have z2:=(Ag.1 k2).1;have f2:=Ai2 k2 0;have g2:=Ai1 k2 0;have hM2:=(TJ.alloc (.cells #[zT,.slice none 0 0] 68)).below b2))
     |(go_at_call 137;go_loud (refine(zl s (tR s q).2 hs hp hqt _ ?_).mono ?_;exact hM2.setNe (by have:=LD TJ.choose_spec;omega);rintro x w3 ⟨rfl,b3⟩)))
    have k3:w3.heap[wo.heap.size]?=some (.cells #[.string (tR s q).1,.slice none 0 0] 68 (0,0)):=(b3.block wo.heap.size (by simp[World.setCell];exact z2)).trans (EG k2);have bI:Below wo.heap.size wo w3:=⟨b3.os.trans b2.os,b3.tape.trans b2.tape,b3.output.trans b2.output,Nat.le_of_lt (Ag.1 k3).1,fun j hj=>(b3.block j (by simp[World.setCell];omega)).trans ((Ai3 _ _ _ _ (show j≠wo.heap.size by omega)).trans ((b2.block j (by simp;omega)).trans (Ai4 _ _ _ hj)))⟩;have hqn:=OG hqt;have dj:=At.start (Py s) s (tR s q).2 hp;have hn2:True:=trivial;have hoq:True:=trivial;generalize ko:T4 (Py s) s (tR s q).2=F2 at dj;generalize (nR s (tR s q).2).1=n2 at dj⊢;generalize (nR s (tR s q).2).2=q1 at dj hqn⊢
   case' neg=>
    have w7:Je (tR s q).2=false:=Al hp;have hoq:=w7;simp only[w7]at hc
    go_wp2_with (first
     |(go_at_call 138;go_loud (refine hc.mono ?_;rintro x w2 ⟨rfl,b2⟩;have k2:=(b2.block wo.heap.size aa1).trans (Dk _ _);have z2:=(Ag.1 k2).1;have f2:=Ai2 k2 0;have g2:=Ai1 k2 0)))
    have k3:=EG (k:=0) (v:=.string (tR s q).1) k2;have bI:Below wo.heap.size wo (w2.setCell ⟨wo.heap.size,0,none⟩ (.string (tR s q).1)):=⟨b2.os,b2.tape,b2.output,Nat.le_of_lt (Ag.1 k3).1,fun j hj=>(Ai3 _ _ _ _ (show j≠wo.heap.size by omega)).trans ((b2.block j (by simp;omega)).trans (Ai4 _ _ _ hj))⟩;have hqn:=hqt;obtain⟨n2,hn2,dj⟩:∃n2:Nat,n2=0/\At (Py s) n2 0 (tR s q).2 [] _:=⟨0,rfl,At.none (Py s) s (tR s q).2 hp⟩;generalize w2.setCell ⟨wo.heap.size,0,none⟩ (.string (tR s q).1)=w3 at k3 bI⊢;generalize ko:T4 (Py s) s (tR s q).2=F2 at dj;generalize (tR s q).2=q1 at dj hqn hoq⊢
   all_goals
    go_loopw [1,8,13] (fun a o i wi=>∃(k2:Nat) (q' : N) (ss:List (Int×Int)) (xa:Option Addr) (xn xc:Nat) (S2:Nat->Nat->Prop) (us2:At4),a=.int .i64 (q'.1:Int)/\o=.bool (Je q')/\i=.int .i64 k2/\At (Py s) n2 k2 q' ss F2/\GF s q'/\wi.heap[wo.heap.size]?=some (.cells #[.string (tR s q).1,.slice xa xn xc] 68 (0,0))/\Below wo.heap.size wo wi/\F4 (wo.heap.size+1) 64 2 Y S2 wi (.slice xa xn xc) ss us2) (fun _ _ i _=>n2-(intOf i).toNat)
    case atStart=>exact⟨0,q1,[],none,0,0,fun _ _=>False,[],rfl,by first | rfl | rw[hoq],rfl,dj,hqn,k3,bI,⟨rfl,.inl ⟨rfl,rfl⟩⟩,rfl,fun _ _ e=>e.elim,fun i x u e _=>by simp at e⟩
    case round=>
     obtain⟨k2,q',ss,xa,xn,xc,S2,us2,rfl,rfl,rfl,wH,rH,kb',bw',Acy⟩:=hrel;have hMw:=TJ.below bw';have xj:=bw'.size;have hbx:=(Ag.1 kb').1;have h0w:0<wr.heap.size:=I
     by_cases ax : q'.2=0/\k2<n2
     .first
      |exact absurd ax.2 I
      |have rF:Je q'=true:=Aq ax.1
       simp only[rF];have An6:=wH.1;have Apt:=wH.le ax.1;have ApQ : q'.1<=s.size:=rH;have hc1:=zl s q' hs ax.1 rH (wr.alloc (.cells #[zI,zI] 64)) (hMw.alloc _);have IZ:∀y∈[Value.int .i64 ((nR s q').1:Int),.int .i64 ((nR s (nR s q').2).1:Int)],y.oneCell'=true:=by simp[Value.oneCell']
       have he:∀W w',Ka (fun _ _=>False) W w' (Y (Py s q').1) [.int .i64 ((nR s q').1:Int),.int .i64 ((nR s (nR s q').2).1:Int)]:=fun _ _=>Gv [.int .i64 ((nR s q').1:Int),.int .i64 ((nR s (nR s q').2).1:Int)] IZ
       by_cases h1:(nR s q').2.2=0
       case' pos=>
        have xb:Je (nR s q').2=true:=Aq h1;simp only[xb]at hc1
        go_wp2_with (first
         |(go_at_call_of 137 (Value.int .i64 (q'.1:Int));go_loud (refine hc1.mono ?_;rintro x w4 ⟨rfl,b4⟩;have xv:=(b4.block wr.heap.size aa1).trans (Dk _ _);have g40:=Ai1 xv 0;have f40:=Ai2 xv 0;have z4:=(Ag.1 xv).1;have hM4:=(hMw.alloc (.cells #[zI,zI] 64)).below b4))
         |(go_at_call_of 137 (Value.int .i64 ((nR s q').2.1:Int));go_loud (refine(zl s (nR s q').2 hs h1 (OG rH) _ ?_).mono ?_;exact hM4.setNe h0w;rintro x w5 ⟨rfl,b5⟩;have kz5:=(b5.block wr.heap.size (by simp[World.setCell];exact z4)).trans (EG xv);have g51:=Ai1 kz5 1;have g50:=Ai1 kz5 0;have f51:=Ai2 kz5 1;have b6:Below wr.heap.size wr w5:=⟨b5.os.trans b4.os,b5.tape.trans b4.tape,b5.output.trans b4.output,Nat.le_of_lt (Ag.1 kz5).1,fun j hj=>(b5.block j (by simp[World.setCell];omega)).trans ((Ai3 _ _ _ _ (show j≠wr.heap.size by omega)).trans ((b4.block j (by simp;omega)).trans (Ai4 _ _ _ hj)))⟩;have kx5:=(b6.block wo.heap.size hbx).trans kb';have g5x:=Ai1 kx5 1;have bf:Below wr.heap.size wr (w5.setCell ⟨wr.heap.size,1,none⟩ (.int .i64 ((nR s (nR s q').2).1:Int))):=Below.setC b6 (Af _)))
         |(at_builtin;go_loud (refine Oc rfl _ _ 66 rfl underlying66 hj hj0 hj1 wX rfl aa3 Acy I hbx (.inr (Af _)) (lN (bf.alloc bf.size _) _) (he _ _) rfl IZ rfl rfl (Ip _ [.int .i64 ((nR s q').1:Int),.int .i64 ((nR s (nR s q').2).1:Int)] 64 (by simp[World.setCell])) ?_;intro ya yn yc w6 Yk;have kx6:=(Yk.old wo.heap.size (Mz _) I I).trans kb';have f6:=Ai2 kx6 1;have g6:=Ai1 kx6 1)))
        all_goals have xh:(Py s q').2=(nR s (nR s q').2).2:=rfl
       case' neg=>
        have xb:Je (nR s q').2=false:=Al h1;have xh:(Py s q').2=(nR s q').2:=by show(nR s (nR s q').2).2=_;rw[xB h1]
        simp only[xb]at hc1
        go_wp2_with (first
         |(go_at_call_of 137 (Value.int .i64 (q'.1:Int));go_loud (refine hc1.mono ?_;rintro x w4 ⟨rfl,b4⟩;have xv:=(b4.block wr.heap.size aa1).trans (Dk _ _);have g40:=Ai1 xv 0;have f40:=Ai2 xv 0;have g51:w4.cell? ⟨wr.heap.size,1,none⟩=some (.int .i64 ((nR s (nR s q').2).1:Int)):=(Ai1 xv 1).trans (by rw[xB h1];rfl);have b6:Below wr.heap.size wr w4:=⟨b4.os,b4.tape,b4.output,Nat.le_of_lt (Ag.1 xv).1,fun j hj=>(b4.block j (by simp;omega)).trans (Ai4 _ _ _ hj)⟩;have kx5:=(b6.block wo.heap.size hbx).trans kb';have g5x:=Ai1 kx5 1;have bf:Below wr.heap.size wr (w4.setCell ⟨wr.heap.size,0,none⟩ (.int .i64 ((nR s q').1:Int))):=Below.setC b6 (Af _)))
         |(at_builtin;go_loud (refine Oc rfl _ _ 66 rfl underlying66 hj hj0 hj1 wX rfl aa3 Acy I hbx (.inr (Af _)) (lN (bf.alloc bf.size _) _) (he _ _) rfl IZ rfl rfl (Ip _ [.int .i64 ((nR s q').1:Int),.int .i64 ((nR s (nR s q').2).1:Int)] 64 (by simp[World.setCell])) ?_;intro ya yn yc w6 Yk;have kx6:=(Yk.old wo.heap.size (Mz _) I I).trans kb';have f6:=Ai2 kx6 1;have g6:=Ai1 kx6 1)))
       all_goals
        obtain⟨S3,vw,WE⟩:=(Yk.store (b:=wo.heap.size) (k:=1) (Mz _) I).row;refine⟨⟨k2+1,(Py s q').2,ss++[(Py s q').1],ya,yn,yc,S3,vw,by rw[xh],by first | (rw[xh];done) | rw[xh,xb],by go_num,wH.next (cC.lt bx) ax.1 ax.2,tQ q' rH,EG kx6,(Yk.store (Mz _) I).below bw' (Nat.le_succ _) xj (Af _),WE⟩,?_⟩
        show _-_<_-_;simp only[intOf];omega
     .have hF':=wH.fin ax;have gw0:=Ai1 kb' 0;have gw1:=Ai1 kb' 1;have IZ:∀y∈[Value.string (tR s q).1,.slice xa xn xc],y.oneCell'=true:=by simp[Value.oneCell']
      by_cases hz:q'.2=0
      case' pos=>
       have rF:Je q'=true:=Aq hz;have dq:¬k2<n2:=fun h=>ax ⟨hz,h⟩
      case' neg=>
       have rF:Je q'=false:=Al hz
      all_goals
       simp only[rF]
       go_wp2_with
        (at_builtin;go_loud (refine Oc rfl _ _ 26 rfl underlying26 hi hi0 rA hi2 rfl aa3 Hh I z0 (.inr (Af _)) (lN (bw'.alloc xj _) _) (yg (p:=(tR s q).1) (Acy.keep aa1 fun j _ j2 _=>Ai4 _ _ _ j2) (Nat.le_succ _)) rfl IZ rfl rfl (Ip _ [Value.string (tR s q).1,.slice xa xn xc] 68 rfl) ?_;intro ya yn yc w6 Yk))
       obtain⟨S3,vw,WE⟩:=Yk.row;have Uw:=Ij.next (cA.lt br) hq.1 hq.2
       rw[show QZ s q=(⟨(tR s q).1,ss⟩,q') by unfold QZ;rw[ko,hF']]at Uw;refine⟨⟨k+1,q',xs++[⟨(tR s q).1,ss⟩],S3,vw,ya,yn,yc,rfl,by rw[rF],rfl,by go_num,Uw,rH,Yk.below ar (Af _) z0 z0,WE⟩,?_⟩;show _-_<_-_;simp only[intOf];omega
  .have hF:=Ij.fin hq
   by_cases hz:q.2=0
   case' pos=>
    have EZ:Je q=true:=Aq hz;have dq:¬k<n:=fun h=>hq ⟨hz,h⟩
   case' neg=>
    have EZ:Je q=false:=Al hz
   all_goals
    simp only[EZ]
    go_wp2
    rw[hF]
    go_ret3
    exact⟨.slice va vn vc,S,us,by rw[EZ];rfl,ar,Hh⟩
end Go.Proofs
