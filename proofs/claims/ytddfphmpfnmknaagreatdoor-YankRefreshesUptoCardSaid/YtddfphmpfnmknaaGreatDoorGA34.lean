/- Lemmas for the claims of this seat, without a condition: part 34 (S35, S36, S37, V22). -/
import Derived.Test.YtddfphmpfnmknaaGreatDoorGA33
set_option maxHeartbeats 8000000
namespace Go.Eng
open Go.Proofs
variable (x:List Rl)(ifs:List (List AV))(o:List (List Sl))(roots:List Rq)(e:Int)(y:List Sl)(dec:List Cd)(m:Nat)
def ng:AV:=match o with | []=>Ce | y::ys=>.slice (.id 18400 1) ((y::ys).map E8)
def m6:HO:=match o with | []=>.free | y::ys=>.tok 1 (y::ys).length
theorem gz(k:Nat):Ak [(k,.free)] Af=Ak [] Af:=funext fun i=>by
 show(bif Nat.beq i k then HO.free else Af i)=Af i;cases Nat.beq i k<;>rfl
theorem pV(ys:List (List Sl))(L:List (List Cd))(m:Nat):∃z zs,tk (y::ys) L m=z::zs:=⟨y,_,rfl⟩
theorem Ac5(n:Nat)(dec:List Cd)(p:ByteArray)(n0:Nd)(l:List Nd)(m:Nat)(gD:0<m)(hL:yJ x ifs roots n dec p n0 l)(gC:CG x roots (n+1) dec=Xz (Mx x roots n dec (n0::l) p) x x.length)(Rt:m≤1024) :
  A1 Tryz.prog 107 [.agg (Ic x ifs),sl AH roots,sl Ac (AD dec),Ce,vi (m:Nat)] (Ak [] Af) (RN (tk [] (CG x roots (n+1) dec) m)):=by
 obtain⟨hE0,hx,hxf,hr,hrn,hdl,hv,hplc,hrl,hneeds,hNx,hDec,hval,ihT,ihN⟩:=hL;have Ab2:x.length≤1073741824:=hxf;have Rt:m≤1024:=Rt;have L5:=xP x ifs roots (AD dec) hx hxf ch (by rw[Lm];omega);rw[hneeds]at L5;unfold Qt at L5;rw[hNx.next]at L5
 have cf:∀(q:ByteArray) (k:Int),PC 146 [EZ x ifs,sl AH roots,sl Ac (AD dec),vs q,vi k] (vb (Jh (Eo roots dec) q k)):=fun q k=>by
  have:=uz x ifs roots (AD dec) q k hx hxf (fun q hq=>(hr q hq).1) ch (by rw[Lm];omega)
  rw[hneeds]at this;exact this
 refine BW (KV (pC [5,14] [10])) [(18400,2000)] rfl Co hm rfl Tryz.func107 Wk rfl (Nz rfl) Wk rfl (yN (Xi .pure (Xi _ (Yi L5 (Xi {q:Nat×List (List Sl) // q.1≤x.length∧q.2=tk [] (Xz (Mx x roots n dec (n0::l) p) x q.1) m} (Xi (fun q=>⟨[(1,sl AH roots),(2,sl Ac (AD dec)),(3,ng q.1.2),(4,vi (m:Nat)),(5,.ref 5 0),(11,vs p),(13,vi q.1.1)],[(5,.ro (Ic x ifs)),(18400,m6 q.1.2)],Af⟩) (Xi (fun q=>x.length-q.1.1) (Yi (Xi ⟨(0,[]),AA _,by rw[bm,mI]⟩ ?_) ?_))))))))
 ·exact⟨⟨Zr,Zr,⟨(show(Ce:AV)=ng []from rfl),rfl⟩,Zr,Zr,Zr,Zr,Tv⟩,⟨Zr,⟨(show HO.free=m6 []from rfl),rfl⟩,Tv⟩,Fh,Bo Wk⟩
 intro⟨⟨i,o⟩,i1,i2⟩;have i1:i≤x.length:=i1;have i2:o=tk [] (Xz (Mx x roots n dec (n0::l) p) x i) m:=i2;refine BF (Yw o) (fun h1=>?_) (fun h1=>?_)
 ·have i2:[]=tk [] (Xz (Mx x roots n dec (n0::l) p) x i) m:=by have q:=i2;rw[h1]at q;exact q
  refine XT (s':=⟨[(1,sl AH roots),(2,sl Ac (AD dec)),(3,Ce),(4,vi (m:Nat)),(5,.ref 5 0),(11,vs p),(13,vi i)],[(5,.ro (Ic x ifs)),(18400,.free)],Af⟩) (Ab (fun o'=>(⟨[(1,sl AH roots),(2,sl Ac (AD dec)),(3,ng o'),(4,vi (m:Nat)),(5,.ref 5 0),(11,vs p),(13,vi i)],[(5,.ro (Ic x ifs)),(18400,m6 o')],Af⟩:LS)) h1) (Yi (fun h2=>?_) (fun h2=>?_))
  ·have h2:(i:Int)<((x.map At).length:Int):=h2;have n2:=GI h2;refine Yi (fun h3=>?_) (fun h3=>?_)
   ·have h3:(0:Int)<((m:Nat):Int):=h3;refine Xi (At x[i]) (Yi (Hb n2) (Yi rfl (yN (yN (Yi (fun h5=>?_) (fun h5=>?_))))))
    ·have h5:(x[i].path:ByteArray)≠p:=h5;refine Yi Wk (Yi (Ii i ch) ?_);have Ms:(Mx x roots n dec (n0::l) p) x[i]=[]:=by unfold Mx;rw[Ae (fun h=>h5 h.1)]
     refine Xi ⟨(i+1,[]),n2,by rw[JF n2 Ms];exact i2⟩ ?_;exact⟨Dl x.length i ch,⟨Zr,Zr,⟨(show(Ce:AV)=ng []from rfl),rfl⟩,Zr,Zr,Zr,Zr,Tv⟩,⟨Zr,⟨(show HO.free=m6 []from rfl),rfl⟩,Tv⟩,Fh,Bo Wk⟩
    have h5:(x[i].path:ByteArray)=p:=AC h5;refine Yi (fun h7=>?_) (fun h7=>?_)
    ·have h7:x[i].yanked=true:=h7;refine Yi Wk (Yi (Ii i ch) ?_);have Ms:(Mx x roots n dec (n0::l) p) x[i]=[]:=by unfold Mx;rw[Ae (fun h=>by rw[h7]at h;cases h.2)]
     refine Xi ⟨(i+1,[]),n2,by rw[JF n2 Ms];exact i2⟩ ?_;exact⟨Dl x.length i ch,⟨Zr,Zr,⟨(show(Ce:AV)=ng []from rfl),rfl⟩,Zr,Zr,Zr,Zr,Tv⟩,⟨Zr,⟨(show HO.free=m6 []from rfl),rfl⟩,Tv⟩,Fh,Bo Wk⟩
    have h7:x[i].yanked=false:=h7;refine yN (yN (Xi _ (Yi (mX x[i].ver (hv _ (Aj n2))) (BF (Bt (Jh (Eo roots dec) p (place x[i].ver))) (fun h9=>?_) (fun h9=>?_)))))
    ·have h9:(Jh (Eo roots dec) p (place x[i].ver))=true:=h9;refine Xi _ (Yi (cb h9 (cf p (place x[i].ver))) (Yi Wk (Yi (Ii i ch) ?_)));have Ms:(Mx x roots n dec (n0::l) p) x[i]=[]:=Ys hNx (hplc _ (Aj n2)) h9;refine Xi ⟨(i+1,[]),n2,by rw[JF n2 Ms];exact i2⟩ ?_;exact⟨Dl x.length i ch,⟨Zr,Zr,⟨(show(Ce:AV)=ng []from rfl),rfl⟩,Zr,Zr,Zr,Zr,Tv⟩,⟨Zr,⟨(show HO.free=m6 []from rfl),rfl⟩,Tv⟩,Fh,Bo Wk⟩
    have h9:(Jh (Eo roots dec) p (place x[i].ver))=false:=h9;refine Xi _ (Yi (cb h9 (cf p (place x[i].ver))) (Yi Wk ?_));have jw:Cf 4 ((AD dec).map Ac)∧([]:List (List AV)).length=0∧(([]:List (List AV)).length+((AD dec).map Ac).length)*40≤140737488355328∧([]:List (List AV)).length+((AD dec).map Ac).length≤9223372036854775807:=⟨(DW (enc:=Ac) (n:=4) (fun _=>rfl) (AD dec)),(by first | (simp;done) | (rw[Lm];assumption)),(by simp only[Lm,Ax];omega),(by simp only[Lm,Ax];omega)⟩
    refine Yi jw (yN ?_);have tD:Cf 4 [[vs p,vi x[i].ver.a,vi x[i].ver.b,vi x[i].ver.c]]∧(([]++((AD dec).map Ac)):List (List AV)).length=(([]:List (List AV)).length+((AD dec).map Ac).length)∧((([]++((AD dec).map Ac)):List (List AV)).length+([[vs p,vi x[i].ver.a,vi x[i].ver.b,vi x[i].ver.c]]:List (List AV)).length)*40≤140737488355328∧(([]++((AD dec).map Ac)):List (List AV)).length+([[vs p,vi x[i].ver.a,vi x[i].ver.b,vi x[i].ver.c]]:List (List AV)).length≤9223372036854775807:=⟨⟨rfl,trivial⟩,(by first | (simp;done) | (rw[Lm];assumption)),(by simp only[Lm,Ad,Av,Ax];omega),(by simp only[Lm,Ad,Av,Ax];omega)⟩
    refine Yi tD (Yi Wk ?_);have Td:x[i].path=p:=h5;have ZD:(⟨plc x[i].ver,x[i]⟩:Cd)∈BJ x p:=HA.2 ⟨x[i],Aj n2,Td,h7,rfl⟩;have hD:=hDec (⟨plc x[i].ver,x[i]⟩:Cd) ZD;refine cU [(1,sl AH roots),(2,sl Ac (AD dec)),(3,Ce),(4,vi (m:Nat)),(5,.ref 5 0),(11,vs p),(13,vi i),(15,.slice (.id 66 4) ((AD (dec++[(⟨plc x[i].ver,x[i]⟩:Cd)])).map Ac))] [(5,.ro (Ic x ifs)),(66,.tok 4 ((AD (dec++[(⟨plc x[i].ver,x[i]⟩:Cd)])).map Ac).length)] ⟨Zr,Zr,Zr,Zr,Zr,Zr,Zr,⟨(show(.slice (.id 66 4) (([]++((AD dec).map Ac))++[[vs p,vi x[i].ver.a,vi x[i].ver.b,vi x[i].ver.c]]):AV)=.slice (.id 66 4) ((AD (dec++[(⟨plc x[i].ver,x[i]⟩:Cd)])).map Ac)from Ab (AV.slice (.id 66 4)) (NJ Td)),rfl⟩,Tv⟩ ⟨Zr,⟨(show(.tok 4 ((([]++((AD dec).map Ac)):List (List AV)).length+([[vs p,vi x[i].ver.a,vi x[i].ver.b,vi x[i].ver.c]]:List (List AV)).length):HO)=.tok 4 ((AD (dec++[(⟨plc x[i].ver,x[i]⟩:Cd)])).map Ac).length by rw[←NJ (dec:=dec) Td];simp),rfl⟩,Tv⟩ ?_
    refine yN ?_;have UA:=s77 x ifs (AD (dec++[(⟨plc x[i].ver,x[i]⟩:Cd)])) (AD dec) (N1 (⟨plc x[i].ver,x[i]⟩:Cd)) x[i] hx hxf (by rw[Lm,Ad,AG];omega) (by unfold AD;rw[As];rfl) (G9 hE0 (Aj n2)) (fun y hy=>hval (⟨plc x[i].ver,x[i]⟩:Cd) ZD y hy) (fun q hq=>((hx _ (Aj n2)).2 q hq).1) (hrl _ (Aj n2));have hcl:MQ x[i] (AD (dec++[(⟨plc x[i].ver,x[i]⟩:Cd)]))=(Dc dec (⟨plc x[i].ver,x[i]⟩:Cd)).isSome:=T7 hE0 hD;rw[hcl]at UA;refine BF (Bt (Dc dec (⟨plc x[i].ver,x[i]⟩:Cd)).isSome) (fun QU=>?_) (fun QU=>?_)
    ·have QU:(Dc dec (⟨plc x[i].ver,x[i]⟩:Cd)).isSome=true:=QU;refine Xi .pure (Xi _ (Yi (cb QU UA) (Yi (Ii i ch) ?_)));have Ms:(Mx x roots n dec (n0::l) p) x[i]=[]:=lr QU;refine Xi ⟨(i+1,[]),n2,by rw[JF n2 Ms];exact i2⟩ ?_;exact⟨Dl x.length i ch,⟨Zr,Zr,⟨(show(Ce:AV)=ng []from rfl),rfl⟩,Zr,Zr,Zr,Zr,Tv⟩,⟨Zr,⟨(show HO.free=m6 []from rfl),rfl⟩,Tv⟩,Fh,Bo Wk⟩
    have QU:(Dc dec (⟨plc x[i].ver,x[i]⟩:Cd)).isSome=false:=QU;refine Xi .pure (Xi _ (Yi (cb QU UA) (yN ?_)));have Gs:aK dec (n0::l) (⟨plc x[i].ver,x[i]⟩:Cd)=true:=I9.2 ⟨fun m hm=>by have q:=(PP hNx (place x[i].ver)).1 h9 m hm;rw[←hplc _ (Aj n2)]at q;exact q,by have q:=QU;simpa using q⟩;have Ms:(Mx x roots n dec (n0::l) p) x[i]=(CG x roots n (dec++[(⟨plc x[i].ver,x[i]⟩:Cd)])):=by unfold Mx ud;rw[Al ⟨Td,h7⟩,Al Gs]
    have YR:=ihN (⟨plc x[i].ver,x[i]⟩:Cd) ZD m gD Rt;have ZT:tk [] (Xz (Mx x roots n dec (n0::l) p) x (i+1)) m=tk [] (CG x roots n (dec++[(⟨plc x[i].ver,x[i]⟩:Cd)])) m:=by rw[QP n2,Ms,dp (by rw[←i2];exact gD),←i2]
    refine BF (Yw (tk [] (CG x roots n (dec++[(⟨plc x[i].ver,x[i]⟩:Cd)])) m)) (fun hT=>?_) (fun hT=>?_)
    ·rw[hT]at YR;refine Xi (.gen [] 1) (Yi rfl (A1.imp YR ?_));intro v15 g15 wP;have sY:=wP.1;have sZ:=wP.2;subst sY;subst sZ;refine Yi (Ii i ch) (Xi ⟨(i+1,[]),n2,by rw[ZT,hT]⟩ ?_);exact⟨Dl x.length i ch,⟨Zr,Zr,⟨(show(Ce:AV)=ng []from rfl),rfl⟩,Zr,Zr,Zr,Zr,Tv⟩,⟨Zr,⟨(show HO.free=m6 []from rfl),rfl⟩,Tv⟩,Fh,Bo Wk⟩
    refine Ba hT (fun z hT=>Ba hT (fun zs hT=>?_));rw[hT]at YR;refine Xi (.gen [] 1) (Yi rfl (A1.imp YR ?_));intro v15 g15 wP;have sY:=wP.1;have sZ:=wP.2;subst sY;subst sZ;refine Yi (Ii i ch) (Xi ⟨(i+1,z::zs),n2,by rw[ZT,hT]⟩ ?_);exact⟨Dl x.length i ch,Z7,Z2,Fh,Bo Wk⟩
   have h3:¬((0:Int)<((m:Nat):Int)):=h3;exact absurd ch h3
  have h2:¬((i:Int)<((x.map At).length:Int)):=h2;have n2:=GH h2;have eo:([]:List (List Sl))=tk [] (CG x roots (n+1) dec) m:=i2.trans (by
   rw[gC,show i=x.length by have q:=h2;rw[Lm]at q;omega])
  rw[←eo];exact Xi _ (Yi (.refl _) ⟨rfl,gz 2000⟩)
 refine Ba h1 (fun y h1=>Ba h1 (fun ys h1=>?_));have i2:y::ys=tk [] (Xz (Mx x roots n dec (n0::l) p) x i) m:=by have q:=i2;rw[h1]at q;exact q
 refine XT (s':=⟨[(1,sl AH roots),(2,sl Ac (AD dec)),(3,.slice (.id 18400 1) ((y::ys).map E8)),(4,vi (m:Nat)),(5,.ref 5 0),(11,vs p),(13,vi i)],[(5,.ro (Ic x ifs)),(18400,.tok 1 (y::ys).length)],Af⟩) (Ab (fun o'=>(⟨[(1,sl AH roots),(2,sl Ac (AD dec)),(3,ng o'),(4,vi (m:Nat)),(5,.ref 5 0),(11,vs p),(13,vi i)],[(5,.ro (Ic x ifs)),(18400,m6 o')],Af⟩:LS)) h1) (Yi (fun dI=>?_) (fun dI=>?_))
 ·have dI:(i:Int)<((x.map At).length:Int):=dI;have n19:=GI dI;refine Yi (fun VT=>?_) (fun VT=>?_)
  ·have VT:(((y::ys).map E8).length:Int)<((m:Nat):Int):=VT;have wd:(y::ys).length<m:=by have q:=VT;rw[Lm]at q;omega
   refine Xi (At x[i]) (Yi (Hb n19) (Yi rfl (yN (yN (Yi (fun mY=>?_) (fun mY=>?_))))))
   ·have mY:(x[i].path:ByteArray)≠p:=mY;refine Yi Wk (Yi (Ii i ch) ?_);have Ms:(Mx x roots n dec (n0::l) p) x[i]=[]:=by unfold Mx;rw[Ae (fun h=>mY h.1)]
    refine Xi ⟨(i+1,y::ys),n19,by rw[JF n19 Ms];exact i2⟩ ?_;exact⟨Dl x.length i ch,Z7,Z2,Fh,Bo Wk⟩
   have mY:(x[i].path:ByteArray)=p:=AC mY;refine Yi (fun S7=>?_) (fun S7=>?_)
   ·have S7:x[i].yanked=true:=S7;refine Yi Wk (Yi (Ii i ch) ?_);have Ms:(Mx x roots n dec (n0::l) p) x[i]=[]:=by unfold Mx;rw[Ae (fun h=>by rw[S7]at h;cases h.2)]
    refine Xi ⟨(i+1,y::ys),n19,by rw[JF n19 Ms];exact i2⟩ ?_;exact⟨Dl x.length i ch,Z7,Z2,Fh,Bo Wk⟩
   have S7:x[i].yanked=false:=S7;refine yN (yN (Xi _ (Yi (mX x[i].ver (hv _ (Aj n19))) (BF (Bt (Jh (Eo roots dec) p (place x[i].ver))) (fun bq=>?_) (fun bq=>?_)))))
   ·have bq:(Jh (Eo roots dec) p (place x[i].ver))=true:=bq;refine Xi _ (Yi (cb bq (cf p (place x[i].ver))) (Yi Wk (Yi (Ii i ch) ?_)));have Ms:(Mx x roots n dec (n0::l) p) x[i]=[]:=Ys hNx (hplc _ (Aj n19)) bq;refine Xi ⟨(i+1,y::ys),n19,by rw[JF n19 Ms];exact i2⟩ ?_;exact⟨Dl x.length i ch,Z7,Z2,Fh,Bo Wk⟩
   have bq:(Jh (Eo roots dec) p (place x[i].ver))=false:=bq;refine Xi _ (Yi (cb bq (cf p (place x[i].ver))) (Yi Wk ?_));have b28:Cf 4 ((AD dec).map Ac)∧([]:List (List AV)).length=0∧(([]:List (List AV)).length+((AD dec).map Ac).length)*40≤140737488355328∧([]:List (List AV)).length+((AD dec).map Ac).length≤9223372036854775807:=⟨(DW (enc:=Ac) (n:=4) (fun _=>rfl) (AD dec)),(by first | (simp;done) | (rw[Lm];assumption)),(by simp only[Lm,Ax];omega),(by simp only[Lm,Ax];omega)⟩
   refine Yi b28 (yN ?_);have b29:Cf 4 [[vs p,vi x[i].ver.a,vi x[i].ver.b,vi x[i].ver.c]]∧(([]++((AD dec).map Ac)):List (List AV)).length=(([]:List (List AV)).length+((AD dec).map Ac).length)∧((([]++((AD dec).map Ac)):List (List AV)).length+([[vs p,vi x[i].ver.a,vi x[i].ver.b,vi x[i].ver.c]]:List (List AV)).length)*40≤140737488355328∧(([]++((AD dec).map Ac)):List (List AV)).length+([[vs p,vi x[i].ver.a,vi x[i].ver.b,vi x[i].ver.c]]:List (List AV)).length≤9223372036854775807:=⟨⟨rfl,trivial⟩,(by first | (simp;done) | (rw[Lm];assumption)),(by simp only[Lm,Ad,Av,Ax];omega),(by simp only[Lm,Ad,Av,Ax];omega)⟩
   refine Yi b29 (Yi Wk ?_);have Td:x[i].path=p:=mY;have ZD:(⟨plc x[i].ver,x[i]⟩:Cd)∈BJ x p:=HA.2 ⟨x[i],Aj n19,Td,S7,rfl⟩;have hD:=hDec (⟨plc x[i].ver,x[i]⟩:Cd) ZD;refine cU [(1,sl AH roots),(2,sl Ac (AD dec)),(3,.slice (.id 18400 1) ((y::ys).map E8)),(4,vi (m:Nat)),(5,.ref 5 0),(11,vs p),(13,vi i),(15,.slice (.id 66 4) ((AD (dec++[(⟨plc x[i].ver,x[i]⟩:Cd)])).map Ac))] [(5,.ro (Ic x ifs)),(66,.tok 4 ((AD (dec++[(⟨plc x[i].ver,x[i]⟩:Cd)])).map Ac).length),(18400,.tok 1 (y::ys).length)] ⟨Zr,Zr,Zr,Zr,Zr,Zr,Zr,⟨(show(.slice (.id 66 4) (([]++((AD dec).map Ac))++[[vs p,vi x[i].ver.a,vi x[i].ver.b,vi x[i].ver.c]]):AV)=.slice (.id 66 4) ((AD (dec++[(⟨plc x[i].ver,x[i]⟩:Cd)])).map Ac)from Ab (AV.slice (.id 66 4)) (NJ Td)),rfl⟩,Tv⟩ ⟨Zr,⟨(show(.tok 4 ((([]++((AD dec).map Ac)):List (List AV)).length+([[vs p,vi x[i].ver.a,vi x[i].ver.b,vi x[i].ver.c]]:List (List AV)).length):HO)=.tok 4 ((AD (dec++[(⟨plc x[i].ver,x[i]⟩:Cd)])).map Ac).length by rw[←NJ (dec:=dec) Td];simp),rfl⟩,Zr,Tv⟩ ?_
   refine yN ?_;have UA:=s77 x ifs (AD (dec++[(⟨plc x[i].ver,x[i]⟩:Cd)])) (AD dec) (N1 (⟨plc x[i].ver,x[i]⟩:Cd)) x[i] hx hxf (by rw[Lm,Ad,AG];omega) (by unfold AD;rw[As];rfl) (G9 hE0 (Aj n19)) (fun y hy=>hval (⟨plc x[i].ver,x[i]⟩:Cd) ZD y hy) (fun q hq=>((hx _ (Aj n19)).2 q hq).1) (hrl _ (Aj n19));have hcl:MQ x[i] (AD (dec++[(⟨plc x[i].ver,x[i]⟩:Cd)]))=(Dc dec (⟨plc x[i].ver,x[i]⟩:Cd)).isSome:=T7 hE0 hD;rw[hcl]at UA;refine BF (Bt (Dc dec (⟨plc x[i].ver,x[i]⟩:Cd)).isSome) (fun VF=>?_) (fun VF=>?_)
   ·have VF:(Dc dec (⟨plc x[i].ver,x[i]⟩:Cd)).isSome=true:=VF;refine Xi .pure (Xi _ (Yi (cb VF UA) (Yi (Ii i ch) ?_)));have Ms:(Mx x roots n dec (n0::l) p) x[i]=[]:=lr VF;refine Xi ⟨(i+1,y::ys),n19,by rw[JF n19 Ms];exact i2⟩ ?_;exact⟨Dl x.length i ch,Z7,Z2,Fh,Bo Wk⟩
   have VF:(Dc dec (⟨plc x[i].ver,x[i]⟩:Cd)).isSome=false:=VF;refine Xi .pure (Xi _ (Yi (cb VF UA) (yN ?_)));have Gs:aK dec (n0::l) (⟨plc x[i].ver,x[i]⟩:Cd)=true:=I9.2 ⟨fun m hm=>by have q:=(PP hNx (place x[i].ver)).1 bq m hm;rw[←hplc _ (Aj n19)]at q;exact q,by have q:=VF;simpa using q⟩;have Ms:(Mx x roots n dec (n0::l) p) x[i]=(CG x roots n (dec++[(⟨plc x[i].ver,x[i]⟩:Cd)])):=by unfold Mx ud;rw[Al ⟨Td,S7⟩,Al Gs]
   have YR:=ihT (⟨plc x[i].ver,x[i]⟩:Cd) ZD (y::ys) m wd Rt;refine Xi (.gen [(18400,1000)] 0) (Yi rfl (A1.imp YR ?_));intro v32 g32 q32;have Abx:=q32.1;have Aby:=q32.2;subst Abx;subst Aby;refine Yi (Ii i ch) (Ba (pV y ys (CG x roots n (dec++[(⟨plc x[i].ver,x[i]⟩:Cd)])) m) (fun z hz=>Ba hz (fun zs hz=>?_)));refine Xi ⟨(i+1,z::zs),n19,by rw[QP n19,Ms,dp (by rw[←i2];exact wd),←i2,hz]⟩ ?_;exact⟨Dl x.length i ch,⟨Zr,Zr,⟨(show AV.slice (.id 18400 1) ((tk (y::ys) (CG x roots n (dec++[(⟨plc x[i].ver,x[i]⟩:Cd)])) m).map E8)=ng (z::zs) by rw[hz];rfl),rfl⟩,Zr,Zr,Zr,Zr,Tv⟩,⟨Zr,⟨(show HO.tok 1 (tk (y::ys) (CG x roots n (dec++[(⟨plc x[i].ver,x[i]⟩:Cd)])) m).length=m6 (z::zs) by rw[hz];rfl),rfl⟩,Tv⟩,Fh,Bo Wk⟩
  have VT:¬((((y::ys).map E8).length:Int)<((m:Nat):Int)):=VT;have eo:(y::ys)=tk [] (CG x roots (n+1) dec) m:=i2.trans (by
   rw[gC,XA _ x i,fg (by rw[←i2];have q:=VT;rw[Lm]at q;omega) (AA _)])
  rw[←eo];exact Xi _ (Yi (.refl _) Zr)
 have dI:¬((i:Int)<((x.map At).length:Int)):=dI;have n19:=GH dI;have eo:(y::ys)=tk [] (CG x roots (n+1) dec) m:=i2.trans (by
  rw[gC,show i=x.length by have q:=dI;rw[Lm]at q;omega])
 rw[←eo];exact Xi _ (Yi (.refl _) Zr)
theorem xh(F:List (List Sl))(hF:F.length<m)(hx:∀r∈x,Gv r)(hxf:Cy x)(hrn:roots.length≤1000)(hdl:dec.length≤1000)(hneeds:EU x roots (AD dec)=Eo roots dec)(WM:Iy (Eo roots dec) (AD dec)=none)(Oh:((AD dec).map (·.path)).Nodup)(Rt:m≤1024) :
  A1 Tryz.prog 107 [.agg (Ic x ifs),sl AH roots,sl Ac (AD dec),.slice (.id 1000 1) (F.map E8),vi (m:Nat)] (Ak [(1000,.tok 1 F.length)] Af) (fun r h'=>r=.slice (.id 1000 1) ((F++[Ey (AD dec)]).map E8)∧h'=Ak [(1000,.tok 1 (F++[Ey (AD dec)]).length)] Af):=by
 have L5:=xP x ifs roots (AD dec) hx hxf ch (by rw[Lm];omega);rw[hneeds]at L5;unfold Qt at L5;rw[WM]at L5;have rV:=s74 (AD dec) (by unfold Cy;rw[Lm];omega) Oh;refine BW (KV (pC [5,14] [])) [(1000,1000)] rfl Co hm rfl Tryz.func107 Wk rfl (Nz rfl) Wk rfl (yN (Xi .pure (Xi _ (Yi L5 (Xi .pure (Xi _ (Yi rV (Yi (Wt rfl ch Cl) ?_))))))));exact Xi _ (Yi (.refl _) (Yi (show AV.slice (.id 1000 1) (F.map E8++[E8 (Ey (AD dec))])=_ by rw[As];rfl) (show Ak [(1000,HO.tok 1 ((F.map E8).length+([E8 (Ey (AD dec))]:List (List AV)).length))] Af=_ by rw[Ad,Lm];rfl)))
theorem xg(hx:∀r∈x,Gv r)(hxf:Cy x)(hrn:roots.length≤1000)(hdl:dec.length≤1000)(hneeds:EU x roots (AD dec)=Eo roots dec)(WM:Iy (Eo roots dec) (AD dec)=none)(Oh:((AD dec).map (·.path)).Nodup) :
  A1 Tryz.prog 107 [.agg (Ic x ifs),sl AH roots,sl Ac (AD dec),Ce,vi (m:Nat)] (Ak [] Af) (RN [Ey (AD dec)]):=by
 have L5:=xP x ifs roots (AD dec) hx hxf ch (by rw[Lm];omega);rw[hneeds]at L5;unfold Qt at L5;rw[WM]at L5;have rV:=s74 (AD dec) (by unfold Cy;rw[Lm];omega) Oh;refine BW (KV ⟨[5,14],[],[],[],[],[],[29],[],[],[],[]⟩) [(18400,2000)] rfl Co hm rfl Tryz.func107 Wk rfl (Nz rfl) Wk rfl (Xi 0 (Xi 0 (yN (Xi .pure (Xi _ (Yi L5 (Xi 0 (Xi 18400 (Xi .pure (Xi _ (Yi rV ?_)))))))))));have b1:Cf 1 [[sl Ac (Ey (AD dec))]]∧([[sl Ac (Ey (AD dec))]]:List (List AV)).length*24≤140737488355328∧([[sl Ac (Ey (AD dec))]]:List (List AV)).length≤9223372036854775807:=⟨⟨rfl,trivial⟩,(by simp only[Av,Ax];omega),(by simp only[Av,Ax];omega)⟩;refine Yi b1 ?_;exact Xi _ (Yi (.refl _) (Zr))
theorem mJ{F:List (List Sl)}{d:List Cd}{m:Nat}(h:F.length<m):tk F [d] m=F++[Ey (AD d)]:=by
 unfold tk;rw[Au (by show 1≤m-F.length;omega)];rfl
theorem s32{x:List Rl}(ifs:List (List AV)){roots:List Rq}(h0:AN x=0)(h1:Bn roots=0)(hx:∀r∈x,Gv r)(hr:∀q∈roots,J8 q) :
  ∀(n:Nat) {dec:List Cd},Ef x dec→FM x dec<n→BT x ifs roots n dec∧BN x ifs roots n dec
 |0,_,_,h=>by omega
 |n+1,dec,hd,hn=>by
  have VV:=L6 h0;have hdl:=Ud hd;have hxf:Cy x:=by unfold Cy;omega
  have hrn:=Nm h1;have Oh:((AD dec).map (·.path)).Nodup:=by rw[L7];exact hd.nodup
  cases hN:(Em roots dec).2 with
  |nil =>
   have Ms:=cB (x:=x) (n:=n) hN;have WM:=Pa.1 hN;refine⟨fun F m hF Rt=>?_,fun m gD Rt=>?_⟩
   ·have h:=xh x ifs roots dec m F hF hx hxf ch ch (U0 h0 hd) WM Oh Rt;rw[Ms,mJ hF];exact h
   ·have h:=xg x ifs roots dec m hx hxf ch ch (U0 h0 hd) WM Oh;rw[Ms,mJ (show([]:List (List Sl)).length<m from gD)];exact h
  |cons n0 l =>
   have hNx:=Kl hN;have Ms:=cC (x:=x) (n:=n) hN;have Gs:=Ct h0;have hD:∀c∈BJ x (Em roots dec).1,Ef x (dec++[c])∧FM x (dec++[c])<n:=fun c hc=>by
    obtain⟨c1,c2⟩:=I5 hc;have hu:CV dec c.rel.path=false:=by rw[c1];exact hNx.undone
    have:=OM (dec:=dec) ⟨c2.1,c2.2.1⟩ hu
    exact⟨hd.snoc c2 hu,by omega⟩
   have hL:yJ x ifs roots n dec (Em roots dec).1 n0 l:={
    hE0:=h0
    hx:=hx
    hxf:=hxf
    hr:=hr
    hrn:=by omega
    hdl:=by omega
    hv:=fun r h=>(Gs.1 r h).val
    hplc:=fun r h=>(Gs.1 r h).plc
    hrl:=fun r h=>by have:=VV.2 r h;omega
    hneeds:=U0 h0 hd
    hNx:=hNx
    hDec:=fun c hc=>(hD c hc).1
    hval:=fun c hc y hy=>by
     obtain⟨d,hd1,rfl⟩:=Am.1 hy;exact(Gs.1 _ ((hD c hc).1.cand d hd1).1).val
    ihT:=fun c hc=>(s32 ifs h0 h1 hx hr n (hD c hc).1 (hD c hc).2).1
    ihN:=fun c hc=>(s32 ifs h0 h1 hx hr n (hD c hc).1 (hD c hc).2).2 }
   exact⟨fun F m hF Rt=>Ac6 x ifs roots n dec _ n0 l m F hF hL Ms Rt,fun m gD Rt=>Ac5 x ifs roots n dec _ n0 l m gD hL Ms Rt⟩
theorem kd:FM x []<x.length+1:=Nat.lt_succ_of_le (BC _ _)
theorem xf(hx:∀r∈x,Gv r)(hr:∀q∈roots,J8 q):PC 106 [.agg (Ic x ifs),sl AH roots] (vb (Ck x roots)):=by
 have h71:=zP x ifs hx;have ku:=c68 ko n6 roots hr;refine Ps (pC [2] []) Tryz.func106 rfl (Nz rfl) (yN (Xi .pure (Xi _ (Yi h71 (Yi (fun h1=>?_) (fun h1=>?_))))))
 ·have h1:((AN x):Int)=(0:Int):=h1;refine Xi .pure (Xi _ (Yi ku (Yi (fun h2=>?_) (fun h2=>?_))))
  ·have h2:((Bn roots):Int)=(0:Int):=h2;exact .of_eq (show vb true=vb (Ck x roots) by unfold Ck;rw[Aq h1];rw[Aq h2];first | rfl | (rw[Cz]))
  have h2:¬(((Bn roots):Int)=(0:Int)):=h2;exact .of_eq (show vb false=vb (Ck x roots) by unfold Ck;rw[Aq h1];rw[Ap h2];first | rfl | (rw[Cz]))
 have h1:¬(((AN x):Int)=(0:Int)):=h1;exact .of_eq (show vb false=vb (Ck x roots) by unfold Ck;rw[Ap h1];first | rfl | (rw[Cz]))
theorem AbZ(hx:∀r∈x,Gv r)(hr:∀q∈roots,J8 q):PC 74 [.agg (Ic x ifs),sl AH roots,vi ((m:Nat):Int)] (.tup [sl E8 (H5 x roots ((m:Nat):Int)),vi (GW x roots ((m:Nat):Int))]):=by
 have br:=xf x ifs roots hx hr;refine Ps (pC [3] [2,3]) Tryz.func74 rfl (Nz rfl) (yN (BF (Bt (Ck x roots)) (fun h1=>?_) (fun h1=>?_)))
 ·have h1:(Ck x roots)=true:=h1;have i7:=br;rw[show(Ck x roots)=true from h1]at i7;refine Xi .pure (Xi _ (Yi i7 (Yi (fun h3=>?_) (fun h3=>?_))))
  ·have h3:(((m:Nat):Int):Int)<(0:Int):=h3;refine cU [] [] Tv Tv ?_
   have eE:GW x roots m=1:=by unfold GW;rw[Al (.inr (.inl h3))]
   have eF:H5 x roots m=[]:=by unfold H5;rw[eE];rfl
   rw[eF,eE];exact .tup ⟨.nil,.refl _,trivial⟩
  have h3:¬((((m:Nat):Int):Int)<(0:Int)):=h3;refine Yi (fun h5=>?_) (fun h5=>?_)
  ·have h5:(1024:Int)<(((m:Nat):Int):Int):=h5;refine cU [] [] Tv Tv ?_
   have eE:GW x roots m=1:=by unfold GW;rw[Al (.inr (.inr h5))]
   have eF:H5 x roots m=[]:=by unfold H5;rw[eE];rfl
   rw[eF,eE];exact .tup ⟨.nil,.refl _,trivial⟩
  have h5:¬((1024:Int)<(((m:Nat):Int):Int)):=h5;refine cU [(1,sl AH roots),(2,vi ((m:Nat):Int)),(3,.ref 3 0)] [(3,.ro (Ic x ifs))] Z3 Z1 (Yi (fun h7=>?_) (fun h7=>?_))
  ·have h7:(((m:Nat):Int):Int)=(0:Int):=h7;have em:m=0:=by have q:=h7;omega
   have eF:H5 x roots m=[]:=by unfold H5;rw[em];split<;>rfl
   have hval:Ck x roots=true:=h1;have eE:GW x roots m=0:=by unfold GW;rw[em,hval];rfl
   rw[eF,eE];exact .tup ⟨.nil,.refl _,trivial⟩
  have h7:¬((((m:Nat):Int):Int)=(0:Int)):=h7;refine yN ?_;have hval:Ck x roots=true:=h1;have gD:0<m:=by omega
  have Rt:m≤1024:=by omega
  have YR:=(s32 ifs (II hval).1 (II hval).2 hx hr (x.length+1) (.nil x) (kd x)).2 m gD Rt;have eF:H5 x roots (m:Nat)=tk [] (CG x roots (x.length+1) []) m:=by unfold H5 GW tk;rw[hval,Al (by rw[Ae (by rintro(c | c | c);exact absurd c Cl;omega;omega)]),A7];rfl
  have eE:GW x roots (m:Nat)=0:=by unfold GW;rw[hval,Ae (by rintro(c | c | c);exact absurd c Cl;omega;omega)]
  refine BF (Yw (tk [] (CG x roots (x.length+1) []) m)) (fun hT=>?_) (fun hT=>?_)
  ·rw[hT]at YR;refine Xi (.gen [] 1) (Yi rfl (A1.imp YR ?_));intro v9 g9 q9;have q9a:=q9.1;have q9b:=q9.2;subst q9a;subst q9b;rw[eF,eE,hT];exact .tup ⟨.nil,.refl _,trivial⟩
  refine Ba hT (fun z hT=>Ba hT (fun zs hT=>?_));rw[hT]at YR;refine Xi (.gen [] 1) (Yi rfl (A1.imp YR ?_));intro v9 g9 q9;have q9a:=q9.1;have q9b:=q9.2;subst q9a;subst q9b;rw[eF,eE,hT];exact .refl _
 have h1:(Ck x roots)=false:=h1;have vv:=br;rw[show(Ck x roots)=false from h1]at vv;refine Xi .pure (Xi _ (Yi vv (cU [] [] Tv Tv ?_)))
 have eE:GW x roots m=1:=by unfold GW;rw[Al (.inl (by simpa using h1))]
 have eF:H5 x roots m=[]:=by unfold H5;rw[eE];rfl
 rw[eF,eE];exact .tup ⟨.nil,.refl _,trivial⟩
theorem Ac0(m:Int)(AaE:m<0)(hx:∀r∈x,Gv r)(hr:∀q∈roots,J8 q):PC 74 [.agg (Ic x ifs),sl AH roots,vi m] (.tup [sl E8 (H5 x roots m),vi (GW x roots m)]):=by
 have br:=xf x ifs roots hx hr;refine Ps (pC [3] [2,3]) Tryz.func74 rfl (Nz rfl) (yN (BF (Bt (Ck x roots)) (fun h1=>?_) (fun h1=>?_)))
 ·have h1:(Ck x roots)=true:=h1;have i7:=br;rw[show(Ck x roots)=true from h1]at i7;refine Xi .pure (Xi _ (Yi i7 (Yi (fun h3=>?_) (fun h3=>?_))))
  ·have h3:(m:Int)<(0:Int):=h3;refine cU [] [] Tv Tv ?_
   have eE:GW x roots m=1:=by unfold GW;rw[Al (.inr (.inl h3))]
   have eF:H5 x roots m=[]:=by unfold H5;rw[eE];rfl
   rw[eF,eE];exact .tup ⟨.nil,.refl _,trivial⟩
  have h3:¬((m:Int)<(0:Int)):=h3;exact absurd AaE h3
 have h1:(Ck x roots)=false:=h1;have vA:=br;rw[show(Ck x roots)=false from h1]at vA;refine Xi .pure (Xi _ (Yi vA (cU [] [] Tv Tv ?_)))
 have eE:GW x roots m=1:=by unfold GW;rw[Al (.inl (by simpa using h1))]
 have eF:H5 x roots m=[]:=by unfold H5;rw[eE];rfl
 rw[eF,eE];exact .tup ⟨.nil,.refl _,trivial⟩
theorem s11(m:Int)(hx:∀r∈x,Gv r)(hr:∀q∈roots,J8 q):PC 74 [EZ x ifs,sl AH roots,vi m] (.tup [sl E8 (H5 x roots m),vi (GW x roots m)]):=by
 by_cases h:m<0
 ·exact Ac0 x ifs roots m h hx hr
 ·obtain⟨k,rfl⟩:=Int.eq_ofNat_of_zero_le (show 0≤m by omega);exact AbZ x ifs roots k hx hr
def QJ:List Sl:=(H5 x roots 1).headD []
def Kp:Int:=if GW x roots 1≠0 then GW x roots 1 else if H5 x roots 1=[]then 17 else 0
theorem mA{x:List Rl}{roots:List Rq}{e:Int}(he:GW x roots 1=e)(h:e≠0):GF (.tup [Ce,vi e]) (.tup [sl Ac (QJ x roots),vi (Kp x roots)]):=by
 have h1:QJ x roots=[]:=by unfold QJ H5;rw[he,Ae h];rfl
 have h2:Kp x roots=e:=by unfold Kp;rw[he,Al h]
 rw[h1,h2];exact .tup ⟨.nil,.refl _,trivial⟩
theorem pR{x:List Rl}{roots:List Rq}(he:GW x roots 1=0)(h:H5 x roots 1=[]):GF (.tup [Ce,vi 17]) (.tup [sl Ac (QJ x roots),vi (Kp x roots)]):=by
 have h1:QJ x roots=[]:=by unfold QJ;rw[h];rfl
 have h2:Kp x roots=17:=by unfold Kp;rw[he,Ae (fun h=>h rfl),Al h]
 rw[h1,h2];exact .tup ⟨.nil,.refl _,trivial⟩
theorem pS{x:List Rl}{roots:List Rq}{y:List Sl}{ys:List (List Sl)}(he:GW x roots 1=0)(h:H5 x roots 1=y::ys):GF (.tup [sl Ac y,vi 0]) (.tup [sl Ac (QJ x roots),vi (Kp x roots)]):=by
 have h1:QJ x roots=y:=by unfold QJ;rw[h];rfl
 have h2:Kp x roots=0:=by unfold Kp;rw[he,h,Ae (fun h=>h rfl),Ae (fun h=>by cases h)]
 rw[h1,h2];exact .refl _
theorem Ac8(he:GW x roots 1=e)(hF:H5 x roots 1=([]:List (List Sl)))(IW:PC 74 [EZ x ifs,sl AH roots,vi 1] (.tup [sl E8 ([]:List (List Sl)),vi e])):PC 53 [.agg (Ic x ifs),sl AH roots] (.tup [sl Ac (QJ x roots),vi (Kp x roots)]):=by
 refine Ps (pC [2] [2,5,6]) Tryz.func53 rfl (Nz rfl) (yN (Xi .pure (Xi _ (Yi IW (cU [(6,sl E8 ([]:List (List Sl))),(7,vi (e:Int))] [] Z2 Tv (Yi (fun h1=>?_) (fun h1=>?_)))))))
 ·have h1:((e:Int):Int)≠(0:Int):=h1;exact mA he h1
 have h1:((e:Int):Int)=(0:Int):=AC h1;refine Yi (fun h3=>?_) (fun h3=>?_)
 ·have h3:((([]:List (List Sl)).map E8).length:Int)=(0:Int):=h3;refine cU [] [] Tv Tv ?_
  exact pR (he.trans (by have q:=h1;simpa using q)) hF
 have h3:¬(((([]:List (List Sl)).map E8).length:Int)=(0:Int)):=h3;exact absurd rfl h3
theorem Ac7(ys:List (List Sl))(he:GW x roots 1=e)(hF:H5 x roots 1=(y::ys))(IW:PC 74 [EZ x ifs,sl AH roots,vi 1] (.tup [sl E8 (y::ys),vi e])):PC 53 [.agg (Ic x ifs),sl AH roots] (.tup [sl Ac (QJ x roots),vi (Kp x roots)]):=by
 refine Ps (pC [2] [2,5,6]) Tryz.func53 rfl (Nz rfl) (yN (Xi .pure (Xi _ (Yi IW (cU [(6,sl E8 (y::ys)),(7,vi (e:Int))] [] Z2 Tv (Yi (fun h1=>?_) (fun h1=>?_)))))))
 ·have h1:((e:Int):Int)≠(0:Int):=h1;exact mA he h1
 have h1:((e:Int):Int)=(0:Int):=AC h1;refine Yi (fun h3=>?_) (fun h3=>?_)
 ·have h3:(((y::ys).map E8).length:Int)=(0:Int):=h3;refine cU [] [] Tv Tv ?_
  exact absurd h3 (by rw[Lm,Av];omega)
 have h3:¬((((y::ys).map E8).length:Int)=(0:Int)):=h3;refine cU [(6,sl E8 (y::ys))] [] Z1 Tv (Xi [sl Ac y] (Yi (Yi (BK 0) rfl) (Yi rfl ?_)));exact pS (he.trans (by have q:=h1;simpa using q)) hF
theorem s37(hx:∀r∈x,Gv r)(hr:∀q∈roots,J8 q):PC 53 [EZ x ifs,sl AH roots] (.tup [sl Ac (QJ x roots),vi (Kp x roots)]):=by
 have h:=s11 x ifs roots 1 hx hr;obtain⟨e,he⟩:∃e,e=GW x roots 1:=⟨_,rfl⟩;rcases Yw (H5 x roots 1)with hF | ⟨y,ys,hF⟩
 ·rw[hF,←he]at h;exact Ac8 x ifs roots e he.symm hF h
 ·rw[hF,←he]at h;exact Ac7 x ifs roots e y ys he.symm hF h
section
variable {x:List Rl}{roots:List Rq}
theorem oW{L:List (List Cd)}:(jh L).take 1=[]↔L=[]:=by cases L<;>simp[jh]
theorem Yp(hv:Ck x roots=true)(hx:x.length≤16):CG x roots (x.length+1) []≠[]↔TM x roots:=by
 obtain⟨h0,h1⟩:=II hv;constructor
 ·intro h;cases hl:CG x roots (x.length+1) []with
  |nil=>exact absurd hl h
  |cons d L =>
   have hm:d∈CG x roots (x.length+1) []:=by rw[hl];exact Aa ..
   exact⟨_,(HW (.nil x) (.nil roots) _ hm).sol h0⟩
 ·intro h e;have hf:=(WK hv hx).2 h;have hR:=I3 h0 h1;rw[Xs hv hx]at hf;unfold SY at hf
  by_cases LN:(DU x roots).found=true
  ·obtain⟨_,t,sl,y2,y3,y4,y5⟩:=hR.yes LN;have hm:=Li y5;rw[e]at hm;cases hm
  ·rw[Ae LN]at hf;cases hf
theorem mr(hx:x.length≤16):Kp x roots=DT x roots:=by
 cases hv:Ck x roots with
 |false =>
  have h1:GW x roots 1=1:=by unfold GW;rw[hv,Al (.inl rfl)]
  have h2:Gu x roots=1:=by unfold Gu;rw[hv];rfl
  unfold Kp DT;rw[h1,h2];rfl
 |true =>
  have h1:GW x roots 1=0:=by unfold GW;rw[hv,Ae Cl]
  have hF:H5 x roots 1=[]↔¬TM x roots:=by
   unfold H5;rw[h1,Al rfl,show(1:Int).toNat=1 from rfl,oW,←Yp hv hx,BB]
  have hS:=pL (roots:=roots) hv hx;unfold Kp;rw[h1,Ae (fun h=>h rfl)]
  by_cases h:H5 x roots 1=[]
  ·rw[Al h,hS.2.2 (hF.1 h)]
  ·rw[Ae h,hS.1.2 (BB.1 fun c=>h (hF.2 c))]
end
theorem pM{x:List Rl}{roots:List Rq}(hx:x.length≤16):QJ x roots=Fb x roots:=by
 unfold QJ;cases hv:Ck x roots with
 |false =>
  have h1:GW x roots 1=1:=by unfold GW;rw[hv,Al (.inl rfl)]
  unfold H5;rw[h1,Ae Cl,(bc hv).2];rfl
 |true =>
  have h1:GW x roots 1=0:=by unfold GW;rw[hv,Ae Cl]
  unfold H5;rw[h1,Al rfl];cases hl:CG x roots (x.length+1) []with
  |nil =>
   have kq:=(Vp hv hx).2 hl;unfold Fb;rw[kq];rfl
  |cons d l =>
   rw[(Xn hv hx hl).2];rfl
theorem Acz(l:List Sl)(S7:PC 25 [EZ x ifs,sl Ac l] (M9 x ifs l))(kq:PC 53 [EZ (Is x l) (if Fl x l=0 then ifs else []),sl AH roots] (.tup [sl Ac (Fb (Is x l) roots),vi (DT (Is x l) roots)])):PC 27 [.agg (Ic x ifs),sl AH roots,sl Ac l] (.tup [sl Ac (N4 x roots l),vi (N5 x roots l)]):=by
 refine Ps (pC [3,8] []) Tryz.func27 rfl (Nz rfl) (yN (Xi .pure (Xi _ (Yi S7 (yN (Yi (fun h1=>?_) (fun h1=>?_)))))))
 ·have h1:((Fl x l):Int)≠(0:Int):=h1;exact(show GF (.tup [Ce,vi (Fl x l)]) (.tup [.slice .none [],vi (Fl x l)])from .tup ⟨.nil,.refl _,trivial⟩).trans (.of_eq (show AV.tup [sl Ac ([]:List Sl),vi (Fl x l)]=.tup [sl Ac (N4 x roots l),vi (N5 x roots l)] by unfold N4 N5;rw[Al h1,Al h1]))
 have h1:((Fl x l):Int)=(0:Int):=AC h1;refine yN (Xi .pure (Xi _ (Yi kq ?_)));exact .of_eq (show AV.tup [sl Ac (Fb (Is x l) roots),vi (DT (Is x l) roots)]=.tup [sl Ac (N4 x roots l),vi (N5 x roots l)] by unfold N4 N5;rw[Ae (fun q=>q h1),Ae (fun q=>q h1)])
theorem AcA(s:Sl)(IW:PC 20 [EZ x ifs,.agg (Ac s)] (Kq x ifs s true))(rM:PC 53 [EZ x ifs,sl AH roots] (.tup [sl Ac (Fb x roots),vi (DT x roots)]))(rN:PC 53 [EZ (Fy x s true) (if F5 x s true=0 then ifs else []),sl AH roots] (.tup [sl Ac (Fb (Fy x s true) roots),vi (DT (Fy x s true) roots)]))(tK:F5 x s true=0→DT x roots=0→DT (Fy x s true) roots=0→PC 55 [sl Ac (Fb x roots),sl Ac (Fb (Fy x s true) roots)] (.tup [sl B1 (rm (Fb x roots) (Fb (Fy x s true) roots)),vi 0])):PC 29 [.agg (Ic x ifs),sl AH roots,.agg (Ac s)] (.tup [sl B1 (G7 x roots s),vi (Gx x roots s)]):=by
 refine Ps (pC [3,5,8] []) Tryz.func29 rfl (Nz rfl) (yN (yN (Xi .pure (Xi _ (Yi IW (yN (Yi (fun h1=>?_) (fun h1=>?_))))))))
 ·have h1:((F5 x s true):Int)≠(0:Int):=h1;have eE:Gx x roots s=F5 x s true:=by unfold Gx;rw[Al h1]
  have eA:G7 x roots s=[]:=by unfold G7;rw[eE,Ae h1]
  exact(show GF (.tup [Ce,vi (F5 x s true)]) (.tup [.slice .none [],vi (F5 x s true)])from .tup ⟨.nil,.refl _,trivial⟩).trans (.of_eq (show AV.tup [sl B1 ([]:List Mv),vi (F5 x s true)]=.tup [sl B1 (G7 x roots s),vi (Gx x roots s)] by rw[eA,eE]))
 have h1:((F5 x s true):Int)=(0:Int):=AC h1;refine yN (Xi .pure (Xi _ (Yi rM (Yi (fun h3=>?_) (fun h3=>?_)))))
 ·have h3:((DT x roots):Int)≠(0:Int):=h3;have eE:Gx x roots s=DT x roots:=by unfold Gx;rw[Ae (fun q=>q h1),Al h3]
  have eA:G7 x roots s=[]:=by unfold G7;rw[eE,Ae h3]
  exact(show GF (.tup [Ce,vi (DT x roots)]) (.tup [.slice .none [],vi (DT x roots)])from .tup ⟨.nil,.refl _,trivial⟩).trans (.of_eq (show AV.tup [sl B1 ([]:List Mv),vi (DT x roots)]=.tup [sl B1 (G7 x roots s),vi (Gx x roots s)] by rw[eA,eE]))
 have h3:((DT x roots):Int)=(0:Int):=AC h3;refine yN (Xi .pure (Xi _ (Yi rN (Yi (fun h5=>?_) (fun h5=>?_)))))
 ·have h5:((DT (Fy x s true) roots):Int)≠(0:Int):=h5;have eE:Gx x roots s=DT (Fy x s true) roots:=by unfold Gx;rw[Ae (fun q=>q h1),Ae (fun q=>q h3),Al h5]
  have eA:G7 x roots s=[]:=by unfold G7;rw[eE,Ae h5]
  exact(show GF (.tup [Ce,vi (DT (Fy x s true) roots)]) (.tup [.slice .none [],vi (DT (Fy x s true) roots)])from .tup ⟨.nil,.refl _,trivial⟩).trans (.of_eq (show AV.tup [sl B1 ([]:List Mv),vi (DT (Fy x s true) roots)]=.tup [sl B1 (G7 x roots s),vi (Gx x roots s)] by rw[eA,eE]))
 have h5:((DT (Fy x s true) roots):Int)=(0:Int):=AC h5;refine Xi .pure (Xi _ (Yi (tK h1 h3 h5) ?_));have eE:Gx x roots s=0:=by unfold Gx;rw[Ae (fun q=>q h1),Ae (fun q=>q h3),Ae (fun q=>q h5)]
 have eA:G7 x roots s=rm (Fb x roots) (Fb (Fy x s true) roots):=by unfold G7;rw[eE,Al rfl]
 exact .of_eq (show AV.tup [sl B1 (rm (Fb x roots) (Fb (Fy x s true) roots)),vi 0]=.tup [sl B1 (G7 x roots s),vi (Gx x roots s)] by rw[eA,eE])
end Go.Eng
