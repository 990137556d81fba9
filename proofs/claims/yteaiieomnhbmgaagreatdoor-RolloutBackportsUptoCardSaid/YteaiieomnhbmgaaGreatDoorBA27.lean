/- Lemmas 27. -/
import Derived.Test.YteaiieomnhbmgaaGreatDoorBA26
set_option maxHeartbeats 8000000
namespace Go.Eng
open Go.Proofs Go.Proofs.Tryz
variable (x:List Rl)(ifs:C0)(o:List (List Sl))(lim:Int)(l s:List Sl)(roots:List Rq)(m:List Sl)
def qN:AV:=match o with | []=>BE | y::ys=>.slice (.id 18400 1) ((y::ys).map FB)
def qG:HO:=match o with | []=>.free | y::ys=>.tok 1 (y::ys).length
theorem jJ(k:Nat):Ai [(k,.free)] Ac=Ai [] Ac:=funext fun i=>by
 show(bif Nat.beq i k then HO.free else Ac i)=Ac i;cases Nat.beq i k<;>rfl
theorem tJ(y:List Sl)(ys:List (List Sl))(L:List (List Cd))(m:Nat):∃z zs,tk (y::ys) L m=z::zs:=⟨y,_,rfl⟩
theorem AgM(n:Nat)(dec:List Cd)(p:CS)(n0:Nd)(l:List Nd)(m:Nat)(nF:0<m)(hL:LvB x ifs roots n dec p n0 l)(Afh:Cn x roots (n+1) dec=Zs (Mm x roots n dec (n0::l) p) x x.length)(aQ:m<=1024) :
  AP Tryz.prog 243 [.agg (Ic x ifs),sl As roots,sl Ab (Aw dec),BE,vi (m:Nat)] (Ai [] Ac) (RN (tk [] (Cn x roots (n+1) dec) m)):=by
 obtain⟨hE0,hx,hxf,hr,hrn,hdl,hv,hplc,hrl,hneeds,hNx,hDec,hval,ihT,ihN⟩:=hL;have LL:=c81 x ifs roots (Aw dec) hx hxf ch (by grind);rw[hneeds]at LL;unfold U5 at LL;rw[hNx.next]at LL
 have dL:∀(q:CS) (k:Int),PC 296 [Fr x ifs,sl As roots,sl Ab (Aw dec),vs q,vi k] (vb (MJ (Fs roots dec) q k)):=fun q k=>by
  grind [zz]
 refine BO (LB (pC [5,14] [10])) [(18400,2000)] rfl Ck hm rfl func243 Wk rfl (Nz rfl) Wk rfl (yN (C1 (C2 LL (Xi {q:Nat×List (List Sl) // q.1<=x.length/\q.2=tk [] (Zs (Mm x roots n dec (n0::l) p) x q.1) m} (Xi (fun q=>⟨[(1,sl As roots),(2,sl Ab (Aw dec)),(3,qN q.1.2),(4,vi (m:Nat)),(5,.ref 5 0),(11,vs p),(13,vi q.1.1)],[(5,.ro (Ic x ifs)),(18400,qG q.1.2)],Ac⟩) (Xi (fun q=>x.length-q.1.1) (Yi (Xi ⟨(0,[]),Al _,by rw[cy,pW]⟩ ?_) ?_)))))))
 .exact⟨⟨Zr,Zr,⟨(show(BE:AV)=qN []from rfl),rfl⟩,Zr,Zr,Zr,Zr,Tv⟩,⟨Zr,⟨(show HO.free=qG []from rfl),rfl⟩,Tv⟩,Fh,A4 Wk⟩
 intro⟨⟨i,o⟩,i1,i2⟩;refine AN (Y8 o) (fun h1=>?_) (fun h1=>?_)
 .have i2:[]=tk [] (Zs (Mm x roots n dec (n0::l) p) x i) m:=by simp_all
  refine Yh (s':=⟨[(1,sl As roots),(2,sl Ab (Aw dec)),(3,BE),(4,vi (m:Nat)),(5,.ref 5 0),(11,vs p),(13,vi i)],[(5,.ro (Ic x ifs)),(18400,.free)],Ac⟩) (Aa (fun o'=>(⟨[(1,sl As roots),(2,sl Ab (Aw dec)),(3,qN o'),(4,vi (m:Nat)),(5,.ref 5 0),(11,vs p),(13,vi i)],[(5,.ro (Ic x ifs)),(18400,qG o')],Ac⟩:LS)) h1) (Yi (fun h2=>?_) (fun h2=>?_))
  .have n2:=DK h2;refine Yi (fun h3=>?_) (fun h3=>?_)
   .refine Xi (Ah x[i]) (Yi (FJ n2) (Yi rfl (yN (yN (Yi (fun h5=>?_) (fun h5=>?_))))))
    .refine Yi Wk (Yi (by grind [Av]) ?_);have QR:(Mm x roots n dec (n0::l) p) x[i]=[]:=by grind [Mm]
     refine Xi ⟨(i+1,[]),n2,by grind [I5]⟩ ?_;exact⟨by grind,⟨Zr,Zr,⟨(show(BE:AV)=qN []from rfl),rfl⟩,Zr,Zr,Zr,Zr,Tv⟩,⟨Zr,⟨(show HO.free=qG []from rfl),rfl⟩,Tv⟩,Fh,A4 Wk⟩
    have h5:(x[i].path:CS)=p:=Aq h5;refine Yi (fun h7=>?_) (fun h7=>?_)
    .refine Yi Wk (Yi (by grind [Av]) ?_);have QR:(Mm x roots n dec (n0::l) p) x[i]=[]:=by grind [Mm]
     refine Xi ⟨(i+1,[]),n2,by grind [I5]⟩ ?_;exact⟨by grind,⟨Zr,Zr,⟨(show(BE:AV)=qN []from rfl),rfl⟩,Zr,Zr,Zr,Zr,Tv⟩,⟨Zr,⟨(show HO.free=qG []from rfl),rfl⟩,Tv⟩,Fh,A4 Wk⟩
    refine yN (yN (C2 (c95 x[i].ver (hv _ (Ae n2))) (AN (Bt (MJ (Fs roots dec) p (place x[i].ver))) (fun h9=>?_) (fun h9=>?_))))
    .refine C2 (cb h9 (dL p (place x[i].ver))) (Yi Wk (Yi (by grind [Av]) ?_));have QR:(Mm x roots n dec (n0::l) p) x[i]=[]:=Y0 hNx (hplc _ (Ae n2)) h9;refine Xi ⟨(i+1,[]),n2,by grind [I5]⟩ ?_;exact⟨by grind,⟨Zr,Zr,⟨(show(BE:AV)=qN []from rfl),rfl⟩,Zr,Zr,Zr,Zr,Tv⟩,⟨Zr,⟨(show HO.free=qG []from rfl),rfl⟩,Tv⟩,Fh,A4 Wk⟩
    refine C2 (cb h9 (dL p (place x[i].ver))) (Yi Wk ?_);have lU:Bi 4 ((Aw dec).map Ab)/\([]:C0).length=0/\(([]:C0).length+((Aw dec).map Ab).length)*40<=140737488355328/\([]:C0).length+((Aw dec).map Ab).length<=9223372036854775807:=⟨(CJ (enc:=Ab) (n:=4) (fun _=>rfl) (Aw dec)),(by grind),(by grind),(by grind)⟩;refine Yi lU (yN ?_);have qx:Bi 4 [[vs p,vi x[i].ver.a,vi x[i].ver.b,vi x[i].ver.c]]/\(([]++((Aw dec).map Ab)):C0).length=(([]:C0).length+((Aw dec).map Ab).length)/\((([]++((Aw dec).map Ab)):C0).length+([[vs p,vi x[i].ver.a,vi x[i].ver.b,vi x[i].ver.c]]:C0).length)*40<=140737488355328/\(([]++((Aw dec).map Ab)):C0).length+([[vs p,vi x[i].ver.a,vi x[i].ver.b,vi x[i].ver.c]]:C0).length<=9223372036854775807:=⟨⟨rfl,trivial⟩,(by grind),(by grind),(by grind)⟩;refine Yi qx (Yi Wk ?_);have YR:x[i].path=p:=h5;have aM:(⟨plc x[i].ver,x[i]⟩:Cd)∈Bx x p:=He.2 ⟨x[i],Ae n2,YR,h7,rfl⟩;have hD:=hDec (⟨plc x[i].ver,x[i]⟩:Cd) aM;refine cU [(1,sl As roots),(2,sl Ab (Aw dec)),(3,BE),(4,vi (m:Nat)),(5,.ref 5 0),(11,vs p),(13,vi i),(15,.slice (.id 66 4) ((Aw (dec++[(⟨plc x[i].ver,x[i]⟩:Cd)])).map Ab))] [(5,.ro (Ic x ifs)),(66,.tok 4 ((Aw (dec++[(⟨plc x[i].ver,x[i]⟩:Cd)])).map Ab).length)] ⟨Zr,Zr,Zr,Zr,Zr,Zr,Zr,⟨(show(.slice (.id 66 4) (([]++((Aw dec).map Ab))++[[vs p,vi x[i].ver.a,vi x[i].ver.b,vi x[i].ver.c]]):AV)=.slice (.id 66 4) ((Aw (dec++[(⟨plc x[i].ver,x[i]⟩:Cd)])).map Ab)from Aa (AV.slice (.id 66 4)) (YX YR)),rfl⟩,Tv⟩ ⟨Zr,⟨(show(.tok 4 ((([]++((Aw dec).map Ab)):C0).length+([[vs p,vi x[i].ver.a,vi x[i].ver.b,vi x[i].ver.c]]:C0).length):HO)=.tok 4 ((Aw (dec++[(⟨plc x[i].ver,x[i]⟩:Cd)])).map Ab).length by grind),rfl⟩,Tv⟩ ?_
    refine yN ?_;have Uv:=s77 x ifs (Aw (dec++[(⟨plc x[i].ver,x[i]⟩:Cd)])) (Aw dec) (QW (⟨plc x[i].ver,x[i]⟩:Cd)) x[i] hx hxf (by grind) (by grind) (Jx hE0 (Ae n2)) (fun y hy=>hval (⟨plc x[i].ver,x[i]⟩:Cd) aM y hy) (fun q hq=>((hx _ (Ae n2)).2 q hq).1) (hrl _ (Ae n2));have hcl:MD x[i] (Aw (dec++[(⟨plc x[i].ver,x[i]⟩:Cd)]))=(CY dec (⟨plc x[i].ver,x[i]⟩:Cd)).isSome:=TV hE0 hD;rw[hcl]at Uv;refine AN (Bt (CY dec (⟨plc x[i].ver,x[i]⟩:Cd)).isSome) (fun K9=>?_) (fun K9=>?_)
    .refine C1 (C2 (cb K9 Uv) (Yi (Ii i ch) ?_));have QR:(Mm x roots n dec (n0::l) p) x[i]=[]:=ol K9;refine Xi ⟨(i+1,[]),n2,by rw[I5 n2 QR];exact i2⟩ ?_;exact⟨by grind,⟨Zr,Zr,⟨(show(BE:AV)=qN []from rfl),rfl⟩,Zr,Zr,Zr,Zr,Tv⟩,⟨Zr,⟨(show HO.free=qG []from rfl),rfl⟩,Tv⟩,Fh,A4 Wk⟩
    refine C1 (C2 (cb K9 Uv) (yN ?_));have GG:bS dec (n0::l) (⟨plc x[i].ver,x[i]⟩:Cd)=true:=IC.2 ⟨fun m hm=>by have q:=(Py hNx (place x[i].ver)).1 h9 m hm;grind,by have q:=K9;simpa using q⟩;have QR:(Mm x roots n dec (n0::l) p) x[i]=(Cn x roots n (dec++[(⟨plc x[i].ver,x[i]⟩:Cd)])):=by unfold Mm lvC;grind
    have ZE:=ihN (⟨plc x[i].ver,x[i]⟩:Cd) aM m nF aQ;have Aib:tk [] (Zs (Mm x roots n dec (n0::l) p) x (i+1)) m=tk [] (Cn x roots n (dec++[(⟨plc x[i].ver,x[i]⟩:Cd)])) m:=by rw[Qt n2,QR,fE (by grind),<-i2]
    refine AN (Y8 (tk [] (Cn x roots n (dec++[(⟨plc x[i].ver,x[i]⟩:Cd)])) m)) (fun hT=>?_) (fun hT=>?_)
    .rw[hT]at ZE;refine Xi (.gen [] 1) (Yi rfl (AP.imp ZE ?_));intro v15 g15 q15;have xF:=q15.1;have xG:=q15.2;subst xF;subst xG;refine Yi (Ii i ch) (Xi ⟨(i+1,[]),n2,by grind⟩ ?_);exact⟨by grind,⟨Zr,Zr,⟨(show(BE:AV)=qN []from rfl),rfl⟩,Zr,Zr,Zr,Zr,Tv⟩,⟨Zr,⟨(show HO.free=qG []from rfl),rfl⟩,Tv⟩,Fh,A4 Wk⟩
    refine AX hT (fun z hT=>AX hT (fun zs hT=>?_));rw[hT]at ZE;refine Xi (.gen [] 1) (Yi rfl (AP.imp ZE ?_));intro v15 g15 q15;have xF:=q15.1;have xG:=q15.2;subst xF;subst xG;refine Yi (Ii i ch) (Xi ⟨(i+1,z::zs),n2,by grind⟩ ?_);exact⟨by grind,Z7,Z2,Fh,A4 Wk⟩
   exact absurd ch h3
  have n2:=B5 h2;have eo:([]:List (List Sl))=tk [] (Cn x roots (n+1) dec) m:=i2.trans (by
   grind)
  rw[<-eo];exact C2 (.refl _) ⟨rfl,jJ 2000⟩
 refine AX h1 (fun y h1=>AX h1 (fun ys h1=>?_));have i2:y::ys=tk [] (Zs (Mm x roots n dec (n0::l) p) x i) m:=by simp_all
 refine Yh (s':=⟨[(1,sl As roots),(2,sl Ab (Aw dec)),(3,.slice (.id 18400 1) ((y::ys).map FB)),(4,vi (m:Nat)),(5,.ref 5 0),(11,vs p),(13,vi i)],[(5,.ro (Ic x ifs)),(18400,.tok 1 (y::ys).length)],Ac⟩) (Aa (fun o'=>(⟨[(1,sl As roots),(2,sl Ab (Aw dec)),(3,qN o'),(4,vi (m:Nat)),(5,.ref 5 0),(11,vs p),(13,vi i)],[(5,.ro (Ic x ifs)),(18400,qG o')],Ac⟩:LS)) h1) (Yi (fun zY=>?_) (fun zY=>?_))
 .have n19:=DK zY;refine Yi (fun zZ=>?_) (fun zZ=>?_)
  .have hom:(y::ys).length<m:=by simp_all
   refine Xi (Ah x[i]) (Yi (FJ n19) (Yi rfl (yN (yN (Yi (fun h22=>?_) (fun h22=>?_))))))
   .refine Yi Wk (Yi (by grind [Av]) ?_);have QR:(Mm x roots n dec (n0::l) p) x[i]=[]:=by grind [Mm]
    refine Xi ⟨(i+1,y::ys),n19,by grind [I5]⟩ ?_;exact⟨by grind,Z7,Z2,Fh,A4 Wk⟩
   have h22:(x[i].path:CS)=p:=Aq h22;refine Yi (fun h24=>?_) (fun h24=>?_)
   .refine Yi Wk (Yi (by grind [Av]) ?_);have QR:(Mm x roots n dec (n0::l) p) x[i]=[]:=by grind [Mm]
    refine Xi ⟨(i+1,y::ys),n19,by grind [I5]⟩ ?_;exact⟨by grind,Z7,Z2,Fh,A4 Wk⟩
   refine yN (yN (C2 (c95 x[i].ver (hv _ (Ae n19))) (AN (Bt (MJ (Fs roots dec) p (place x[i].ver))) (fun gu=>?_) (fun gu=>?_))))
   .refine C2 (cb gu (dL p (place x[i].ver))) (Yi Wk (Yi (by grind [Av]) ?_));have QR:(Mm x roots n dec (n0::l) p) x[i]=[]:=Y0 hNx (hplc _ (Ae n19)) gu;refine Xi ⟨(i+1,y::ys),n19,by grind [I5]⟩ ?_;exact⟨by grind,Z7,Z2,Fh,A4 Wk⟩
   refine C2 (cb gu (dL p (place x[i].ver))) (Yi Wk ?_);have b28:Bi 4 ((Aw dec).map Ab)/\([]:C0).length=0/\(([]:C0).length+((Aw dec).map Ab).length)*40<=140737488355328/\([]:C0).length+((Aw dec).map Ab).length<=9223372036854775807:=⟨(CJ (enc:=Ab) (n:=4) (fun _=>rfl) (Aw dec)),(by simp_all),(by grind),(by grind)⟩;refine Yi b28 (yN ?_);have b29:Bi 4 [[vs p,vi x[i].ver.a,vi x[i].ver.b,vi x[i].ver.c]]/\(([]++((Aw dec).map Ab)):C0).length=(([]:C0).length+((Aw dec).map Ab).length)/\((([]++((Aw dec).map Ab)):C0).length+([[vs p,vi x[i].ver.a,vi x[i].ver.b,vi x[i].ver.c]]:C0).length)*40<=140737488355328/\(([]++((Aw dec).map Ab)):C0).length+([[vs p,vi x[i].ver.a,vi x[i].ver.b,vi x[i].ver.c]]:C0).length<=9223372036854775807:=⟨⟨rfl,trivial⟩,(by simp_all),(by grind),(by grind)⟩;refine Yi b29 (Yi Wk ?_);have YR:x[i].path=p:=h22;have aM:(⟨plc x[i].ver,x[i]⟩:Cd)∈Bx x p:=He.2 ⟨x[i],Ae n19,YR,h24,rfl⟩;have hD:=hDec (⟨plc x[i].ver,x[i]⟩:Cd) aM;refine cU [(1,sl As roots),(2,sl Ab (Aw dec)),(3,.slice (.id 18400 1) ((y::ys).map FB)),(4,vi (m:Nat)),(5,.ref 5 0),(11,vs p),(13,vi i),(15,.slice (.id 66 4) ((Aw (dec++[(⟨plc x[i].ver,x[i]⟩:Cd)])).map Ab))] [(5,.ro (Ic x ifs)),(66,.tok 4 ((Aw (dec++[(⟨plc x[i].ver,x[i]⟩:Cd)])).map Ab).length),(18400,.tok 1 (y::ys).length)] ⟨Zr,Zr,Zr,Zr,Zr,Zr,Zr,⟨(show(.slice (.id 66 4) (([]++((Aw dec).map Ab))++[[vs p,vi x[i].ver.a,vi x[i].ver.b,vi x[i].ver.c]]):AV)=.slice (.id 66 4) ((Aw (dec++[(⟨plc x[i].ver,x[i]⟩:Cd)])).map Ab)from Aa (AV.slice (.id 66 4)) (YX YR)),rfl⟩,Tv⟩ ⟨Zr,⟨(show(.tok 4 ((([]++((Aw dec).map Ab)):C0).length+([[vs p,vi x[i].ver.a,vi x[i].ver.b,vi x[i].ver.c]]:C0).length):HO)=.tok 4 ((Aw (dec++[(⟨plc x[i].ver,x[i]⟩:Cd)])).map Ab).length by simp_all),rfl⟩,Zr,Tv⟩ ?_
   refine yN ?_;have Uv:=s77 x ifs (Aw (dec++[(⟨plc x[i].ver,x[i]⟩:Cd)])) (Aw dec) (QW (⟨plc x[i].ver,x[i]⟩:Cd)) x[i] hx hxf (by grind) (by simp_all) (Jx hE0 (Ae n19)) (fun y hy=>hval (⟨plc x[i].ver,x[i]⟩:Cd) aM y hy) (fun q hq=>((hx _ (Ae n19)).2 q hq).1) (hrl _ (Ae n19));have hcl:MD x[i] (Aw (dec++[(⟨plc x[i].ver,x[i]⟩:Cd)]))=(CY dec (⟨plc x[i].ver,x[i]⟩:Cd)).isSome:=TV hE0 hD;rw[hcl]at Uv;refine AN (Bt (CY dec (⟨plc x[i].ver,x[i]⟩:Cd)).isSome) (fun qz=>?_) (fun qz=>?_)
   .refine C1 (C2 (cb qz Uv) (Yi (Ii i ch) ?_));have QR:(Mm x roots n dec (n0::l) p) x[i]=[]:=ol qz;refine Xi ⟨(i+1,y::ys),n19,by rw[I5 n19 QR];exact i2⟩ ?_;exact⟨by grind,Z7,Z2,Fh,A4 Wk⟩
   refine C1 (C2 (cb qz Uv) (yN ?_));have GG:bS dec (n0::l) (⟨plc x[i].ver,x[i]⟩:Cd)=true:=IC.2 ⟨fun m hm=>by have q:=(Py hNx (place x[i].ver)).1 gu m hm;simp_all,by simp_all⟩;have QR:(Mm x roots n dec (n0::l) p) x[i]=(Cn x roots n (dec++[(⟨plc x[i].ver,x[i]⟩:Cd)])):=by unfold Mm lvC;simp_all
   have ZE:=ihT (⟨plc x[i].ver,x[i]⟩:Cd) aM (y::ys) m hom aQ;refine Xi (.gen [(18400,1000)] 0) (Yi rfl (AP.imp ZE ?_));intro v32 g32 q32;have Agd:=q32.1;have Age:=q32.2;subst Agd;subst Age;refine Yi (Ii i ch) (AX (tJ y ys (Cn x roots n (dec++[(⟨plc x[i].ver,x[i]⟩:Cd)])) m) (fun z hz=>AX hz (fun zs hz=>?_)));refine Xi ⟨(i+1,z::zs),n19,by rw[Qt n19,QR,fE (by simp_all),<-i2,hz]⟩ ?_;exact⟨Dl x.length i ch,⟨Zr,Zr,⟨(show AV.slice (.id 18400 1) ((tk (y::ys) (Cn x roots n (dec++[(⟨plc x[i].ver,x[i]⟩:Cd)])) m).map FB)=qN (z::zs) by rw[hz];rfl),rfl⟩,Zr,Zr,Zr,Zr,Tv⟩,⟨Zr,⟨(show HO.tok 1 (tk (y::ys) (Cn x roots n (dec++[(⟨plc x[i].ver,x[i]⟩:Cd)])) m).length=qG (z::zs) by rw[hz];rfl),rfl⟩,Tv⟩,Fh,A4 Wk⟩
  have eo:(y::ys)=tk [] (Cn x roots (n+1) dec) m:=i2.trans (by
   grind [XT,iz])
  rw[<-eo];exact C2 (.refl _) Zr
 have n19:=B5 zY;have eo:(y::ys)=tk [] (Cn x roots (n+1) dec) m:=i2.trans (by
  grind)
 rw[<-eo];exact C2 (.refl _) Zr
theorem AbH(dec:List Cd)(m:Nat)(F:List (List Sl))(hF:F.length<m)(hx:∀r∈x,CT r)(hxf:BJ x)(hrn:roots.length<=1000)(hdl:dec.length<=1000)(hneeds:EA x roots (Aw dec)=Fs roots dec)(gv:Ik (Fs roots dec) (Aw dec)=none)(VR:((Aw dec).map (·.path)).Nodup)(aQ:m<=1024) :
  AP Tryz.prog 243 [.agg (Ic x ifs),sl As roots,sl Ab (Aw dec),.slice (.id 1000 1) (F.map FB),vi (m:Nat)] (Ai [(1000,.tok 1 F.length)] Ac) (fun r h'=>r=.slice (.id 1000 1) ((F++[CP (Aw dec)]).map FB)/\h'=Ai [(1000,.tok 1 (F++[CP (Aw dec)]).length)] Ac):=by
 have LL:=c81 x ifs roots (Aw dec) hx hxf ch (by grind);rw[hneeds]at LL;unfold U5 at LL;rw[gv]at LL;have wI:=s74 (Aw dec) (by grind) VR;refine BO (LB (pC [5,14] [])) [(1000,1000)] rfl Ck hm rfl func243 Wk rfl (Nz rfl) Wk rfl (yN (C1 (C2 LL (C1 (C2 wI (Yi (cI rfl ch Cl) ?_))))));exact C2 (.refl _) (Yi (show AV.slice (.id 1000 1) (F.map FB++[FB (CP (Aw dec))])=_ by simp_all) (show Ai [(1000,HO.tok 1 ((F.map FB).length+([FB (CP (Aw dec))]:C0).length))] Ac=_ by simp_all))
theorem AbG(dec:List Cd)(m:Nat)(hx:∀r∈x,CT r)(hxf:BJ x)(hrn:roots.length<=1000)(hdl:dec.length<=1000)(hneeds:EA x roots (Aw dec)=Fs roots dec)(gv:Ik (Fs roots dec) (Aw dec)=none)(VR:((Aw dec).map (·.path)).Nodup) :
  AP Tryz.prog 243 [.agg (Ic x ifs),sl As roots,sl Ab (Aw dec),BE,vi (m:Nat)] (Ai [] Ac) (RN [CP (Aw dec)]):=by
 have LL:=c81 x ifs roots (Aw dec) hx hxf ch (by grind);rw[hneeds]at LL;unfold U5 at LL;rw[gv]at LL;have wI:=s74 (Aw dec) (by grind) VR;refine BO (LB ⟨[5,14],[],[],[],[],[],[29],[],[],[],[]⟩) [(18400,2000)] rfl Ck hm rfl func243 Wk rfl (Nz rfl) Wk rfl (Xi 0 (Xi 0 (yN (C1 (C2 LL (Xi 0 (Xi 18400 (C1 (C2 wI ?_)))))))));have b1:Bi 1 [[sl Ab (CP (Aw dec))]]/\([[sl Ab (CP (Aw dec))]]:C0).length*24<=140737488355328/\([[sl Ab (CP (Aw dec))]]:C0).length<=9223372036854775807:=⟨⟨rfl,trivial⟩,(by simp_all),(by simp_all)⟩;refine Yi b1 ?_;exact C2 (.refl _) (Zr)
theorem xS{F:List (List Sl)}{d:List Cd}{m:Nat}(h:F.length<m):tk F [d] m=F++[CP (Aw d)]:=by
 grind [tk,List.take_of_length_le]
theorem s32{x:List Rl}(ifs:C0){roots:List Rq}(h0:AC x=0)(h1:AR roots=0)(hx:∀r∈x,CT r)(hr:∀q∈roots,FA q) :
  ∀(n:Nat) {dec:List Cd},De x dec->Ff x dec<n->BT x ifs roots n dec/\BN x ifs roots n dec
 |0,_,_,h=>by omega
 |n+1,dec,hd,hn=>by
  have Wc:=JS h0;have hdl:=T3 hd;have hxf:BJ x:=by omega
  have hrn:=M8 h1;have VR:((Aw dec).map (·.path)).Nodup:=by rw[LO];exact hd.nodup
  cases hN:(D4 roots dec).2 with
  |nil=>
   have QR:=d5 (x:=x) (n:=n) hN;have gv:=OI.1 hN;refine⟨fun F m hF aQ=>?_,fun m nF aQ=>?_⟩
   all_goals grind [AbH,bG,xS,AbG]
  |cons n0 l=>
   have hNx:=JW hN;have QR:=d6 (x:=x) (n:=n) hN;have GG:=B3 h0;have hD:∀c∈Bx x (D4 roots dec).1,De x (dec++[c])/\Ff x (dec++[c])<n:=fun c hc=>by
    obtain⟨c1,c2⟩:=Iy hc;have hu:Dn dec c.rel.path=false:=by grind [X3.undone]
    have:=Oo (dec:=dec) ⟨c2.1,c2.2.1⟩ hu
    grind [De.snoc]
   have hL:LvB x ifs roots n dec (D4 roots dec).1 n0 l:={
    hE0:=h0
    hx:=hx
    hxf:=hxf
    hr:=hr
    hrn:=by omega
    hdl:=by omega
    hv:=fun r h=>(GG.1 r h).val
    hplc:=fun r h=>(GG.1 r h).plc
    hrl:=fun r h=>by grind
    hneeds:=bG h0 hd
    hNx:=hNx
    hDec:=fun c hc=>(hD c hc).1
    hval:=fun c hc y hy=>by
     grind [KH.val,De.cand]
    ihT:=fun c hc=>(s32 ifs h0 h1 hx hr n (hD c hc).1 (hD c hc).2).1
    ihN:=fun c hc=>(s32 ifs h0 h1 hx hr n (hD c hc).1 (hD c hc).2).2 }
   exact⟨fun F m hF aQ=>AgN x ifs roots n dec _ n0 l m F hF hL QR aQ,fun m nF aQ=>AgM x ifs roots n dec _ n0 l m nF hL QR aQ⟩
theorem mY:Ff x []<x.length+1:=Nat.lt_succ_of_le (DI _ _)
theorem AbF(hx:∀r∈x,CT r)(hr:∀q∈roots,FA q):PC 242 [.agg (Ic x ifs),sl As roots] (vb (Cp x roots)):=by
 have h71:=yH x ifs hx;have h72:=c68 nf rL roots hr;refine Ps (pC [2] []) func242 rfl (Nz rfl) (yN (C1 (C2 h71 (Yi (fun h1=>?_) (fun h1=>?_)))))
 .refine C1 (C2 h72 (Yi (fun h2=>?_) (fun h2=>?_)))
  .exact .of_eq (show vb true=vb (Cp x roots) by grind [Cp])
  exact .of_eq (show vb false=vb (Cp x roots) by grind [Cp])
 exact .of_eq (show vb false=vb (Cp x roots) by grind [Cp])
theorem AgF(m:Nat)(hx:∀r∈x,CT r)(hr:∀q∈roots,FA q):PC 177 [.agg (Ic x ifs),sl As roots,vi ((m:Nat):Int)] (.tup [sl FB (HL x roots ((m:Nat):Int)),vi (GH x roots ((m:Nat):Int))]):=by
 have lw:=AbF x ifs roots hx hr;refine Ps (pC [3] [2,3]) func177 rfl (Nz rfl) (yN (AN (Bt (Cp x roots)) (fun h1=>?_) (fun h1=>?_)))
 .have nu:=lw;rw[show(Cp x roots)=true from h1]at nu;refine C1 (C2 nu (Yi (fun h3=>?_) (fun h3=>?_)))
  .refine cU [] [] Tv Tv ?_
   have eE:GH x roots m=1:=by omega
   have eF:HL x roots m=[]:=by omega
   rw[eF,eE];exact .tup ⟨.nil,.refl _,trivial⟩
  refine Yi (fun h5=>?_) (fun h5=>?_)
  .refine cU [] [] Tv Tv ?_
   have eE:GH x roots m=1:=by grind [GH]
   have eF:HL x roots m=[]:=by grind [HL]
   rw[eF,eE];exact .tup ⟨.nil,.refl _,trivial⟩
  refine cU [(1,sl As roots),(2,vi ((m:Nat):Int)),(3,.ref 3 0)] [(3,.ro (Ic x ifs))] Z3 Z1 (Yi (fun h7=>?_) (fun h7=>?_))
  .have em:m=0:=by omega
   have eF:HL x roots m=[]:=by unfold HL;simp_all
   have hval:Cp x roots=true:=h1;have eE:GH x roots m=0:=by grind [GH]
   rw[eF,eE];exact .tup ⟨.nil,.refl _,trivial⟩
  refine yN ?_;have hval:Cp x roots=true:=h1;have nF:0<m:=by omega
  have aQ:m<=1024:=by omega
  have ZE:=(s32 ifs (H9 hval).1 (H9 hval).2 hx hr (x.length+1) (.nil x) (mY x)).2 m nF aQ;have eF:HL x roots (m:Nat)=tk [] (Cn x roots (x.length+1) []) m:=by grind [HL,GH,tk]
  have eE:GH x roots (m:Nat)=0:=by grind [GH]
  refine AN (Y8 (tk [] (Cn x roots (x.length+1) []) m)) (fun hT=>?_) (fun hT=>?_)
  .rw[hT]at ZE;refine Xi (.gen [] 1) (Yi rfl (AP.imp ZE ?_));intro v9 g9 q9;have q9a:=q9.1;have q9b:=q9.2;subst q9a;subst q9b;rw[eF,eE,hT];exact .tup ⟨.nil,.refl _,trivial⟩
  refine AX hT (fun z hT=>AX hT (fun zs hT=>?_));rw[hT]at ZE;refine Xi (.gen [] 1) (Yi rfl (AP.imp ZE ?_));intro v9 g9 q9;have q9a:=q9.1;have q9b:=q9.2;subst q9a;subst q9b;rw[eF,eE,hT];exact .refl _
 have Aaa:=lw;rw[show(Cp x roots)=false from h1]at Aaa;refine C1 (C2 Aaa (cU [] [] Tv Tv ?_))
 have eE:GH x roots m=1:=by grind [GH]
 have eF:HL x roots m=[]:=by grind [HL]
 rw[eF,eE];exact .tup ⟨.nil,.refl _,trivial⟩
theorem AgG(m:Int)(Afl:m<0)(hx:∀r∈x,CT r)(hr:∀q∈roots,FA q):PC 177 [.agg (Ic x ifs),sl As roots,vi m] (.tup [sl FB (HL x roots m),vi (GH x roots m)]):=by
 have lw:=AbF x ifs roots hx hr;refine Ps (pC [3] [2,3]) func177 rfl (Nz rfl) (yN (AN (Bt (Cp x roots)) (fun h1=>?_) (fun h1=>?_)))
 .have nu:=lw;rw[show(Cp x roots)=true from h1]at nu;refine C1 (C2 nu (Yi (fun h3=>?_) (fun h3=>?_)))
  .refine cU [] [] Tv Tv ?_
   have eE:GH x roots m=1:=by grind [GH]
   have eF:HL x roots m=[]:=by grind [HL]
   rw[eF,eE];exact .tup ⟨.nil,.refl _,trivial⟩
  exact absurd Afl h3
 have hc5:=lw;rw[show(Cp x roots)=false from h1]at hc5;refine C1 (C2 hc5 (cU [] [] Tv Tv ?_))
 have eE:GH x roots m=1:=by grind [GH]
 have eF:HL x roots m=[]:=by grind [HL]
 rw[eF,eE];exact .tup ⟨.nil,.refl _,trivial⟩
theorem s11(m:Int)(hx:∀r∈x,CT r)(hr:∀q∈roots,FA q):PC 177 [Fr x ifs,sl As roots,vi m] (.tup [sl FB (HL x roots m),vi (GH x roots m)]):=by
 by_cases h:m<0
 all_goals grind [AgG,Int.eq_ofNat_of_zero_le,AgF]
def Ql:List Sl:=(HL x roots 1).headD []
def J4:Int:=if GH x roots 1≠0 then GH x roots 1 else if HL x roots 1=[]then 17 else 0
theorem pN{x:List Rl}{roots:List Rq}{e:Int}(he:GH x roots 1=e)(h:e≠0):BM (.tup [BE,vi e]) (.tup [sl Ab (Ql x roots),vi (J4 x roots)]):=by
 have h1:Ql x roots=[]:=by grind [Ql,HL]
 have h2:J4 x roots=e:=by grind [J4]
 rw[h1,h2];exact .tup ⟨.nil,.refl _,trivial⟩
theorem tA{x:List Rl}{roots:List Rq}(he:GH x roots 1=0)(h:HL x roots 1=[]):BM (.tup [BE,vi 17]) (.tup [sl Ab (Ql x roots),vi (J4 x roots)]):=by
 have h1:Ql x roots=[]:=by grind [Ql]
 have h2:J4 x roots=17:=by grind [J4]
 rw[h1,h2];exact .tup ⟨.nil,.refl _,trivial⟩
theorem tB{x:List Rl}{roots:List Rq}{y:List Sl}{ys:List (List Sl)}(he:GH x roots 1=0)(h:HL x roots 1=y::ys):BM (.tup [sl Ab y,vi 0]) (.tup [sl Ab (Ql x roots),vi (J4 x roots)]):=by
 grind [Ql,J4,BM.refl]
theorem AgP(e:Int)(he:GH x roots 1=e)(hF:HL x roots 1=([]:List (List Sl)))(FH:PC 177 [Fr x ifs,sl As roots,vi 1] (.tup [sl FB ([]:List (List Sl)),vi e])):PC 119 [.agg (Ic x ifs),sl As roots] (.tup [sl Ab (Ql x roots),vi (J4 x roots)]):=by
 refine Ps (pC [2] [2,5,6]) func119 rfl (Nz rfl) (yN (C1 (C2 FH (cU [(6,sl FB ([]:List (List Sl))),(7,vi (e:Int))] [] Z2 Tv (Yi (fun h1=>?_) (fun h1=>?_))))))
 .exact pN he h1
 refine Yi (fun h3=>?_) (fun h3=>?_)
 .refine cU [] [] Tv Tv ?_
  exact tA (he.trans ch) hF
 exact absurd rfl h3
theorem AgO(e:Int)(y:List Sl)(ys:List (List Sl))(he:GH x roots 1=e)(hF:HL x roots 1=(y::ys))(FH:PC 177 [Fr x ifs,sl As roots,vi 1] (.tup [sl FB (y::ys),vi e])):PC 119 [.agg (Ic x ifs),sl As roots] (.tup [sl Ab (Ql x roots),vi (J4 x roots)]):=by
 refine Ps (pC [2] [2,5,6]) func119 rfl (Nz rfl) (yN (C1 (C2 FH (cU [(6,sl FB (y::ys)),(7,vi (e:Int))] [] Z2 Tv (Yi (fun h1=>?_) (fun h1=>?_))))))
 .exact pN he h1
 refine Yi (fun h3=>?_) (fun h3=>?_)
 .refine cU [] [] Tv Tv ?_
  exact absurd h3 (by grind)
 refine cU [(6,sl FB (y::ys))] [] Z1 Tv (Xi [sl Ab y] (Yi (Yi (Bv 0) rfl) (Yi rfl ?_)));exact tB (he.trans ch) hF
theorem s37(hx:∀r∈x,CT r)(hr:∀q∈roots,FA q):PC 119 [Fr x ifs,sl As roots] (.tup [sl Ab (Ql x roots),vi (J4 x roots)]):=by
 have h:=s11 x ifs roots 1 hx hr;obtain⟨e,he⟩:∃e,e=GH x roots 1:=⟨_,rfl⟩;rcases Y8 (HL x roots 1)with hF | ⟨y,ys,hF⟩<;>grind [AgP,AgO]
section
variable {x:List Rl}{roots:List Rq}
theorem sA{L:List (List Cd)}:(lfS L).take 1=[]↔L=[]:=by cases L<;>simp[lfS]
theorem UR(hv:Cp x roots=true)(hx:x.length<=17):Cn x roots (x.length+1) []≠[]↔Tw x roots:=by
 obtain⟨h0,h1⟩:=H9 hv;constructor
 .intro h;cases hl:Cn x roots (x.length+1) []with
  |nil=>exact absurd hl h
  |cons d L=>
   have hm:d∈Cn x roots (x.length+1) []:=by rw[hl];exact Af ..
   exact⟨_,(Hv (.nil x) (.nil roots) _ hm).sol h0⟩
 .intro h e;have hf:=(RY hv hx).2 h;have hR:=Iw h0 h1;rw[Sy hv hx]at hf;unfold SD at hf
  by_cases Uz:(DZ x roots).found=true
  .obtain⟨_,t,sl,y2,y3,y4,y5⟩:=hR.yes Uz;have hm:=RK y5;rw[e]at hm;cases hm
  .rw[Az Uz]at hf;cases hf
theorem Vw(hx:x.length<=17):J4 x roots=DD x roots:=by
 cases hv:Cp x roots with
 |false=>
  have h1:GH x roots 1=1:=by unfold GH;rw[hv,Ay (.inl rfl)]
  have h2:H7 x roots=1:=by unfold H7;rw[hv];rfl
  unfold J4 DD;rw[h1,h2];rfl
 |true=>
  have h1:GH x roots 1=0:=by unfold GH;rw[hv,Az Cl]
  have hF:HL x roots 1=[]↔¬Tw x roots:=by
   unfold HL;rw[h1,Ay rfl,show(1:Int).toNat=1 from rfl,sA,<-UR hv hx,B8]
  have hS:=kV (roots:=roots) hv hx;unfold J4;rw[h1,Az (fun h=>h rfl)]
  by_cases h:HL x roots 1=[]
  .rw[Ay h,hS.2.2 (hF.1 h)]
  .rw[Az h,hS.1.2 (B8.1 fun c=>h (hF.2 c))]
theorem pF(hx:x.length<=16):J4 x roots=DD x roots:=Vw (Nat.le_succ_of_le hx)
end
theorem tv{x:List Rl}{roots:List Rq}(hx:x.length<=16):Ql x roots=Cf x roots:=by
 unfold Ql;cases hv:Cp x roots with
 |false=>
  have h1:GH x roots 1=1:=by unfold GH;rw[hv,Ay (.inl rfl)]
  unfold HL;rw[h1,Az Cl,(cn hv).2];rfl
 |true=>
  have h1:GH x roots 1=0:=by unfold GH;rw[hv,Az Cl]
  unfold HL;rw[h1,Ay rfl];cases hl:Cn x roots (x.length+1) []with
  |nil=>
   have rM:=(Vx hv hx).2 hl;unfold Cf;rw[rM];rfl
  |cons d l=>
   rw[(XH hv hx hl).2];rfl
theorem pE{x:List Rl}{roots:List Rq}(hx:x.length<=16)(h:DD x roots=0):Ho (Cf x roots):=by
 obtain⟨h1,h2,h3⟩:=Lp h;have hv:Cp x roots=true:=by
  cases hv:Cp x roots with
  |true=>rfl
  |false=>exact absurd h (cn hv).1
 cases hl:Cn x roots (x.length+1) []with
 |nil=>rw[(Vx hv hx).2 hl]at h;cases h
 |cons d l=>
  have lf:=Hv (De.nil x) (Ih.nil roots) d (by rw[hl];exact Af ..);refine⟨by show _<=_;omega,fun s hs=>?_,by rw[(XH hv hx hl).2];exact lf.ok.sorted⟩;obtain⟨r,hr,rfl⟩:=h1 s hs;exact(TT ((Hp.1 h3).2.1 r hr)).val
theorem Acm  : PC 220 [BE,vi 0,vi 0] (.tup []):=by
 refine Ps C3 func220 rfl (Nz rfl) (Yi (Ii 0 ch) (Xi {q:Nat // q=0} (Xi (fun q=>⟨[(0,BE),(1,vi 0),(2,vi 0),(6,vi (0+1))],[],Ac⟩) (Xi (fun q=>q.1) (Yi (Xi ⟨0,rfl⟩ ?_) ?_)))))
 .exact⟨Z4,Tv,Fh,Tv⟩
 intro⟨i,i1⟩;refine Yi (fun h1=>?_) (fun h1=>?_)
 .exact absurd h1 Cl
 exact .refl _
theorem Acl:PC 160 [BE,vi 0,vi 0,vi lim] (.tup []):=by
 refine Ps C3 func160 rfl (Nz rfl) (Xi {q:Nat // q=0} (Xi (fun q=>⟨[(0,BE),(1,vi 0),(2,vi 0),(3,vi lim),(8,vb true),(9,vb true)],[],Ac⟩) (Xi (fun q=>q.1) (Yi (Xi ⟨0,rfl⟩ ?_) ?_))))
 .exact⟨Z6,Tv,Fh,Tv⟩
 intro⟨i,i1⟩;refine Yi (by show Av ((0:Int)-(0:Int));unfold Av;omega) (Yi (fun h1=>?_) (fun h1=>?_))
 .refine C1 (C2 Acm ?_);exact .refl _
 exact absurd Cl h1
theorem Acn(hb:PC 161 [.v (.int .u64 (IntKind.u64.wrap (0:Int)))] (vi lim)):PC 99 [BE] (.tup []):=by
 refine Ps C3 func99 rfl (Nz rfl) (C1 (C2 hb (C1 (C2 (Acl lim) ?_))));exact .refl _
theorem Ahe  : PC 183 [BE] BE:=by
 refine Ps C3 func183 rfl (Nz rfl) (Yi (fun _=>?_) (fun h=>absurd Cl h));exact .refl _
theorem XG:Ho []:=⟨show 0<=1073741824 by decide,Cq _,List.Pairwise.nil⟩
theorem Ahd(hs:PC 99 [BE] (.tup [])):PC 130 [sl Ab ([]:List Sl),sl Ab ([]:List Sl)] (.tup [BE,vi 0]):=by
 refine Ps ⟨[],[],[],[(34,[12000,12500])],[],[],[],[],[],[],[1,2,3,4,5,6,8,9,10,11,12,13,14,16,17,18,19,20,21]⟩ func130 rfl (Nz rfl) (cU [(0,sl Ab ([]:List Sl)),(1,sl Ab ([]:List Sl))] [] Z2 Tv (Xi (.gen [] 1) (Yi rfl (AP.to2 (sY [] XG) ?_))));refine cU [(0,sl Ab ([]:List Sl)),(1,sl Ab ([]:List Sl)),(6,.mref 12000),(7,vb true)] [(12000,.map B4 (H3 []))] Z4 Z1 (Xi (.gen [] 1) (Yi rfl (AP.to2 (sY [] XG) ?_)));refine cU [(0,sl Ab ([]:List Sl)),(1,sl Ab ([]:List Sl)),(6,.mref 12000),(7,vb true),(8,.mref 12500),(9,vb true)] [(12000,.map B4 (H3 [])),(12500,.map B4 (H3 []))] Z6 Z2 (cU [(0,sl Ab ([]:List Sl)),(1,sl Ab ([]:List Sl)),(6,.mref 12000),(8,.mref 12500)] [(12000,.map B4 (H3 [])),(12500,.map B4 (H3 []))] Z4 Z2 (cU [(0,sl Ab ([]:List Sl)),(1,sl Ab ([]:List Sl)),(6,.mref 12000),(8,.mref 12500),(10,BE)] [(12000,.map B4 (H3 [])),(12500,.map B4 (H3 []))] Z5 Z2 (Xi (.gen [] 1) (Yi rfl (AP.to2 (wj ([]:List Sl) (show 0<=1073741824 by decide)) ?_)))));have b2:Bi 4 (([]:List Sl).map Ab)/\(([]:List Sl).map Ab).length=(([]:List Sl).map Ab).length/\((([]:List Sl).map Ab).length+(([]:List Sl).map Ab).length)*40<=140737488355328/\(([]:List Sl).map Ab).length+(([]:List Sl).map Ab).length<=9223372036854775807:=⟨(CJ (enc:=Ab) (n:=4) (fun _=>rfl) ([]:List Sl)),rfl,(by simp only[Lm,AE];omega),(by simp only[Lm,AE];omega)⟩;refine Yi b2 (Xi {q:Nat // q=0} (Xi (fun q=>⟨[(6,.mref 12000),(8,.mref 12500),(10,BE),(37,.slice (.id 13500 4) ((([]:List Sl).map Ab)++(([]:List Sl).map Ab))),(38,vi (((([]:List Sl).map Ab)++(([]:List Sl).map Ab)):C0).length),(39,vi q.1)],[(12000,.rom B4 (H3 [])),(12500,.rom B4 (H3 [])),(13500,.tok 4 ((([]:List Sl).map Ab).length+(([]:List Sl).map Ab).length))],Ac⟩) (Xi (fun q=>q.1) (Yi (Xi ⟨0,rfl⟩ ?_) ?_))))
 .exact⟨Z6,Z3,Fh,Tv⟩
 intro⟨i,i1⟩;refine Yi (fun h3=>?_) (fun h3=>?_)
 .exact absurd h3 (by show ¬((i:Int)<0);omega)
 refine cU [(6,.mref 12000),(8,.mref 12500),(10,BE)] [(12000,.rom B4 (H3 [])),(12500,.rom B4 (H3 []))] Z3 Z2 (C1 (C2 hs (cU [(6,.mref 12000),(8,.mref 12500),(10,BE)] [(12000,.rom B4 (H3 [])),(12500,.rom B4 (H3 []))] Z3 Z2 (cU [(6,.mref 12000),(8,.mref 12500),(10,BE),(13,.v (.func (.func 182) #[] #[]))] [(12000,.rom B4 (H3 [])),(12500,.rom B4 (H3 []))] Z4 Z2 (cU [(6,.mref 12000),(8,.mref 12500),(10,BE),(13,.v (.func (.func 182) #[] #[])),(14,BE)] [(12000,.rom B4 (H3 [])),(12500,.rom B4 (H3 []))] Z5 Z2 (C1 (C2 Ahe (Xi {q:Nat // q=0} (Xi (fun q=>⟨[(6,.mref 12000),(8,.mref 12500),(13,.v (.func (.func 182) #[] #[])),(14,BE),(52,BE),(53,vi 0),(54,vi q.1)],[(12000,.rom B4 (H3 [])),(12500,.rom B4 (H3 []))],Ac⟩) (Xi (fun q=>q.1) (Yi (Xi ⟨0,rfl⟩ ?_) ?_)))))))))))
 .exact⟨Z7,Z2,Fh,Tv⟩
 intro⟨i,i1⟩;refine Yi (fun h4=>?_) (fun h4=>?_)
 .exact absurd h4 (by show ¬((i:Int)<0);omega)
 refine cU [(14,BE)] [] Z1 Tv ?_
 exact .refl _
theorem Rt(h:G1 x)(hr:∀q∈roots,FA q):PC 119 [Fr x ifs,sl As roots] (.tup [sl Ab (Cf x roots),vi (DD x roots)]):=by
 have q:=s37 x ifs roots h.few hr
 rwa [tv h.len,pF h.len]at q
theorem Qn(p:List CS):∃t:List CS,t.Perm p/\(t.map K4).Pairwise fun a b=>a<=b:=by
 have e:∀q:CS,SF (K4 q)=q:=fun q=>by cases q;simp
 have e2:∀q:List UInt8,K4 (SF q)=q:=fun q=>by simp
 refine⟨((p.map K4).mergeSort fun a b=>decide (a<=b)).map SF,?_,?_⟩
 .have h:=(NO (p.map K4) fun a b=>decide (a<=b)).map SF
  rwa [Br,show(SF ∘ K4)=id from funext e,Hl]at h
 .rw[Br,show(K4 ∘ SF)=id from funext e2,Hl];have h:=Ty (le:=fun a b:List UInt8=>decide (a<=b)) (fun a b c h1 h2=>At (List.le_trans (AW h1) (AW h2))) (fun a b=>by rcases List.le_total a b with h | h<;>simp[h]) (p.map K4)
  exact h.imp fun h=>AW h
theorem mE(t:List CS):(Ce t).length<=t.length:=by
 have h:=MG (t.map K4);rw[Lm]at h;unfold Ce;rw[Lm];exact h
theorem pq(h:Ho l)(k:Ho m):(rm l m).length<=l.length+m.length:=by
 obtain⟨t,ht,hs⟩:=Qn ((l++m).map (·.path));rw[<-bC h k ht hs];refine AH (List.length_filterMap_le ..) (AH (mE t) ?_);rw[ht.length_eq,Lm,Ak];exact Ap _
theorem AfP(hl:Ho l)(hm2:Ho m)(h1:l.length<=16)(h2:m.length<=16):PC 130 [sl Ab l,sl Ab m] (.tup [sl G4 (rm l m),vi 0]):=by
 obtain⟨t,ht,hs⟩:=Qn ((l++m).map (·.path))
 by_cases e:l++m=[]
 .obtain⟨rfl,rfl⟩:=List.append_eq_nil_iff.1 e;obtain⟨lim,_,hb⟩:=mc 0 (Al _);have q:=Ahd (Acn lim hb);rw[show rm [] []=[] by rw[rm]];exact AP.mono q fun r h' ⟨e1,e2⟩=>⟨.tup [sl G4 [],vi 0],by rw[e1];exact .tup ⟨.nil,.refl _,trivial⟩,rfl,e2⟩
 .rw[<-bC hl hm2 ht hs];exact o75 l m t hl hm2 ch e ht hs
theorem Gq{x:List Rl}{s:List Sl}(h:N4 x s=0)(hl:BJ s):Ho s:=by
 refine⟨hl,fun y hy=>?_,Js (MZ h)⟩;have q:(BQ x y).isSome=true:=by
  have q:=h;unfold N4 at q;rw[Ay (Xv h),Ay (MZ h)]at q;split at q
  .rename_i h1;exact A3.1 h1 y hy
  .cases q
 cases e:BQ x y with
 |none=>rw[e]at q;cases q
 |some r=>
  unfold BQ at e;rw[Az (fun c=>c (Xv h))]at e;have e1:EL r=y:=AW (DV (p:=fun r=>decide (EL r=y)) e);rw[<-e1];exact((B3 (Xv h)).1 r (BA e)).val
theorem Nm{x:List Rl}{s:List Sl}(h:E0 x s=0):N4 x s=0:=by
 unfold E0 at h;split at h
 .assumption
 .exact h
def Jt:List CS:=(rm l m).map (·.path)
def upC:List AV:=[.cmap B4 (Co x l),.cmap B4 (Co x m),sl Ab l,sl Ab m,sl Ar (Jt l m)]
def RD:Int:=if E0 x l=0 then E0 x m else E0 x l
def fG:AV:=if RD x l m=0 then .tup [.cptr (upC x l m),vi 0]else .tup [.v (.pointer none),vi (RD x l m)]
theorem tR(hx:∀r∈x,CT r)(hl:BJ s)(h0:E0 x s=0):PC 34 [.agg (Ic x ifs),sl Ab s] (vi (E0 x s)):=by
 refine Ps (pC [2] []) func34 rfl (Nz rfl) (yN (C1 (C2 (by have q:=OV x ifs s hx hl;rw[Ja,Ay h0]at q;exact q) ?_)));exact BM.of_eq (Aa vi h0.symm)
theorem tQ(hx:∀r∈x,CT r)(hl:BJ s)(h0:¬E0 x s=0):PC 34 [.agg (Ic x ifs),sl Ab s] (vi (E0 x s)):=by
 refine Ps (pC [2] []) func34 rfl (Nz rfl) (yN (C1 (C2 (by have q:=OV x ifs s hx hl;rw[Ja,Az h0]at q;exact q) ?_)));exact .refl _
theorem x6(hx:∀r∈x,CT r)(hl:BJ s):PC 34 [Fr x ifs,sl Ab s] (vi (E0 x s)):=by
 by_cases h:E0 x s=0
 .exact tR x ifs s hx hl h
 .exact tQ x ifs s hx hl h
theorem Ac7(hx:∀r∈x,CT r)(hl:BJ l)(_hm_:BJ m)(c1:¬E0 x l=0):PC 73 [.agg (Ic x ifs),sl Ab l,sl Ab m] (fG x l m):=by
 refine Ps (pC [3] []) func73 rfl (Nz rfl) (yN (C1 (C2 (by have q:=OV x ifs l hx hl;rw[Ja,Az c1]at q;exact q) ?_)));refine Yi (fun h1=>?_) (fun h1=>?_)
 .have h1:((E0 x l):Int)≠(0:Int):=h1;exact BM.of_eq (show AV.tup [.v (.pointer none),vi (E0 x l)]=fG x l m by rw[fG,RD,Az c1,Az c1])
 have h1:((E0 x l):Int)=(0:Int):=Aq h1;exact absurd h1 c1
theorem Ac8(hx:∀r∈x,CT r)(hl:BJ l)(Sb:BJ m)(c1:E0 x l=0)(c2:¬E0 x m=0):PC 73 [.agg (Ic x ifs),sl Ab l,sl Ab m] (fG x l m):=by
 refine Ps (pC [3] []) func73 rfl (Nz rfl) (yN (C1 (C2 (by have q:=OV x ifs l hx hl;rw[Ja,Ay c1]at q;exact q) ?_)));refine Yi (fun h=>absurd h Cl) (fun _=>?_);refine yN (C1 (C2 (by have q:=OV x ifs m hx Sb;rw[Ja,Az c2]at q;exact q) ?_));refine Yi (fun h1=>?_) (fun h1=>?_)
 .have h1:((E0 x m):Int)≠(0:Int):=h1;exact BM.of_eq (show AV.tup [.v (.pointer none),vi (E0 x m)]=fG x l m by rw[fG,RD,Ay c1,Az c2])
 have h1:((E0 x m):Int)=(0:Int):=Aq h1;exact absurd h1 c2
theorem Ac9(hx:∀r∈x,CT r)(hl:BJ l)(Sb:BJ m)(Ha:l.length<=16)(FC:m.length<=16)(c1:E0 x l=0)(c2:E0 x m=0):PC 73 [.agg (Ic x ifs),sl Ab l,sl Ab m] (fG x l m):=by
 have hrm:(rm l m).length<=1000:=by have q:=pq l m (Gq (Nm c1) hl) (Gq (Nm c2) Sb);omega
 refine Ps ⟨[3],[],[],[],[39],[],[],[(47,(39,4,90,1))],[],[],[3,4,7,9,13]⟩ func73 rfl (Nz rfl) (yN (C1 (C2 (by have q:=OV x ifs l hx hl;rw[Ja,Ay c1]at q;exact q) ?_)));refine Yi (fun h=>absurd h Cl) (fun _=>?_);refine cU [(1,sl Ab l),(2,sl Ab m),(3,.ref 3 0),(8,.cmap B4 (Co x l))] [(3,.ro (Ic x ifs))] Z4 Z1 (yN (C1 (C2 (by have q:=OV x ifs m hx Sb;rw[Ja,Ay c2]at q;exact q) ?_)));refine Yi (fun h=>absurd h Cl) (fun _=>?_);refine cU [(1,sl Ab l),(2,sl Ab m),(8,.cmap B4 (Co x l)),(10,.cmap B4 (Co x m))] [] Z4 Tv (C1 (C2 (AfP l m (Gq (Nm c1) hl) (Gq (Nm c2) Sb) Ha FC) (cU [(11,.ref 39 0),(12,sl G4 (rm l m))] [(39,.cells [.cmap B4 (Co x l),.cmap B4 (Co x m),sl Ab l,sl Ab m,BE])] Z2 Z1 (Xi {q:Nat // q<=(rm l m).length} (Xi (fun q=>⟨[(11,.ref 39 0),(46,sl G4 (rm l m)),(47,vi ((rm l m).map G4).length),(48,vi q.1)],[(39,.cells [.cmap B4 (Co x l),.cmap B4 (Co x m),sl Ab l,sl Ab m,.slice (.id 90 1) ((((rm l m).take q.1).map (·.path)).map Ar)]),(90,.tok 1 ((((rm l m).take q.1).map (·.path)).map Ar).length)],Ac⟩) (Xi (fun q=>(rm l m).length-q.1) (Yi (Xi ⟨0,Al _⟩ ?_) ?_)))))))
 .exact⟨Z4,Z2,Fh,Tv⟩
 intro⟨i,i1⟩;have i1:i<=(rm l m).length:=i1;refine Yi (fun h1=>?_) (fun h1=>?_)
 .have h1:(i:Int)<(((rm l m).map G4).length:Int):=h1;have n1:=DK h1;have hq:((rm l m).take i).length<=1000:=by rw[AD];omega
  refine Xi (G4 ((rm l m)[i])) (Yi (FJ n1) (Yi rfl (yN (yN ?_))));have b2:Bi 1 [[vs ((rm l m)[i]).path]]/\((((rm l m).take i).map (·.path)).map Ar).length=((((rm l m).take i).map (·.path)).map Ar).length/\(((((rm l m).take i).map (·.path)).map Ar).length+([[vs ((rm l m)[i]).path]]:C0).length)*16<=140737488355328/\((((rm l m).take i).map (·.path)).map Ar).length+([[vs ((rm l m)[i]).path]]:C0).length<=9223372036854775807:=⟨⟨rfl,trivial⟩,rfl,(by simp only[Lm,AA,AE];omega),(by simp only[Lm,AA,AE];omega)⟩;refine Yi b2 (yN (Yi Wk (cU [(11,.ref 39 0),(46,sl G4 (rm l m)),(47,vi ((rm l m).map G4).length),(48,vi i)] [(39,.cells [.cmap B4 (Co x l),.cmap B4 (Co x m),sl Ab l,sl Ab m,.slice (.id 90 1) (((((rm l m).take i).map (·.path)).map Ar)++[[vs ((rm l m)[i]).path]])]),(90,.tok 1 (((((rm l m).take i).map (·.path)).map Ar).length+([[vs ((rm l m)[i]).path]]:C0).length))] Z4 Z2 (Yi (Ii i ch) ?_))));have ew:((((rm l m).take i).map (·.path)).map Ar++[[vs (rm l m)[i].path]])=(((rm l m).take (i+1)).map (·.path)).map Ar:=by rw[DU n1,AF,AF];rfl
  refine Xi ⟨i+1,n1⟩ ?_;exact⟨by show(rm l m).length-(i+1)<(rm l m).length-i;omega,Z4,⟨⟨(Aa (fun z=>HO.cells [.cmap B4 (Co x l),.cmap B4 (Co x m),sl Ab l,sl Ab m,.slice (.id 90 1) z]) ew),rfl⟩,⟨(show HO.tok 1 (((((rm l m).take i).map (·.path)).map Ar).length+([[vs ((rm l m)[i]).path]]:C0).length)=.tok 1 ((((rm l m).take (i+1)).map (·.path)).map Ar).length from Aa (HO.tok 1) (Ak.symm.trans (Aa List.length ew))),rfl⟩,Tv⟩,Fh,Tv⟩
 have h1:¬((i:Int)<(((rm l m).map G4).length:Int)):=h1;have n1:=B5 h1;have ee:(rm l m).take i=rm l m:=Au (AO (B5 h1));exact BM.of_eq (show AV.tup [.cptr [.cmap B4 (Co x l),.cmap B4 (Co x m),sl Ab l,sl Ab m,sl Ar (((rm l m).take i).map (·.path))],vi 0]=fG x l m by rw[ee,fG,show RD x l m=0 by rw[RD,Ay c1];exact c2,Ay rfl];rfl)
theorem qm(hx:∀r∈x,CT r)(hl:BJ l)(Sb:BJ m)(Ha:l.length<=16)(FC:m.length<=16):PC 73 [Fr x ifs,sl Ab l,sl Ab m] (fG x l m):=by
 by_cases c1:E0 x l=0
 .by_cases c2:E0 x m=0
  .exact Ac9 x ifs l m hx hl Sb Ha FC c1 c2
  .exact Ac8 x ifs l m hx hl Sb c1 c2
 .exact Ac7 x ifs l m hx hl Sb c1
end Go.Eng
namespace Go.Proofs
open Go.Shelf Go.RowKit Go.Lib Go.Sort Go.Eng
def cfBt(x y:SlA):Int:=if Op.bytesLess x.1.toList y.1.toList=true then -1 else 1
theorem Tryz.closure134:CmpSlG cfBt 134:=fun x y W=>by
 obtain⟨a,⟨b,hb⟩,⟨c,hc⟩,⟨d,hd⟩⟩:=x;obtain⟨a',⟨b',uD⟩,⟨c',hc'⟩,⟨d',yP⟩⟩:=y;unfold cfBt;dsimp only;cases hl:Op.bytesLess a.toList a'.toList with
 |true=>
  go_enter Tryz.func134,Tryz.ntmps134
  go_wp2
  all_goals (try simp only[hl]at *)
  all_goals (try go_wp2)
  all_goals (try go_ret)
  all_goals (try exact⟨rfl,0,_,by rw[alloc_eq_grow,alloc_eq_grow,grow_grow];rfl⟩)
 |false=>
  go_enter Tryz.func134,Tryz.ntmps134
  go_wp2
  all_goals (try simp only[hl]at *)
  all_goals (try go_wp2)
  all_goals (try go_ret)
  all_goals (try exact⟨rfl,0,_,by rw[alloc_eq_grow,alloc_eq_grow,grow_grow];rfl⟩)
end Go.Proofs
