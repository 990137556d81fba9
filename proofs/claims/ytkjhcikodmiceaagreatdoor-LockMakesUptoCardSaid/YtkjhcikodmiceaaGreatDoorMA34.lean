/- Lemmas 34. -/
import Derived.Test.YtkjhcikodmiceaaGreatDoorMA33
import Derived.Lib.IndexMore
set_option maxHeartbeats 8000000
namespace Go.Eng
open Go.Proofs Go.Proofs.Tryz
variable (x:List Rl)(ifs:C0)(o:List (List Sl))(roots:List Rq)(dec:List Cd)(e:Int)(m:Nat)
def qG:AV:=match o with | []=>BY | y::ys=>.slice (.id 18400 1) ((y::ys).map FR)
def qz:HO:=match o with | []=>.free | y::ys=>.tok 1 (y::ys).length
theorem j8(k:Nat):Ai [(k,.free)] Af=Ai [] Af:=funext fun i=>by
 show(bif Nat.beq i k then HO.free else Af i)=Af i;cases Nat.beq i k<;>rfl
theorem tR(y:List Sl)(ys:List (List Sl))(L:List (List Cd))(m:Nat):∃z zs,tk (y::ys) L m=z::zs:=⟨y,_,rfl⟩
theorem AgJ(n:Nat)(dec:List Cd)(p:CS)(n0:Nd)(l:List Nd)(m:Nat)(nU:0<m)(hL:LvB x ifs roots n dec p n0 l)(Af4:Cp x roots (n+1) dec=ZC (Mx x roots n dec (n0::l) p) x x.length)(bf:m<=1024) :
  A6 prog 88 [.agg (Ic x ifs),sl Ac roots,sl Ae (Q dec),BY,G (m:Nat)] (Ai [] Af) (RN (tk [] (Cp x roots (n+1) dec) m)):=by
 obtain⟨hE0,hx,hxf,hr,hrn,hdl,hv,hplc,hrl,hneeds,hNx,hDec,hval,ihT,ihN⟩:=hL;have LQ:=x7 x ifs roots (Q dec) hx hxf Wk aa2;rw[hneeds]at LQ;unfold Vn at LQ;rw[hNx.next]at LQ
 have d9:∀(q:CS) (k:Int),PC 161 [GM x ifs,sl Ac roots,sl Ae (Q dec),vs q,G k] (I (HS (EO roots dec) q k)):=fun q k=>by
  grind [vJ]
 refine Bi (IU (pC [5,14] [10])) [(18400,2000)] rfl BA hm rfl func88 aa4 rfl C4 aa4 rfl (yN (C1 (U LQ (Z {q:Nat×List (List Sl) // q.1<=x.length/\q.2=tk [] (ZC (Mx x roots n dec (n0::l) p) x q.1) m} (Z (fun q=>⟨[(1,sl Ac roots),(2,sl Ae (Q dec)),(3,qG q.1.2),(4,G (m:Nat)),(5,.ref 5 0),(11,vs p),(13,G q.1.1)],[(5,.ro (Ic x ifs)),(18400,qz q.1.2)],Af⟩) (Z (fun q=>x.length-q.1.1) (J (Z ⟨(0,[]),Ak _,by rw[cP,qe]⟩ ?_) ?_)))))))
 .exact⟨⟨X,X,⟨(show(BY:AV)=qG []from rfl),rfl⟩,X,X,X,X,W⟩,⟨X,⟨(show HO.free=qz []from rfl),rfl⟩,W⟩,Fh,A2 aa4⟩
 intro⟨⟨i,o⟩,i1,i2⟩;refine Ay (Zi o) (fun h1=>?_) (fun h1=>?_)
 .have i2:[]=tk [] (ZC (Mx x roots n dec (n0::l) p) x i) m:=aa0
  refine KL (s':=⟨[(1,sl Ac roots),(2,sl Ae (Q dec)),(3,BY),(4,G (m:Nat)),(5,.ref 5 0),(11,vs p),(13,G i)],[(5,.ro (Ic x ifs)),(18400,.free)],Af⟩) (Aa (fun o'=>(⟨[(1,sl Ac roots),(2,sl Ae (Q dec)),(3,qG o'),(4,G (m:Nat)),(5,.ref 5 0),(11,vs p),(13,G i)],[(5,.ro (Ic x ifs)),(18400,qz o')],Af⟩:LS)) h1) (J (fun h2=>?_) (fun h2=>?_))
  .have n2:=FY h2;refine J (fun h3=>?_) (fun h3=>?_)
   .refine Z (V x[i]) (J (Ht n2) (J rfl (yN (yN (J (fun h5=>?_) (fun h5=>?_))))))
    .refine J aa4 (J (by grind [Au]) ?_);have Rw:(Mx x roots n dec (n0::l) p) x[i]=[]:=by grind [Mx]
     refine Z ⟨(i+1,[]),n2,by grind [Jr]⟩ ?_;exact⟨by grind,⟨X,X,⟨(show(BY:AV)=qG []from rfl),rfl⟩,X,X,X,X,W⟩,⟨X,⟨(show HO.free=qz []from rfl),rfl⟩,W⟩,Fh,A2 aa4⟩
    have h5:(x[i].path:CS)=p:=As h5;refine J (fun h7=>?_) (fun h7=>?_)
    .refine J aa4 (J (by grind [Au]) ?_);have Rw:(Mx x roots n dec (n0::l) p) x[i]=[]:=by grind [Mx]
     refine Z ⟨(i+1,[]),n2,by grind [Jr]⟩ ?_;exact⟨by grind,⟨X,X,⟨(show(BY:AV)=qG []from rfl),rfl⟩,X,X,X,X,W⟩,⟨X,⟨(show HO.free=qz []from rfl),rfl⟩,W⟩,Fh,A2 aa4⟩
    refine yN (yN (U (qu x[i].ver (hv _ (Ag n2))) (Ay (Bt (HS (EO roots dec) p (place x[i].ver))) (fun h9=>?_) (fun h9=>?_))))
    .refine U (cb h9 (d9 p (place x[i].ver))) (J aa4 (J (by grind [Au]) ?_));have Rw:(Mx x roots n dec (n0::l) p) x[i]=[]:=Zd hNx (hplc _ (Ag n2)) h9;refine Z ⟨(i+1,[]),n2,by grind [Jr]⟩ ?_;exact⟨by grind,⟨X,X,⟨(show(BY:AV)=qG []from rfl),rfl⟩,X,X,X,X,W⟩,⟨X,⟨(show HO.free=qz []from rfl),rfl⟩,W⟩,Fh,A2 aa4⟩
    refine U (cb h9 (d9 p (place x[i].ver))) (J aa4 ?_);have mo:A7 4 ((Q dec).map Ae)/\([]:C0).length=0/\(([]:C0).length+((Q dec).map Ae).length)*40<=140737488355328/\([]:C0).length+((Q dec).map Ae).length<=9223372036854775807:=⟨(B8 (enc:=Ae) (n:=4) (fun _=>rfl) (Q dec)),aa2,aa2,aa2⟩;refine J mo (yN ?_);have ug:A7 4 [[vs p,G x[i].ver.a,G x[i].ver.b,G x[i].ver.c]]/\(([]++((Q dec).map Ae)):C0).length=(([]:C0).length+((Q dec).map Ae).length)/\((([]++((Q dec).map Ae)):C0).length+([[vs p,G x[i].ver.a,G x[i].ver.b,G x[i].ver.c]]:C0).length)*40<=140737488355328/\(([]++((Q dec).map Ae)):C0).length+([[vs p,G x[i].ver.a,G x[i].ver.b,G x[i].ver.c]]:C0).length<=9223372036854775807:=⟨⟨rfl,trivial⟩,aa2,aa2,aa2⟩;refine J ug (J aa4 ?_);have YU:x[i].path=p:=h5;have Xh:(⟨plc x[i].ver,x[i]⟩:Cd)∈Bk x p:=HG.2 ⟨x[i],Ag n2,YU,h7,rfl⟩;have hD:=hDec (⟨plc x[i].ver,x[i]⟩:Cd) Xh;refine cU [(1,sl Ac roots),(2,sl Ae (Q dec)),(3,BY),(4,G (m:Nat)),(5,.ref 5 0),(11,vs p),(13,G i),(15,.slice (.id 66 4) ((Q (dec++[(⟨plc x[i].ver,x[i]⟩:Cd)])).map Ae))] [(5,.ro (Ic x ifs)),(66,.tok 4 ((Q (dec++[(⟨plc x[i].ver,x[i]⟩:Cd)])).map Ae).length)] ⟨X,X,X,X,X,X,X,⟨(show(.slice (.id 66 4) (([]++((Q dec).map Ae))++[[vs p,G x[i].ver.a,G x[i].ver.b,G x[i].ver.c]]):AV)=.slice (.id 66 4) ((Q (dec++[(⟨plc x[i].ver,x[i]⟩:Cd)])).map Ae)from Aa (AV.slice (.id 66 4)) (Y0 YU)),rfl⟩,W⟩ ⟨X,⟨(show(.tok 4 ((([]++((Q dec).map Ae)):C0).length+([[vs p,G x[i].ver.a,G x[i].ver.b,G x[i].ver.c]]:C0).length):HO)=.tok 4 ((Q (dec++[(⟨plc x[i].ver,x[i]⟩:Cd)])).map Ae).length by grind),rfl⟩,W⟩ ?_
    refine yN ?_;have UP:=s77 x ifs (Q (dec++[(⟨plc x[i].ver,x[i]⟩:Cd)])) (Q dec) (Ob (⟨plc x[i].ver,x[i]⟩:Cd)) x[i] hx hxf aa2 aa2 (G9 hE0 (Ag n2)) (fun y hy=>hval (⟨plc x[i].ver,x[i]⟩:Cd) Xh y hy) (fun q hq=>((hx _ (Ag n2)).2 q hq).1) (hrl _ (Ag n2));have hcl:MJ x[i] (Q (dec++[(⟨plc x[i].ver,x[i]⟩:Cd)]))=(CX dec (⟨plc x[i].ver,x[i]⟩:Cd)).isSome:=Ud hE0 hD;rw[hcl]at UP;refine Ay (Bt (CX dec (⟨plc x[i].ver,x[i]⟩:Cd)).isSome) (fun MB=>?_) (fun MB=>?_)
    .refine C1 (U (cb MB UP) (J (Ii i Wk) ?_));have Rw:(Mx x roots n dec (n0::l) p) x[i]=[]:=oF MB;refine Z ⟨(i+1,[]),n2,by rw[Jr n2 Rw];exact i2⟩ ?_;exact⟨by grind,⟨X,X,⟨(show(BY:AV)=qG []from rfl),rfl⟩,X,X,X,X,W⟩,⟨X,⟨(show HO.free=qz []from rfl),rfl⟩,W⟩,Fh,A2 aa4⟩
    refine C1 (U (cb MB UP) (yN ?_));have GJ:cn dec (n0::l) (⟨plc x[i].ver,x[i]⟩:Cd)=true:=I0.2 ⟨fun m hm=>by have q:=(Qb hNx (place x[i].ver)).1 h9 m hm;grind,by have q:=MB;simpa using q⟩;have Rw:(Mx x roots n dec (n0::l) p) x[i]=(Cp x roots n (dec++[(⟨plc x[i].ver,x[i]⟩:Cd)])):=by unfold Mx lvC;grind
    have ZK:=ihN (⟨plc x[i].ver,x[i]⟩:Cd) Xh m nU bf;have ia:tk [] (ZC (Mx x roots n dec (n0::l) p) x (i+1)) m=tk [] (Cp x roots n (dec++[(⟨plc x[i].ver,x[i]⟩:Cd)])) m:=by rw[QZ n2,Rw,ge aa2,<-i2]
    refine Ay (Zi (tk [] (Cp x roots n (dec++[(⟨plc x[i].ver,x[i]⟩:Cd)])) m)) (fun hT=>?_) (fun hT=>?_)
    .rw[hT]at ZK;refine Z (.gen [] 1) (J rfl (A6.imp ZK ?_));intro v15 g15 q15;have xA:=q15.1;have xB:=q15.2;subst xA;subst xB;refine J (Ii i Wk) (Z ⟨(i+1,[]),n2,by grind⟩ ?_);exact⟨by grind,⟨X,X,⟨(show(BY:AV)=qG []from rfl),rfl⟩,X,X,X,X,W⟩,⟨X,⟨(show HO.free=qz []from rfl),rfl⟩,W⟩,Fh,A2 aa4⟩
    refine Al hT (fun z hT=>Al hT (fun zs hT=>?_));rw[hT]at ZK;refine Z (.gen [] 1) (J rfl (A6.imp ZK ?_));intro v15 g15 q15;have xA:=q15.1;have xB:=q15.2;subst xA;subst xB;refine J (Ii i Wk) (Z ⟨(i+1,z::zs),n2,by grind⟩ ?_);exact⟨by grind,Z7,Z2,Fh,A2 aa4⟩
   exact absurd Wk h3
  have n2:=El h2;have eo:([]:List (List Sl))=tk [] (Cp x roots (n+1) dec) m:=i2.trans (by
   grind)
  rw[<-eo];exact U (.refl _) ⟨rfl,j8 2000⟩
 refine Al h1 (fun y h1=>Al h1 (fun ys h1=>?_));have i2:y::ys=tk [] (ZC (Mx x roots n dec (n0::l) p) x i) m:=aa0
 refine KL (s':=⟨[(1,sl Ac roots),(2,sl Ae (Q dec)),(3,.slice (.id 18400 1) ((y::ys).map FR)),(4,G (m:Nat)),(5,.ref 5 0),(11,vs p),(13,G i)],[(5,.ro (Ic x ifs)),(18400,.tok 1 (y::ys).length)],Af⟩) (Aa (fun o'=>(⟨[(1,sl Ac roots),(2,sl Ae (Q dec)),(3,qG o'),(4,G (m:Nat)),(5,.ref 5 0),(11,vs p),(13,G i)],[(5,.ro (Ic x ifs)),(18400,qz o')],Af⟩:LS)) h1) (J (fun wt=>?_) (fun wt=>?_))
 .have n19:=FY wt;refine J (fun jV=>?_) (fun jV=>?_)
  .have hom:(y::ys).length<m:=aa0
   refine Z (V x[i]) (J (Ht n19) (J rfl (yN (yN (J (fun N9=>?_) (fun N9=>?_))))))
   .refine J aa4 (J (by grind [Au]) ?_);have Rw:(Mx x roots n dec (n0::l) p) x[i]=[]:=by grind [Mx]
    refine Z ⟨(i+1,y::ys),n19,by grind [Jr]⟩ ?_;exact⟨by grind,Z7,Z2,Fh,A2 aa4⟩
   have N9:(x[i].path:CS)=p:=As N9;refine J (fun d6=>?_) (fun d6=>?_)
   .refine J aa4 (J (by grind [Au]) ?_);have Rw:(Mx x roots n dec (n0::l) p) x[i]=[]:=by grind [Mx]
    refine Z ⟨(i+1,y::ys),n19,by grind [Jr]⟩ ?_;exact⟨by grind,Z7,Z2,Fh,A2 aa4⟩
   refine yN (yN (U (qu x[i].ver (hv _ (Ag n19))) (Ay (Bt (HS (EO roots dec) p (place x[i].ver))) (fun Wc=>?_) (fun Wc=>?_))))
   .refine U (cb Wc (d9 p (place x[i].ver))) (J aa4 (J (by grind [Au]) ?_));have Rw:(Mx x roots n dec (n0::l) p) x[i]=[]:=Zd hNx (hplc _ (Ag n19)) Wc;refine Z ⟨(i+1,y::ys),n19,by grind [Jr]⟩ ?_;exact⟨by grind,Z7,Z2,Fh,A2 aa4⟩
   refine U (cb Wc (d9 p (place x[i].ver))) (J aa4 ?_);have b28:A7 4 ((Q dec).map Ae)/\([]:C0).length=0/\(([]:C0).length+((Q dec).map Ae).length)*40<=140737488355328/\([]:C0).length+((Q dec).map Ae).length<=9223372036854775807:=⟨(B8 (enc:=Ae) (n:=4) (fun _=>rfl) (Q dec)),aa0,aa2,aa2⟩;refine J b28 (yN ?_);have b29:A7 4 [[vs p,G x[i].ver.a,G x[i].ver.b,G x[i].ver.c]]/\(([]++((Q dec).map Ae)):C0).length=(([]:C0).length+((Q dec).map Ae).length)/\((([]++((Q dec).map Ae)):C0).length+([[vs p,G x[i].ver.a,G x[i].ver.b,G x[i].ver.c]]:C0).length)*40<=140737488355328/\(([]++((Q dec).map Ae)):C0).length+([[vs p,G x[i].ver.a,G x[i].ver.b,G x[i].ver.c]]:C0).length<=9223372036854775807:=⟨⟨rfl,trivial⟩,aa0,aa2,aa2⟩;refine J b29 (J aa4 ?_);have YU:x[i].path=p:=N9;have Xh:(⟨plc x[i].ver,x[i]⟩:Cd)∈Bk x p:=HG.2 ⟨x[i],Ag n19,YU,d6,rfl⟩;have hD:=hDec (⟨plc x[i].ver,x[i]⟩:Cd) Xh;refine cU [(1,sl Ac roots),(2,sl Ae (Q dec)),(3,.slice (.id 18400 1) ((y::ys).map FR)),(4,G (m:Nat)),(5,.ref 5 0),(11,vs p),(13,G i),(15,.slice (.id 66 4) ((Q (dec++[(⟨plc x[i].ver,x[i]⟩:Cd)])).map Ae))] [(5,.ro (Ic x ifs)),(66,.tok 4 ((Q (dec++[(⟨plc x[i].ver,x[i]⟩:Cd)])).map Ae).length),(18400,.tok 1 (y::ys).length)] ⟨X,X,X,X,X,X,X,⟨(show(.slice (.id 66 4) (([]++((Q dec).map Ae))++[[vs p,G x[i].ver.a,G x[i].ver.b,G x[i].ver.c]]):AV)=.slice (.id 66 4) ((Q (dec++[(⟨plc x[i].ver,x[i]⟩:Cd)])).map Ae)from Aa (AV.slice (.id 66 4)) (Y0 YU)),rfl⟩,W⟩ ⟨X,⟨(show(.tok 4 ((([]++((Q dec).map Ae)):C0).length+([[vs p,G x[i].ver.a,G x[i].ver.b,G x[i].ver.c]]:C0).length):HO)=.tok 4 ((Q (dec++[(⟨plc x[i].ver,x[i]⟩:Cd)])).map Ae).length by simp_all),rfl⟩,X,W⟩ ?_
   refine yN ?_;have UP:=s77 x ifs (Q (dec++[(⟨plc x[i].ver,x[i]⟩:Cd)])) (Q dec) (Ob (⟨plc x[i].ver,x[i]⟩:Cd)) x[i] hx hxf aa2 aa0 (G9 hE0 (Ag n19)) (fun y hy=>hval (⟨plc x[i].ver,x[i]⟩:Cd) Xh y hy) (fun q hq=>((hx _ (Ag n19)).2 q hq).1) (hrl _ (Ag n19));have hcl:MJ x[i] (Q (dec++[(⟨plc x[i].ver,x[i]⟩:Cd)]))=(CX dec (⟨plc x[i].ver,x[i]⟩:Cd)).isSome:=Ud hE0 hD;rw[hcl]at UP;refine Ay (Bt (CX dec (⟨plc x[i].ver,x[i]⟩:Cd)).isSome) (fun Xf=>?_) (fun Xf=>?_)
   .refine C1 (U (cb Xf UP) (J (Ii i Wk) ?_));have Rw:(Mx x roots n dec (n0::l) p) x[i]=[]:=oF Xf;refine Z ⟨(i+1,y::ys),n19,by rw[Jr n19 Rw];exact i2⟩ ?_;exact⟨by grind,Z7,Z2,Fh,A2 aa4⟩
   refine C1 (U (cb Xf UP) (yN ?_));have GJ:cn dec (n0::l) (⟨plc x[i].ver,x[i]⟩:Cd)=true:=I0.2 ⟨fun m hm=>by have q:=(Qb hNx (place x[i].ver)).1 Wc m hm;simp_all,by simp_all⟩;have Rw:(Mx x roots n dec (n0::l) p) x[i]=(Cp x roots n (dec++[(⟨plc x[i].ver,x[i]⟩:Cd)])):=by unfold Mx lvC;simp_all
   have ZK:=ihT (⟨plc x[i].ver,x[i]⟩:Cd) Xh (y::ys) m hom bf;refine Z (.gen [(18400,1000)] 0) (J rfl (A6.imp ZK ?_));intro v32 g32 q32;have Agb:=q32.1;have Agc:=q32.2;subst Agb;subst Agc;refine J (Ii i Wk) (Al (tR y ys (Cp x roots n (dec++[(⟨plc x[i].ver,x[i]⟩:Cd)])) m) (fun z hz=>Al hz (fun zs hz=>?_)));refine Z ⟨(i+1,z::zs),n19,by rw[QZ n19,Rw,ge aa0,<-i2,hz]⟩ ?_;exact⟨Dl x.length i Wk,⟨X,X,⟨(show AV.slice (.id 18400 1) ((tk (y::ys) (Cp x roots n (dec++[(⟨plc x[i].ver,x[i]⟩:Cd)])) m).map FR)=qG (z::zs) by rw[hz];rfl),rfl⟩,X,X,X,X,W⟩,⟨X,⟨(show HO.tok 1 (tk (y::ys) (Cp x roots n (dec++[(⟨plc x[i].ver,x[i]⟩:Cd)])) m).length=qz (z::zs) by rw[hz];rfl),rfl⟩,W⟩,Fh,A2 aa4⟩
  have eo:(y::ys)=tk [] (Cp x roots (n+1) dec) m:=i2.trans (by
   grind [XV,iU])
  rw[<-eo];exact U (.refl _) X
 have n19:=El wt;have eo:(y::ys)=tk [] (Cp x roots (n+1) dec) m:=i2.trans (by
  grind)
 rw[<-eo];exact U (.refl _) X
theorem AbR(F:List (List Sl))(hF:F.length<m)(hx:∀r∈x,Eo r)(hxf:BF x)(hrn:roots.length<=1000)(hdl:dec.length<=1000)(hneeds:B3 x roots (Q dec)=EO roots dec)(gN:DH (EO roots dec) (Q dec)=none)(Rx:((Q dec).map (·.path)).Nodup)(bf:m<=1024) :
  A6 prog 88 [.agg (Ic x ifs),sl Ac roots,sl Ae (Q dec),.slice (.id 1000 1) (F.map FR),G (m:Nat)] (Ai [(1000,.tok 1 F.length)] Af) (fun r h'=>r=.slice (.id 1000 1) ((F++[DK (Q dec)]).map FR)/\h'=Ai [(1000,.tok 1 (F++[DK (Q dec)]).length)] Af):=by
 have LQ:=x7 x ifs roots (Q dec) hx hxf Wk aa2;rw[hneeds]at LQ;unfold Vn at LQ;rw[gN]at LQ;have wD:=s74 (Q dec) aa2 Rx;refine Bi (IU (pC [5,14] [])) [(1000,1000)] rfl BA hm rfl func88 aa4 rfl C4 aa4 rfl (yN (C1 (U LQ (C1 (U wD (J (Yh rfl Wk aa3) ?_))))));exact U (.refl _) (J (show AV.slice (.id 1000 1) (F.map FR++[FR (DK (Q dec))])=_ by simp_all) (show Ai [(1000,HO.tok 1 ((F.map FR).length+([FR (DK (Q dec))]:C0).length))] Af=_ by simp_all))
theorem AbQ(hx:∀r∈x,Eo r)(hxf:BF x)(hrn:roots.length<=1000)(hdl:dec.length<=1000)(hneeds:B3 x roots (Q dec)=EO roots dec)(gN:DH (EO roots dec) (Q dec)=none)(Rx:((Q dec).map (·.path)).Nodup) :
  A6 prog 88 [.agg (Ic x ifs),sl Ac roots,sl Ae (Q dec),BY,G (m:Nat)] (Ai [] Af) (RN [DK (Q dec)]):=by
 have LQ:=x7 x ifs roots (Q dec) hx hxf Wk aa2;rw[hneeds]at LQ;unfold Vn at LQ;rw[gN]at LQ;have wD:=s74 (Q dec) aa2 Rx;refine Bi (IU ⟨[5,14],[],[],[],[],[],[29],[],[],[],[]⟩) [(18400,2000)] rfl BA hm rfl func88 aa4 rfl C4 aa4 rfl (Z 0 (Z 0 (yN (C1 (U LQ (Z 0 (Z 18400 (C1 (U wD ?_)))))))));have b1:A7 1 [[sl Ae (DK (Q dec))]]/\([[sl Ae (DK (Q dec))]]:C0).length*24<=140737488355328/\([[sl Ae (DK (Q dec))]]:C0).length<=9223372036854775807:=⟨⟨rfl,trivial⟩,aa0,aa0⟩;refine J b1 ?_;exact U (.refl _) (X)
theorem xN{F:List (List Sl)}{d:List Cd}{m:Nat}(h:F.length<m):tk F [d] m=F++[DK (Q d)]:=by
 grind [tk,List.take_of_length_le]
theorem s32{x:List Rl}(ifs:C0){roots:List Rq}(h0:Aw x=0)(h1:AK roots=0)(hx:∀r∈x,Eo r)(hr:∀q∈roots,G5 q) :
  ∀(n:Nat) {dec:List Cd},Df x dec->FA x dec<n->BT x ifs roots n dec/\BN x ifs roots n dec
 |0,_,_,h=>by omega
 |n+1,dec,hd,hn=>by
  have Mu:=Fi h0;have hdl:=Uj hd;have hxf:BF x:=Wk
  have hrn:=Lt h1;have Rx:((Q dec).map (·.path)).Nodup:=by rw[J9];exact hd.nodup
  cases hN:(D4 roots dec).2 with
  |nil=>
   have Rw:=fq (x:=x) (n:=n) hN;have gN:=Pn.1 hN;refine⟨fun F m hF bf=>?_,fun m nU bf=>?_⟩
   all_goals grind [AbR,bX,xN,AbQ]
  |cons n0 l=>
   have hNx:=Kd hN;have Rw:=ft (x:=x) (n:=n) hN;have GJ:=Bp h0;have hD:∀c∈Bk x (D4 roots dec).1,Df x (dec++[c])/\FA x (dec++[c])<n:=fun c hc=>by
    obtain⟨c1,c2⟩:=Gz hc;have hu:DB dec c.rel.path=false:=by grind [V8.undone]
    have:=OR (dec:=dec) ⟨c2.1,c2.2.1⟩ hu
    grind [Df.snoc]
   have hL:LvB x ifs roots n dec (D4 roots dec).1 n0 l:={
    hE0:=h0
    hx:=hx
    hxf:=hxf
    hr:=hr
    hrn:=Wk
    hdl:=Wk
    hv:=fun r h=>(GJ.1 r h).val
    hplc:=fun r h=>(GJ.1 r h).plc
    hrl:=fun r h=>by grind
    hneeds:=bX h0 hd
    hNx:=hNx
    hDec:=fun c hc=>(hD c hc).1
    hval:=fun c hc y hy=>by
     grind [JE.val,Df.cand]
    ihT:=fun c hc=>(s32 ifs h0 h1 hx hr n (hD c hc).1 (hD c hc).2).1
    ihN:=fun c hc=>(s32 ifs h0 h1 hx hr n (hD c hc).1 (hD c hc).2).2 }
   exact⟨fun F m hF bf=>AgK x ifs roots n dec _ n0 l m F hF hL Rw bf,fun m nU bf=>AgJ x ifs roots n dec _ n0 l m nU hL Rw bf⟩
theorem na:FA x []<x.length+1:=Nat.lt_succ_of_le (Er _ _)
theorem AbP(hx:∀r∈x,Eo r)(hr:∀q∈roots,G5 q):PC 87 [.agg (Ic x ifs),sl Ac roots] (I (Cn x roots)):=by
 have h71:=ul x ifs hx;have h72:=c68 dZ jU roots hr;refine Ps (pC [2] []) func87 rfl C4 (yN (C1 (U h71 (J (fun h1=>?_) (fun h1=>?_)))))
 .refine C1 (U h72 (J (fun h2=>?_) (fun h2=>?_)))
  .exact .of_eq (show I true=I (Cn x roots) by grind [Cn])
  exact .of_eq (show I false=I (Cn x roots) by grind [Cn])
 exact .of_eq (show I false=I (Cn x roots) by grind [Cn])
theorem AgC(hx:∀r∈x,Eo r)(hr:∀q∈roots,G5 q):PC 41 [.agg (Ic x ifs),sl Ac roots,G ((m:Nat):Int)] (.tup [sl FR (IF x roots ((m:Nat):Int)),G (HF x roots ((m:Nat):Int))]):=by
 have Tc:=AbP x ifs roots hx hr;refine Ps (pC [3] [2,3]) func41 rfl C4 (yN (Ay (Bt (Cn x roots)) (fun h1=>?_) (fun h1=>?_)))
 .have SB:=Tc;rw[show(Cn x roots)=true from h1]at SB;refine C1 (U SB (J (fun h3=>?_) (fun h3=>?_)))
  .refine cU [] [] W W ?_
   have eE:HF x roots m=1:=Wk
   have eF:IF x roots m=[]:=Wk
   rw[eF,eE];exact .tup ⟨.nil,.refl _,trivial⟩
  refine J (fun h5=>?_) (fun h5=>?_)
  .refine cU [] [] W W ?_
   have eE:HF x roots m=1:=by grind [HF]
   have eF:IF x roots m=[]:=by grind [IF]
   rw[eF,eE];exact .tup ⟨.nil,.refl _,trivial⟩
  refine cU [(1,sl Ac roots),(2,G ((m:Nat):Int)),(3,.ref 3 0)] [(3,.ro (Ic x ifs))] Z3 Z1 (J (fun h7=>?_) (fun h7=>?_))
  .have em:m=0:=Wk
   have eF:IF x roots m=[]:=by unfold IF;simp_all
   have hval:Cn x roots=true:=h1;have eE:HF x roots m=0:=by grind [HF]
   rw[eF,eE];exact .tup ⟨.nil,.refl _,trivial⟩
  refine yN ?_;have hval:Cn x roots=true:=h1;have nU:0<m:=Wk
  have bf:m<=1024:=Wk
  have ZK:=(s32 ifs (HB hval).1 (HB hval).2 hx hr (x.length+1) (.nil x) (na x)).2 m nU bf;have eF:IF x roots (m:Nat)=tk [] (Cp x roots (x.length+1) []) m:=by grind [IF,HF,tk]
  have eE:HF x roots (m:Nat)=0:=by grind [HF]
  refine Ay (Zi (tk [] (Cp x roots (x.length+1) []) m)) (fun hT=>?_) (fun hT=>?_)
  .rw[hT]at ZK;refine Z (.gen [] 1) (J rfl (A6.imp ZK ?_));intro v9 g9 q9;have q9a:=q9.1;have q9b:=q9.2;subst q9a;subst q9b;rw[eF,eE,hT];exact .tup ⟨.nil,.refl _,trivial⟩
  refine Al hT (fun z hT=>Al hT (fun zs hT=>?_));rw[hT]at ZK;refine Z (.gen [] 1) (J rfl (A6.imp ZK ?_));intro v9 g9 q9;have q9a:=q9.1;have q9b:=q9.2;subst q9a;subst q9b;rw[eF,eE,hT];exact .refl _
 have Aa2:=Tc;rw[show(Cn x roots)=false from h1]at Aa2;refine C1 (U Aa2 (cU [] [] W W ?_))
 have eE:HF x roots m=1:=by grind [HF]
 have eF:IF x roots m=[]:=by grind [IF]
 rw[eF,eE];exact .tup ⟨.nil,.refl _,trivial⟩
theorem AgD(m:Int)(Afa:m<0)(hx:∀r∈x,Eo r)(hr:∀q∈roots,G5 q):PC 41 [.agg (Ic x ifs),sl Ac roots,G m] (.tup [sl FR (IF x roots m),G (HF x roots m)]):=by
 have Tc:=AbP x ifs roots hx hr;refine Ps (pC [3] [2,3]) func41 rfl C4 (yN (Ay (Bt (Cn x roots)) (fun h1=>?_) (fun h1=>?_)))
 .have SB:=Tc;rw[show(Cn x roots)=true from h1]at SB;refine C1 (U SB (J (fun h3=>?_) (fun h3=>?_)))
  .refine cU [] [] W W ?_
   have eE:HF x roots m=1:=by grind [HF]
   have eF:IF x roots m=[]:=by grind [IF]
   rw[eF,eE];exact .tup ⟨.nil,.refl _,trivial⟩
  exact absurd Afa h3
 have SC:=Tc;rw[show(Cn x roots)=false from h1]at SC;refine C1 (U SC (cU [] [] W W ?_))
 have eE:HF x roots m=1:=by grind [HF]
 have eF:IF x roots m=[]:=by grind [IF]
 rw[eF,eE];exact .tup ⟨.nil,.refl _,trivial⟩
theorem s11(m:Int)(hx:∀r∈x,Eo r)(hr:∀q∈roots,G5 q):PC 41 [GM x ifs,sl Ac roots,G m] (.tup [sl FR (IF x roots m),G (HF x roots m)]):=by
 by_cases h:m<0
 all_goals grind [AgD,Int.eq_ofNat_of_zero_le,AgC]
def RS:List Sl:=(IF x roots 1).headD []
def Lu:Int:=if HF x roots 1≠0 then HF x roots 1 else if IF x roots 1=[]then 17 else 0
theorem p7{x:List Rl}{roots:List Rq}{e:Int}(he:HF x roots 1=e)(h:e≠0):CD (.tup [BY,G e]) (.tup [sl Ae (RS x roots),G (Lu x roots)]):=by
 have h1:RS x roots=[]:=by grind [RS,IF]
 have h2:Lu x roots=e:=by grind [Lu]
 rw[h1,h2];exact .tup ⟨.nil,.refl _,trivial⟩
theorem tN{x:List Rl}{roots:List Rq}(he:HF x roots 1=0)(h:IF x roots 1=[]):CD (.tup [BY,G 17]) (.tup [sl Ae (RS x roots),G (Lu x roots)]):=by
 have h1:RS x roots=[]:=by grind [RS]
 have h2:Lu x roots=17:=by grind [Lu]
 rw[h1,h2];exact .tup ⟨.nil,.refl _,trivial⟩
theorem tO{x:List Rl}{roots:List Rq}{y:List Sl}{ys:List (List Sl)}(he:HF x roots 1=0)(h:IF x roots 1=y::ys):CD (.tup [sl Ae y,G 0]) (.tup [sl Ae (RS x roots),G (Lu x roots)]):=by
 grind [RS,Lu,CD.refl]
theorem AgM(he:HF x roots 1=e)(hF:IF x roots 1=([]:List (List Sl)))(F4:PC 41 [GM x ifs,sl Ac roots,G 1] (.tup [sl FR ([]:List (List Sl)),G e])):PC 12 [.agg (Ic x ifs),sl Ac roots] (.tup [sl Ae (RS x roots),G (Lu x roots)]):=by
 refine Ps (pC [2] [2,5,6]) func12 rfl C4 (yN (C1 (U F4 (cU [(6,sl FR ([]:List (List Sl))),(7,G (e:Int))] [] Z2 W (J (fun h1=>?_) (fun h1=>?_))))))
 .exact p7 he h1
 refine J (fun h3=>?_) (fun h3=>?_)
 .refine cU [] [] W W ?_
  exact tN (he.trans Wk) hF
 exact absurd rfl h3
theorem AgL(y:List Sl)(ys:List (List Sl))(he:HF x roots 1=e)(hF:IF x roots 1=(y::ys))(F4:PC 41 [GM x ifs,sl Ac roots,G 1] (.tup [sl FR (y::ys),G e])):PC 12 [.agg (Ic x ifs),sl Ac roots] (.tup [sl Ae (RS x roots),G (Lu x roots)]):=by
 refine Ps (pC [2] [2,5,6]) func12 rfl C4 (yN (C1 (U F4 (cU [(6,sl FR (y::ys)),(7,G (e:Int))] [] Z2 W (J (fun h1=>?_) (fun h1=>?_))))))
 .exact p7 he h1
 refine J (fun h3=>?_) (fun h3=>?_)
 .refine cU [] [] W W ?_
  exact absurd h3 aa2
 refine cU [(6,sl FR (y::ys))] [] Z1 W (Z [sl Ae y] (J (J (B4 0) rfl) (J rfl ?_)));exact tO (he.trans Wk) hF
theorem s37(hx:∀r∈x,Eo r)(hr:∀q∈roots,G5 q):PC 12 [GM x ifs,sl Ac roots] (.tup [sl Ae (RS x roots),G (Lu x roots)]):=by
 have h:=s11 x ifs roots 1 hx hr;obtain⟨e,he⟩:∃e,e=HF x roots 1:=⟨_,rfl⟩;rcases Zi (IF x roots 1)with hF | ⟨y,ys,hF⟩<;>grind [AgM,AgL]
section
variable {x:List Rl}{roots:List Rq}
theorem sD{L:List (List Cd)}:(lfS L).take 1=[]↔L=[]:=aa0
theorem Zc(hv:Cn x roots=true)(hx:x.length<=16):Cp x roots (x.length+1) []≠[]↔X3 x roots:=by
 obtain⟨h0,h1⟩:=HB hv;constructor
 .intro h;cases hl:Cp x roots (x.length+1) []with
  |nil=>simp_all
  |cons d L=>
   have hm:d∈Cp x roots (x.length+1) []:=aa0
   exact⟨_,(JT (.nil x) (.nil roots) _ hm).sol h0⟩
 .intro h e;have hf:=(Xd hv hx).2 h
  grind [IR,NZ,PH,N6.yes]
theorem pU(hx:x.length<=16):Lu x roots=Jo x roots:=by
 grind [HF,HN,Lu,Jo,IF,sD,Zc,tB]
end
theorem AaY(hA:PC 9 [] (I true))(ox:PC 10 [GM x ifs,sl Ac roots] (I false)):PC 3 [GM x ifs,sl Ac roots] (I true):=by
 refine Ps (pC [2,5] []) func3 rfl C4 (C1 (U hA (yN (C1 (U ox ?_)))));exact .refl _
theorem AaX(hA:PC 9 [] (I true))(s:List Sl)(e:Int)(c0:¬e=0)(ox:PC 10 [GM x ifs,sl Ac roots] (I true))(uQ:PC 11 [GM x ifs,sl Ac roots] (.tup [.agg [BY,BY,BY,BY],G e]))(uR:PC 12 [GM x ifs,sl Ac roots] (.tup [sl Ae s,G e]))(k13:PC 13 [.agg [BY,BY,BY,BY],.agg [BY,BY,BY,BY]] (I true)):PC 3 [GM x ifs,sl Ac roots] (I true):=by
 refine Ps (pC [2,5] []) func3 rfl C4 (C1 (U hA (yN (C1 (U ox (yN (C1 (U uQ (yN (yN (C1 (U uR (J (fun h1=>?_) (fun h1=>?_))))))))))))))
 .have h1:(e:Int)≠(e:Int):=h1;exact absurd rfl h1
 have h1:(e:Int)=(e:Int):=As h1;refine J (fun _=>?_) (fun hf=>absurd c0 hf);refine yN (C1 (U k13 ?_));exact .refl _
theorem AaZ(hA:PC 9 [] (I true))(l:Lk)(hR:l.roots=roots)(ox:PC 10 [GM x ifs,sl Ac roots] (I true))(uQ:PC 11 [GM x ifs,sl Ac roots] (.tup [.agg (Ea l),G 0]))(uR:PC 12 [GM x ifs,sl Ac roots] (.tup [sl Ae (Gp l),G 0]))(k13:l.infs.length<=3000->l.skips.length<=3000->PC 13 [.agg (Ea l),.agg (Ea l)] (I true))(k15:PC 15 [.agg (Ea l)] (sl Ae (Gp l)))(k14:PC 14 [sl Ae (Gp l),sl Ae (Gp l)] (I true))(k16:l.infs.length<=3000->l.skips.length<=3000->PC 16 [GM x ifs,.agg (Ea l)] (G 0)):PC 3 [GM x ifs,sl Ac roots] (I true):=by
 refine Ps (pC [2,5] []) func3 rfl C4 (C1 (U hA (yN (C1 (U ox (yN (C1 (U uQ (yN (yN (C1 (U uR (J (fun h=>absurd h aa3) (fun _=>?_))))))))))))));refine J (fun h=>absurd h aa3) (fun _=>?_);refine J (fun h1=>?_) (fun h1=>?_)
 .have h1:(3000:Int)<((l.infs.map AG).length:Int):=h1;have n1:3000<l.infs.length:=by have q:=h1;rw[Lm]at q;omega
  exact .refl _
 have h1:¬((3000:Int)<((l.infs.map AG).length:Int)):=h1;have n1:¬3000<l.infs.length:=by have q:=h1;rw[Lm]at q;omega
 refine J (fun h3=>?_) (fun h3=>?_)
 .have h3:(3000:Int)<((l.skips.map N).length:Int):=h3;have n3:3000<l.skips.length:=by have q:=h3;rw[Lm]at q;omega
  exact .refl _
 have h3:¬((3000:Int)<((l.skips.map N).length:Int)):=h3;have n3:¬3000<l.skips.length:=by have q:=h3;rw[Lm]at q;omega
 refine yN (yN (yN (C1 (U (show PC 13 [.agg (Ea l),.agg [sl Ac roots,sl CV l.ents,sl AG l.infs,sl N l.skips]] (I true)from hR▸k13 (by have q:=h1;rw[Lm]at q;omega) (by have q:=h3;rw[Lm]at q;omega)) ?_))));refine yN (C1 (U k15 (C1 (U k14 (yN (yN (C1 (U (k16 (by have q:=h1;rw[Lm]at q;omega) (by have q:=h3;rw[Lm]at q;omega)) ?_))))))));refine J (fun _=>?_) (fun h=>absurd aa3 h);exact .refl _
theorem AbU{x:List Rl}{roots:List Rq}(hx:x.length<=16):RS x roots=VR x roots:=by
 unfold RS;cases hv:Cn x roots with
 |false=>
  have h1:HF x roots 1=1:=by unfold HF;rw[hv,A1 (.inl rfl)]
  unfold IF;rw[h1,AL aa3,(pV hv).2];rfl
 |true=>
  have h1:HF x roots 1=0:=by unfold HF;rw[hv,AL aa3]
  unfold IF;rw[h1,A1 rfl];cases hl:Cp x roots (x.length+1) []with
  |nil=>
   have YJ:=(fV hv hx).2 hl;unfold VR;rw[YJ];rfl
  |cons d l=>
   rw[(lB hv hx hl).2];rfl
theorem xI(hl:x.length<=16)(hx:∀r∈x,Eo r)(hr:∀q∈roots,G5 q):PC 12 [GM x ifs,sl Ac roots] (.tup [sl Ae (VR x roots),G (Jo x roots)]):=by
 have q:=s37 x ifs roots hx hr
 rwa [AbU hl,pU hl]at q
theorem oM{x:List Rl}{roots:List Rq}(hx:x.length<=16)(h:Jo x roots=0):HN x roots=0/\VR x roots=(Cq x roots).sel/\(∀y∈(Cq x roots).sel,(AW x y).isSome=true)/\(Cq x roots).sel.length<=16:=by
 have hv:Cn x roots=true:=by
  cases e:Cn x roots with
  |true=>rfl
  |false=>
   have q:HN x roots=1:=by unfold HN;rw[AL (by rw[e];exact Bool.false_ne_true)]
   unfold Jo at h;rw[q,A1 aa3]at h;cases h
 obtain⟨h0,hr⟩:=HB hv;have hA:=NZ hv hx;have hf:(Cq x roots).found=true:=by
  unfold Jo at h;split at h
  .rename_i c;exact absurd h c
  .split at h
   .assumption
   .cases h
 have hc:=TY h0 hr (G2 (roots:=roots) hx);rw[<-hA]at hc;obtain⟨_,c1 | ⟨_,⟨l,hR⟩,_,_⟩⟩:=WZ hc
 .rw[hf]at c1;exact absurd c1.1 aa3
 have Ry:=FP hR.sol0.sel;have hI:Pz (Cq x roots).sel:=(HI hR.sol0.inc).1;have hn:(Cq x roots).sel.Nodup:=hI.imp fun {a b} h e=>by subst e;rw[Dd]at h;cases h
 refine⟨SX hv hx,by unfold VR;rw[A1 h],fun y hy=>by obtain⟨r,_,e⟩:=Ry.2.2 y hy;rw[e];rfl,Bd (CC (m:=x.map Cr) hn fun y hy=>?_) (by rw[Lm];exact hx)⟩;obtain⟨r,_,e⟩:=Ry.2.2 y hy;exact Ar.2 ⟨r,(Ce e).2.1,(Ce e).2.2⟩
theorem AfM(L:cV x roots)(hA:PC 9 [] (I true)):PC 3 [GM x ifs,sl Ac roots] (I true):=by
 have ox:=L.c11 ifs;cases hs:(Ga x 16&&EG roots)with
 |false=>rw[hs]at ox;exact AaY x ifs roots hA ox
 |true=>
  rw[hs]at ox;have hx:=fW hs;have uR:=xI x ifs roots hx L.x L.rq;have yB:=s16 x ifs roots L.x L.rq
  by_cases c0:Jo x roots=0
  .obtain⟨u1,u2,u3,u4⟩:=oM hx c0;have hS:Gp (Vk x roots (Cq x roots))=(Cq x roots).sel:=pX roots _;have k38:PC 38 [GM x ifs,sl Ac roots] (.tup [.agg (Gl (Cq x roots)),G 0]):=by have q:=s21 x ifs roots L.x L.rq;unfold ZA at q;rw[u1]at q;exact q
   rw[c0,u2]at uR yB;have uQ:=vf x ifs roots (Cq x roots) _ yB k38 (fun p v=>c53 x ifs p v (L.c84 ifs) L.x) u3 (fun q hq=>(L.rq q hq).1) (Tr hs) Wk;have el:(Vk x roots (Cq x roots)).ents.length<=16:=by show((Cq x roots).sel.map _).length<=16;rw[Lm];exact u4
   rw[<-hS]at uR;refine AaZ x ifs roots hA (Vk x roots (Cq x roots)) rfl ox uQ uR (fun i1 i2=>qq _ ⟨by omega,Tr hs,by omega,by omega⟩ fun q hq=>(L.rq q hq).1) (gl _ Wk) (cb (Ax rfl) (c27 _ _ (show _<=_ by rw[hS];omega))) fun i1 i2=>?_;have hv:=(Ab4 hx c0 i1 i2).1;rw[<-hv];have Tu:∀q∈(Vk x roots (Cq x roots)).roots,G5 q:=L.rq;refine xX x ifs _ L.x L.ix (ul x ifs L.x) (fun p v=>x9 x ifs p v L.x L.ix) (xV _ Tu (fun e he=>?_) Wk Wk Wk) (c22 x ifs roots (J0 _) L.x L.ix L.rq (Tr hs) (by show(Gp _).length<=256;rw[hS];omega) (by show(Cq x roots).skips.length<=_;exact Bd i2 aa3)) Wk;obtain⟨y,hy,rfl⟩:=Ar.1 he;obtain⟨r,hr⟩:=G6.1 (u3 y hy);have k:=(L.x r (Ce hr).2.1).1;have e1:r.path=y.path:=Aa Sl.path (Ce hr).2.2;show Fp (GW x y).path;have e2:(GW x y).path=y.path:=by unfold GW;rw[hr]
   rw[e2,<-e1];exact k
  .exact AaX x ifs roots hA _ _ c0 ox (Ac1 x ifs roots _ _ yB c0) uR ((qq ⟨[],[],[],[]⟩ ⟨Ak _,Ak _,Ak _,Ak _⟩ (fun _ h=>by cases h)).args ⟨.agg ⟨.nil,.nil,.nil,.nil,trivial⟩,.agg ⟨.nil,.nil,.nil,.nil,trivial⟩,trivial⟩)
end Go.Eng
namespace Go.Proofs
open Go.Proofs.Tryz
open Go.Shelf Go.RowKit Go.Lib Go.Sort Go.Eng
theorem new_heap(W:World)(o:Obj):(W.alloc o).heap[W.heap.size]?=some o:=by
 show(W.heap.push o)[W.heap.size]?=_
 simp
set_option maxRecDepth 100000 in
theorem ye_unsigned(W:World):Calls prog 439 #[.int .u64 0] W fun e w' => e=.returned (.string ⟨#[0]⟩) /\ Below W.heap.size W w':=by
 have hcv:=fun c w hc => run_convert_bytes_back (P:=prog) w 296 9 5 ⟨W.heap.size + 1,0,none⟩ c [0] underlying296 underlying5 underlying9 hc
 go_enter func439,ntmps439
 go_wp2
 go_loop [0,3] (fun i s => i=Value.int .u64 0 /\ s=Value.slice none 0 0) (fun _ _ => 0)
 case atStart => exact⟨rfl,rfl⟩
 case round=>
  obtain⟨rfl,rfl⟩:=hrel
  go_wp2
  generalize (Question.appendCap 1 0 5).cut (W.tape W.drawn (Question.appendCap 1 0 5))=c
  have q:=hcv c ((W.alloc (.cells #[.int .u8 0] 5)).alloc (.cells (#[.int .u8 0] ++ Builtin.zeroCells #[.int .u8 0] (c-1)) 5)).drew (fun j hj => by
   have hj:j<1:=hj
   obtain rfl:j=0:=Wk
   rw[show(⟨W.heap.size + 1,0,none⟩:Addr).add 0=⟨W.heap.size + 1,0,none⟩from rfl,Lib.cell_of_heap (cs:=#[.int .u8 0] ++ Builtin.zeroCells #[.int .u8 0] (c-1)) (T:=5) (fr:=(0,0)) (show((W.heap.push _).push _)[W.heap.size + 1]?=_ by rw[Array.getElem?_push,if_pos aa1])]
   rw[Array.getElem?_append_left aa3];rfl)
  rw[show([0]:List UInt8).length=1 from rfl]at q
  rw[q]
  go_wp2
  go_ret
  refine⟨rfl,?_⟩
  exact(((Below.refl _ W).alloc (Nat.le_refl _) _).alloc aa1 _).drew
theorem ye_uint(W:World):Calls prog 437 #[.int .i64 0] W fun e w' => e=.returned (.tuple #[.string ⟨#[0]⟩,.int .i64 0]) /\ Below W.heap.size W w':=by
 go_enter func437,ntmps437
 go_wp2_with (go_at_call 439;refine(ye_unsigned _).mono ?_;rintro e w' ⟨rfl,hb⟩)
 go_ret2
 exact⟨rfl,hb⟩
structure WrB(B:Nat)(A:Nat)(w w' : World):Prop where
 os:w'.os=w.os
 tape:w'.tape=w.tape
 output:w'.output=w.output
 size:w.heap.size <= w'.heap.size
 block:∀k,k<B -> k ≠ A -> w'.heap[k]?=w.heap[k]?
theorem WrB.alloc{A:Nat}{w w' : World}{o:Obj}(h:WrB (w.alloc o).heap.size A (w.alloc o) w'):WrB w.heap.size A w w':=
 have e:(w.alloc o).heap.size=w.heap.size + 1:=aa1
 ⟨h.os,h.tape,h.output,by have:=h.size;omega,fun k hk hn => (h.block k Wk hn).trans (Below.heap_alloc _ _ _ hk)⟩
abbrev wrO(s:ByteArray):Obj:=.cells #[.string s] 121 (0,0)
theorem ye_number(A:Nat)(p:Addr)(s:ByteArray)(hs:s.size <= 1000)(W:World)(hA:W.heap[A]?=some (wrO s))(hp:W.cell? p=some (.int .i64 0)) :
  Calls prog 435 #[.pointer (some ⟨A,0,none⟩),.pointer (some p)] W fun e w' => e=.returned (.tuple #[]) /\ w'.heap[A]?=some (wrO (s ++ ⟨#[0]⟩)) /\ WrB W.heap.size A W w':=by
 have E4:A<W.heap.size:=(Array.getElem?_eq_some_iff.1 hA).1
 have hk:((s.size + (⟨#[0]⟩:ByteArray).size:Nat):Int) <= 9223372036854775807:=by
  have:(⟨#[0]⟩:ByteArray).size=1:=rfl
  omega
 go_enter func435,ntmps435
 go_wp2_with (go_at_call 437;refine(ye_uint _).mono ?_;rintro e w' ⟨rfl,hb⟩;have wx : w'.heap[A]?=some (wrO s):=(hb.block A E4).trans hA;have c1:w'.cell? ⟨A,0,none⟩=some (.string s):=Lib.cell_of_heap wx 0;have c2:=Lib.frozen_of_heap wx 0)
 refine bodyPost_end (results_none rfl _ _ _) rfl ⟨rfl,?_,?_⟩
 .show(w'.heap.modify A _)[A]?=_
  rw[Array.getElem?_modify,if_pos rfl,wx];rfl
 .exact⟨hb.os,hb.tape,hb.output,by simp[World.setCell];exact hb.size,fun k hk ER => (Below.heap_setCell _ _ _ _ ER).trans (hb.block k hk)⟩
theorem ye_count(A:Nat)(s:ByteArray)(hs:s.size <= 1000)(W:World)(hA:W.heap[A]?=some (wrO s)) :
  Calls prog 434 #[.pointer (some ⟨A,0,none⟩),.int .i64 0] W fun e w' => e=.returned (.int .i64 0) /\ w'.heap[A]?=some (wrO (s ++ ⟨#[0]⟩)) /\ WrB W.heap.size A W w':=by
 have E4:A<W.heap.size:=(Array.getElem?_eq_some_iff.1 hA).1
 go_enter func434,ntmps434
 go_wp2_with (go_at_call 435;refine(ye_number A ⟨W.heap.size,0,none⟩ s hs _ ((Below.heap_alloc _ _ _ E4).trans hA) (Lib.cell_of_heap (new_heap _ _) 0)).mono ?_;rintro e w' ⟨rfl,wx,hb⟩;have c1:w'.cell? ⟨W.heap.size,0,none⟩=some (.int .i64 0):=Lib.cell_of_heap ((hb.block _ aa1 Wk).trans (new_heap _ _)) 0)
 go_ret
 exact⟨rfl,wx,hb.alloc⟩
theorem ye_n (a : Addr) (w : World) : (nilAhead 601 119 (.pointer (some a)) "modcert/lock.count").run prog w=.ok (some false) w:=by kernel_rfl
theorem ye_m (a : Addr) (w : World) : (method 601 119 (.pointer (some a)) "modcert/lock.count").run prog w=.ok (434, .pointer (some a)) w:=by kernel_rfl
theorem ye_t(a:Addr)(w:World):(Instr.typeAssert (.iface 119 (.pointer (some a))) 197 124 true).run prog w=.ok (.tuple #[.pointer none,.bool false]) w:=by kernel_rfl
theorem WrB.cell{A B k:Nat}{w w' : World}(h:WrB w.heap.size A w w')(hB:B ≠ A){v:Value}(hv:w.cell? ⟨B,k,none⟩=some v):w'.cell? ⟨B,k,none⟩=some v:=by
 have E4:B<w.heap.size:=by
  rcases Nat.lt_or_ge B w.heap.size with q | q
  .exact q
  .simp[World.cell?,Array.getElem?_eq_none q]at hv
 rw[<-hv]
 simp only[World.cell?,h.block B E4 hB]
set_option maxRecDepth 100000 in
theorem ye_list120(A B k:Nat)(F:Value)(s:ByteArray)(hs:s.size <= 1000)(hB:B ≠ A)(W:World)(hA:W.heap[A]?=some (wrO s))(hp:W.cell? ⟨B,k,none⟩=some (.slice none 0 0)) :
  Calls prog 120 #[.iface 119 (.pointer (some ⟨A,0,none⟩)),.pointer (some ⟨B,k,none⟩),F] W fun e w' => e=.returned (.tuple #[]) /\ w'.heap[A]?=some (wrO (s ++ ⟨#[0]⟩)) /\ WrB W.heap.size A W w':=by
 have n1:=ye_n ⟨A,0,none⟩
 have m1:=ye_m ⟨A,0,none⟩
 have t1:=ye_t ⟨A,0,none⟩
 go_enter func120,ntmps120
 go_wp2
 go_region_with (go_at_call 434;refine(ye_count A s hs W.drew hA).mono ?_;rintro e w2 ⟨rfl,jX,hb⟩;have hp2:=hb.cell hB hp)
 go_wp2
 all_goals
  go_loop [56] (fun i => i=Value.int .i64 0) (fun _ => 0)
  case atStart => rfl
  case round=>
   subst hrel
   go_wp2
   exact bodyPost_end (results_none rfl _ _ _) rfl ⟨rfl,jX,hb.os,hb.tape,hb.output,hb.size,hb.block⟩
set_option maxRecDepth 100000 in
theorem ye_list125(A B k:Nat)(F:Value)(s:ByteArray)(hs:s.size <= 1000)(hB:B ≠ A)(W:World)(hA:W.heap[A]?=some (wrO s))(hp:W.cell? ⟨B,k,none⟩=some (.slice none 0 0)) :
  Calls prog 125 #[.iface 119 (.pointer (some ⟨A,0,none⟩)),.pointer (some ⟨B,k,none⟩),F] W fun e w' => e=.returned (.tuple #[]) /\ w'.heap[A]?=some (wrO (s ++ ⟨#[0]⟩)) /\ WrB W.heap.size A W w':=by
 have n1:=ye_n ⟨A,0,none⟩
 have m1:=ye_m ⟨A,0,none⟩
 have t1:=ye_t ⟨A,0,none⟩
 go_enter func125,ntmps125
 go_wp2
 go_region_with (go_at_call 434;refine(ye_count A s hs W.drew hA).mono ?_;rintro e w2 ⟨rfl,jX,hb⟩;have hp2:=hb.cell hB hp)
 go_wp2
 all_goals
  go_loop [56] (fun i => i=Value.int .i64 0) (fun _ => 0)
  case atStart => rfl
  case round=>
   subst hrel
   go_wp2
   exact bodyPost_end (results_none rfl _ _ _) rfl ⟨rfl,jX,hb.os,hb.tape,hb.output,hb.size,hb.block⟩
set_option maxRecDepth 100000 in
theorem ye_list127(A B k:Nat)(F:Value)(s:ByteArray)(hs:s.size <= 1000)(hB:B ≠ A)(W:World)(hA:W.heap[A]?=some (wrO s))(hp:W.cell? ⟨B,k,none⟩=some (.slice none 0 0)) :
  Calls prog 127 #[.iface 119 (.pointer (some ⟨A,0,none⟩)),.pointer (some ⟨B,k,none⟩),F] W fun e w' => e=.returned (.tuple #[]) /\ w'.heap[A]?=some (wrO (s ++ ⟨#[0]⟩)) /\ WrB W.heap.size A W w':=by
 have n1:=ye_n ⟨A,0,none⟩
 have m1:=ye_m ⟨A,0,none⟩
 have t1:=ye_t ⟨A,0,none⟩
 go_enter func127,ntmps127
 go_wp2
 go_region_with (go_at_call 434;refine(ye_count A s hs W.drew hA).mono ?_;rintro e w2 ⟨rfl,jX,hb⟩;have hp2:=hb.cell hB hp)
 go_wp2
 all_goals
  go_loop [56] (fun i => i=Value.int .i64 0) (fun _ => 0)
  case atStart => rfl
  case round=>
   subst hrel
   go_wp2
   exact bodyPost_end (results_none rfl _ _ _) rfl ⟨rfl,jX,hb.os,hb.tape,hb.output,hb.size,hb.block⟩
set_option maxRecDepth 100000 in
theorem ye_list129(A B k:Nat)(F:Value)(s:ByteArray)(hs:s.size <= 1000)(hB:B ≠ A)(W:World)(hA:W.heap[A]?=some (wrO s))(hp:W.cell? ⟨B,k,none⟩=some (.slice none 0 0)) :
  Calls prog 129 #[.iface 119 (.pointer (some ⟨A,0,none⟩)),.pointer (some ⟨B,k,none⟩),F] W fun e w' => e=.returned (.tuple #[]) /\ w'.heap[A]?=some (wrO (s ++ ⟨#[0]⟩)) /\ WrB W.heap.size A W w':=by
 have n1:=ye_n ⟨A,0,none⟩
 have m1:=ye_m ⟨A,0,none⟩
 have t1:=ye_t ⟨A,0,none⟩
 go_enter func129,ntmps129
 go_wp2
 go_region_with (go_at_call 434;refine(ye_count A s hs W.drew hA).mono ?_;rintro e w2 ⟨rfl,jX,hb⟩;have hp2:=hb.cell hB hp)
 go_wp2
 all_goals
  go_loop [56] (fun i => i=Value.int .i64 0) (fun _ => 0)
  case atStart => rfl
  case round=>
   subst hrel
   go_wp2
   exact bodyPost_end (results_none rfl _ _ _) rfl ⟨rfl,jX,hb.os,hb.tape,hb.output,hb.size,hb.block⟩
theorem WrB.trans{A:Nat}{a b c:World}(h:WrB a.heap.size A a b)(k:WrB b.heap.size A b c):WrB a.heap.size A a c:=
 ⟨k.os.trans h.os,k.tape.trans h.tape,k.output.trans h.output,Nat.le_trans h.size k.size,fun i hi hn => (k.block i (Nat.lt_of_lt_of_le hi h.size) hn).trans (h.block i hi hn)⟩
set_option maxRecDepth 100000 in
theorem ye_parts(A B:Nat)(hB:B ≠ A)(W:World)(hA:W.heap[A]?=some (wrO ⟨#[]⟩))(p0:W.cell? ⟨B,0,none⟩=some (.slice none 0 0))(p1:W.cell? ⟨B,1,none⟩=some (.slice none 0 0))(p2:W.cell? ⟨B,2,none⟩=some (.slice none 0 0))(p3:W.cell? ⟨B,3,none⟩=some (.slice none 0 0)) :
  Calls prog 63 #[.iface 119 (.pointer (some ⟨A,0,none⟩)),.pointer (some ⟨B,0,none⟩)] W fun e w' => e=.returned (.tuple #[]) /\ w'.heap[A]?=some (wrO ⟨#[0,0,0,0]⟩) /\ WrB W.heap.size A W w':=by
 go_enter func63,ntmps63
 go_wp2_with (first | (go_at_call 120;refine(ye_list120 A B 0 _ ⟨#[]⟩ aa3 hB _ hA p0).mono ?_;rintro e w1 ⟨rfl,ur,b1⟩) | (go_at_call 125;refine(ye_list125 A B 1 _ _ aa3 hB _ ur (b1.cell hB p1)).mono ?_;rintro e w2 ⟨rfl,jX,b2⟩;have c2:=b1.trans b2) | (go_at_call 127;refine(ye_list127 A B 2 _ _ aa3 hB _ jX (c2.cell hB p2)).mono ?_;rintro e w3 ⟨rfl,hA3,b3⟩;have c3:=c2.trans b3) | (go_at_call 129;refine(ye_list129 A B 3 _ _ aa3 hB _ hA3 (c3.cell hB p3)).mono ?_;rintro e w4 ⟨rfl,hA4,b4⟩))
 exact bodyPost_end (results_none rfl _ _ _) rfl ⟨rfl,hA4,c3.trans b4⟩
end Go.Proofs
namespace Go.Proofs
open Go.Shelf Go.RowKit Go.Lib Go.Sort Go.Eng
theorem below_of{f:Nat}{args:List AV}{res:AV}{vals:Array Value}{W:World}(hc:PC f args res)(hM:∃m,W.cell? ⟨0,0,none⟩=some (.int .i64 m))(hs:vals.size=args.length)
  (hr:∀(i:Nat) (av:AV) (x:Value),args[i]?=some av -> vals[i]?=some x -> O (jR W) W FK av x):Calls Tryz.prog f vals W fun e W' => (∃v g' U,e=.returned v /\ O g' W' U res v) /\ Below W.heap.size W W':=by
 refine(hc.2 (jR W) W vals hs (fun i av x q1 q2 => (hr i av x q1 q2).up _) (uP hM (fun _ h => by cases h))).mono fun e W' ⟨v,r,h',g',e1,e2,e3,e4,_⟩ => ?_
 subst e1
 obtain⟨rfl,rfl⟩:=e2
 exact⟨⟨v,_,_,rfl,e3⟩,e4.os,e4.tape,e4.output,e4.size,fun b hb => e4.frame b hb (fun r h => h.elim)⟩
abbrev nilV9:Value:=.slice none 0 0
abbrev nilA9:AV:=.v nilV9
abbrev zLk:Lk:=⟨[],[],[],[]⟩
theorem ye_form0:PC 48 [.agg [nilA9,nilA9,nilA9,nilA9]] (I true):=
 (qn zLk (fun _ h => by cases h) (fun _ h => by cases h) (Nat.zero_le _) (Nat.zero_le _) (Nat.zero_le _)).args ⟨.agg ⟨.nil,.nil,.nil,.nil,trivial⟩,trivial⟩
theorem ye_formed(W:World)(hM:∃m,W.cell? ⟨0,0,none⟩=some (.int .i64 m)):Calls Tryz.prog 48 #[.agg #[nilV9,nilV9,nilV9,nilV9]] W fun e w' => e=.returned (.bool true) /\ Below W.heap.size W w':=by
 refine(below_of (vals:=#[.agg #[nilV9,nilV9,nilV9,nilV9]]) ye_form0 hM rfl (fun i av x e1 e2 => ?_)).mono fun e W' ⟨⟨v,g',U,e1,e2⟩,hb⟩ => ⟨by rw[e1,e2.v_eq],hb⟩
 match i with
 |0=>
  cases e1;cases e2
  exact .agg _ _ _ rfl (fun j x h => by
   match j with
   |0 |1 |2 |3 => cases h;rfl
   |_ + 4 => simp at h) fun j av x h1 h2 => by
   match j with
   |0 |1 |2 |3 => cases h1;cases h2;exact .v _ _
   |_ + 4 => simp at h1
 |_ + 1 => simp at e1
set_option maxRecDepth 100000 in
theorem ye_encode(W:World)(hM:∃m,W.cell? ⟨0,0,none⟩=some (.int .i64 m)):Calls Tryz.prog 27 #[.agg #[nilV9,nilV9,nilV9,nilV9]] W fun e w' => e=.returned (.tuple #[.string ⟨#[0,0,0,0]⟩,.int .i64 0]) /\ Below W.heap.size W w':=by
 obtain⟨m,hM⟩:=hM
 obtain⟨W1,uv⟩:∃W1,W1=W.alloc (.cells #[nilV9,nilV9,nilV9,nilV9] 33):=⟨_,rfl⟩
 have b1:Below W.heap.size W W1:=by rw[uv];exact(Below.refl _ W).alloc (Nat.le_refl _) _
 have z1:W1.heap.size=W.heap.size + 1:=by rw[uv];simp
 have k1:W1.heap[W.heap.size]?=some (.cells #[nilV9,nilV9,nilV9,nilV9] 33):=by rw[uv];exact new_heap _ _
 have m1:∃m,W1.cell? ⟨0,0,none⟩=some (.int .i64 m):=⟨m,by
  rw[<-hM];simp only[World.cell?,b1.block 0 (Yp hM)]⟩
 have HW:Hid _:=uv
 go_enter Tryz.func27,Tryz.ntmps27
 go_wp2_with (first
  |(go_at_call 48;rw[<-HW.out];refine(ye_formed _ m1).mono ?_;rintro e w2 ⟨rfl,b2⟩;have k2:w2.heap[W.heap.size]?=some (.cells #[nilV9,nilV9,nilV9,nilV9] 33):=(b2.block _ Wk).trans k1;have z2:W.heap.size<w2.heap.size:=(by have:=b2.size;omega);have k3:=(Below.heap_alloc w2 (wrO ⟨#[]⟩) _ z2).trans k2)
  |(go_at_call 63;refine(ye_parts w2.heap.size W.heap.size Wk _ (new_heap _ _) (Lib.cell_of_heap k3 0) (Lib.cell_of_heap k3 1) (Lib.cell_of_heap k3 2) (Lib.cell_of_heap k3 3)).mono ?_;rintro e w4 ⟨rfl,hA4,b4⟩;have c4:w4.cell? ⟨w2.heap.size,0,none⟩=some (.string ⟨#[0,0,0,0]⟩):=Lib.cell_of_heap hA4 0))
 go_ret2
 have z4:(w2.alloc (wrO ⟨#[]⟩)).heap.size=w2.heap.size + 1:=aa1
 exact⟨rfl,(b1.trans (b2.mono Wk)).trans ⟨b4.os,b4.tape,b4.output,by have:=b4.size;omega,fun k hk => (b4.block k Wk Wk).trans (Below.heap_alloc _ _ _ Wk)⟩⟩
theorem ye_enc0:PC 27 [.agg [nilA9,nilA9,nilA9,nilA9]] (.tup [Go.Eng.vs ⟨#[0,0,0,0]⟩,G 0]):=by
 refine⟨jG 27 Tryz.func27 aa4 rfl,fun g w us hs hv hI => ?_⟩
 have hs:us.size=1:=hs
 have hu:us=#[.agg #[nilV9,nilV9,nilV9,nilV9]]:=by
  have h0:=hv 0 _ (us[0]' Wk) rfl (Array.getElem?_eq_getElem Wk)
  refine Array.ext hs fun i i1 i2 => ?_
  obtain rfl:i=0:=Wk
  generalize us[0]=u at h0
  cases h0 with
  |agg _ _ vs k1 k2 k3=>
   have k1:vs.size=4:=k1
   show Value.agg vs=.agg #[nilV9,nilV9,nilV9,nilV9]
   refine congrArg Value.agg (Array.ext k1 fun j j1 j2 => ?_)
   have q:=k3 j
   match j with
   |0 |1 |2 |3 => exact(q _ _ rfl (Array.getElem?_eq_getElem j1)).v_eq
   |_ + 4 => omega
 subst hu
 refine(ye_encode w hI.glob.1.2).mono ?_
 rintro e w' ⟨rfl,q⟩
 have hK:Fg g w g w':=fun b o hb => by
  grind [World.cell?,CZ.slt,Go.RowKit.Below.block]
 refine⟨_,_,Af,g,rfl,⟨rfl,rfl⟩,.tup _ _ _ rfl fun i av x e1 e2 => ?_,⟨q.os,q.tape,q.output,q.size,fun b hb _ => q.block b hb,fun b o hs => Nat.lt_of_lt_of_le (hI.slt b o hs) q.size,fun _ => trivial,fun _ _ _ h => h.elim,fun _ _ h => h.elim,fun b o hs => .inl hs,hI.glob.keep hK⟩,⟨.refl _ _,fun _ h => h,hK⟩⟩
 match i with
 |0 |1 => cases e1;cases e2;exact .v _ _
 |_ + 2 => simp at e1
end Go.Proofs
