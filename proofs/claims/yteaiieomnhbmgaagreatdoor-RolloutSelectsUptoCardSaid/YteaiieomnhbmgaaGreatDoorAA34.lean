/- Lemmas 34. -/
import Derived.Test.YteaiieomnhbmgaaGreatDoorAA33
set_option maxHeartbeats 4000000
namespace Go.Eng
open Go.Proofs Go.Proofs.Tryz
variable {n:Int}(x:List Rl)(ifs:C0)(l m:List Sl)(r:Ro)(user:CS)(AK:Int)
theorem fL(h0:0<=n)(h1:n<10):Qt n=⟨[UInt8.ofNat (48+n.toNat)].toArray⟩:=by
 rw[Yz h0,TO ch]
theorem rD(h0:0<=n)(h1:¬n<10):Qt n=Qt (n / 10)++Qt (n % 10):=by
 rw[Yz h0,Yz (show 0<=n / 10 by omega),Yz (show 0<=n % 10 by omega),mH ch,TO (n:=(n % 10).toNat) ch];have e1:(n / 10).toNat=n.toNat / 10:=ch
 have e2:(n % 10).toNat=n.toNat % 10:=ch
 rw[e1,e2]
theorem p6(h0:0<=n)(h1:n<10):([[AV.v (.int .u8 (IntKind.wrap .u8 (48+n)))]]:C0)=[UInt8.ofNat (48+n.toNat)].map (fun b=>[AV.v (.int .u8 b.toNat)]):=by
 have e:(IntKind.wrap .u8 (48+n):Int)=((UInt8.ofNat (48+n.toNat)).toNat:Int):=by
  have h2:(UInt8.ofNat (48+n.toNat)).toNat=48+n.toNat:=by
   rw[UInt8.toNat_ofNat'];omega
  rw[h2];unfold IntKind.wrap;simp[IntKind.bits,IntKind.signed];omega
 rw[e];rfl
theorem yZ:∀(k:Nat) (n:Int),n<k->0<=n->n<=1000000000->PC 54 [vi n] (vs (Qt n)):=by
 intro k
 induction k with
 |zero=>intro n h h0;omega
 |succ k ih=>
  intro n hk h0 h1;refine Ps CQ func54 rfl C4 (J (fun h1=>?_) (fun h1=>?_))
  .have h1:(n:Int)<(10:Int):=h1;refine J (by show Az ((48:Int)+(n:Int));unfold Az;omega) (I [UInt8.ofNat (48+n.toNat)] (J (p6 h0 h1) ?_));exact .of_eq (show vs ⟨[UInt8.ofNat (48+n.toNat)].toArray⟩=vs (Qt n) by rw[fL h0 h1])
  have h1:¬((n:Int)<(10:Int)):=h1;refine J ⟨by omega,by omega,(by show Az (n);unfold Az;omega)⟩ ?_;refine C2 (ih (n / 10) ch ch ch) (J ⟨by omega,by omega⟩ ?_);refine J (by show Az ((48:Int)+(n % 10:Int));unfold Az;omega) (I [UInt8.ofNat (48+(n % 10).toNat)] (J (p6 (show 0<=n % 10 by omega) (show n % 10<10 by omega)) (J (show(((Qt (n / 10)).size+(⟨[UInt8.ofNat (48+(n % 10).toNat)].toArray⟩:CS).size:Nat):Int)<=9223372036854775807 by have q:=JH (n:=n / 10) ch ch;have q2:(⟨[UInt8.ofNat (48+(n % 10).toNat)].toArray⟩:CS).size=1:=rfl;omega) ?_)));refine J aa1 ?_;exact .of_eq (show vs (Qt (n / 10)++⟨[UInt8.ofNat (48+(n % 10).toNat)].toArray⟩)=vs (Qt n) by rw[rD h0 h1,fL (n:=n % 10) ch ch])
theorem AcM(n:Int)(h0:0<=n)(h1:n<=1000000000):PC 54 [vi n] (vs (Qt n)):=yZ (n.toNat+1) n ch h0 h1
theorem qz(hx:∀r∈x,CX r)(HE:BD x)(Hk:∀r∈x,r.reqs.length<=1000)(Ei:l.length<=16)(Dd:m.length<=16)(hr:IC r)  : PC 24 [.agg (Ic x ifs),sl Ab l,sl Ab m,.agg (CR r)] (vi (Iv x l m r)):=by
 have u7:r.waves.length<=1000:=hr.wv;refine Ps (pC [4,7] [5,6,8]) func24 rfl C4 (yN (yN (C2 (qm r (Av u7 Wk)) (C2 (AcK x ifs l m (L3 r) hx HE Hk Ei Dd (by rw[L3,Lm];exact u7) (fun p hp=>by obtain⟨v,hv,rfl⟩:=Ay.1 hp;exact hr.pt v hv)) ?_))));refine J aa1 (J (fun h1=>?_) (fun h1=>?_))
 .have h1:((Fm x l m (L3 r)):Int)≠(0:Int):=h1;exact BC.of_eq (Aa vi (show(Fm x l m (L3 r))=Iv x l m r by rw[Iv,AA h1]))
 have h1:((Fm x l m (L3 r)):Int)=(0:Int):=Aq h1;refine J (fun h3=>?_) (fun h3=>?_)
 .have h3:(65536:Int)<(r.name.size:Int):=h3;refine cU [] [] C C ?_
  exact BC.of_eq (Aa vi (show 7=Iv x l m r by rw[Iv,Ax h1,Ax (by have q:=h3;omega)]))
 have h3:¬((65536:Int)<(r.name.size:Int)):=h3;refine cU [(7,.ref 7 0)] [(7,.ro (CR r))] Z1 Z1 (I {q:Nat // q<=r.waves.length/\Ha (r.waves.drop q)=Ha r.waves} (I (fun q=>⟨[(7,.ref 7 0),(10,vi q.1)],[(7,.ro (CR r))],Ae⟩) (I (fun q=>r.waves.length-q.1) (J (I ⟨0,Aj _,rfl⟩ ?_) ?_))))
 .exact⟨Z2,Z1,Fh,C⟩
 intro⟨i,i1,i2⟩;have i1:i<=r.waves.length:=i1;have i2:Ha (r.waves.drop i)=Ha r.waves:=i2;refine J (fun h5=>?_) (fun h5=>?_)
 .have h5:(i:Int)<((r.waves.map Es).length:Int):=h5;have n5:=Dh h5;refine I (Es r.waves[i]) (J (DC n5) (J rfl (C1 (C2 (cq r.waves[i].stages (hr.st _ (Ai n5))) (J (fun h6=>?_) (fun h6=>?_))))))
  .have h6:((BA r.waves[i].stages):Int)≠(0:Int):=h6;exact BC.of_eq (Aa vi (show(BA r.waves[i].stages)=Iv x l m r by rw[Iv,Ax h1,AA (by have q:=h3;omega),<-i2,AD n5,Ha,AA h6]))
  have h6:((BA r.waves[i].stages):Int)=(0:Int):=Aq h6;refine cU [(7,.ref 7 0),(10,vi i)] [(7,.ro (CR r))] Z2 Z1 (J (Ii i ch) (I ⟨i+1,n5,by rw[<-i2,AD n5,Ha,Ax h6]⟩ ?_));exact⟨Dl r.waves.length i ch,Z2,Z1,Fh,C⟩
 have h5:¬((i:Int)<((r.waves.map Es).length:Int)):=h5;have n5:=BB h5;exact BC.of_eq (Aa vi (show 0=Iv x l m r by rw[Iv,Ax h1,AA (by have q:=h3;omega),<-i2,AN (AE (BB h5))];rfl))
theorem AcR(hx:∀r∈x,CX r)(HE:BD x)(Hk:∀r∈x,r.reqs.length<=1000)(Ei:l.length<=16)(Dd:m.length<=16)(hr:IC r)(user:CS)(AK:Int)(_hu:user.size<=100000)(c0:¬Iv x l m r=0):PC 20 [.agg (Ic x ifs),sl Ab l,sl Ab m,.agg (CR r),vs user,vi AK] (S0 x l m r user AK):=by
 refine Ps (pC [6,9] []) func20 rfl C4 (yN (yN (C1 (C2 (qz x ifs l m r hx HE Hk Ei Dd hr) (J (fun _=>?_) (fun hf=>absurd c0 hf))))));exact BC.of_eq (show AV.tup [vi 0,vi (Iv x l m r)]=S0 x l m r user AK by rw[S0,AA c0])
theorem y0(l:List Vt)(AK:Int)(hl:BD l)(h:BA l=0):PC 12 [sl CG l,vi AK] (.tup [vi (HH l AK),vi 0]):=by
 have q:=AcO l AK hl;rw[UU,Ax h,h]at q;exact q
theorem tC{x:List Rl}{l m:List Sl}{r:Ro}(h:Iv x l m r=0):r.name.size<=65536:=by
 unfold Iv at h;split at h
 .split at h
  .exact absurd h Wk
  .omega
 .rename_i h1;exact absurd h h1
theorem AcS(hx:∀r∈x,CX r)(HE:BD x)(Hk:∀r∈x,r.reqs.length<=1000)(Ei:l.length<=16)(Dd:m.length<=16)(hr:IC r)(user:CS)(AK:Int)(hu:user.size<=100000)(c0:Iv x l m r=0):PC 20 [.agg (Ic x ifs),sl Ab l,sl Ab m,.agg (CR r),vs user,vi AK] (S0 x l m r user AK):=by
 have u7:r.waves.length<=1000:=hr.wv;have hn:=tC c0;refine Ps (pC [6,9] []) func20 rfl C4 (yN (yN (C1 (C2 (show PC 24 [.agg (Ic x ifs),sl Ab l,sl Ab m,.agg (CR r)] (vi 0)from c0▸qz x ifs l m r hx HE Hk Ei Dd hr) (J (fun h=>absurd h Wk) (fun _=>?_))))));refine I {q:Nat // q<=r.waves.length/\NE r user AK q (r.waves.drop q)=Lc r user AK} (I (fun q=>⟨[(4,vs user),(5,vi AK),(9,.ref 9 0),(15,vi q.1)],[(9,.ro (CR r))],Ae⟩) (I (fun q=>r.waves.length-q.1) (J (I ⟨0,Aj _,rfl⟩ ?_) ?_)))
 .exact⟨Z4,Z1,Fh,C⟩
 intro⟨i,i1,i2⟩;have i1:i<=r.waves.length:=i1;have i2:NE r user AK i (r.waves.drop i)=Lc r user AK:=i2;refine J (fun h1=>?_) (fun h1=>?_)
 .have h1:(i:Int)<((r.waves.map Es).length:Int):=h1;have n1:=Dh h1;have Akf:i<1000:=Bm n1 u7;refine I (Es r.waves[i]) (J (DC n1) (J rfl (C1 (C2 (y0 r.waves[i].stages AK (hr.st _ (Ai n1)) ((gX c0).2 _ (Ai n1))) (J (show(((r.name:CS).size+(⟨#[47]⟩:CS).size:Nat):Int)<=9223372036854775807 by have q:=JH (n:=(i:Int)) ch ch;have q2:(⟨#[47]⟩:CS).size=1:=rfl;omega) ?_)))));refine C2 (AcM (i:Int) ch ch) (J (show(((r.name++⟨#[47]⟩:CS).size+((Qt (i:Int)):CS).size:Nat):Int)<=9223372036854775807 by have q:=JH (n:=(i:Int)) ch ch;have q2:(⟨#[47]⟩:CS).size=1:=rfl;simp only[A2];omega) ?_);refine C2 (AcL ((r.name++(⟨#[47]⟩:CS))++Qt (i:Int)) user (by have q:=JH (n:=(i:Int)) ch ch;simp only[A2];have q2:(⟨#[47]⟩:CS).size=1:=rfl;omega) hu) ?_;refine J (fun h2=>?_) (fun h2=>?_)
  .have h2:((HH r.waves[i].stages AK):Int)<=((X4 ((r.name++(⟨#[47]⟩:CS))++Qt (i:Int)) user):Int):=h2;refine J aa1 ?_;exact BC.of_eq (show AV.tup [vi i,vi 0]=S0 x l m r user AK by rw[S0,Ax c0,<-i2,ne n1 (AB h2)])
  have h2:¬(((HH r.waves[i].stages AK):Int)<=((X4 ((r.name++(⟨#[47]⟩:CS))++Qt (i:Int)) user):Int)):=h2;refine J aa1 (J (Ii i ch) (I ⟨i+1,n1,by rw[<-i2,uL n1 (Aw h2)]⟩ ?_));exact⟨Dl r.waves.length i ch,Z4,Z1,Fh,C⟩
 have h1:¬((i:Int)<((r.waves.map Es).length:Int)):=h1;have n1:=BB h1;exact BC.of_eq (show AV.tup [vi (r.waves.map Es).length,vi 0]=S0 x l m r user AK by rw[S0,Ax c0,<-i2,AN (AE (BB h1)),Lm,show i=r.waves.length by have q:=BB h1;omega];rfl)
theorem uv(hx:∀r∈x,CX r)(HE:BD x)(Hk:∀r∈x,r.reqs.length<=1000)(Ei:l.length<=16)(Dd:m.length<=16)(hr:IC r)(user:CS)(AK:Int)(hu:user.size<=100000):PC 20 [HZ x ifs,sl Ab l,sl Ab m,.agg (CR r),vs user,vi AK] (S0 x l m r user AK):=if c:Iv x l m r=0 then AcS x ifs l m r hx HE Hk Ei Dd hr user AK hu c else AcR x ifs l m r hx HE Hk Ei Dd hr user AK hu c
theorem AcH(hx:∀r∈x,CX r)(HE:BD x)(Hk:∀r∈x,r.reqs.length<=1000)(Ei:l.length<=16)(Dd:m.length<=16)(hr:IC r)(user:CS)(AK:Int)(hu:user.size<=100000)(c0:¬Iv x l m r=0):PC 22 [.agg (Ic x ifs),sl Ab l,sl Ab m,.agg (CR r),vs user,vi AK] (Tu x l m r user AK):=by
 refine Ps (pC [6,9] []) func22 rfl C4 (yN (yN (C1 (C2 (by have q:=uv x ifs l m r hx HE Hk Ei Dd hr user AK hu;rw[S0,AA c0]at q;exact q) ?_))));refine J (fun _=>?_) (fun hf=>absurd c0 hf);exact BC.trans (show BC _ (.tup [sl Ab [],vi (Iv x l m r)])from xI (Iv x l m r)) (BC.of_eq (show AV.tup [sl Ab [],vi (Iv x l m r)]=Tu x l m r user AK by rw[Tu,iO,q8,AA c0,AA c0]))
theorem gD{r:Ro}(hr:IC r)(i:Nat):((r.waves.take i).map (fun v:Wv=>v.paths)).flatten.length<=1000000:=by
 have h1:((r.waves.take i).map (fun v:Wv=>v.paths)).length<=1000:=by have q:=hr.wv;rw[Lm,AF];omega
 have h2:∀p∈(r.waves.take i).map (fun v:Wv=>v.paths),p.length<=1000:=fun p hp=>by obtain⟨v,hv,rfl⟩:=Ay.1 hp;exact hr.pt v (CF hv)
 have q:=T4 h2 ((r.waves.take i).map (fun v:Wv=>v.paths)).length;rw[Cf]at q;exact Av q ch
theorem AcI(hx:∀r∈x,CX r)(HE:BD x)(Hk:∀r∈x,r.reqs.length<=1000)(Ei:l.length<=16)(Dd:m.length<=16)(hr:IC r)(user:CS)(AK:Int)(hu:user.size<=100000)(c0:Iv x l m r=0)(c1:KJ x l m (D1 r user AK)=0):PC 22 [.agg (Ic x ifs),sl Ab l,sl Ab m,.agg (CR r),vs user,vi AK] (Tu x l m r user AK):=by
 have u7:r.waves.length<=1000:=hr.wv;refine Ps (pC [6,9] [9]) func22 rfl C4 (yN (yN (C1 (C2 (by have q:=uv x ifs l m r hx HE Hk Ei Dd hr user AK hu;rw[S0,Ax c0]at q;exact q) ?_))));refine J (fun h=>absurd h Wk) (fun _=>?_);refine I {q:Nat // q<=Lc r user AK} (I (fun q=>⟨[(1,sl Ab l),(2,sl Ab m),(6,.ref 6 0),(9,.ref 9 0),(14,vi (Lc r user AK:Nat)),(16,.slice (.id 31 1) ((((r.waves.take q.1).map (fun v:Wv=>v.paths)).flatten).map Af)),(17,vi q.1)],[(6,.ro (Ic x ifs)),(9,.ro (CR r)),(31,.tok 1 ((((r.waves.take q.1).map (fun v:Wv=>v.paths)).flatten).map Af).length)],Ae⟩) (I (fun q=>Lc r user AK-q.1) (J (I ⟨0,Aj _⟩ ?_) ?_)))
 .exact⟨Z7,Z3,Fh,C⟩
 intro⟨i,i1⟩;have i1:i<=Lc r user AK:=i1;have mi:(((r.waves.take i).map (fun v:Wv=>v.paths)).flatten).length<=1000000:=gD hr i;refine J (fun h1=>?_) (fun h1=>?_)
 .have h1:(i:Int)<((Lc r user AK:Nat):Int):=h1;have ib:i<r.waves.length:=Bm ch (Zc r user AK);have hp_:=hr.pt _ (Ai ib);refine I (Es r.waves[i]) (J (DC ib) (J rfl ?_));have b2:Bi 1 (r.waves[i].paths.map Af)/\((((r.waves.take i).map (fun v:Wv=>v.paths)).flatten).map Af).length=((((r.waves.take i).map (fun v:Wv=>v.paths)).flatten).map Af).length/\(((((r.waves.take i).map (fun v:Wv=>v.paths)).flatten).map Af).length+(r.waves[i].paths.map Af).length)*16<=140737488355328/\((((r.waves.take i).map (fun v:Wv=>v.paths)).flatten).map Af).length+(r.waves[i].paths.map Af).length<=9223372036854775807:=⟨(BV (enc:=Af) (n:=1) (fun _=>rfl) r.waves[i].paths),rfl,(by simp only[Lm];omega),(by simp only[Lm];omega)⟩;refine J b2 (J (Ii i ch) ?_);have em:(((r.waves.take i).map (fun v:Wv=>v.paths)).flatten)++r.waves[i].paths=(((r.waves.take (i+1)).map (fun v:Wv=>v.paths)).flatten):=by rw[A6 ib,Ar,Ci,Bq,FQ,BZ,List.flatten_nil,Bg]
  refine I ⟨i+1,by omega⟩ ?_;exact⟨by show Lc r user AK-(i+1)<Lc r user AK-i;omega,⟨B,B,B,B,B,⟨(Aa (AV.slice (.id 31 1)) (show(((r.waves.take i).map (fun v:Wv=>v.paths)).flatten).map Af++r.waves[i].paths.map Af=(((r.waves.take (i+1)).map (fun v:Wv=>v.paths)).flatten).map Af by rw[<-em];exact(Ar (f:=Af) (l₁:=(((r.waves.take i).map (fun v:Wv=>v.paths)).flatten)) (l₂:=r.waves[i].paths)).symm)),rfl⟩,B,C⟩,⟨B,B,⟨(Aa (HO.tok 1) (show((((r.waves.take i).map (fun v:Wv=>v.paths)).flatten).map Af).length+(r.waves[i].paths.map Af).length=((((r.waves.take (i+1)).map (fun v:Wv=>v.paths)).flatten).map Af).length by rw[<-em];simp only[Lm,Ac])),rfl⟩,C⟩,Fh,C⟩
 have h1:¬((i:Int)<((Lc r user AK:Nat):Int)):=h1;have ei:i=Lc r user AK:=ch
 have em:(((r.waves.take i).map (fun v:Wv=>v.paths)).flatten)=D1 r user AK:=by rw[ei];rfl
 refine cU [(1,sl Ab l),(2,sl Ab m),(6,.ref 6 0),(16,.slice (.id 31 1) ((D1 r user AK).map Af))] [(6,.ro (Ic x ifs)),(31,.tok 1 ((D1 r user AK).map Af).length)] ⟨B,B,B,⟨(Aa (fun E:List CS=>AV.slice (.id 31 1) (E.map Af)) em),rfl⟩,C⟩ ⟨B,⟨(Aa (fun E:List CS=>HO.tok 1 (E.map Af).length) em),rfl⟩,C⟩ (yN (C1 (C2 (by have q:=vE x ifs l m (D1 r user AK) hx HE Hk Ei Dd (Av (gD hr _) Wk);rw[J4,Ax c1]at q;exact q) ?_)));exact BC.of_eq (show AV.tup [sl Ab (Dx (OG l m (D1 r user AK))),vi 0]=Tu x l m r user AK by rw[Tu,iO,q8,Ax c0,Ax c0,Ax c1,c1])
theorem AcJ(hx:∀r∈x,CX r)(HE:BD x)(Hk:∀r∈x,r.reqs.length<=1000)(Ei:l.length<=16)(Dd:m.length<=16)(hr:IC r)(user:CS)(AK:Int)(hu:user.size<=100000)(c0:Iv x l m r=0)(c1:¬KJ x l m (D1 r user AK)=0):PC 22 [.agg (Ic x ifs),sl Ab l,sl Ab m,.agg (CR r),vs user,vi AK] (Tu x l m r user AK):=by
 have u7:r.waves.length<=1000:=hr.wv;refine Ps (pC [6,9] [9]) func22 rfl C4 (yN (yN (C1 (C2 (by have q:=uv x ifs l m r hx HE Hk Ei Dd hr user AK hu;rw[S0,Ax c0]at q;exact q) ?_))));refine J (fun h=>absurd h Wk) (fun _=>?_);refine I {q:Nat // q<=Lc r user AK} (I (fun q=>⟨[(1,sl Ab l),(2,sl Ab m),(6,.ref 6 0),(9,.ref 9 0),(14,vi (Lc r user AK:Nat)),(16,.slice (.id 31 1) ((((r.waves.take q.1).map (fun v:Wv=>v.paths)).flatten).map Af)),(17,vi q.1)],[(6,.ro (Ic x ifs)),(9,.ro (CR r)),(31,.tok 1 ((((r.waves.take q.1).map (fun v:Wv=>v.paths)).flatten).map Af).length)],Ae⟩) (I (fun q=>Lc r user AK-q.1) (J (I ⟨0,Aj _⟩ ?_) ?_)))
 .exact⟨Z7,Z3,Fh,C⟩
 intro⟨i,i1⟩;have i1:i<=Lc r user AK:=i1;have mi:(((r.waves.take i).map (fun v:Wv=>v.paths)).flatten).length<=1000000:=gD hr i;refine J (fun h1=>?_) (fun h1=>?_)
 .have h1:(i:Int)<((Lc r user AK:Nat):Int):=h1;have ib:i<r.waves.length:=Bm ch (Zc r user AK);have hp_:=hr.pt _ (Ai ib);refine I (Es r.waves[i]) (J (DC ib) (J rfl ?_));have b2:Bi 1 (r.waves[i].paths.map Af)/\((((r.waves.take i).map (fun v:Wv=>v.paths)).flatten).map Af).length=((((r.waves.take i).map (fun v:Wv=>v.paths)).flatten).map Af).length/\(((((r.waves.take i).map (fun v:Wv=>v.paths)).flatten).map Af).length+(r.waves[i].paths.map Af).length)*16<=140737488355328/\((((r.waves.take i).map (fun v:Wv=>v.paths)).flatten).map Af).length+(r.waves[i].paths.map Af).length<=9223372036854775807:=⟨(BV (enc:=Af) (n:=1) (fun _=>rfl) r.waves[i].paths),rfl,(by simp only[Lm];omega),(by simp only[Lm];omega)⟩;refine J b2 (J (Ii i ch) ?_);have em:(((r.waves.take i).map (fun v:Wv=>v.paths)).flatten)++r.waves[i].paths=(((r.waves.take (i+1)).map (fun v:Wv=>v.paths)).flatten):=by rw[A6 ib,Ar,Ci,Bq,FQ,BZ,List.flatten_nil,Bg]
  refine I ⟨i+1,by omega⟩ ?_;exact⟨by show Lc r user AK-(i+1)<Lc r user AK-i;omega,⟨B,B,B,B,B,⟨(Aa (AV.slice (.id 31 1)) (show(((r.waves.take i).map (fun v:Wv=>v.paths)).flatten).map Af++r.waves[i].paths.map Af=(((r.waves.take (i+1)).map (fun v:Wv=>v.paths)).flatten).map Af by rw[<-em];exact(Ar (f:=Af) (l₁:=(((r.waves.take i).map (fun v:Wv=>v.paths)).flatten)) (l₂:=r.waves[i].paths)).symm)),rfl⟩,B,C⟩,⟨B,B,⟨(Aa (HO.tok 1) (show((((r.waves.take i).map (fun v:Wv=>v.paths)).flatten).map Af).length+(r.waves[i].paths.map Af).length=((((r.waves.take (i+1)).map (fun v:Wv=>v.paths)).flatten).map Af).length by rw[<-em];simp only[Lm,Ac])),rfl⟩,C⟩,Fh,C⟩
 have h1:¬((i:Int)<((Lc r user AK:Nat):Int)):=h1;have ei:i=Lc r user AK:=ch
 have em:(((r.waves.take i).map (fun v:Wv=>v.paths)).flatten)=D1 r user AK:=by rw[ei];rfl
 refine cU [(1,sl Ab l),(2,sl Ab m),(6,.ref 6 0),(16,.slice (.id 31 1) ((D1 r user AK).map Af))] [(6,.ro (Ic x ifs)),(31,.tok 1 ((D1 r user AK).map Af).length)] ⟨B,B,B,⟨(Aa (fun E:List CS=>AV.slice (.id 31 1) (E.map Af)) em),rfl⟩,C⟩ ⟨B,⟨(Aa (fun E:List CS=>HO.tok 1 (E.map Af).length) em),rfl⟩,C⟩ (yN (C1 (C2 (by have q:=vE x ifs l m (D1 r user AK) hx HE Hk Ei Dd (Av (gD hr _) Wk);rw[J4,AA c1]at q;exact AbA q) ?_)));exact BC.of_eq (show AV.tup [sl Ab [],vi (KJ x l m (D1 r user AK))]=Tu x l m r user AK by rw[Tu,iO,q8,Ax c0,Ax c0,AA c1])
theorem Ahi(hx:∀r∈x,CX r)(HE:BD x)(Hk:∀r∈x,r.reqs.length<=1000)(Ei:l.length<=16)(Dd:m.length<=16)(hr:IC r)(user:CS)(AK:Int)(hu:user.size<=100000):PC 22 [HZ x ifs,sl Ab l,sl Ab m,.agg (CR r),vs user,vi AK] (Tu x l m r user AK):=by
 by_cases c0:Iv x l m r=0
 .by_cases c1:KJ x l m (D1 r user AK)=0
  .exact AcI x ifs l m r hx HE Hk Ei Dd hr user AK hu c0 c1
  .exact AcJ x ifs l m r hx HE Hk Ei Dd hr user AK hu c0 c1
 .exact AcH x ifs l m r hx HE Hk Ei Dd hr user AK hu c0
theorem uh(b1 b2:Bool)(ax:PC 17 [HZ x ifs,sl Ab l,sl Ab m] (vb b1))(rV:PC 18 [.agg (CR r)] (vb b2))(hb:b1=true->b2=true->100<user.size):PC 4 [HZ x ifs,sl Ab l,sl Ab m,.agg (CR r),vs user,vi AK] (vb true):=by
 refine Ps (pC [6,9] []) func4 rfl C4 (C1 (C2 io (yN (A1 (Bt b1) (fun h1=>?_) (fun h1=>?_)))))
 .have h1:b1=true:=h1;refine C1 (C2 (cb h1 ax) (yN (A1 (Bt b2) (fun h2=>?_) (fun h2=>?_))))
  .have h2:b2=true:=h2;refine C1 (C2 (cb h2 rV) (J (fun h3=>?_) (fun h3=>?_)))
   .have h3:(100:Int)<(user.size:Int):=h3;exact .refl _
   have h3:¬((100:Int)<(user.size:Int)):=h3;exact absurd (hb h1 h2) ch
  have h2:b2=false:=h2;refine C1 (C2 (cb h2 rV) ?_);exact .refl _
 have h1:b1=false:=h1;refine C1 (C2 (cb h1 ax) ?_);exact .refl _
theorem ir(hu:user.size<=100)(e k:Int)(n_:Nat)(s:List Sl)(hs:BD s)(ax:PC 17 [HZ x ifs,sl Ab l,sl Ab m] (vb true))(rV:PC 18 [.agg (CR r)] (vb true))(q1:PC 19 [HZ x ifs,sl Ab l,sl Ab m,.agg (CR r),vs user,vi AK] (.tup [vi n_,vi k]))(q2:PC 20 [HZ x ifs,sl Ab l,sl Ab m,.agg (CR r),vs user,vi AK] (.tup [vi n_,vi k]))(q3:PC 21 [HZ x ifs,sl Ab l,sl Ab m,.agg (CR r),vs user,vi AK] (.tup [sl Ab s,vi e]))(q4:PC 22 [HZ x ifs,sl Ab l,sl Ab m,.agg (CR r),vs user,vi AK] (.tup [sl Ab s,vi e]))(q5:PC 23 [HZ x ifs,sl Ab l,sl Ab m,.agg (CR r)] (vi k))(q6:PC 24 [HZ x ifs,sl Ab l,sl Ab m,.agg (CR r)] (vi k)):PC 4 [HZ x ifs,sl Ab l,sl Ab m,.agg (CR r),vs user,vi AK] (vb true):=by
 refine Ps (pC [6,9] [4,5,6,7,8,9]) func4 rfl C4 (C1 (C2 io (yN (C1 (C2 ax (yN (C1 (C2 rV (J (fun h1=>?_) (fun h1=>?_))))))))))
 .have h1:(100:Int)<(user.size:Int):=h1;exact absurd h1 ch
 have h1:¬((100:Int)<(user.size:Int)):=h1;refine cU [(1,sl Ab l),(2,sl Ab m),(4,vs user),(5,vi AK),(6,.ref 6 0),(9,.ref 9 0)] [(6,.ro (Ic x ifs)),(9,.ro (CR r))] Z6 Z2 (yN (yN (C1 (C2 q1 (cU [(1,sl Ab l),(2,sl Ab m),(4,vs user),(5,vi AK),(6,.ref 6 0),(9,.ref 9 0),(13,vi n_),(14,vi k)] [(6,.ro (Ic x ifs)),(9,.ro (CR r))] Z8 Z2 (yN (yN (C1 (C2 q2 (cU [(1,sl Ab l),(2,sl Ab m),(4,vs user),(5,vi AK),(6,.ref 6 0),(9,.ref 9 0),(13,vi n_),(14,vi k),(15,vi n_),(16,vi k)] [(6,.ro (Ic x ifs)),(9,.ro (CR r))] Z10 Z2 (yN (yN (C1 (C2 q3 (cU [(1,sl Ab l),(2,sl Ab m),(4,vs user),(5,vi AK),(6,.ref 6 0),(9,.ref 9 0),(13,vi n_),(14,vi k),(15,vi n_),(16,vi k),(17,sl Ab s),(18,vi e)] [(6,.ro (Ic x ifs)),(9,.ro (CR r))] Z12 Z2 (yN (yN (C1 (C2 q4 (cU [(1,sl Ab l),(2,sl Ab m),(6,.ref 6 0),(9,.ref 9 0),(13,vi n_),(14,vi k),(15,vi n_),(16,vi k),(17,sl Ab s),(18,vi e),(19,sl Ab s),(20,vi e)] [(6,.ro (Ic x ifs)),(9,.ro (CR r))] Z12 Z2 (yN (yN (C2 q5 (yN (yN (C2 q6 (J (fun h2=>?_) (fun h2=>?_))))))))))))))))))))))))))))
 .have h2:(k:Int)=(k:Int):=h2;refine J (fun h3=>?_) (fun h3=>?_)
  .have h3:(n_:Int)=(n_:Int):=h3;refine J (fun _=>?_) (fun hf=>absurd h2 hf);refine C2 (cb (AB rfl) (c27 s s hs)) (J (fun h4=>?_) (fun h4=>?_))
   .have h4:(e:Int)=(e:Int):=h4;refine J aa1 ?_;exact .refl _
   have h4:¬((e:Int)=(e:Int)):=h4;exact absurd rfl h4
  have h3:¬((n_:Int)=(n_:Int)):=h3;exact absurd rfl h3
 have h2:¬((k:Int)=(k:Int)):=h2;exact absurd rfl h2
theorem kS{x:List Rl}(h:FY x 16=true):∀r∈x,r.reqs.length<=1000:=fun r hr=>by
 simp only[FY,At,AS]at h;have q:=h.1 r hr;simp only[JR,Gs,At,Bj]at q;omega
theorem Ag9(hL:qT x [])(hr:vJ l m r user):PC 4 [HZ x ifs,sl Ab l,sl Ab m,.agg (CR r),vs user,vi AK] (vb true):=by
 have ax:=Acx x ifs l m hL;have rV:=AcB r (Av hr.wv Wk) (fun v hv=>Av (hr.st v hv) Wk) fun v hv=>Av (hr.pt v hv) Wk
 by_cases hg:TY x l m=true/\kM r=true/\user.size<=100
 .obtain⟨g1,g2,g3⟩:=hg;obtain⟨_,k2,k3⟩:=rN g1;have Hk:=kS (Dt.1 g1).1;have hf:=(x7 hr g2).1;have hn:r.name.size<=10000000:=Av hr.name Wk;have a1:l.length<=16:=ch
  have a2:m.length<=16:=ch
  rw[g1]at ax;rw[g2]at rV;have w1:=iy x ifs l m r user AK hL.x a1 a2 hf hn ch;have w2:=uv x ifs l m r hL.x hL.ix Hk a1 a2 hf user AK ch;have w3:=yv x ifs l m r user AK hL.x a1 a2 hf hn ch;have w4:=Ahi x ifs l m r hL.x hL.ix Hk a1 a2 hf user AK ch;have w5:=Y8 x ifs l m r hL.x a1 a2 hf;have w6:=qz x ifs l m r hL.x hL.ix Hk a1 a2 hf;have hs:BD (iO x l m r user AK):=by
   have q:=l8 l m (D1 r user AK);unfold iO;split
   .split
    .show _<=_;omega
    .exact Aj _
   .exact Aj _
  by_cases c0:Iv x l m r=0
  .rw[S0,Ax c0]at w1 w2;rw[c0]at w5 w6;exact ir x ifs l m r user AK g3 _ 0 _ _ hs ax rV w1 w2 w3 w4 w5 w6
  .rw[S0,AA c0]at w1 w2;exact ir x ifs l m r user AK g3 _ _ 0 _ hs ax rV w1 w2 w3 w4 w5 w6
 .exact uh x ifs l m r user AK _ _ ax rV fun e1 e2=>Nat.lt_of_not_le fun e3=>hg ⟨e1,e2,e3⟩
end Go.Eng
