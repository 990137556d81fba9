/- Lemmas 16. -/
import Derived.Test.YtjhkbdgingfbaaaGreatDoorGA15
import Derived.Lib.LastIndexLaws
set_option maxHeartbeats 4000000
namespace Go.Eng
open Go.Proofs
variable {BK:List (Value×AV)}{h:Nat->HO}{k:Value}{a:AV}(y:List Rl)(p:ByteArray)(r:Rl)(j:Nat)(l:List Rq)
abbrev LY:Option Int->AV
 |some n=>.tup [vi n,vi 0]
 |none=>.tup [vi 0,vi 4]
theorem Iw(c:UInt8):∀(s x:List UInt8),x∈BC c s->x.length<=s.length
 | [],x,h=>by
  rw[BC]at h;rw[Bh.1 h];exact Ad _
 |b::r,x,h=>by
  have ih:=Iw c r;rw[BC]at h;split at h
  .rcases AS.1 h with rfl | h
   .exact Ar _
   .have:=ih x h;rw[Am];omega
  .split at h
   .rw[Bh.1 h];rw[Am];simp
   .rename_i y l e;rcases AS.1 h with rfl | h
    .have:=ih y (by rw[e];exact Ab ..);rw[Am,Am];omega
    .have:=ih x (by rw[e];exact Ai _ h);rw[Am];omega
theorem Z0{p x:ByteArray}(hp:CT p)(hx:x∈Bx p):CT x:=by
 have h:x.data.toList∈BC 47 p.data.toList:=by rw[<-Ll];exact AA.2 ⟨x,hx,rfl⟩
 have:=Iw 47 _ _ h
 unfold CT at *
 have e1:x.size=x.data.toList.length:=by simp
 have e2:p.size=p.data.toList.length:=by simp
 omega
theorem Xc:(Bx p).length=(BC 47 p.data.toList).length:=by rw[<-Ll,Lm]
theorem Xd:0<(Bx p).length:=by
 rw[show(Bx p).length=Go.Lib.countB p T0+1 from Go.Lib.splitB_all T0 sR 0 _ p rfl];omega
theorem Xb:(Bx p).length<=p.size+1:=by
 rw[show(Bx p).length=Go.Lib.countB p T0+1 from Go.Lib.splitB_all T0 sR 0 _ p rfl]
 have:=Go.Lib.countB_le T0 sR p.size p (Ad _);omega
theorem UC(h:(Bx p).length-1<(Bx p).length):(BC 47 p.data.toList).getLastD []=((Bx p)[(Bx p).length-1]).data.toList:=by
 rw[<-Ll,List.getLastD_eq_getLast?,List.getLast?_eq_getElem?,Lm,Ap,Ge h];rfl
theorem Xa:(BC 47 p.data.toList).all Fa=(Bx p).all fun x=>Fa x.data.toList:=by
 rw[<-Ll,List.all_map];rfl
theorem jy(hp:CT p):PC 152 [vs p] (LY (AU p)):=by
 have kB:=Xb p;have MS:=Xd p;have oC:(Bx p).length-1<(Bx p).length:=by omega
 have Dm:p.size=p.data.toList.length:=by simp
 have pW:∀{x},x∈Bx p->CT x:=fun h=>Z0 hp h;unfold CT at hp;have PR:((Bx p).map encS)[((((Bx p).map encS).length:Int)-1).toNat]?=some (encS (Bx p)[(Bx p).length-1]):=by
  rw[Lm,show(((Bx p).length:Int)-1).toNat=(Bx p).length-1 by omega];exact CQ (Ge oC)
 have hv:=c213 (Bx p)[(Bx p).length-1] (pW (Af oC));have em:AU p=match EC ((Bx p)[(Bx p).length-1]).data.toList with
  |none=>none
  |some n=>if(decide (64<p.data.toList.length)||decide ((Bx p).length<2))=true then none else if((Bx p).all fun x=>Fa x.data.toList)=true then some n else none:=by
  unfold AU Kr;rw[UC p oC,Xa,<-Xc];cases EC ((Bx p)[(Bx p).length-1]).data.toList with
  |none=>rfl
  |some n=>rfl
 cases hve:EC ((Bx p)[(Bx p).length-1]).data.toList with
 |none=>
  rw[hve]at hv em;refine Ps (F0 []) Tryz.func152 rfl (Nz rfl) (Xi .pure (Xi _ (Yi (c212 p hp) (Yi (by show AE ((((Bx p).map encS).length:Int)-1);unfold AE;rw[Lm];omega) ?_))));refine Xi (encS (Bx p)[(Bx p).length-1]) (Yi (Yi (by show(0:Int)<=(((Bx p).map encS).length:Int)-1;rw[Lm];omega) PR) (Yi rfl ?_));refine Xi .pure (Xi _ (Yi (hv) ?_));exact .of_eq (Aa LY em.symm)
 |some n=>
  rw[hve]at hv em;refine Ps (F0 []) Tryz.func152 rfl (Nz rfl) (Xi .pure (Xi _ (Yi (c212 p hp) (Yi (by show AE ((((Bx p).map encS).length:Int)-1);unfold AE;rw[Lm];omega) ?_))));refine Xi (encS (Bx p)[(Bx p).length-1]) (Yi (Yi (by show(0:Int)<=(((Bx p).map encS).length:Int)-1;rw[Lm];omega) PR) (Yi rfl ?_));refine Xi .pure (Xi _ (Yi (hv) (Yi ?_ ?_)))
  .intro h;exact .of_eq (Aa LY (show(none:Option Int)=AU p by rw[em,Ah (by omega:64<p.data.toList.length)];rfl))
  intro h;have d1:decide (64<p.data.toList.length)=false:=Ae sP;refine Yi ?_ ?_
  .intro h2;rw[Lm]at h2;exact .of_eq (Aa LY (show(none:Option Int)=AU p by rw[em,d1,Ah (by omega:(Bx p).length<2)];rfl))
  intro h2;have d2:decide ((Bx p).length<2)=false:=Ae (by rw[Lm]at h2;omega);have pD:AU p=if((Bx p).all fun x=>Fa x.data.toList)=true then some n else none:=by rw[em,d1,d2];rfl
  refine Xi {i:Nat // i<=(Bx p).length/\∀j (hj:j<(Bx p).length),j<i->Fa ((Bx p)[j]).data.toList=true} (Xi (fun i=>⟨[(5,vi n),(33,sl encS (Bx p)),(34,vi ((Bx p).map encS).length),(35,vi i.1)],[],Ao⟩) (Xi (fun i=>(Bx p).length-i.1) (Yi (Xi ⟨0,Ar _,fun j _ h=>by omega⟩ ?_) ?_)))
  .exact⟨Z4,Tv,Fh,Tv⟩
  intro⟨i,i1,i2⟩;refine Yi ?_ ?_
  .intro h;have h:i<(Bx p).length:=by simpa using h
   have hg:(Bx p)[i]?=some (Bx p)[i]:=Ge h;refine Xi (encS (Bx p)[i]) (Yi (Yi (Nn i) (by simp[hg])) (Yi rfl ?_));have pS:=pW (Af h);have hn:=mV (Bx p)[i] pS;have ha:=fh (Bx p)[i] 202 JP mW (by unfold CT at pS;have e1:(Bx p)[i].size=(Bx p)[i].data.toList.length:=sS;omega);have no:Fa ((Bx p)[i]).data.toList=false->(none:Option Int)=AU p:=fun e=>by
    rw[pD,Aj];intro EM
    have:=AJ.1 EM _ (Af h)
    rw[e]at this;cases this
   refine Bn (Bt (EE ((Bx p)[i]).data.toList)) (fun e1=>?_) (fun e1=>?_)
   rotate_left
   .rw[e1]at hn;refine Xi .pure (Xi _ (Yi (hn) ?_));exact .of_eq (Aa LY (no (by unfold Fa;rw[e1];rfl)))
   rw[e1]at hn;refine Xi .pure (Xi _ (Yi (hn) (Bn (Bt (((Bx p)[i]).data.toList.all JP)) (fun e2=>?_) (fun e2=>?_))))
   rotate_left
   .rw[e2]at ha;refine Xi .pure (Xi _ (Yi (ha) ?_));exact .of_eq (Aa LY (no (by unfold Fa;rw[e1];exact e2)))
   rw[e2]at ha;refine Xi .pure (Xi _ (Yi (ha) (Yi (Ii i sP) (Xi ⟨i+1,by omega,fun j hj Gn=>?_⟩ ?_))))
   .rcases Be j i with z | z
    .exact i2 j hj z
    .have:j=i:=by omega
     subst this;unfold Fa;rw[e1];exact e2
   .exact⟨by show(Bx p).length-(i+1)<(Bx p).length-i;omega,Z4,Tv,Fh,Tv⟩
  .intro h;have h:¬i<(Bx p).length:=by simpa using h
   have e:some n=AU p:=by
    rw[pD,Av];exact AJ.2 fun x hx=>by
     obtain⟨j,hj,rfl⟩:=BB hx;exact i2 j hj sP
   exact .of_eq (Aa LY e)
theorem mS(hp:CT p):PC 153 [vs p] (vb (AU p).isSome):=by
 have hc:=jy p hp;cases h:AU p with
 |none=>
  rw[h]at hc;refine Ps Dj Tryz.func153 rfl (Nz rfl) (Xi .pure (Xi _ (Yi (hc) (Yi ?_ ?_))))
  .intro h;exact absurd (show(4:Int)=0 from h) sR
  .intro _;exact .refl _
 |some n=>
  rw[h]at hc;refine Ps Dj Tryz.func153 rfl (Nz rfl) (Xi .pure (Xi _ (Yi (hc) (Yi ?_ ?_))))
  .intro _;exact .refl _
  .intro h;exact absurd rfl h
theorem Kx(c:UInt8):∀s:List UInt8,2<=(BC c s).length->c∈s
 | [],h=>by rw[BC]at h;simp at h
 |b::r,h=>by
  rw[BC]at h
  by_cases e:b=c
  .exact e▸Ab ..
  .rw[Aj e]at h;refine Ai _ (Kx c r ?_);cases hs:BC c r with
   |nil=>rw[hs]at h;simp at h
   |cons x l=>rw[hs]at h;simpa using h
theorem Zq{p:ByteArray}{m:Int}(h:AU p=some m):0<=Go.Lib.lastIndex p.data.toList [47]/\Go.Lib.lastIndex p.data.toList [47]<=p.size:=by
 have h2:2<=(BC 47 p.data.toList).length:=by
  unfold AU Kr at h;split at h
  .cases h
  .split at h
   .cases h
   .rename_i hn;simp only[CO,A3]at hn;omega
 have hm:=Kx 47 _ h2;obtain⟨i,hi,e⟩:=BB hm;have Dm:p.size=p.data.toList.length:=by simp
 unfold Go.Lib.lastIndex;rw[Av (by simp only[AI];omega)];have oz:Go.Lib.occAt p.data.toList [47] i=true:=by
  unfold Go.Lib.occAt;rw[AG hi,e];simp
 rcases Go.Lib.lastOcc_spec p.data.toList [47] (p.data.toList.length - [(47:UInt8)].length+1)with ⟨_,h3⟩ | ⟨j,h3,h4,_⟩
 .have:=h3 i (by simp only[AI];omega)
  rw[oz]at this;cases this
 .rw[h4];simp only[AI]at h3;omega
abbrev Kp:ByteArray:=p.extract 0 (Go.Lib.lastIndex p.data.toList [47]).toNat
theorem V4:OY Kp:=by
 intro p hp;have hc:=jy p hp;have hi:=mS p hp;unfold La;cases h:AU p with
 |none=>
  rw[h]at hc hi;refine Ps Dj Tryz.func93 rfl (Nz rfl) (Xi .pure (Xi _ (Yi (hc) (Xi .pure (Xi _ (Yi (hi) ?_))))));exact .refl _
 |some n=>
  rw[h]at hc hi;obtain⟨l1,l2⟩:=Zq h;have hl:PC 154 [vs p,vs T0] (vi (Go.Lib.lastIndex p.data.toList [47])):=mT p T0 hp;refine Ps Dj Tryz.func93 rfl (Nz rfl) (Xi .pure (Xi _ (Yi (hc) (Xi .pure (Xi _ (Yi (hi) (Yi ?_ ?_)))))))
  .intro h;exact absurd rfl h
  intro _;refine Xi .pure (Xi _ (Yi (hl) (Yi ⟨CR _,l1,l2⟩ ?_)));exact .refl _
theorem aq{l:List Rq}(h:B8 l=0):l.length<=16:=by
 unfold B8 at h;split at h
 .cases h
 .omega
theorem Zp{x:List Rl}(h:BA x=0):x.length<=256/\∀r∈x,r.reqs.length<=16:=by
 have h1:x.length<=256:=by
  unfold BA at h;split at h
  .cases h
  .omega
 exact⟨h1,fun r hr=>aq ((Ki h).1 r hr).reqs⟩
abbrev WG(x:List Rl)(ifs:List (List AV)):AV:=.agg (Ic x ifs)
abbrev OI:DG:=⟨true,[.str,.int .i64,.int .i64,.int .i64]⟩
abbrev Fp(y:Sl):Value:=.agg #[.string y.path,.int .i64 y.ver.a,.int .i64 y.ver.b,.int .i64 y.ver.c]
abbrev Ri:Value×AV:=(Fp (Ej r),.agg (Bb r))
def Bp:List Rl->List ByteArray->List ByteArray
 | [],Ig=>Ig
 |r::x,Ig=>Bp x (if Ig.any (fun p=>decide (p=r.path))then Ig else Ig++[r.path])
abbrev mc(x:List Rl)(p:ByteArray):Value×AV:=(.string p,sl Bb (x.filter fun r=>decide (r.path=p)))
abbrev UN(x:List Rl):AV:=if BA x=0 then .tup [.agg [.cmap OI (x.map Ri),.cmap UK ((Bp x []).map (mc x))],vi 0]else .tup [.agg [.cmap OI [],.cmap UK []],vi (BA x)]
abbrev dA(x:List Rl)(ifs:List (List AV)):Prop:=PC 82 [WG x ifs] (UN x)
theorem nk:PC 83 [.agg bo] (.agg bo):=by
 refine Ps Dj Tryz.func83 rfl (Nz rfl) (yN (Xi Unit (Xi (fun _=>⟨[(1,.ref 1 0),(2,.ref 2 0),(10,vi 0),(11,vi 0)],[(1,.cells bo),(2,.cells bo)],Ao⟩) (Xi (fun _=>0) (Yi (Xi () ?_) ?_)))))
 .exact⟨Z4,Z2,Fh,Tv⟩
 intro _;refine Yi ?_ ?_
 .intro h;exact absurd (show(0:Int)<0 from h) sR
 .intro _;refine Yi (Nz rfl) (Yi (Nz rfl) (yN ?_));exact .refl _
theorem cC{y z:Sl}(h:Fp y=Fp z):y=z:=by
 obtain⟨p,⟨a,b,c⟩⟩:=y;obtain⟨q,⟨d,e,f⟩⟩:=z;simp only[Fp,Value.agg.injEq,Array.mk.injEq,Ea,Value.string.injEq,Value.int.injEq,true_and,and_true]at h;obtain⟨rfl,rfl,rfl,rfl⟩:=h
 rfl
theorem Vm{x:List Rl}{y:Sl}(h:(Fp y,a)∈x.map Ri):∃r∈x,Ej r=y/\a=.agg (Bb r):=by
 obtain⟨r,h1,h2⟩:=AA.1 h;simp only[Ri,GV]at h2;exact⟨r,h1,cC h2.1,h2.2.symm⟩
theorem YL{x:List Rl}(hx:BA x=0){r:Rl}(hr:r∈x):CM x (Ej r)=some r:=by
 unfold CM;rw[Aj sP];cases h:x.find? (fun s=>decide (Ej s=Ej r))with
 |none=>
  rw[List.find?_eq_none]at h;exact absurd sS (h r hr)
 |some s=>
  have h1:=Pt h;simp only[A3]at h1;have hs:=GA h;have hp:=(Ki hx).2;rcases A9.1 hr with ⟨i,hi,e1⟩;rcases A9.1 hs with ⟨j,hj,e2⟩;rcases EK i j with TN | TN | TN
  .have:=(A5.1 hp) i j hi hj TN
   rw[e1,e2]at this;exact(Kq this h1.symm).elim
  .subst TN;rw[<-e1,<-e2]
  .have:=(A5.1 hp) j i hj hi TN
   rw[e1,e2]at this;exact(Kq this h1).elim
theorem c53(x:List Rl)(ifs:List (List AV))(p:ByteArray)(v:Ver)(iD:dA x ifs)(hx:∀r∈x,KF r):PC 43 [WG x ifs,vs p,.agg (Dy v)] (MA (CM x ⟨p,v⟩)):=by
 have hz:=nk
 by_cases h0:BA x=0
 .have iD:PC 82 [WG x ifs] (.tup [.agg [.cmap OI (x.map Ri),.cmap UK ((Bp x []).map (mc x))],vi 0]):=by
   have:=iD;unfold dA UN at this;rw[Av h0]at this;exact this
  refine Ps (F0 []) Tryz.func43 rfl (Nz rfl) (yN (Xi .pure (Xi _ (Yi (iD) (yN (yN (Yi ?_ ?_)))))))
  .intro a ha;refine BF (Vm (y:=⟨p,v⟩) ha) (fun r hr=>?_);have e:=hr.2.2;subst e;have hf:CM x ⟨p,v⟩=some r:=by rw[<-hr.2.1];exact YL h0 hr.1
   have sJ:=(Zp h0).2 r hr.1;have hc:=qM r sP (fun q hq=>((hx r hr.1).2 q hq).1);refine yN (yN (Xi .pure (Xi _ (Yi (hc) (Yi (Nz rfl) (yN ?_))))));exact .of_eq (show AV.tup [.agg (Bb r),vb true]=MA (CM x ⟨p,v⟩) by rw[hf])
  .intro hn;have hf:CM x ⟨p,v⟩=none:=by
    cases h:CM x ⟨p,v⟩with
    |none=>rfl
    |some r=>
     obtain⟨_,h2,h3⟩:=PO h;exact absurd (AA.2 ⟨r,h2,by rw[show Ri r=(Fp (Ej r),AV.agg (Bb r))from rfl,h3]⟩) (hn (.agg (Bb r)))
   refine yN (yN (Xi .pure (Xi _ (Yi (hz) (Yi (Nz rfl) (yN ?_))))));exact .of_eq (show AV.tup [.agg bo,vb false]=MA (CM x ⟨p,v⟩) by rw[hf])
 .have iD:PC 82 [WG x ifs] (.tup [.agg [.cmap OI [],.cmap UK []],vi (BA x)]):=by
   have:=iD;unfold dA UN at this;rw[Aj h0]at this;exact this
  have hf:CM x ⟨p,v⟩=none:=by unfold CM;rw[Av h0]
  refine Ps (F0 []) Tryz.func43 rfl (Nz rfl) (yN (Xi .pure (Xi _ (Yi (iD) (yN (yN (Yi ?_ ?_)))))))
  .intro a ha;cases ha
  .intro _;refine yN (yN (Xi .pure (Xi _ (Yi (hz) (Yi (Nz rfl) (yN ?_))))));exact .of_eq (show AV.tup [.agg bo,vb false]=MA (CM x ⟨p,v⟩) by rw[hf])
theorem KO{Ig:List ByteArray}{p:ByteArray}:(Ig.any fun q=>decide (q=p))=true↔p∈Ig:=by
 rw[Br];constructor
 .rintro⟨q,h1,h2⟩;rw[<-AZ h2];exact h1
 .intro h;exact⟨p,h,by simp⟩
theorem MB:∀(x:List Rl) (Ig:List ByteArray) (p:ByteArray),p∈Bp x Ig↔p∈Ig\/∃r∈x,r.path=p
 | [],Ig,p=>by simp[Bp]
 |r::x,Ig,p=>by
  rw[Bp,MB x];constructor
  .rintro(h | ⟨s,h1,h2⟩)
   .split at h
    .exact .inl h
    .rcases By.1 h with h | h
     .exact .inl h
     .exact .inr ⟨r,Ab ..,(Bh.1 h).symm⟩
   .exact .inr ⟨s,Ai _ h1,h2⟩
  .rintro(h | ⟨s,h1,h2⟩)
   .left
    split
    .exact h
    .exact BS _ h
   .rcases AS.1 h1 with rfl | h1
    .left
     split
     .rename_i hh;rw[<-h2];exact KO.1 hh
     .rw[<-h2];exact Ch _ (Bh.2 rfl)
    .exact .inr ⟨s,h1,h2⟩
theorem It:∀(y:List Rl) (Ig:List ByteArray) (r:Rl),Bp (y++[r]) Ig=if(Bp y Ig).any (fun p=>decide (p=r.path))then Bp y Ig else Bp y Ig++[r.path]
 | [],Ig,r=>rfl
 |s::y,Ig,r=>by rw[De,Bp,Bp,It y]
theorem F8:∀(y:List Rl) (Ig:List ByteArray),Ig.Nodup->(Bp y Ig).Nodup
 | [],_,h=>h
 |s::y,Ig,h=>by
  rw[Bp];refine F8 y _ ?_;split
  .exact h
  .rename_i hn;rw[List.nodup_append];refine⟨h,by simp,fun a ha b hb e=>?_⟩;rw[Bh]at hb;exact hn (KO.2 (by rw[<-hb,<-e];exact ha))
abbrev J7:List (List AV):=(y.filter fun r=>decide (r.path=p)).map Bb
abbrev YV(q:ByteArray×Nat):Value×AV:=(.string q.1,.slice (.id (q.2+50) 9) (J7 y q.1))
abbrev M5:List (Value×AV):=(Bp y []).zipIdx.map (YV y)
def G8(l:Nat):HO:=match(Bp y [])[l]? with
 |some q=>.tok 9 (J7 y q).length
 |none=>.free
def PQ:HO:=bif Nat.ble 50 j then G8 y (j-50)else .free
theorem FI(l:Nat):PQ y (l+50)=G8 y l:=by
 unfold PQ;rw[show Nat.ble 50 (l+50)=true by rw[Cz];omega,Nat.add_sub_cancel];rfl
theorem fK{j:Nat}(h:j<50):PQ y j=.free:=by
 unfold PQ;rw[show Nat.ble 50 j=false by rw[A8];intro hc;rw[Cz]at hc;omega];rfl
theorem Gk(q:ByteArray):J7 (y++[r]) q=if r.path=q then J7 y q++[Bb r]else J7 y q:=by
 unfold J7;rw[Fw]
 by_cases h:r.path=q
 .rw[Av h,Ni (by simpa using h)];simp
 .rw[Aj h,Nh (by simpa using h)];simp
theorem Lw{l:List ByteArray}{q:ByteArray×Nat}(h:q∈l.zipIdx):l[q.2]?=some q.1:=by
 obtain⟨a,b⟩:=q;exact JG.1 h
open Classical in
theorem Tf(h:∀a',(k,a')∉BK):FN BK k a=BK++[(k,a)]:=by
 unfold FN;rw[Aj (fun⟨a',h'⟩=>h a' h')]
open Classical in
theorem ZI{a':AV}(h:(k,a')∈BK):FN BK k a=BK.map fun p=>if p.1=k then(k,a)else p:=by
 unfold FN;rw[Av ⟨a',h⟩]
section
variable {y:List Rl}{r:Rl}{k:Nat}
theorem L5(h:(Bp y [])[k]?=some r.path):Bp (y++[r]) []=Bp y []:=by
 rw[It,Av (KO.2 (AW h))]
theorem L4(h:r.path∉Bp y []):Bp (y++[r]) []=Bp y []++[r.path]:=by
 rw[It,Aj (fun hc=>h (KO.1 hc))]
theorem LZ{l:List ByteArray}(hd:l.Nodup){i j:Nat}{p:ByteArray}(h1:l[i]?=some p)(h2:l[j]?=some p):i=j:=by
 obtain⟨a1,a2⟩:=Au.1 h1;obtain⟨b1,b2⟩:=Au.1 h2;exact(List.getElem_inj hd).1 (a2.trans b2.symm)
open Classical in
theorem bY(h:(Bp y [])[k]?=some r.path):FN (M5 y) (.string r.path) (.slice (.id (k+50) 9) (J7 y r.path++[Bb r]))=M5 (y++[r]):=by
 have hd:=F8 y [] List.nodup_nil;have hm:YV y (r.path,k)∈M5 y:=AA.2 ⟨_,JG.2 h,rfl⟩;rw[ZI (a':=.slice (.id (k+50) 9) (J7 y r.path)) hm];unfold M5;rw[L5 h,Cw];refine BH fun q hq=>?_;have hg:=Lw hq;obtain⟨q,j⟩:=q;show(if Value.string q=Value.string r.path then _ else _)=YV (y++[r]) (q,j)
 by_cases he:q=r.path
 .subst he
  have:j=k:=LZ hd hg h
  subst this;rw[Av rfl];show _=(Value.string r.path,AV.slice (.id (j+50) 9) (J7 (y++[r]) r.path));rw[Gk,Av rfl]
 .rw[Aj (fun e=>he (by simpa using e))];show(Value.string q,AV.slice (.id (j+50) 9) (J7 y q))=(Value.string q,AV.slice (.id (j+50) 9) (J7 (y++[r]) q));rw[Gk,Aj (fun e=>he e.symm)]
theorem Vv(h:r.path∉Bp y []):J7 y r.path=[]:=by
 have:y.filter (fun s=>decide (s.path=r.path))=[]:=by
  rw[List.filter_eq_nil_iff];intro s hs he;exact h ((MB y [] r.path).2 (.inr ⟨s,hs,AZ he⟩))
 unfold J7;rw[this];rfl
theorem Su(h:r.path∉Bp y [])(a:AV):(Value.string r.path,a)∉M5 y:=by
 intro hc;obtain⟨q,h1,h2⟩:=AA.1 hc;simp only[YV,GV,Value.string.injEq]at h2;exact h (by rw[<-h2.1];exact AW (Lw h1))
theorem bX(h:r.path∉Bp y []):FN (M5 y) (.string r.path) (.slice (.id ((Bp y []).length+50) 9) [Bb r])=M5 (y++[r]):=by
 rw[Tf (fun a=>Su h a)];unfold M5;rw[L4 h,List.zipIdx_append,AK]
 congr 1
 .refine BH fun q hq=>?_;have hg:=Lw hq
  have:q.1≠r.path:=fun e=>h (by rw[<-e];exact AW hg)
  show(Value.string q.1,AV.slice (.id (q.2+50) 9) (J7 y q.1))=(Value.string q.1,AV.slice (.id (q.2+50) 9) (J7 (y++[r]) q.1));rw[Gk,Aj (fun e=>this e.symm)]
 .show [_]=[(Value.string r.path,AV.slice (.id (0+(Bp y []).length+50) 9) (J7 (y++[r]) r.path))];rw[Gk,Av rfl,Vv h,Bf];rfl
theorem YW{p:ByteArray}{j:Nat}(h:(Bp y [])[j]?=some p):(Value.string p,AV.slice (.id (j+50) 9) (J7 y p))∈M5 y/\∀b,(Value.string p,b)∈M5 y->b=AV.slice (.id (j+50) 9) (J7 y p):=by
 refine⟨AA.2 ⟨(p,j),JG.2 h,rfl⟩,fun b hb=>?_⟩;obtain⟨q,h1,h2⟩:=AA.1 hb;simp only[YV,GV,Value.string.injEq]at h2;have hg:=Lw h1;rw[h2.1]at hg
 have:=LZ (F8 y [] List.nodup_nil) hg h
 rw[<-h2.2,h2.1,this]
theorem aG{p:ByteArray}{j:Nat}(h:(Bp y [])[j]?=some p):G8 y j=.tok 9 (J7 y p).length:=by
 unfold G8;rw[h]
theorem dj(h:(Bp y [])[k]?=some r.path)(l:Nat):(bif Nat.beq (l+50) (k+50)then HO.tok 9 ((J7 y r.path).length+1)else G8 y l)=G8 (y++[r]) l:=by
 by_cases he:l=k
 .subst he;rw[show Nat.beq (l+50) (l+50)=true from CK _];unfold G8;rw[L5 h,h];show HO.tok 9 _=HO.tok 9 (J7 (y++[r]) r.path).length;rw[Gk,Av rfl,Ac];rfl
 .rw[show Nat.beq (l+50) (k+50)=false by rw[A8];intro hc;have:=AB hc;omega];show G8 y l=_;unfold G8;rw[L5 h];cases hq:(Bp y [])[l]? with
  |none=>rfl
  |some q=>
   show HO.tok 9 (J7 y q).length=HO.tok 9 (J7 (y++[r]) q).length;rw[Gk,Aj];intro e;subst e;exact he (LZ (F8 y [] List.nodup_nil) hq h)
theorem di(h:r.path∉Bp y [])(l:Nat):(bif Nat.beq (l+50) ((Bp y []).length+50)then HO.tok 9 1 else G8 y l)=G8 (y++[r]) l:=by
 by_cases he:l=(Bp y []).length
 .subst he;rw[show Nat.beq ((Bp y []).length+50) ((Bp y []).length+50)=true from CK _];unfold G8;rw[L4 h];simp only[AL (Ad _),DB,AX];show HO.tok 9 1=HO.tok 9 (J7 (y++[r]) r.path).length;rw[Gk,Av rfl,Vv h];rfl
 .rw[show Nat.beq (l+50) ((Bp y []).length+50)=false by rw[A8];intro hc;have:=AB hc;omega];show G8 y l=_;unfold G8;rw[L4 h]
  by_cases hl:l<(Bp y []).length
  .rw[AQ hl,Ge hl];show HO.tok 9 (J7 y (Bp y [])[l]).length=HO.tok 9 (J7 (y++[r]) (Bp y [])[l]).length;rw[Gk,Aj];intro e;exact h (by rw[e];exact Af hl)
  .rw[AN sP,AN (by rw[Ac];simp;omega)]
end
theorem PT{h:Nat->HO}:∀{BK:List (Value×AV)},(∀p∈BK,Pj h p.2=true)->N5 h BK=true
 | [],_=>rfl
 |p::r,hk=>by
  unfold N5;rw[hk p (Ab ..)];exact PT (fun q hq=>hk q (Ai _ hq))
theorem In(hh:∀l,h (l+50)=G8 y l):N5 h (M5 y)=true:=by
 refine PT fun p hp=>?_;obtain⟨q,h1,rfl⟩:=AA.1 hp;show Pg h (q.2+50)=true;unfold Pg;rw[hh,aG (Lw h1)]
theorem GY{y:List Rl}{h':Nat->HO}(hh:∀l,h (l+50)=G8 y l)(j:Nat):PQ y j=.free\/(h j=PQ y j/\N4 h' (PQ y j)=true):=by
 by_cases hj:j<50
 .exact .inl (fK y hj)
 .obtain⟨l,rfl⟩:∃l,j=l+50:=⟨j-50,by omega⟩
  right
  rw[FI];refine⟨hh l,?_⟩;unfold G8;cases (Bp y [])[l]?<;>rfl
theorem da{x:List Rl}(hx:BA x=0){i:Nat}(hi:i<x.length):FN ((x.take i).map Ri) (Fp (Ej x[i])) (.agg (Bb x[i]))=(x.take (i+1)).map Ri:=by
 rw[Tf]
 .rw[A2,Ge hi,AK];rfl
 intro a ha;obtain⟨r,hr,he,_⟩:=Vm ha;obtain⟨j,hj,e2⟩:=A9.1 hr;rw[Al]at hj;rw[FY]at e2;have hp:=(Ki hx).2
 have:=(A5.1 hp) j i sP hi sP
 rw[e2]at this;exact Kq this he
abbrev kZ:VN:=⟨[],[],[],[],[8,9],[9],[40],[],[],[],[8,9,10,11]⟩
abbrev zT:List AV:=[.v (.map none),.v (.map none)]
theorem bG(x:List Rl)(ifs:List (List AV))(ce:PC 40 [WG x ifs] (vi (BA x)))(h0:BA x≠0):dA x ifs:=by
 have ht:UN x=.tup [.agg [.cmap OI [],.cmap UK []],vi (BA x)]:=by unfold UN;rw[Aj h0]
 unfold dA;rw[ht];refine Ps kZ Tryz.func82 rfl (Nz rfl) (Xi 0 (Xi 0 (yN (Xi 0 (yN (Xi .pure (Xi _ (Yi (ce) (Xi 0 (Yi ?_ ?_))))))))))
 .intro _;refine Xi 0 (yN (yN (yN ?_)));exact .refl _
 .intro h;exact absurd h (fun hc=>hc h0)
theorem Je:∀(y:List Rl) (Ig:List ByteArray),(Bp y Ig).length<=Ig.length+y.length
 | [],Ig=>by simp[Bp]
 |r::y,Ig=>by
  rw[Bp];refine AP (Je y _) ?_;split
  .simp only[Am];omega
  .simp only[Ac,Am,Aw];omega
section
attribute [local irreducible] GH
theorem fo(x:List Rl)(ifs:List (List AV))(ce:PC 40 [WG x ifs] (vi (BA x)))(h0:BA x=0)(BQ:x.length<=256):dA x ifs:=by
 have ht:UN x=.tup [.agg [.cmap OI (x.map Ri),.cmap UK ((Bp x []).map (mc x))],vi 0]:=by unfold UN;rw[Av h0]
 unfold dA;rw[ht];rw[h0]at ce;refine Ps kZ Tryz.func82 rfl (Nz rfl) (Xi 0 (Xi 0 (yN (Xi 0 (yN (Xi .pure (Xi _ (Yi (ce) (Xi 0 (Yi ?_ ?_))))))))))
 .intro hc;exact absurd (show(0:Int)≠0 from hc) sR
 intro _;refine Xi 0 (Xi {i:Nat // i<=x.length} (Xi (fun i=>⟨[(2,.ref 2 0),(4,.ref 4 0),(18,sl Bb x),(19,vi (x.map Bb).length),(20,vi i.1)],[(2,.cells zT),(4,.cells [.mref 8,.mref 9]),(8,.map OI ((x.take i.1).map Ri)),(9,.mapU UK (M5 (x.take i.1)))],PQ (x.take i.1)⟩) (Xi (fun i=>x.length-i.1) (Yi (Xi ⟨0,Ar _⟩ ?_) ?_))))
 .refine⟨Z5,Z4,fun j=>.inl ?_,Tv⟩;show PQ [] j=.free;unfold PQ;cases Nat.ble 50 j<;>rfl
 intro⟨i,i1⟩;refine Xi 0 (Yi ?_ ?_)
 .intro h;have h:i<x.length:=by simpa using h
  have hg:x[i]?=some x[i]:=Ge h;have K8:x.take (i+1)=x.take i++[x[i]]:=by rw[A2,hg];rfl
  refine Xi 0 (Xi (Bb x[i]) (Yi (Yi (Nn i) (by simp[hg])) (Yi rfl ?_)));refine Yi (Nz rfl) (yN (Xi ⟨[(2,.ref 2 0),(4,.ref 4 0),(7,.ref 7 0),(18,sl Bb x),(19,vi (x.map Bb).length),(20,vi i)],[(2,.cells zT),(4,.cells [.mref 8,.mref 9]),(7,.cells (Bb x[i])),(8,.map OI ((x.take i).map Ri)),(9,.mapU UK (M5 (x.take i)))],PQ (x.take i)⟩ (Yi ?_ ?_)))
  .exact⟨Z6,⟨Zr,Zr,Zr,Zr,⟨rfl,In _ (FI _)⟩,Tv⟩,GY (FI _),Tv⟩
  refine Xi 0 (yN (Xi _ (Yi (fc x[i]) (yN (Yi sT ?_)))));have e8:FN ((x.take i).map Ri) (Fp (Ej x[i])) (.agg (Bb x[i]))=(x.take (i+1)).map Ri:=da h0 h;refine Xi ⟨[(2,.ref 2 0),(4,.ref 4 0),(7,.ref 7 0),(18,sl Bb x),(19,vi (x.map Bb).length),(20,vi i)],[(2,.cells zT),(4,.cells [.mref 8,.mref 9]),(7,.cells (Bb x[i])),(8,.map OI ((x.take (i+1)).map Ri)),(9,.mapU UK (M5 (x.take i)))],PQ (x.take i)⟩ (Yi ?_ ?_)
  .exact⟨Z6,⟨Zr,Zr,Zr,⟨Aa (HO.map OI) e8,rfl⟩,⟨rfl,In _ (FI _)⟩,Tv⟩,GY (FI _),Tv⟩
  have hL:((x.take i).filter (fun r=>decide (r.path=x[i].path))).length<=256:=by
   have:=DP (fun r:Rl=>decide (r.path=x[i].path)) (x.take i)
   rw[Al]at this;omega
  have hP:∀l,PQ (x.take i) (l+50)=G8 (x.take i) l:=FI _;refine Bn (Classical.em (x[i].path∈Bp (x.take i) [])) (fun hp=>?_) (fun hp=>?_)
  .refine BF (Cv.1 hp) (fun k hk=>?_);have hu:=YW hk;refine Xi 0 ?_;refine Or.inl (Xi (.slice (.id (k+50) 9) (J7 (x.take i) x[i].path)) (Yi hu ?_));refine yN ?_;have hr:PQ (x.take i) (k+50)=.tok 9 (J7 (x.take i) x[i].path).length:=by rw[hP,aG hk]
   have hl:(J7 (x.take i) x[i].path).length<=256:=by rw[Lm];exact hL
   refine RW (e:=79) (m:=8) (es2:=[Bb x[i]]) rfl rfl rfl (fun _ h=>h) hr ⟨rfl,trivial⟩ (by show(_+1)*120<=_;omega) (by show _+1<=_;omega) ?_;have p8:k<256:=by
    have:=(Au.1 hk).1
    have:=Je (x.take i) []
    rw[Al]at this;simp only[Aw]at this;omega
   have gp:=hk;refine Yi (KT ⟨B6 _,B6 _,B6 _,B6 _,B6 _,B6 _,B6 _,B6 _,B6 _,B6 _,Fs (show 39<10000000 by decide),Fs (by show _+50<10000000;omega),Fs (show 9<10000000 by decide),trivial⟩ sT) ?_;have e9:FN (M5 (x.take i)) (.string x[i].path) (.slice (.id (k+50) 9) (J7 (x.take i) x[i].path++[Bb x[i]]))=M5 (x.take (i+1)):=by rw[K8];exact bY gp
   have hG:∀l,(bif Nat.beq (l+50) (k+50)then HO.tok 9 ((J7 (x.take i) x[i].path).length+1)else G8 (x.take i) l)=G8 (x.take (i+1)) l:=by rw[K8];exact dj gp
   refine Xi ⟨[(2,.ref 2 0),(4,.ref 4 0),(18,sl Bb x),(19,vi (x.map Bb).length),(20,vi i)],[(2,.cells zT),(4,.cells [.mref 8,.mref 9]),(8,.map OI ((x.take (i+1)).map Ri)),(9,.mapU UK (M5 (x.take (i+1))))],PQ (x.take (i+1))⟩ (Yi ?_ ?_)
   .refine⟨Z5,⟨Zr,Zr,Zr,⟨Aa (HO.mapU UK) e9,In _ (FI _)⟩,Tv⟩,GY (fun l=>?_),Tv⟩;show(bif Nat.beq (l+50) (k+50)then HO.tok 9 ((J7 (x.take i) x[i].path).length+1)else PQ (x.take i) (l+50))=_;rw[hP];exact hG l
   refine Xi 0 (Yi (Ii i sP) (Xi ⟨i+1,by omega⟩ ?_));exact⟨Dl x.length i sP,Z5,⟨Zr,Zr,Zr,⟨rfl,In _ (FI _)⟩,Tv⟩,GY (FI _),Tv⟩
  .have gp:=hp;have I6:(Bp (x.take i) []).length<=256:=by
    have:=Je (x.take i) []
    rw[Al]at this;simp only[Aw]at this;omega
   have hn:=Su hp;refine Xi ((Bp (x.take i) []).length+50) ?_;refine Or.inr (Yi hn ?_);refine yN ?_;have hr:PQ (x.take i) ((Bp (x.take i) []).length+50)=.free:=by
    rw[hP];unfold G8;rw[AN (Ad _)]
   refine RV (e:=79) (m:=8) (es2:=[Bb x[i]]) rfl rfl rfl (fun _ h=>h) hr rfl ⟨rfl,trivial⟩ (by show 1*120<=_;omega) (by show 1<=_;omega) (Yi (KT ⟨B6 _,B6 _,B6 _,B6 _,B6 _,B6 _,B6 _,B6 _,B6 _,B6 _,Fs (show 39<10000000 by decide),Fs (by show _+50<10000000;omega),Fs (show 9<10000000 by decide),trivial⟩ sT) ?_);have e9:FN (M5 (x.take i)) (.string x[i].path) (.slice (.id ((Bp (x.take i) []).length+50) 9) [Bb x[i]])=M5 (x.take (i+1)):=by rw[K8];exact bX gp
   have hG:∀l,(bif Nat.beq (l+50) ((Bp (x.take i) []).length+50)then HO.tok 9 1 else G8 (x.take i) l)=G8 (x.take (i+1)) l:=by rw[K8];exact di gp
   refine Xi ⟨[(2,.ref 2 0),(4,.ref 4 0),(18,sl Bb x),(19,vi (x.map Bb).length),(20,vi i)],[(2,.cells zT),(4,.cells [.mref 8,.mref 9]),(8,.map OI ((x.take (i+1)).map Ri)),(9,.mapU UK (M5 (x.take (i+1))))],PQ (x.take (i+1))⟩ (Yi ?_ ?_)
   .refine⟨Z5,⟨Zr,Zr,Zr,⟨Aa (HO.mapU UK) e9,In _ (FI _)⟩,Tv⟩,GY (fun l=>?_),Tv⟩;show(bif Nat.beq (l+50) ((Bp (x.take i) []).length+50)then HO.tok 9 1 else PQ (x.take i) (l+50))=_;rw[hP];exact hG l
   refine Xi 0 (Yi (Ii i sP) (Xi ⟨i+1,by omega⟩ ?_));exact⟨Dl x.length i sP,Z5,⟨Zr,Zr,Zr,⟨rfl,In _ (FI _)⟩,Tv⟩,GY (FI _),Tv⟩
 .intro h;have h:¬i<x.length:=by simpa using h
  have et:x.take i=x:=As sP;refine Xi ⟨[(2,.ref 2 0),(4,.ref 4 0)],[(2,.cells zT),(4,.cells [.mref 8,.mref 9]),(8,.map OI ((x.take i).map Ri)),(9,.mapU UK (M5 (x.take i)))],PQ (x.take i)⟩ (Yi ?_ ?_)
  .exact⟨Z2,⟨Zr,Zr,Zr,⟨rfl,In _ (FI _)⟩,Tv⟩,GY (FI _),Tv⟩
  refine Xi 0 (yN (yN (yN ?_)));have es:∀h:Nat->HO,TF h (M5 (x.take i))=(Bp x []).map (mc x):=fun h=>by
   rw[et];unfold TF M5;rw[Cw];refine Cc fun j=>?_;rw[Ap,Ap,List.getElem?_zipIdx];cases (Bp x [])[j]?<;>rfl
  have e1:(x.take i).map Ri=x.map Ri:=by rw[et]
  exact .of_eq (show AV.tup [.agg [.cmap OI ((x.take i).map Ri),.cmap UK (TF _ (M5 (x.take i)))],vi 0]=_ by rw[e1,es])
end
theorem c84(x:List Rl)(ifs:List (List AV))(hx:∀r∈x,KF r):dA x ifs:=by
 by_cases h0:BA x=0
 .exact fo x ifs (lO V4 x ifs hx) h0 (Zp h0).1
 .exact bG x ifs (lO V4 x ifs hx) h0
def Jj(q:Rq):Bool:=decide (q.path.size<=100)&&decide (q.set.length<=8)
def D6:Bool:=l.all Jj&&decide (l.length<=20)
theorem px(hl:CC l):PC 37 [sl BU l] (vb (D6 l)):=by
 unfold CC at hl;refine Ps Dj Tryz.func37 rfl (Nz rfl) (Xi {i:Nat // i<=l.length/\∀j (hj:j<l.length),j<i->Jj l[j]=true} (Xi (fun i=>⟨[(0,sl BU l),(3,vi i.1)],[],Ao⟩) (Xi (fun i=>l.length-i.1) (Yi (Xi ⟨0,Ar _,fun j _ h=>by omega⟩ ?_) ?_))))
 .exact⟨Z2,Tv,Fh,Tv⟩
 intro⟨i,h1,h2⟩;refine Yi ?_ ?_
 .intro h;have h:i<l.length:=by simpa using h
  have hg:l[i]?=some l[i]:=Ge h;have no:Jj l[i]=false->false=D6 l:=fun e=>by
   unfold D6
   have:l.all Jj=false:=by
    rw[A8];intro ha
    have:=AJ.1 ha _ (Af h)
    rw[e]at this;cases this
   rw[this];rfl
  refine Xi (BU l[i]) (Yi (Yi (Nn i) (by simp[hg])) (Yi rfl ?_));refine Yi ?_ ?_
  .intro h3;exact .of_eq (Aa vb (no (by unfold Jj;rw[Ae sP];rfl)))
  intro h3;refine Xi (BU l[i]) (Yi (Yi (Nn i) (by simp[hg])) (Yi rfl ?_));refine Yi ?_ ?_
  .intro h4;rw[Lm]at h4;exact .of_eq (Aa vb (no (by unfold Jj;rw[Ae (by omega:¬l[i].set.length<=8),CN])))
  intro h4;have h5:l[i].set.length<=8:=by rw[Lm]at h4;omega
  refine Yi (Ii i sP) (Xi ⟨i+1,by omega,fun j hj Gn=>?_⟩ ?_)
  .rcases Be j i with z | z
   .exact h2 j hj z
   .have:j=i:=by omega
    subst this;unfold Jj;rw[Ah sP,Ah h5];rfl
  .exact⟨Dl l.length i sP,Z2,Tv,Fh,Tv⟩
 .intro h;have h:¬i<l.length:=by simpa using h
  have ha:l.all Jj=true:=AJ.2 fun q hq=>by
   obtain⟨j,hj,rfl⟩:=BB hq;exact h2 j hj sP
  refine Yi ?_ ?_
  .intro h3;rw[Lm]at h3;exact .of_eq (Aa vb (show true=D6 l by unfold D6;rw[ha,Ah sP];rfl))
  .intro h3;rw[Lm]at h3;exact .of_eq (Aa vb (show false=D6 l by unfold D6;rw[Ae sP,CN]))
def G5:Bool:=decide (r.path.size<=100)&&decide (r.arch.size<=100)&&decide (r.ifc.size<=100)&&decide (r.cert.size<=100)&&D6 r.reqs
def E0(x:List Rl)(n:Nat):Bool:=x.all G5&&decide (x.length<=n)
theorem qH(x:List Rl)(n:Nat)(hl:CC x)(hr:∀r∈x,CC r.reqs):PC 36 [sl Bb x,vi n] (vb (E0 x n)):=by
 unfold CC at hl;refine Ps Dj Tryz.func36 rfl (Nz rfl) (Xi {i:Nat // i<=x.length/\∀j (hj:j<x.length),j<i->G5 x[j]=true} (Xi (fun i=>⟨[(0,sl Bb x),(1,vi n),(5,vi i.1)],[],Ao⟩) (Xi (fun i=>x.length-i.1) (Yi (Xi ⟨0,Ar _,fun j _ h=>by omega⟩ ?_) ?_))))
 .exact⟨Z3,Tv,Fh,Tv⟩
 intro⟨i,h1,h2⟩;refine Yi ?_ ?_
 .intro h;have h:i<x.length:=by simpa using h
  have hg:x[i]?=some x[i]:=Ge h;have no:G5 x[i]=false->false=E0 x n:=fun e=>by
   unfold E0
   have:x.all G5=false:=by
    rw[A8];intro ha
    have:=AJ.1 ha _ (Af h)
    rw[e]at this;cases this
   rw[this];rfl
  have hc:=px x[i].reqs (hr _ (Af h));refine Xi (Bb x[i]) (Yi (Yi (Nn i) (by simp[hg])) (Yi rfl ?_));refine Yi ?_ ?_
  .intro h3;exact .of_eq (Aa vb (no (by unfold G5;rw[Ae (by omega:¬x[i].path.size<=100)];simp)))
  intro h3;refine Xi (Bb x[i]) (Yi (Yi (Nn i) (by simp[hg])) (Yi rfl ?_));refine Yi ?_ ?_
  .intro h4;exact .of_eq (Aa vb (no (by unfold G5;rw[Ae (by omega:¬x[i].arch.size<=100)];simp)))
  intro h4;refine Xi (Bb x[i]) (Yi (Yi (Nn i) (by simp[hg])) (Yi rfl ?_));refine Yi ?_ ?_
  .intro h5;exact .of_eq (Aa vb (no (by unfold G5;rw[Ae (by omega:¬x[i].ifc.size<=100)];simp)))
  intro h5;refine Xi (Bb x[i]) (Yi (Yi (Nn i) (by simp[hg])) (Yi rfl ?_));refine Yi ?_ ?_
  .intro h6;exact .of_eq (Aa vb (no (by unfold G5;rw[Ae (by omega:¬x[i].cert.size<=100)];simp)))
  intro h6;refine Xi (Bb x[i]) (Yi (Yi (Nn i) (by simp[hg])) (Yi rfl ?_));refine Bn (Bt (D6 x[i].reqs)) (fun e=>?_) (fun e=>?_)
  rotate_left
  .rw[e]at hc;refine Xi .pure (Xi _ (Yi (hc) ?_));exact .of_eq (Aa vb (no (by unfold G5;rw[e,CN])))
  rw[e]at hc;refine Xi .pure (Xi _ (Yi (hc) (Yi (Ii i sP) (Xi ⟨i+1,by omega,fun j hj Gn=>?_⟩ ?_))))
  .rcases Be j i with z | z
   .exact h2 j hj z
   .have:j=i:=by omega
    subst this;unfold G5;rw[Ah (by omega:x[j].path.size<=100),Ah (by omega:x[j].arch.size<=100),Ah (by omega:x[j].ifc.size<=100),Ah (by omega:x[j].cert.size<=100),e];rfl
  .exact⟨Dl x.length i sP,Z3,Tv,Fh,Tv⟩
 .intro h;have h:¬i<x.length:=by simpa using h
  have ha:x.all G5=true:=AJ.2 fun q hq=>by
   obtain⟨j,hj,rfl⟩:=BB hq;exact h2 j hj sP
  refine Yi ?_ ?_
  .intro h3;rw[Lm]at h3;exact .of_eq (Aa vb (show true=E0 x n by unfold E0;rw[ha,Ah sP];rfl))
  .intro h3;rw[Lm]at h3;exact .of_eq (Aa vb (show false=E0 x n by unfold E0;rw[Ae sP,CN]))
theorem c11(x:List Rl)(ifs:List (List AV))(roots:List Rq)(hl:CC x)(hr:∀r∈x,CC r.reqs)(hq:CC roots):PC 10 [WG x ifs,sl BU roots] (vb (E0 x 16&&D6 roots)):=by
 have h1:=qH x 16 hl hr;have h2:=px roots hq;cases e:E0 x 16 with
 |true=>
  rw[e]at h1;refine Ps Dj Tryz.func10 rfl (Nz rfl) (Xi .pure (Xi _ (Yi (h1) (Xi .pure (Xi _ (Yi (h2) ?_))))));exact .refl _
 |false=>
  rw[e]at h1;refine Ps Dj Tryz.func10 rfl (Nz rfl) (Xi .pure (Xi _ (Yi (h1) ?_)));exact .refl _
structure bq(x:List Rl)(roots:List Rq):Prop where
 ix:CC x
 rs:CC roots
 rel:∀r∈x,CC r.reqs/\KF r
 rq:∀q∈roots,bp q
theorem bq.x{x:List Rl}{roots:List Rq}(h:bq x roots):∀r∈x,KF r:=fun r hr=>(h.rel r hr).2
theorem bq.c11{x:List Rl}{roots:List Rq}(h:bq x roots)(ifs:List (List AV)):PC 10 [WG x ifs,sl BU roots] (vb (E0 x 16&&D6 roots)):=
 Go.Eng.c11 x ifs roots h.ix (fun r hr=>(h.rel r hr).1) h.rs
end Go.Eng
namespace Go.Eng
variable {i:Nat}{tl:List AV}{m:Nat}(x a w:Int)(s:ByteArray)(ws:List Int)(k b:Int)
abbrev Dt:AV:=.v (.int .u32 x)
theorem E6{cs r:List AV}{a:AV}{K:AV->Prop}(h:cs=a::r)(k:K a):HQ cs K:=by rw[h];exact k
theorem KU{l:List AV}{n:Nat}{a:AV}(h:l[n]?=some a)(e:m=n):l.drop m=a::l.drop (n+1):=by
 subst e;obtain⟨h1,h2⟩:=Au.1 h;rw[<-h2];exact AG h1
theorem ee{a:AV}:∀{l:List AV} {n:Nat},over l n [a]=l.set n a
 | [],_=>rfl
 |c::l,0=>by cases l<;>rfl
 |c::l,n+1=>by show c::over l n [a]=_;rw[ee (l:=l)];rfl
def FB:Int:=BV .or .u32 (B0 .shl .u32 x (BV .and .u64 (IntKind.wrap .u64 k) 31)) (B0 .shr .u32 x (IntKind.wrap .u64 (32-BV .and .u64 (IntKind.wrap .u64 k) 31)))
def xr:Int:=BV .xor .u32 a b
def an:Int:=BV .and .u32 a b
def nt:Int:=BV .xor .u32 4294967295 a
def ad:Int:=IntKind.wrap .u32 (a+b)
def gL(c:Int):Int:=xr (xr (FB x (-a)) (FB x (-b))) (FB x (-c))
def ZH(s:Int):Int:=xr (xr (FB x (-a)) (FB x (-b))) (B0 .shr .u32 x s)
def Bl(i:Nat):UInt8:=s.data[i]?.getD 0
def Ka(s:ByteArray)(i:Nat):Nat->Int
 |0=>0
 |k+1=>BV .or .u32 (B0 .shl .u32 (Ka s i k) 8) (IntKind.wrap .u32 ((Bl s (4*i+k)).toNat:Int))
def DR(i:Nat):Int:=ws[i]?.getD 0
def Oj(i:Nat):Int:=
 if i<16 then Ka s i 4 else ad (ad (ad (ZH (DR ws (i-2)) 17 19 10) (DR ws (i-7))) (ZH (DR ws (i-15)) 7 18 3)) (DR ws (i-16))
def BE(s:ByteArray):Nat->List Int
 |0=>[]
 |i+1=>BE s i++[Oj s (BE s i) i]
theorem DD(s:ByteArray):∀i,(BE s i).length=i
 |0=>rfl
 |i+1=>by rw[BE,Ac,DD s i];rfl
theorem OS{ws:List Int}(h:i<ws.length):ws[i]?=some (DR ws i):=by rw[DR,Ge h];rfl
structure S8 where
 (a b c d e f g h:Int)
def S8.l(v:S8):List Int:=[v.a,v.b,v.c,v.d,v.e,v.f,v.g,v.h]
abbrev Sm(v:S8):List AV:=[Dt v.a,Dt v.b,Dt v.c,Dt v.d,Dt v.e,Dt v.f,Dt v.g,Dt v.h]
def qp(v:S8):Int:=ad (ad (ad (ad v.h (gL v.e 6 11 25)) (xr (an v.e v.f) (an (nt v.e) v.g))) k) w
def r7(v:S8):Int:=ad (gL v.a 2 13 22) (xr (xr (an v.a v.b) (an v.a v.c)) (an v.b v.c))
def o6(v:S8):S8:=⟨ad (qp w k v) (r7 v),v.a,v.b,v.c,ad v.d (qp w k v),v.e,v.f,v.g⟩
def Dk(ws ks:List Int)(v:S8):Nat->S8
 |0=>v
 |i+1=>o6 (DR ws i) (DR ks i) (Dk ws ks v i)
def bt(v r:S8):S8:=⟨ad v.a r.a,ad v.b r.b,ad v.c r.c,ad v.d r.d,ad v.e r.e,ad v.f r.f,ad v.g r.g,ad v.h r.h⟩
def kK:List Int:=[0x428a2f98,0x71374491,0xb5c0fbcf,0xe9b5dba5,0x3956c25b,0x59f111f1,0x923f82a4,0xab1c5ed5,
 0xd807aa98,0x12835b01,0x243185be,0x550c7dc3,0x72be5d74,0x80deb1fe,0x9bdc06a7,0xc19bf174,
 0xe49b69c1,0xefbe4786,0x0fc19dc6,0x240ca1cc,0x2de92c6f,0x4a7484aa,0x5cb0a9dc,0x76f988da,
 0x983e5152,0xa831c66d,0xb00327c8,0xbf597fc7,0xc6e00bf3,0xd5a79147,0x06ca6351,0x14292967,
 0x27b70a85,0x2e1b2138,0x4d2c6dfc,0x53380d13,0x650a7354,0x766a0abb,0x81c2c92e,0x92722c85,
 0xa2bfe8a1,0xa81a664b,0xc24b8b70,0xc76c51a3,0xd192e819,0xd6990624,0xf40e3585,0x106aa070,
 0x19a4c116,0x1e376c08,0x2748774c,0x34b0bcb5,0x391c0cb3,0x4ed8aa4a,0x5b9cca4f,0x682e6ff3,
 0x748f82ee,0x78a5636f,0x84c87814,0x8cc70208,0x90befffa,0xa4506ceb,0xbef9a3f7,0xc67178f2]
def RB(v:S8)(s:ByteArray):S8:=bt v (Dk (BE s 64) kK v 64)
def My(v r:S8)(i:Nat)(tl:List AV):List AV:=
 Dt (if 0<i then ad v.a r.a else v.a)::Dt (if 1<i then ad v.b r.b else v.b)::Dt (if 2<i then ad v.c r.c else v.c)::Dt (if 3<i then ad v.d r.d else v.d) ::
 Dt (if 4<i then ad v.e r.e else v.e)::Dt (if 5<i then ad v.f r.f else v.f)::Dt (if 6<i then ad v.g r.g else v.g)::Dt (if 7<i then ad v.h r.h else v.h)::tl
def Ca(v:S8)(b:ByteArray):S8×ByteArray:=
 if 64<=b.size then Ca (RB v (b.extract 0 64)) (b.extract 64 b.size)else(v,b)
termination_by b.size
decreasing_by simp only[BO];omega
def SN:S8:=⟨1779033703,3144134277,1013904242,2773480762,1359893119,2600822924,528734635,1541459225⟩
structure HS where
 v:S8
 rest:ByteArray
 tot:Int
abbrev Fo(x:HS):List AV:=[Dt x.v.a,Dt x.v.b,Dt x.v.c,Dt x.v.d,Dt x.v.e,Dt x.v.f,Dt x.v.g,Dt x.v.h,vs x.rest,.v (.int .u64 x.tot)]
def FU(x:HS)(s:ByteArray):HS:=⟨(Ca x.v (x.rest++s)).1,(Ca x.v (x.rest++s)).2,IntKind.wrap .u64 (x.tot+IntKind.wrap .u64 (s.size:Int))⟩
def MW(n:Int):ByteArray:=⟨((List.range 8).map fun(i:Nat)=>UInt8.ofNat (IntKind.wrap .u8 (B0 .shr .u64 n (56-8*(i:Int)))).toNat).toArray⟩
def Db:List UInt8:=[UInt8.ofNat (IntKind.wrap .u8 (B0 .shr .u32 x 24)).toNat,UInt8.ofNat (IntKind.wrap .u8 (B0 .shr .u32 x 16)).toNat,UInt8.ofNat (IntKind.wrap .u8 (B0 .shr .u32 x 8)).toNat,UInt8.ofNat (IntKind.wrap .u8 x).toNat]
def XL(n:Nat):ByteArray:=⟨(List.replicate n 0).toArray⟩
def Di(x:HS):ByteArray:=(⟨#[128]⟩++XL ((119-(x.rest.size:Int)) % 64).toNat)++MW (IntKind.wrap .u64 (8*x.tot))
def Xx(x:HS):ByteArray:=⟨(((FU x (Di x)).v.l).flatMap Db).toArray⟩
def HY:HS:=⟨SN,⟨#[]⟩,0⟩
theorem Yw{b:Bool}{p:Prop}(h:b=true)(k:p):(match(generalizing:=false) b with | true=>p | false=>False):=by subst h;exact k
theorem mapU(h:Nat->HO):∀ws:List Int,(ws.map Dt).map (str0 h)=ws.map Dt
 | []=>rfl
 |_::ws=>Aa (_ :: ·) (mapU h ws)
theorem pj{h:Nat->HO}{l:List AV}{ws:List Int}(e:l=ws.map Dt):D7 (.agg (l.map (str0 h))) (.agg (ws.map Dt)):=by
 rw[e,mapU];exact .refl _
theorem eR{l:List AV}{a:AV}{n:Nat}(h:l.length=n):(l++a::tl)[n]?=some a:=by
 subst h;rw[AL (Ad _),DB];rfl
theorem Rm{ws:List Int}(h:i<ws.length):(ws.map Dt++tl)[i]?=some (Dt (DR ws i)):=by
 rw[AQ (by rw[Lm];exact h),Ap,OS h];rfl
theorem Rn{ws:List Int}(h:i<ws.length):(ws.map Dt)[i]?=some (Dt (DR ws i)):=by
 rw[Ap,OS h];rfl
theorem Lj{a b:AV}{tl:List AV}:∀{l:List AV} {n:Nat},l.length=n->over (l++a::tl) n [b]=l++b::tl
 | [],_,rfl=>by cases tl<;>rfl
 |c::l,_,rfl=>by show c::over (l++a::tl) l.length [b]=_;rw[Lj rfl];rfl
theorem Jd:∀{z l:List AV},z.length=l.length->over z 0 l=l
 | [],[],_=>rfl
 | [],_::_,h=>by cases h
 |_::_,[],h=>by cases h
 |_::z,b::l,h=>by show b::over z 0 l=_;rw[Jd (Nat.succ.inj h)]
theorem FG{s:ByteArray}{z:Int}{n:Nat}(h:n<s.size)(e:z=(n:Int)):(0:Int)<=z/\s.data[z.toNat]?=some (Bl s n):=by
 subst e;refine⟨KG n,?_⟩;have h:n<s.data.size:=h;rw[A1,Bl,AY h];rfl
def S8.n(v:S8)(i:Nat):Int:=DR v.l i
theorem dK{v:S8}(h:i<8)(e:m=i):(Sm v).drop m=Dt (v.n i)::(Sm v).drop (i+1):=
 KU (Rn (ws:=v.l) h) e
theorem YH{v r:S8}(h:i<8)(e:m=i):(My v r i tl).drop m=Dt (v.n i)::(My v r i tl).drop (i+1):=by
 refine KU ?_ e
 match i,h with
 |0,_ |1,_ |2,_ |3,_ |4,_ |5,_ |6,_ |7,_=>rfl
theorem ZW{v r:S8}(h:i<8)(e:m=i):over (My v r i tl) m [Dt (ad (v.n i) (r.n i))]=My v r (i+1) tl:=by
 subst e;rw[ee]
 match m,h with
 |0,_ |1,_ |2,_ |3,_ |4,_ |5,_ |6,_ |7,_=>rfl
theorem VD{n:Nat}(h:n<64):List.replicate (64-n) (Dt 0)=Dt 0::List.replicate (64-(n+1)) (Dt 0):=by
 rw[show 64-n=(64-(n+1))+1 by omega];rfl
theorem TE{s:ByteArray}{x:Int}(h:x=Oj s (BE s i) i):(BE s i).map Dt++Dt x::List.replicate (64-(i+1)) (Dt 0)=(BE s (i+1)).map Dt++List.replicate (64-(i+1)) (Dt 0):=by
 rw[h,BE,AK,B2];rfl
theorem gx(h:Nat->HO)(tl:List AV):∀ws:List Int,Re h (ws.map Dt++tl)=Re h tl
 | []=>rfl
 |_::ws=>gx h tl ws
theorem gw(h:Nat->HO):∀n:Nat,Re h (List.replicate n (Dt 0))=true
 |0=>rfl
 |n+1=>gw h n
theorem Us(h:Nat->HO):∀ws:List Int,N4 h (.cells (ws.map Dt))=true
 | []=>rfl
 |_::ws=>Us h ws
theorem gy(h:Nat->HO)(ws:List Int)(n:Nat):N4 h (.cells (ws.map Dt++List.replicate n (Dt 0)))=true:=(gx h _ ws).trans (gw h n)
theorem kJ(h:Nat->HO)(ws:List Int)(x:Int)(n:Nat):N4 h (.cells (ws.map Dt++Dt x::List.replicate n (Dt 0)))=true:=(gx h _ ws).trans (gw h n)
theorem OG(i:Nat):((BE s i).map Dt).length=i:=by rw[Lm,DD]
end Go.Eng
namespace Go.Eng
open Go.Proofs
variable {α:Type}{f:α->List AV}{l:List α}{args:List AV}{O:List α}{i n:Nat}(a:Int)
theorem BL.to2{P:Program}{f:Nat}{h0:Nat->HO}{r0:AV}{H0:Nat->HO}{Q' : AV->(Nat->HO)->Prop}(h:BL P f args h0 fun r h'=>r=r0/\h'=H0)(k:Q' r0 H0):BL P f args h0 Q':=
 h.mono fun r h' q=>⟨r,.refl _,by rw[q.1,q.2];exact k⟩
theorem cb{f:Nat}{b x:Bool}(h:b=x)(hc:PC f args (vb b)):PC f args (vb x):=h▸hc
theorem FL(h:(i:Int)<((l.map f).length:Int)):i<l.length:=by rw[Lm]at h;omega
theorem DC(h:¬(i:Int)<((l.map f).length:Int)):¬i<l.length:=by rw[Lm]at h;omega
theorem GR(h:i<l.length):(0:Int)<=(i:Int)/\(l.map f)[((i:Nat):Int).toNat]?=some (f l[i]):=⟨KG _,by rw[A1,Ap,Ge h];rfl⟩
theorem jq{z:Nat}{x:List AV}(hx:x.length=n)(h:O.length<=2147483647)(hz:z<=65536) :
  Cn n [x]/\(O.map f).length=O.length/\((O.map f).length+([x]:List (List AV)).length)*z<=140737488355328/\(O.map f).length+([x]:List (List AV)).length<=9223372036854775807:=by
 refine⟨⟨hx,trivial⟩,Lm _,?_,?_⟩<;>rw[Lm]<;>simp only[Am,Aw]
 .have:=Nat.mul_le_mul (show O.length+(0+1)<=2147483648 by omega) hz
  omega
 .omega
theorem l5{x:α}{y:List AV}:HO.tok n ((O.map f).length+([y]:List (List AV)).length)=.tok n (O++[x]).length:=by rw[Ac,Lm];rfl
theorem TM:0<=IntKind.wrap .u64 a:=G9 _ sR
theorem Yn(b:Int):0<=BV .and .u64 a b:=TM _
theorem TJ(x k:Int):PC 169 [.v (.int .u32 x),vi k] (.v (.int .u32 (FB x k))):=by
 refine Ps Dj Tryz.func169 rfl (Nz rfl) (Yi (Yn _ _) (Yi (TM _) ?_));exact .refl _
theorem aN(x a b c:Int)(ha:0<=a/\a<=64)(hb:0<=b/\b<=64)(hc:0<=c):PC 222 [.v (.int .u32 x),vi a,vi b,vi c] (.v (.int .u32 (ZH x a b c))):=by
 refine Ps Dj Tryz.func222 rfl (Nz rfl) (Yi (by show AE (-a);unfold AE;omega) (Xi _ (Yi (TJ x (-a)) (Yi (by show AE (-b);unfold AE;omega) (Xi _ (Yi (TJ x (-b)) (Yi hc (Yi sT ?_))))))));exact .refl _
theorem aM(x a b c:Int)(ha:0<=a/\a<=64)(hb:0<=b/\b<=64)(hc:0<=c)(hd:c<=64):PC 168 [.v (.int .u32 x),vi a,vi b,vi c] (.v (.int .u32 (gL x a b c))):=by
 refine Ps Dj Tryz.func168 rfl (Nz rfl) (Yi (by show AE (-a);unfold AE;omega) (Xi .pure (Xi _ (Yi (TJ x (-a)) (Yi (by show AE (-b);unfold AE;omega) (Xi .pure (Xi _ (Yi (TJ x (-b)) (Yi (by show AE (-c);unfold AE;omega) (Xi .pure (Xi _ (Yi (TJ x (-c)) ?_))))))))))));exact .refl _
set_option maxRecDepth 100000 in
theorem dp  : PC 171 [] (.agg (kK.map Dt)):=by
 refine Ps Dj Tryz.func171 rfl (Nz rfl) (yN (yN ?_));exact .refl _
theorem lD(s:ByteArray)(hs:s.size=64):PC 170 [vs s] (.agg ((BE s 64).map Dt)):=by
 refine Ps Dj Tryz.func170 rfl (Nz rfl) (Xi {q:Nat // q<=64} (Xi (fun q=>⟨[(0,vs s),(2,.ref 2 0),(3,.ref 3 0),(4,.v (.func (.func 222) #[] #[])),(7,vi q.1)],[(2,.cells (List.replicate 64 (Dt 0))),(3,.cells ((BE s q.1).map Dt++List.replicate (64-q.1) (Dt 0)))],Ao⟩) (Xi (fun q=>64-q.1) (Yi (Xi ⟨0,Ar _⟩ ?_) ?_))))
 .exact⟨Z5,⟨Zr,⟨rfl,(gy _ _ _)⟩,Tv⟩,Fh,Tv⟩
 intro⟨i,i1⟩;have i1:i<=64:=i1;refine Yi (fun h1=>?_) (fun h1=>?_)
 .have h1:(i:Int)<(64:Int):=h1;refine Yi (fun h2=>?_) (fun h2=>?_)
  .have h2:(i:Int)<(16:Int):=h2;refine Xi {q:Nat // q<=4} (Xi (fun q=>⟨[(0,vs s),(2,.ref 2 0),(3,.ref 3 0),(4,.v (.func (.func 222) #[] #[])),(5,vi i),(7,vi i),(12,vi q.1)],[(2,.cells (List.replicate 64 (Dt 0))),(3,.cells ((BE s i).map Dt++Dt (Ka s i q.1)::List.replicate (64-(i+1)) (Dt 0)))],Ao⟩) (Xi (fun q=>4-q.1) (Yi (Xi ⟨0,Ar _⟩ ?_) ?_)))
   .exact⟨Z7,⟨Zr,⟨(Aa (fun z=>HO.cells ((BE s i).map Dt++z)) (VD (show i<64 by omega))),(kJ _ _ _ _)⟩,Tv⟩,Fh,Tv⟩
   intro⟨k,k1⟩;have k1:k<=4:=k1;refine Yi (fun h3=>?_) (fun h3=>?_)
   .have h3:(k:Int)<(4:Int):=h3;refine Yi (show(0:Int)<=i/\(i:Int)<(64:Nat)from by omega) (E6 (KU (eR (OG s i)) (show(0+(i:Int).toNat*1)=i by omega)) (Yi sR (Yi (by show AE ((4:Int)*(i:Int));unfold AE;omega) (Yi (by show AE ((4*i:Int)+(k:Int));unfold AE;omega) (Xi (Bl s (4*i+k)) (Yi (FG (z:=(4*i)+k) (show 4*i+k<s.size by omega) sP) (Yi (show(0:Int)<=i/\(i:Int)<(64:Nat)from by omega) (Yi (show(0+(i:Int).toNat*1)+1<=(((BE s i).map Dt++Dt (Ka s i k)::List.replicate (64-(i+1)) (Dt 0))).length from by rw[Ac,OG];simp only[Am,A7];omega) ?_))))))));refine Yi sT (Yi (Ii k sP) (Xi ⟨k+1,by omega⟩ ?_));exact⟨Dl 4 k sP,Z7,⟨Zr,⟨(show HO.cells (over ((BE s i).map Dt++Dt (Ka s i k)::List.replicate (64-(i+1)) (Dt 0)) (0+(i:Int).toNat*1) [.v (.int .u32 (BV .or .u32 (B0 .shl .u32 (Ka s i k) 8) (IntKind.wrap .u32 ((Bl s (4*i+k)).toNat:Int))))])=.cells ((BE s i).map Dt++Dt (Ka s i (k+1))::List.replicate (64-(i+1)) (Dt 0))from Aa HO.cells (Lj (by rw[OG];omega))),(kJ _ _ _ _)⟩,Tv⟩,Fh,Tv⟩
   have h3:¬((k:Int)<(4:Int)):=h3;refine Yi (Ii i sP) (Xi ⟨i+1,by omega⟩ ?_);exact⟨Dl 64 i sP,Z5,⟨Zr,⟨(Aa HO.cells (TE (show Ka s i k=Oj s (BE s i) i by rw[Oj,Av sP,show k=4 by omega]))),(gy _ _ _)⟩,Tv⟩,Fh,Tv⟩
  have h2:¬((i:Int)<(16:Int)):=h2;refine Yi (by show AE ((i:Int)-(2:Int));unfold AE;omega) (Yi (show(0:Int)<=i-2/\(i-2:Int)<(64:Nat)from by omega) (E6 (KU (Rm (show i-2<(BE s i).length by rw[DD];omega)) (show(0+(i-2:Int).toNat*1)=i-2 by omega)) (Xi _ (Yi (aN (DR (BE s i) (i-2)) 17 19 10 sR sR sR) (Yi (by show AE ((i:Int)-(7:Int));unfold AE;omega) (Yi (show(0:Int)<=i-7/\(i-7:Int)<(64:Nat)from by omega) (E6 (KU (Rm (show i-7<(BE s i).length by rw[DD];omega)) (show(0+(i-7:Int).toNat*1)=i-7 by omega)) (Yi (by show AE ((i:Int)-(15:Int));unfold AE;omega) (Yi (show(0:Int)<=i-15/\(i-15:Int)<(64:Nat)from by omega) (E6 (KU (Rm (show i-15<(BE s i).length by rw[DD];omega)) (show(0+(i-15:Int).toNat*1)=i-15 by omega)) (Xi _ (Yi (aN (DR (BE s i) (i-15)) 7 18 3 sR sR sR) (Yi (by show AE ((i:Int)-(16:Int));unfold AE;omega) (Yi (show(0:Int)<=i-16/\(i-16:Int)<(64:Nat)from by omega) (E6 (KU (Rm (show i-16<(BE s i).length by rw[DD];omega)) (show(0+(i-16:Int).toNat*1)=i-16 by omega)) (Yi (show(0:Int)<=i/\(i:Int)<(64:Nat)from by omega) (Yi (show(0+(i:Int).toNat*1)+1<=(((BE s i).map Dt++List.replicate (64-i) (Dt 0))).length from by rw[Ac,OG];simp only[A7];omega) ?_)))))))))))))))));refine Yi sT (Yi (Ii i sP) (Xi ⟨i+1,by omega⟩ ?_));exact⟨Dl 64 i sP,Z5,⟨Zr,⟨(show HO.cells (over ((BE s i).map Dt++List.replicate (64-i) (Dt 0)) (0+(i:Int).toNat*1) [.v (.int .u32 (IntKind.wrap .u32 ((IntKind.wrap .u32 ((IntKind.wrap .u32 ((ZH (DR (BE s i) (i-2)) 17 19 10)+(DR (BE s i) (i-7))))+(ZH (DR (BE s i) (i-15)) 7 18 3)))+(DR (BE s i) (i-16)))))])=.cells ((BE s (i+1)).map Dt++List.replicate (64-(i+1)) (Dt 0))from Aa HO.cells (by rw[VD (show i<64 by omega),Lj (by rw[OG];omega)];exact TE (by rw[Oj,Aj sP];rfl))),(gy _ _ _)⟩,Tv⟩,Fh,Tv⟩
 have h1:¬((i:Int)<(64:Int)):=h1;refine Yi (show 64<=((BE s i).map Dt++List.replicate (64-i) (Dt 0)).length by rw[Ac,OG,A7];omega) ?_
 conv=>whnf
 refine Yw (show Nat.beq (((BE s i).map Dt++List.replicate (64-i) (Dt 0)).take 64).length 64=true from by rw[show(((BE s i).map Dt++List.replicate (64-i) (Dt 0)).take 64).length=64 by rw[Al,Ac,OG,A7];omega];rfl) ?_;refine Yi (show 0+(((BE s i).map Dt++List.replicate (64-i) (Dt 0)).take 64).length<=64 from by rw[Al];omega) ?_;refine Yi (show 64<=(over (List.replicate 64 (Dt 0)) 0 (((BE s i).map Dt++List.replicate (64-i) (Dt 0)).take 64)).length by rw[Jd (by rw[Al,Ac,OG,A7,A7];omega),Al,Ac,OG,A7];omega) ?_;exact pj (show(over (List.replicate 64 (Dt 0)) 0 (((BE s i).map Dt++List.replicate (64-i) (Dt 0)).take 64)).take 64=(BE s 64).map Dt from by rw[show i=64 by omega,Jd (by rw[Al,Ac,OG];rfl),HG,Nat.min_self,DF (OG s 64)])
end Go.Eng
