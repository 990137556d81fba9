/- Lemmas 19. -/
import Derived.Test.YteaiieomnhbmgaaGreatDoorAA18
namespace Go.Eng
open Go.Proofs Go.Proofs.Tryz
variable {l:List UInt8}{caps:List AV}{n m:Int}{j fF:Nat}{A:A7}(a:Ver)(c:UInt8)(s p:CS)(v b:Ver)(i k:Nat)
theorem ww:PC 333 [vc c] (vb (EL c)):=by
 refine Ps CQ func333 rfl (Nz rfl) ?_;have e1:decide ((97:UInt8)<=c)=decide ((97:Int)<=(c.toNat:Int)):=Xw c 97 Wk;have e2:decide (c<=(122:UInt8))=decide ((c.toNat:Int)<=(122:Int)):=Xv c 122 Wk;have es:EL c=(decide ((97:Int)<=(c.toNat:Int))&&decide ((c.toNat:Int)<=(122:Int))):=by grind [EL]
 refine Yi ?_ ?_
 .intro h;refine Yi ?_ ?_
  .intro h2;exact .of_eq (Aa vb (show true=EL c by simp_all))
  .intro h2;exact .of_eq (Aa vb (show false=EL c by simp_all))
 .intro h;exact .of_eq (Aa vb (show false=EL c by simp_all))
theorem rt:PC 334 [vc c] (vb (Cs c)):=by
 refine Ps CQ func334 rfl (Nz rfl) ?_;have e1:decide ((48:UInt8)<=c)=decide ((48:Int)<=(c.toNat:Int)):=Xw c 48 Wk;have e2:decide (c<=(57:UInt8))=decide ((c.toNat:Int)<=(57:Int)):=Xv c 57 Wk;have es:Cs c=(decide ((48:Int)<=(c.toNat:Int))&&decide ((c.toNat:Int)<=(57:Int))):=by grind [Cs]
 refine Yi ?_ ?_
 .intro h;refine Yi ?_ ?_
  .intro h2;exact .of_eq (Aa vb (show true=Cs c by simp_all))
  .intro h2;exact .of_eq (Aa vb (show false=Cs c by simp_all))
 .intro h;exact .of_eq (Aa vb (show false=Cs c by simp_all))
theorem AeJ:PC 391 [vc c] (vb (Mo c)):=by
 refine Ps CQ func391 rfl (Nz rfl) ?_;have e1:decide ((65:UInt8)<=c)=decide ((65:Int)<=(c.toNat:Int)):=Xw c 65 Wk;have e2:decide (c<=(90:UInt8))=decide ((c.toNat:Int)<=(90:Int)):=Xv c 90 Wk;have es:Mo c=(decide ((65:Int)<=(c.toNat:Int))&&decide ((c.toNat:Int)<=(90:Int))):=by grind [Mo]
 refine Yi ?_ ?_
 .intro h;refine Yi ?_ ?_
  .intro h2;exact .of_eq (Aa vb (show true=Mo c by simp_all))
  .intro h2;exact .of_eq (Aa vb (show false=Mo c by simp_all))
 .intro h;exact .of_eq (Aa vb (show false=Mo c by simp_all))
theorem AeI:PC 375 [vc c] (vb (FO c)):=by
 have h1:=ww c;have h2:=AeJ c;have h3:=rt c;have ew:FO c=(EL c||Mo c||Cs c||decide (c=95)):=rfl;rcases Bt (EL c)with e | e
 .rw[e]at h1;refine Ps CQ func375 rfl (Nz rfl) (C1 (C2 (h1) ?_));exact .of_eq (Aa vb (show true=FO c by simp_all))
 rw[e]at h1;rcases Bt (Mo c)with e2 | e2
 .rw[e2]at h2;refine Ps CQ func375 rfl (Nz rfl) (C1 (C2 (h1) (C1 (C2 (h2) ?_))));exact .of_eq (Aa vb (show true=FO c by simp_all))
 rw[e2]at h2;rcases Bt (Cs c)with e3 | e3
 .rw[e3]at h3;refine Ps CQ func375 rfl (Nz rfl) (C1 (C2 (h1) (C1 (C2 (h2) (C1 (C2 (h3) ?_))))));exact .of_eq (Aa vb (show true=FO c by simp_all))
 rw[e3]at h3;refine Ps CQ func375 rfl (Nz rfl) (C1 (C2 (h1) (C1 (C2 (h2) (C1 (C2 (h3) ?_))))));have eb:decide (c=95)=decide ((c.toNat:Int)=95):=by
  rw[Eu,Bj,Bj];constructor
  .simp_all
  .intro h;exact HP.1 aa0
 refine Yi ?_ ?_
 .intro h;exact .of_eq (Aa vb (show true=FO c by simp_all))
 .intro h;exact .of_eq (Aa vb (show false=FO c by simp_all))
theorem AeE(hs:s.data.toList.length<4611686018427387904):PC 362 [vs s] (vb (s.data.toList.all FO)):=by
 have FE:s.size=s.data.toList.length:=Cl
 refine Ps CQ func362 rfl (Nz rfl) (Xi {i:Nat // i<=s.data.toList.length/\∀j (hj:j<s.data.toList.length),j<i->FO s.data.toList[j]=true} (Xi (fun i=>⟨[(0,vs s),(3,vi i.1)],[],Ae⟩) (Xi (fun i=>s.data.toList.length-i.1) (Yi (Xi ⟨0,Aj _,fun j _ h=>by omega⟩ ?_) ?_))))
 .exact⟨Z2,Tv,Fh,Tv⟩
 intro⟨i,h1,h2⟩;refine Yi ?_ ?_
 .intro h;have h:(i:Int)<(s.size:Nat):=h;have h:i<s.data.toList.length:=ch
  refine Xi s.data.toList[i] (Yi ⟨by omega,by grind⟩ ?_);have hc:=AeI s.data.toList[i];refine A1 (Bt (FO s.data.toList[i])) (fun e=>?_) (fun e=>?_)
  .rw[e]at hc;refine C1 (C2 (hc) (Yi (by grind [Az]) (Xi ⟨i+1,by omega,fun j hj G8=>?_⟩ ?_)))
   .grind
   .exact⟨by grind,Z2,Tv,Fh,Tv⟩
  .rw[e]at hc;refine C1 (C2 (hc) ?_);have er:s.data.toList.all FO=false:=by
    grind
   exact .of_eq (Aa vb er.symm)
 .intro h;have h:¬(i:Int)<(s.size:Nat):=h;have er:s.data.toList.all FO=true:=AS.2 fun c hc=>by
   grind [List.getElem_of_mem]
  exact .of_eq (Aa vb er.symm)
abbrev kwB:List CS:=xy.map bs
theorem AeG:PC 364 [] (sl Af kwB):=by
 refine Ps CQ func364 rfl (Nz rfl) ?_;exact .refl _
theorem AeF(l:List CS)(s:CS)(hl:BD l):PC 363 [sl Af l,vs s] (vb (l.any fun q=>decide (q=s))):=by
 unfold BD at hl;refine Ps CQ func363 rfl (Nz rfl) (Xi {i:Nat // i<=l.length/\∀j (hj:j<l.length),j<i->l[j]≠s} (Xi (fun i=>⟨[(0,sl Af l),(1,vs s),(5,vi i.1)],[],Ae⟩) (Xi (fun i=>l.length-i.1) (Yi (Xi ⟨0,Aj _,fun j _ h=>by omega⟩ ?_) ?_))))
 .exact⟨Z3,Tv,Fh,Tv⟩
 intro⟨i,h1,h2⟩;refine Yi ?_ ?_
 .intro h;have h:i<l.length:=B0
  have hg:l[i]?=some l[i]:=Ge h;refine Xi (Af l[i]) (Yi (Yi ch B0) (Yi rfl ?_));refine Yi ?_ ?_
  .intro he;exact .of_eq (Aa vb (show true=_ from(Ce.2 ⟨l[i],Ai h,by simp_all⟩).symm))
  .intro he;refine Yi (by grind [Az]) (Xi ⟨i+1,by omega,fun j hj G8=>?_⟩ ?_)
   .grind
   .exact⟨by grind,Z3,Tv,Fh,Tv⟩
 .intro h;have h:¬i<l.length:=B0
  have er:(l.any fun q=>decide (q=s))=false:=by
   grind [List.getElem_of_mem]
  exact .of_eq (Aa vb er.symm)
theorem z8{w:List UInt8}{s:CS}:bs w=s↔w=s.data.toList:=by
 constructor
 .intro h;rw[<-h];rfl
 .intro h;rw[h];rfl
theorem xA:(kwB.any fun q=>decide (q=s))=xy.any (fun w=>decide (w=s.data.toList)):=by
 grind [z8]
theorem AeA(hs:s.data.toList.length<4611686018427387904):PC 335 [vs s] (vb (Gq s.data.toList)):=by
 have FE:s.size=s.data.toList.length:=Cl
 obtain⟨N,hN⟩:∃N,N=Gq s.data.toList:=⟨_,rfl⟩;rw[<-hN];unfold Gq at hN;have rX:=AeE s hs;have nq:=AeF kwB s Wk;rw[xA]at nq;refine Ps CQ func335 rfl (Nz rfl) (Yi (fun h=>?_) (fun h=>?_))
 rotate_left
 .have e:s.data.toList=[]:=AY ch;exact .of_eq (Aa vb (show false=N by simp_all))
 have he:s.data.toList.isEmpty=false:=by
  grind
 refine Yi (fun h2=>?_) (fun h2=>?_)
 rotate_left
 .exact .of_eq (Aa vb (show false=N by grind))
 refine Be (show ∃c l,s.data.toList=c::l by cases e:s.data.toList with | nil=>simp_all | cons c l=>simp_all) (fun c hc=>?_);refine Be hc (fun l hc=>?_);refine Xi c (Yi ⟨by decide,by show s.data[(0:Int).toNat]?=_;rw[<-CN,hc];rfl⟩ ?_);have rW:=ww c;have hN:N=(EL c&&s.data.toList.all FO&&!VL s.data.toList):=by
  grind
 refine A1 (Bt (EL c)).symm (fun e=>?_) (fun e=>?_)
 .rw[e]at rW;refine C1 (C2 (rW) ?_);exact .of_eq (Aa vb (show false=N by simp_all))
 rw[e]at rW;refine C1 (C2 (rW) (A1 (Bt (s.data.toList.all FO)).symm (fun e2=>?_) (fun e2=>?_)))
 .rw[e2]at rX;refine C1 (C2 (rX) ?_);exact .of_eq (Aa vb (show false=N by grind))
 rw[e2]at rX;refine C1 (C2 (rX) (C1 (C2 (AeG) ?_)));rw[dK e2]at hN;refine A1 (Bt (xy.any (fun w=>decide (w=s.data.toList)))) (fun e3=>?_) (fun e3=>?_)
 .rw[e3]at nq;refine C1 (C2 (nq) ?_);exact .of_eq (Aa vb (show false=N by grind))
 .rw[e3]at nq;refine C1 (C2 (nq) ?_);exact .of_eq (Aa vb (show true=N by grind))
theorem pI{s:CS}:Hz s.data.toList=(s.data.toList.all Va&&Gq s.data.toList):=by
 grind [Hz]
theorem Aet(hs:s.data.toList.length<4611686018427387904):PC 292 [vs s] (vb (Hz s.data.toList)):=by
 have FE:s.size=s.data.toList.length:=Cl
 have Af2:=AeA s hs;rw[pI];refine Ps CQ func292 rfl (Nz rfl) (Xi {i:Nat // i<=s.data.toList.length/\∀j (hj:j<s.data.toList.length),j<i->Va s.data.toList[j]=true} (Xi (fun i=>⟨[(0,vs s),(3,vi i.1)],[],Ae⟩) (Xi (fun i=>s.data.toList.length-i.1) (Yi (Xi ⟨0,Aj _,fun j _ h=>by omega⟩ ?_) ?_))))
 .exact⟨Z2,Tv,Fh,Tv⟩
 intro⟨i,h1,h2⟩;refine Yi ?_ ?_
 .intro h;have h:(i:Int)<(s.size:Nat):=h;have h:i<s.data.toList.length:=ch
  have Sv:(0:Int)<=i/\s.data[((i:Nat):Int).toNat]?=some s.data.toList[i]:=⟨by omega,by grind⟩;have nx:Va s.data.toList[i]=true->∀j (hj:j<s.data.toList.length),j<i+1->Va s.data.toList[j]=true:=fun e j hj G8=>by
   grind
  refine Xi s.data.toList[i] (Yi Sv ?_);have h3:=ww s.data.toList[i];have h4:=rt s.data.toList[i];refine A1 (Bt (EL s.data.toList[i])) (fun e=>?_) (fun e=>?_)
  .rw[e]at h3;refine C1 (C2 (h3) (Yi (by grind [Az]) (Xi ⟨i+1,by omega,nx aa0⟩ ?_)));exact⟨by grind,Z2,Tv,Fh,Tv⟩
  rw[e]at h3;refine C1 (C2 (h3) (Xi s.data.toList[i] (Yi Sv (A1 (Bt (Cs s.data.toList[i])) (fun e2=>?_) (fun e2=>?_)))))
  .rw[e2]at h4;refine C1 (C2 (h4) (Yi (by grind [Az]) (Xi ⟨i+1,by omega,nx aa0⟩ ?_)));exact⟨by grind,Z2,Tv,Fh,Tv⟩
  rw[e2]at h4;refine C1 (C2 (h4) ?_);have er:s.data.toList.all Va=false:=by
   grind
  exact .of_eq (Aa vb aa0)
 .intro h;have h:¬(i:Int)<(s.size:Nat):=h;have er:s.data.toList.all Va=true:=AS.2 fun c hc=>by
   grind [List.getElem_of_mem]
  refine C1 (C2 (Af2) ?_);exact .of_eq (Aa vb aa0)
abbrev VU:Option Int->AV
 |some n=>vi n
 |none=>vi (-1)
theorem Aeu(hs:s.data.toList.length<4611686018427387904):PC 293 [vs s] (VU (Gm s.data.toList)):=by
 have FE:s.size=s.data.toList.length:=Cl
 refine Ps (Hy [3]) func293 rfl (Nz rfl) (Yi (fun h=>?_) (fun h=>?_))
 .exact .of_eq (Aa VU (show(none:Option Int)=Gm s.data.toList by
   cases hs:s.data.toList with
   |nil=>rfl
   |cons c r=>
    cases r<;>grind [Gm]))
 refine Be (show ∃c r,s.data.toList=c::r by
  cases e:s.data.toList<;>simp_all) (fun c hc=>?_)
 refine Be hc (fun r zA=>?_);have hrl:s.size=r.length+1:=B0
 have hv0:Gm s.data.toList=if c=118 then(if(r.isEmpty||decide (3<r.length)||(decide (1<r.length)&&decide (r.headD 0=48))||!r.all Cs)=true then none else some (D3 r))else none:=by rw[zA];rfl
 refine Yi (fun h2=>?_) (fun h2=>?_)
 .exact .of_eq (Aa VU (show(none:Option Int)=Gm s.data.toList by grind))
 refine Xi c (Yi ⟨by decide,by show s.data[(0:Int).toNat]?=_;rw[<-CN,zA];rfl⟩ ?_);refine Yi (fun h3=>?_) (fun h3=>?_)
 .have h3:¬c=118:=fun e=>h3 B0;exact .of_eq (Aa VU (show(none:Option Int)=Gm s.data.toList by simp_all))
 have h3:c=118:=HP.1 aa0;have hr:s.data.toList=118::r:=B0
 have hv:Gm s.data.toList=if(r.isEmpty||decide (3<r.length)||(decide (1<r.length)&&decide (r.headD 0=48))||!r.all Cs)=true then none else some (D3 r):=B0
 have Dr:0<r.length:=ch
 have se:r.isEmpty=false:=by
  grind
 have hl3:r.length<=3:=ch
 have d3:decide (3<r.length)=false:=Aw ch;have z0:D3 (r.take 0)=0:=rfl;have hh:=Od r Dr;refine Xi r[0] (Yi ⟨by decide,by show s.data[(1:Int).toNat]?=_;rw[<-CN,zA];simp_all⟩ ?_);refine Yi (fun h4=>?_) (fun h4=>?_)
 .have h4:r[0]=48:=HP.1 aa0;refine Yi (fun h5=>?_) (fun h5=>?_)
  .exact .of_eq (Aa VU (show(none:Option Int)=Gm s.data.toList by grind))
  have eo:(decide (1<r.length)&&decide (r.headD 0=48))=false:=aa0
  refine cU [(0,vs s)] [] Z1 Tv (Xi {i:Nat // i<=r.length/\(∀j (hj:j<r.length),j<i->Cs r[j]=true)/\0<=D3 (r.take i)/\(i=0->D3 (r.take i)<=0)/\(i<=1->D3 (r.take i)<=9)/\(i<=2->D3 (r.take i)<=99)/\D3 (r.take i)<=999} (Xi (fun i=>⟨[(0,vs s),(3,vi (D3 (r.take i.1))),(4,vi (1+(i.1:Int)))],[],Ae⟩) (Xi (fun i=>r.length-i.1) (Yi (Xi ⟨0,Aj _,fun j _ h=>by omega,by omega,fun _=>by omega,fun _=>by omega,fun _=>by omega,by omega⟩ ?_) ?_))))
  .exact⟨Z3,Tv,Fh,Tv⟩
  intro⟨i,i1,i0,i2,i3,i4,i5,i6⟩;refine Yi ?_ ?_
  .intro h;have h:1+(i:Int)<(s.size:Nat):=h;have h:i<r.length:=ch
   have Sv:(0:Int)<=1+(i:Int)/\s.data[(1+(i:Int)).toNat]?=some r[i]:=⟨by omega,by rw[show(1+(i:Int)).toNat=i+1 by omega,<-CN,hr,List.getElem?_cons_succ];simp_all⟩;refine Xi r[i] (Yi Sv ?_);have hc:=rt r[i];refine A1 (Bt (Cs r[i])).symm (fun e=>?_) (fun e=>?_)
   .rw[e]at hc;refine C1 (C2 (hc) ?_);have Gl:r.all Cs=false:=by
     grind
    exact .of_eq (Aa VU (show(none:Option Int)=Gm s.data.toList by simp_all))
   rw[e]at hc;refine C1 (C2 (hc) ?_);have uQ:=Jp e;have zy:=KX r i h;have qK:IntKind.u8.wrap ((r[i].toNat:Int)-48)=(r[i].toNat:Int)-48:=SZ ch ch;refine Yi (by show Az (10*D3 (r.take i));unfold Az;omega) (Xi r[i] (Yi Sv (Yi (by show Az (IntKind.u8.wrap ((r[i].toNat:Int)-48));rw[qK];unfold Az;omega) ?_)));refine Yi (by show Az (10*D3 (r.take i)+IntKind.u8.wrap ((r[i].toNat:Int)-48));rw[qK];unfold Az;omega) ?_;refine Yi (by show Az (1+(i:Int)+1);unfold Az;omega) ?_;have e5:vi (10*D3 (r.take i)+IntKind.u8.wrap ((r[i].toNat:Int)-48))=vi (D3 (r.take (i+1))):=B0
   have e6:vi (1+(i:Int)+1)=vi (1+((i+1:Nat):Int)):=Aa vi ch;refine Xi ⟨i+1,by omega,fun j hj G8=>?_,by omega,fun _=>by omega,fun _=>by omega,fun _=>by omega,by omega⟩ ?_
   .grind
   .exact⟨Dl r.length i ch,⟨Zr,⟨e5,rfl⟩,⟨e6,rfl⟩,Tv⟩,Tv,Fh,Tv⟩
  .intro h;have h:¬1+(i:Int)<(s.size:Nat):=h;have e3:r.all Cs=true:=AS.2 fun c hc=>by
    grind [List.getElem_of_mem]
   have e6:vi (D3 (r.take i))=VU (Gm s.data.toList):=aa0
   exact .of_eq e6
 have eo:(decide (1<r.length)&&decide (r.headD 0=48))=false:=by rw[hh,Aw (show ¬r[0]=48 from fun e=>h4 B0),Eo]
 refine cU [(0,vs s)] [] Z1 Tv (Xi {i:Nat // i<=r.length/\(∀j (hj:j<r.length),j<i->Cs r[j]=true)/\0<=D3 (r.take i)/\(i=0->D3 (r.take i)<=0)/\(i<=1->D3 (r.take i)<=9)/\(i<=2->D3 (r.take i)<=99)/\D3 (r.take i)<=999} (Xi (fun i=>⟨[(0,vs s),(3,vi (D3 (r.take i.1))),(4,vi (1+(i.1:Int)))],[],Ae⟩) (Xi (fun i=>r.length-i.1) (Yi (Xi ⟨0,Aj _,fun j _ h=>by omega,by omega,fun _=>by omega,fun _=>by omega,fun _=>by omega,by omega⟩ ?_) ?_))))
 .exact⟨Z3,Tv,Fh,Tv⟩
 intro⟨i,i1,i0,i2,i3,i4,i5,i6⟩;refine Yi ?_ ?_
 .intro h;have h:1+(i:Int)<(s.size:Nat):=h;have h:i<r.length:=ch
  have Sv:(0:Int)<=1+(i:Int)/\s.data[(1+(i:Int)).toNat]?=some r[i]:=⟨by omega,by rw[show(1+(i:Int)).toNat=i+1 by omega,<-CN,hr,List.getElem?_cons_succ];simp_all⟩;refine Xi r[i] (Yi Sv ?_);have hc:=rt r[i];refine A1 (Bt (Cs r[i])).symm (fun e=>?_) (fun e=>?_)
  .rw[e]at hc;refine C1 (C2 (hc) ?_);have Gl:r.all Cs=false:=by
    grind
   exact .of_eq (Aa VU (show(none:Option Int)=Gm s.data.toList by simp_all))
  rw[e]at hc;refine C1 (C2 (hc) ?_);have uQ:=Jp e;have zy:=KX r i h;have qK:IntKind.u8.wrap ((r[i].toNat:Int)-48)=(r[i].toNat:Int)-48:=SZ ch ch;refine Yi (by grind [Az]) (Xi r[i] (Yi Sv (Yi (by grind [Az]) (Yi (by show Az (10*D3 (r.take i)+IntKind.u8.wrap ((r[i].toNat:Int)-48));rw[qK];unfold Az;omega) ?_))));refine Yi (by grind [Az]) ?_;have e5:vi (10*D3 (r.take i)+IntKind.u8.wrap ((r[i].toNat:Int)-48))=vi (D3 (r.take (i+1))):=B0
  have e6:vi (1+(i:Int)+1)=vi (1+((i+1:Nat):Int)):=Aa vi ch;refine Xi ⟨i+1,by omega,fun j hj G8=>?_,by omega,fun _=>by omega,fun _=>by omega,fun _=>by omega,by omega⟩ ?_
  .grind
  .exact⟨Dl r.length i ch,⟨Zr,⟨e5,rfl⟩,⟨e6,rfl⟩,Tv⟩,Tv,Fh,Tv⟩
 .intro h;have h:¬1+(i:Int)<(s.size:Nat):=h;have e3:r.all Cs=true:=AS.2 fun c hc=>by
   grind [List.getElem_of_mem]
  have e6:vi (D3 (r.take i))=VU (Gm s.data.toList):=aa0
  exact .of_eq e6
abbrev cB(l:List UInt8):List CS:=(CL 47 l).map bs
def Xd:List (List UInt8)->UInt8->List (List UInt8)
 | [],_=>[]
 | [x],b=>[x++[b]]
 |x::l,b=>x::Xd l b
theorem K9(s:List UInt8):CL c s≠[]:=by
 cases s<;>grind [CL]
theorem Vk(c:UInt8):∀s:List UInt8,CL c (s++[c])=CL c s++[[]]
 | []=>by simp[CL]
 |b::r=>by
  rw[G0,CL,Vk c r,CL]
  by_cases e:b=c
  all_goals grind [K9]
theorem U2(x:List UInt8){l:List (List UInt8)}(b:UInt8)(h:l≠[]):Xd (x::l) b=x::Xd l b:=by
 cases l with
 |nil=>simp_all
 |cons y l=>rfl
theorem Sj(c b:UInt8)(hb:b≠c):∀s:List UInt8,CL c (s++[b])=Xd (CL c s) b
 | []=>by grind [CL,Xd]
 |a::r=>by
  rw[G0,CL,Sj c b hb r,CL]
  by_cases e:a=c
  .grind [U2,K9]
  .rw[AA e,AA e];cases h:CL c r with
   |nil=>grind [K9]
   |cons x l=>
    cases l with
    |nil=>rfl
    |cons y l=>rfl
theorem Xe(b:UInt8):∀(l:List (List UInt8)) (x:List UInt8),l[l.length-1]?=some x->l.set (l.length-1) (x++[b])=Xd l b
 | [],_,h=>by cases h
 | [y],x,h=>by
  have h:some y=some x:=h;rw[DY h];rfl
 |y::z::l,x,h=>by
  have h:(z::l)[(z::l).length-1]?=some x:=h;rw[U2 y b (List.cons_ne_nil _ _),<-Xe b (z::l) x h];rfl
theorem Vj(s:List UInt8):(CL c s).length<=s.length+1:=by
 induction s<;>grind [CL]
abbrev AbG:Qx:=⟨[],[],[(5,1)],[],[],[],[],[],[],[(36,3)],[4]⟩
theorem pc{c:UInt8}(hc:c≠47){x:CS}(h:(cB l)[(cB l).length-1]?=some x):(cB l).set ((cB l).length-1) (x++bs [c])=cB (l++[c]):=by
 have h2:=h;rw[B1,Lm]at h;obtain⟨y,hy,e⟩:=Cj.1 h;subst e;show _=(CL 47 (l++[c])).map bs;rw[Sj 47 c hc l,<-Xe c (CL 47 l) y hy,IR,Lm]
 congr 1
theorem Aes(hs:ES s):PC 291 [vs s] (sl Gx (cB s.data.toList)):=by
 unfold ES at hs;have FE:s.size=s.data.toList.length:=Cl
 refine Ps AbG func291 rfl (Nz rfl) (Xi {p:Nat×List CS // p.1<=s.data.toList.length/\p.2=cB (s.data.toList.take p.1)} (Xi (fun p=>⟨[(0,vs s),(3,.msl 5 p.1.2.length),(4,vi p.1.1)],[(5,.arr 1 (p.1.2.map Gx))],Ae⟩) (Xi (fun p=>s.data.toList.length-p.1.1) (Yi (Xi ⟨(0,[bs []]),Aj _,rfl⟩ ?_) ?_))))
 .exact⟨Z3,Z1,Fh,Tv⟩
 intro⟨⟨i,A⟩,h1,hA⟩;have hA:A=cB (s.data.toList.take i):=hA;have dE:A.length<=i+1:=by
  grind [Vj]
 have qI:0<A.length:=by
  grind [K9]
 refine Yi (fun h=>?_) (fun h=>?_)
 .have h:(i:Int)<(s.size:Nat):=h;have h:i<s.data.toList.length:=ch
  have Sv:(0:Int)<=i/\s.data[((i:Nat):Int).toNat]?=some s.data.toList[i]:=⟨by omega,by grind⟩;have xl:s.data.toList.take (i+1)=s.data.toList.take i++[s.data.toList[i]]:=by grind [List.take_add_one]
  refine Xi s.data.toList[i] (Yi Sv (Yi (fun h2=>?_) (fun h2=>?_)))
  .have h2:s.data.toList[i]=47:=HP.1 aa0;have F5:Bi 1 [[vs (bs [])]]/\(A.map Gx).length=A.length/\((A.map Gx).length+[[vs (bs [])]].length)*16<=140737488355328/\(A.map Gx).length+[[vs (bs [])]].length<=9223372036854775807:=
    ⟨⟨rfl,trivial⟩,by grind,by grind,by grind⟩
   refine Yi F5 (Xi ⟨[(0,vs s),(3,.msl 5 (A++[bs []]).length),(4,vi i)],[(5,.arr 1 ((A++[bs []]).map Gx))],Ae⟩ (Yi ?_ ?_))
   .have e1:AV.msl 5 ((A.map Gx).length+[[vs (bs [])]].length)=.msl 5 (A++[bs []]).length:=Cl
    have e2:HO.arr 1 (A.map Gx++[[vs (bs [])]])=.arr 1 ((A++[bs []]).map Gx):=aa0
    exact⟨⟨Zr,⟨e1,rfl⟩,Zr,Tv⟩,⟨⟨e2,rfl⟩,Tv⟩,Fh,Tv⟩
   refine Yi (by grind [Az]) ?_;have eA:A++[bs []]=cB (s.data.toList.take (i+1)):=by
    rw[hA,xl,h2];show _=(CL 47 _).map bs;rw[Vk,Ar];rfl
   refine Xi ⟨(i+1,A++[bs []]),by omega,eA⟩ ?_;exact⟨by grind,Z3,Z1,Fh,Tv⟩
  have h2:¬(s.data.toList[i].toNat:Int)=47:=h2;have h2:s.data.toList[i]≠47:=fun e=>h2 (by rw[e];rfl);have nI:Az ((A.length:Int)-1):=by grind [Az]
  have EU:A.length-1<A.length:=ch
  have hn:((A.length:Int)-1).toNat=A.length-1:=ch
  have hg:A[A.length-1]?=some A[A.length-1]:=Ge EU;have AaP:ES A[A.length-1]:=by
   have sn:∀x∈A,x∈cB (s.data.toList.take i):=fun x hx=>hA▸hx;obtain⟨y,hy,e⟩:=Ay.1 (sn _ (Ai EU));have h5:=LL 47 _ y hy;rw[AF]at h5;unfold ES;rw[<-e,show(bs y).size=y.length from rfl];omega
  have jF:((A[A.length-1].size+(⟨[s.data.toList[i]].toArray⟩:CS).size:Nat):Int)<=9223372036854775807:=by
   unfold ES at AaP
   have:(⟨[s.data.toList[i]].toArray⟩:CS).size=1:=rfl
   omega
  refine Yi nI (Yi nI (Yi (show(0:Int)<=(A.length:Int)-1/\(A.length:Int)-1<(A.length:Int) by omega) (Yi aa0 ?_)));have zv:(A.map Gx)[((A.length:Int)-1).toNat]?=some (Gx A[A.length-1]):=by rw[hn];grind
  refine Xi (Gx A[A.length-1]) (Yi zv (Xi s.data.toList[i] (Yi Sv (Xi [s.data.toList[i]] (Yi rfl (Yi jF (Yi (show(0:Int)<=(A.length:Int)-1/\(A.length:Int)-1<(A.length:Int) by omega) (Yi aa0 (Xi (Gx A[A.length-1]) (Yi zv (yN (Yi aa1 (Be (show ∃B,B=A.set (A.length-1) (A[A.length-1]++bs [s.data.toList[i]])from⟨_,rfl⟩) (fun B hB=>?_))))))))))))));have hBl:B.length=A.length:=by rw[hB,JX]
  have e2:HO.arr 1 ((A.map Gx).set ((A.length:Int)-1).toNat [vs (A[A.length-1]++⟨[s.data.toList[i]].toArray⟩)])=.arr 1 (B.map Gx):=by rw[hn,hB,IR];rfl
  refine cU [(0,vs s),(3,.msl 5 B.length),(4,vi i)] [(5,.arr 1 (B.map Gx))] ⟨Zr,⟨Aa (AV.msl 5) hBl.symm,rfl⟩,Zr,Tv⟩ ⟨⟨e2,rfl⟩,Tv⟩ (Yi (Ii i ch) ?_);have eB:B=cB (s.data.toList.take (i+1)):=by
   rw[xl,hB];subst hA;exact pc h2 hg
  refine Xi ⟨(i+1,B),by omega,eB⟩ ?_;exact⟨by grind,Z3,Z1,Fh,Tv⟩
 .have h:¬(i:Int)<(s.size:Nat):=h;refine Yi aa0 ?_;exact .of_eq (Aa (sl Gx) (show A=cB s.data.toList by grind))
theorem ce{s:List UInt8}(h:Gm s=some n):0<=n:=by
 cases s with
 |nil=>grind [Gm]
 |cons c r=>
  have h:(if c=118 then(if(r.isEmpty||decide (3<r.length)||(decide (1<r.length)&&decide (r.headD 0=48))||!r.all Cs)=true then none else some (D3 r))else none)=some n:=h
  by_cases hc:c=118
  .rw[Ax hc]at h
   by_cases hb:(r.isEmpty||decide (3<r.length)||(decide (1<r.length)&&decide (r.headD 0=48))||!r.all Cs)=true
   .grind
   .rw[AA hb]at h;have ha:r.all Cs=true:=by
     simp_all
    rw[<-DY h]
    suffices hh:∀i,i<=r.length->0<=D3 (r.take i) by
     grind [List.take_length]
    intro i
    induction i with
    |zero=>intro _;exact Bs _
    |succ i ih=>
     grind [Jp,KX]
  simp_all
theorem o9{x:CS}(h:(cB l)[(cB l).length-1]?=some x):(CL 47 l).getLastD []=x.data.toList:=by
 rw[Lm,B1,<-List.getLast?_eq_getElem?]at h;obtain⟨y,hy,e⟩:=Cj.1 h;rw[List.getLastD_eq_getLast?,hy,<-e];rfl
theorem Aa8(hp:ES p):PC 241 [vs p] (QT (Bc p)):=by
 have FE:p.size=p.data.toList.length:=Cl
 have hc:=Aes p hp;unfold ES at hp;obtain⟨A,hA⟩:∃A,A=cB p.data.toList:=⟨_,rfl⟩;rw[<-hA]at hc;have hAl:A.length=(CL 47 p.data.toList).length:=aa0
 have dE:=Vj 47 p.data.toList;have qI:0<A.length:=by grind [K9]
 have sm:∀x∈A,x.data.toList.length<4611686018427387904:=fun x hx=>by
  obtain⟨y,hy,e⟩:=Ay.1 (hA▸hx:x∈cB p.data.toList);have h5:=LL 47 _ y hy;rw[<-e];show y.length<_;omega
 have Gl:(CL 47 p.data.toList).all Hz=A.all fun x=>Hz x.data.toList:=by rw[hA,List.all_map];rfl
 have EU:A.length-1<A.length:=ch
 have hg:A[A.length-1]?=some A[A.length-1]:=Ge EU;have gm:(CL 47 p.data.toList).getLastD []=A[A.length-1].data.toList:=by
  grind [o9]
 have em:Bc p=match Gm A[A.length-1].data.toList with
  |none=>none
  |some n=>if(decide (64<p.data.toList.length)||decide (A.length<2))=true then none else if(A.all fun x=>Hz x.data.toList)=true then some n else none:=by
  grind [Bc,QU]
 clear Gl gm
 have hv:=Aeu A[A.length-1] (sm _ (Ai EU));obtain⟨o,ho⟩:∃o,o=Gm A[A.length-1].data.toList:=⟨_,rfl⟩;rw[<-ho]at hv em;have hz:∀n,o=some n->0<=n:=fun n e=>by
  rw[e]at ho;exact ce ho.symm
 refine Ps (Hy [4,9,10]) func241 rfl (Nz rfl) (Yi (fun h=>?_) (fun h=>?_))
 .exact .of_eq (Aa QT (show(none:Option Int)=Bc p by grind))
 have d1:decide (64<p.data.toList.length)=false:=Aw ch;refine C1 (C2 (hc) (cU [(4,sl Gx A)] [] Z1 Tv (Xi {i:Nat // i<=A.length/\∀j (hj:j<A.length),j<i->Hz (A[j]).data.toList=true} (Xi (fun i=>⟨[(4,sl Gx A),(5,vi i.1)],[],Ae⟩) (Xi (fun i=>A.length-i.1) (Yi (Xi ⟨0,Aj _,fun j _ h=>by omega⟩ ?_) ?_))))))
 .exact⟨Z2,Tv,Fh,Tv⟩
 intro⟨i,i1,i2⟩;refine Yi (fun h2=>?_) (fun h2=>?_)
 .have h2:i<A.length:=aa0
  have hg:A[i]?=some A[i]:=Ge h2;refine Xi (Gx A[i]) (Yi (Yi ch aa0) (Yi rfl ?_));have hn:=Aet A[i] (sm _ (Ai h2));refine A1 (Bt (Hz A[i].data.toList)).symm (fun e1=>?_) (fun e1=>?_)
  .rw[e1]at hn;refine C1 (C2 (hn) ?_);have e2:(A.all fun x=>Hz x.data.toList)=false:=by
    grind
   exact .of_eq (Aa QT (show(none:Option Int)=Bc p by
    grind))
  rw[e1]at hn;refine C1 (C2 (hn) (Yi (by grind [Az]) (Xi ⟨i+1,by omega,fun j hj G8=>?_⟩ ?_)))
  .grind
  .exact⟨by grind,Z2,Tv,Fh,Tv⟩
 have h2:¬i<A.length:=aa0
 have e2:(A.all fun x=>Hz x.data.toList)=true:=AS.2 fun x hx=>by
  grind [List.getElem_of_mem]
 have em:Bc p=match(generalizing:=false) o with
  |none=>none
  |some n=>if decide (A.length<2)=true then none else some n:=by
  grind
 refine cU [(4,sl Gx A)] [] Z1 Tv ?_
 have lz:(((A.map Gx).length:Int)-1).toNat=A.length-1:=aa0
 refine Yi (by grind [Az]) (Xi (Gx A[A.length-1]) (Yi (Yi aa0 (by rw[lz];grind)) (Yi rfl ?_)));refine C1 (C2 (hv) ?_);refine Be (show ∃z:Int,VU o=vi z/\(z<0↔o=none)/\∀n,o=some n->z=n by
  grind) (fun z hz2=>?_)
 refine cU [(4,sl Gx A),(6,vi z)] [] ⟨Zr,⟨hz2.1,rfl⟩,Tv⟩ Tv (Yi (fun h3=>?_) (fun h3=>?_))
 .rw[Lm]at h3;exact .of_eq (Aa QT (show(none:Option Int)=Bc p by grind))
 rw[Lm]at h3;refine Yi (fun h4=>?_) (fun h4=>?_)
 .exact .of_eq (Aa QT (show(none:Option Int)=Bc p by grind))
 refine Be (show ∃n,o=some n by
  grind) (fun n hn=>?_)
 exact .of_eq (show AV.tup [vi z,vi 0]=QT (Bc p) by grind)
theorem Aen(hp:ES p):PC 240 [vs p] (vb (Bc p).isSome):=by
 have hc:=Aa8 p hp;cases h:Bc p with
 |none=>
  rw[h]at hc;refine Ps CQ func240 rfl (Nz rfl) (C1 (C2 (hc) (Yi ?_ ?_)))
  .intro h;exact absurd (show(4:Int)=0 from h) Wk
  .intro _;exact .refl _
 |some n=>
  rw[h]at hc;refine Ps CQ func240 rfl (Nz rfl) (C1 (C2 (hc) (Yi ?_ ?_)))
  .intro _;exact .refl _
  .intro h;exact absurd rfl h
theorem c80(s:List Sl)(hs:BD s):PC 162 [sl Ab s] (vb (CD s)):=by
 unfold BD at hs;refine Ps CQ func162 rfl (Nz rfl) ?_;refine Xi {i:Nat // 1<=i/\(s=[]\/i<=s.length)/\CD s=(match s[i-1]? with | none=>true | some y=>MB (some y.path) (s.drop i))} (Xi (fun i=>⟨[(0,sl Ab s),(3,vi i.1)],[],Ae⟩) (Xi (fun i=>s.length-i.1) (Yi (Xi ⟨1,Ao _,by grind,by cases s<;>rfl⟩ ?_) ?_)))
 .exact⟨Z2,Tv,Fh,Tv⟩
 intro⟨i,h1,h2,h3⟩;refine Yi ?_ ?_
 .intro h;have h:i<s.length:=B0
  have hg:s[i]?=some s[i]:=Ge h;have h' : i-1<s.length:=ch
  have ly : s[i-1]?=some s[i-1]:=Ge h';have e1:((i:Int)-1).toNat=i-1:=ch
  have Aij:CD s=(Dq s[i-1].path s[i].path&&MB (some s[i].path) (s.drop (i+1))):=by
   grind [nY]
  refine Xi (Ab s[i]) (Yi (Yi ch B0) (Yi rfl ?_));refine Yi (by grind [Az]) (Xi (Ab s[i-1]) (Yi (Yi aa0 B0) (Yi rfl ?_)));refine Yi ?_ ?_
  .intro h4;rw[<-DZ]at h4;refine Yi aa1 ?_;exact .of_eq (Aa vb (show false=CD s by simp_all))
  .intro h4;rw[<-DZ,Bool.not_eq_false]at h4;refine Yi aa1 (Yi (by grind [Az]) (Xi ⟨i+1,by omega,.inr ch,by simp_all⟩ ?_));exact⟨Dl s.length i ch,Z2,Tv,Fh,Tv⟩
 .intro h;have h:¬i<s.length:=B0
  have aA:CD s=true:=by
   rcases h2 with h2 | h2
   .grind
   .have e:i=s.length:=ch
    rw[h3,e,List.drop_length];cases s[s.length-1]?<;>rfl
  exact .of_eq (Aa vb aA.symm)
abbrev jV:Int:=match Bc p with | none=>-1 | some m=>m
abbrev zM:Prop:=∀p:CS,ES p->PC 116 [vs p] (vi (jV p))
abbrev zN:Prop:=∀s:A7,BD s->PC 118 [sl Ag s] (sl Ag (canon s))
theorem s7{r:List UInt8}(h:r.all Cs=true):0<=D3 r:=by
 have:∀(l:List UInt8) (n:Int),0<=n->(∀c∈l,Cs c=true)->0<=l.foldl (fun n c=>10*n+((c.toNat:Int)-48)) n:=by
  intro l
  induction l<;>grind [Jp]
 exact this r 0 (Bs _) (fun c hc=>AS.1 h c hc)
theorem tZ{s:List UInt8}(h:Gm s=some n):0<=n:=by
 unfold Gm at h;split at h
 .split at h
  .split at h
   .cases h
   .rename_i r _ hc;cases h;refine s7 ?_;simp_all
  simp_all
 simp_all
theorem ov{p:CS}(h:Bc p=some m):0<=m:=by
 unfold Bc QU at h;split at h
 .cases h
 .rename_i n e;split at h
  .cases h
  .split at h
   .cases h;exact tZ e
   simp_all
theorem aX:jV p<0↔(Bc p).isNone=true:=by
 unfold jV;cases h:Bc p with
 |none=>simp
 |some m=>have:=ov h;simp_all
theorem c68(rU:zM)(wM:zN)(l:List Rq)(hs:∀q∈l,Jb q):PC 70 [sl AI l] (vi (A8 l)):=by
 refine Ps (Hy []) func70 rfl (Nz rfl) (Yi ?_ ?_)
 .intro h;exact .of_eq (Aa vi (show(7:Int)=A8 l by grind [A8]))
 intro h;have hl:l.length<=16:=aa0
 have Uj:A8 l=D7 none l:=by grind [A8]
 refine Xi {i:Nat // i<=l.length/\D7 none l=D7 (Jz l i) (l.drop i)} (Xi (fun i=>⟨[(0,sl AI l),(3,vi i.1)],[],Ae⟩) (Xi (fun i=>l.length-i.1) (Yi (Xi ⟨0,Aj _,rfl⟩ ?_) ?_)))
 .exact⟨Z2,Tv,Fh,Tv⟩
 intro⟨i,h1,h2⟩;refine Yi ?_ ?_
 .intro h;have h:i<l.length:=B0
  have hg:l[i]?=some l[i]:=Ge h;have hd:l.drop i=l[i]::l.drop (i+1):=AD h;have hq:=hs l[i] (Ai h);have JD:D7 none l=if GZ (Jz l i) l[i]=0 then D7 (some l[i].path) (l.drop (i+1))else GZ (Jz l i) l[i]:=by rw[h2,hd];rfl
  have fail:∀e:Int,GZ (Jz l i) l[i]=e->e≠0->e=A8 l:=fun e he hz=>by omega
  have zy:Jz l (i+1)=some l[i].path:=ZC h;refine Xi (AI l[i]) (Yi (Yi ch aa0) (Yi rfl (C1 (C2 (rU l[i].path hq.2) (Yi ?_ ?_)))))
  .intro h3;exact .of_eq (Aa vi (fail 4 (by grind [GZ,aX]) Wk))
  intro h3;have hmj:(Bc l[i].path).isNone=false:=by
   grind
  have er:GZ (Jz l i) l[i]=if(l[i].set.isEmpty||!decide (l[i].set=canon l[i].set)||(match Jz l i with | some b=>!Dq b l[i].path | none=>false))=true then 1 else 0:=by unfold GZ;grind
  refine Xi (AI l[i]) (Yi (Yi ch aa0) (Yi rfl (Yi ?_ ?_)))
  .intro h4;have h5:l[i].set.isEmpty=true:=by
    rw[Lm]at h4;rw[L7];exact AY ch
   refine Yi aa1 ?_;exact .of_eq (Aa vi (fail 1 aa0 Wk))
  intro h4;have h5:l[i].set.isEmpty=false:=by
   grind
  have he:=c75 l[i].set (canon l[i].set) hq.1;refine Xi (AI l[i]) (Yi (Yi ch aa0) (Yi rfl (Xi (AI l[i]) (Yi (Yi ch aa0) (Yi rfl (C2 (wM l[i].set hq.1) (A1 (Bt (decide (l[i].set=canon l[i].set))) (fun e=>?_) (fun e=>?_))))))))
  rotate_left
  .rw[e]at he;refine C2 (he) (Yi aa1 ?_);exact .of_eq (Aa vi (fail 1 aa0 Wk))
  rw[e]at he;refine C2 (he) (Yi aa1 (Yi ?_ ?_))
  .intro h6;have h6:(0:Int)<i:=h6;have h7:i-1<l.length:=ch
   have hb:Jz l i=some l[i-1].path:=by
    grind
   refine Xi (AI l[i]) (Yi (Yi ch aa0) (Yi rfl (Yi (by grind [Az]) (Xi (AI l[i-1]) (Yi (Yi ch (by rw[show((i:Int)-1).toNat=i-1 by omega];grind)) (Yi rfl ?_))))));refine Yi ?_ ?_
   .intro h8;refine Yi aa1 ?_;exact .of_eq (Aa vi (fail 1 (by grind [DZ]) Wk))
   .intro h8;have h8:¬Op.bytesLess l[i-1].path.toList l[i].path.toList=false:=h8;have h8:Op.bytesLess l[i-1].path.toList l[i].path.toList=true:=aa0
    refine Yi aa1 (Yi (by grind [Az]) (Xi ⟨i+1,by omega,by grind [DZ]⟩ ?_));exact⟨Dl l.length i ch,Z2,Tv,Fh,Tv⟩
  .intro h6;have h6:¬(0:Int)<i:=h6;have h7:i=0:=ch
   refine Yi aa1 (Yi (by show Az ((i:Int)+1);grind [Az]) (Xi ⟨i+1,by omega,by grind⟩ ?_));exact⟨Dl l.length i ch,Z2,Tv,Fh,Tv⟩
 .intro h;have h:¬(i:Int)<(l.map AI).length:=h;have h:¬i<l.length:=B0
  have e:(0:Int)=A8 l:=by rw[Uj,h2,KD ch];rfl
  exact .of_eq (Aa vi e)
theorem dM(hk:k<p.data.toList.length)(h1:p.data.toList[k]=47)(h2:∀j (hj:j<p.data.toList.length),k<j->p.data.toList[j]≠47):Go.Lib.lastIndex p.data.toList [47]=k:=by
 have hoc:∀i (hi:i<p.data.toList.length),Go.Lib.occAt p.data.toList [47] i=true↔p.data.toList[i]=47:=fun i hi=>by
  grind [Go.Lib.occAt,List.drop_eq_getElem_cons]
 grind [Go.Lib.lastIndex,Go.Lib.lastOcc_spec]
theorem kR{p:CS}(h:Bc p=some m):(47:UInt8)∈p.data.toList:=by
 grind [OA,Bc,QU]
theorem Aed(hp:ES p):PC 176 [vs p] (aV dO p):=by
 have hc:=Aa8 p hp;have hi:=Aen p hp;have FE:p.size=p.data.toList.length:=Cl
 unfold aV;cases h:Bc p with
 |none=>
  rw[h]at hi;refine Ps CQ func176 rfl (Nz rfl) (C1 (C2 (hi) ?_));exact .refl _
 |some n=>
  have xi:=kR h;rw[h]at hc hi;unfold ES at hp;refine Be (show ∃q,∃hq:q<p.data.toList.length,p.data.toList[q]=47 from NF xi) (fun q hq=>?_);refine Be hq (fun hq eq=>?_);refine Ps CQ func176 rfl (Nz rfl) (C1 (C2 (hi) (C1 (C2 (hc) (Yi (fun h=>absurd rfl h) (fun _=>?_))))));refine Yi (show Az (((p.size:Nat):Int)-1) by grind [Az]) ?_;refine Xi {k:Nat // k<p.data.toList.length/\∀j (hj:j<p.data.toList.length),k<j->p.data.toList[j]≠47} (Xi (fun k=>⟨[(0,vs p),(5,vi n),(7,vi k.1)],[],Ae⟩) (Xi (fun k=>k.1) (Yi (Xi ⟨p.data.toList.length-1,by omega,fun j hj G8=>by omega⟩ ?_) ?_)))
  .have e1:vi (((p.size:Nat):Int)-1)=vi ((p.data.toList.length-1:Nat):Int):=Aa vi ch;exact⟨⟨Zr,Zr,⟨e1,rfl⟩,Tv⟩,Tv,Fh,Tv⟩
  intro⟨k,k1,k2⟩;have Sv:(0:Int)<=k/\p.data[((k:Nat):Int).toNat]?=some p.data.toList[k]:=⟨by omega,by grind⟩;refine Xi p.data.toList[k] (Yi Sv (Yi (fun h2=>?_) (fun h2=>?_)))
  .have h2:p.data.toList[k]≠47:=fun e=>h2 (by rw[e];rfl);have hqk:q<=k:=by
    grind
   have Zk:q≠k:=fun e=>by grind
   refine Yi (show Az ((k:Int)-1) by grind [Az]) ?_;have e1:vi ((k:Int)-1)=vi ((k-1:Nat):Int):=Aa vi ch;refine Xi ⟨k-1,by omega,fun j hj G8=>?_⟩ ?_
   .grind
   .exact⟨by grind,⟨Zr,Zr,⟨e1,rfl⟩,Tv⟩,Tv,Fh,Tv⟩
  .have h2:p.data.toList[k]=47:=HP.1 aa0;have el:=dM p k k1 h2 k2;refine Yi ⟨Bs _,by grind,by grind⟩ ?_;have e3:p.extract 0 ((k:Nat):Int).toNat=dO p:=aa0
   exact .of_eq (show AV.tup [vs (p.extract 0 ((k:Nat):Int).toNat),vi n,vi 0]=_ by rw[e3])
theorem AdZ(hp:ES p):PC 116 [vs p] (vi (jV p)):=by
 have hc:=Aed p hp;unfold aV at hc;unfold jV;cases h:Bc p with
 |none=>
  rw[h]at hc;refine Ps CQ func116 rfl (Nz rfl) (C1 (C2 (hc) (Yi (fun _=>?_) (fun h=>absurd (show(4:Int)≠0 by decide) h))));exact .refl _
 |some m=>
  rw[h]at hc;refine Ps CQ func116 rfl (Nz rfl) (C1 (C2 (hc) (Yi (fun h=>absurd rfl h) (fun _=>?_))));exact .refl _
theorem rU:zM:=AdZ
abbrev AbF:Qx:=⟨[],[(3,0)],[(63,2)],[],[],[],[],[],[],[(112,7)],[4,6,10,11,14,16,17,18]⟩
theorem Qk(s:A7):∀cs∈s.map Ag,cs.length=2:=fun cs h=>by
 grind
theorem MZ{n:Nat}:∀{l:C0},(∀c∈l,c.length=n)->Bi n l
 | [],_=>trivial
 |c::_,h=>⟨h c (Ah ..),MZ fun d hd=>h d (Am _ hd)⟩
abbrev NX(s:A7)(k:Nat):C0:=((s.map Ag).take (((s.map Ag).length:Nat):Int).toNat).drop ((k:Nat):Int).toNat
theorem pz(s:A7)(k:Nat):NX s k=(s.drop k).map Ag:=by
 grind [List.take_of_length_le,List.map_drop]
theorem uD(s:A7)(x:Int×Int)(k:Nat)(h:s.length<=1073741824):Bi 2 (NX s k)/\[Ag x].length=1/\([Ag x].length+(NX s k).length)*16<=140737488355328/\[Ag x].length+(NX s k).length<=9223372036854775807:=by
 grind [MZ]
abbrev Uk(s:A7)(k:Nat):C0:=((s.map Ag).take ((k:Nat):Int).toNat).drop ((0:Int)).toNat
theorem nF(s:A7)(k:Nat):Uk s k=(s.take k).map Ag:=by
 grind [List.map_take]
theorem uE(s:A7)(x:Int×Int)(k:Nat)(hk:k<=s.length)(h:s.length<=1073741824):Bi 2 ([Ag x]++NX s k)/\(Uk s k).length=((k:Nat):Int).toNat-((0:Int)).toNat/\((Uk s k).length+([Ag x]++NX s k).length)*16<=140737488355328/\(Uk s k).length+([Ag x]++NX s k).length<=9223372036854775807:=by
 grind [MZ]
theorem Ag6(s:A7)(x:Int×Int)(k:Nat):Uk s k++([Ag x]++NX s k)=(s.take k++([x]++s.drop k)).map Ag:=by
 grind [pz,nF]
theorem jL{s:A7}(h:j<s.length)(hA:A=(BF (s.take j)).reverse){y:Int×Int}(hy:A[A.length-1]?=some y)(Jk:s[j].1<=y.2):A.set (A.length-1) (y.1,max y.2 s[j].2)=(BF (s.take (j+1))).reverse:=by
 rw[Fv s j h];cases hr:BF (s.take j)with
 |nil=>simp_all
 |cons z t=>
  have eA:A=t.reverse++[z]:=B0
  have eL:A.length-1=t.reverse.length:=B0
  rw[eL,eA,BM (Ao _),IS]at hy;have ez:z=y:=DY hy;have e2:JS (z::t) s[j]=(z.1,max z.2 s[j].2)::t:=by show(if s[j].1<=z.2 then _ else _)=_;simp_all
  simp_all
theorem aQ{s:A7}(h:j<s.length)(hA:A=(BF (s.take j)).reverse)(hn:∀y,A[A.length-1]?=some y->¬s[j].1<=y.2):A++[s[j]]=(BF (s.take (j+1))).reverse:=by
 rw[Fv s j h];cases hr:BF (s.take j)with
 |nil=>rw[hA,hr];rfl
 |cons z t=>
  have eA:A=t.reverse++[z]:=B0
  have eL:A.length-1=t.reverse.length:=B0
  have:=hn z B0
  have e2:JS (z::t) s[j]=s[j]::z::t:=by show(if s[j].1<=z.2 then _ else _)=_;simp_all
  simp_all
set_option maxHeartbeats 4000000 in
theorem Ae0(l:A7)(hl:BD l):PC 118 [sl Ag l] (sl Ag (canon l)):=by
 refine Ps AbF func118 rfl (Nz rfl) (Xi {p:Nat×A7 // p.1<=l.length/\p.2.Perm (D4 (l.take p.1))/\p.2.Pairwise fun a b=>a.1<=b.1} (Xi (fun p=>⟨[(0,sl Ag l),(3,sl Ag p.1.2),(4,vi p.1.1)],[],Ae⟩) (Xi (fun p=>l.length-p.1.1) (Yi (Xi ⟨(0,[]),Aj _,.refl _,.nil⟩ ?_) ?_))))
 .exact⟨Z3,Tv,Fh,Tv⟩
 intro⟨⟨i,s⟩,i1,i2,i3⟩;have VH:s.length<=i:=by grind [TH,List.Perm.length_eq]
 refine Yi (fun h=>?_) (fun h=>?_)
 .skip
  have h:i<l.length:=B0
  have hg:l[i]?=some l[i]:=Ge h;refine Xi (Ag l[i]) (Yi (Yi ch B0) (Yi rfl ?_));refine Xi (Ag l[i]) (Yi (Yi ch B0) (Yi rfl ?_));refine yN (Yi aa1 (Xi ⟨[(0,sl Ag l),(3,sl Ag s),(4,vi i),(5,.ref 5 0)],[(5,.cells (Ag (GV l[i])))],Ae⟩ (Yi ?_ ?_)))
  .have e0:HO.cells [vi (max 0 l[i].1),vi (min 1000000 l[i].2)]=.cells (Ag (GV l[i])):=by
    rw[Int.max_comm,Int.min_comm];rfl
   exact⟨Z4,⟨⟨e0,rfl⟩,Tv⟩,Fh,Tv⟩
  refine Yi (fun h3=>?_) (fun h3=>?_)
  .refine cU [(0,sl Ag l),(3,sl Ag s),(4,vi i)] [] Z3 Tv (Yi (by grind [Az]) ?_);have e:=TG h (show ¬(GV l[i]).1<(GV l[i]).2 by omega);refine Xi ⟨(i+1,s),by omega,by simp_all,i3⟩ ?_;exact⟨by grind,Z3,Tv,Fh,Tv⟩
  have e:=QF h (show(GV l[i]).1<(GV l[i]).2 by omega);refine Xi {k:Nat // k<=s.length/\∀j (hj:j<s.length),k<=j->(GV l[i]).1<s[j].1} (Xi (fun k=>⟨[(0,sl Ag l),(3,sl Ag s),(4,vi i),(5,.ref 5 0),(6,vi k.1)],[(5,.cells (Ag (GV l[i])))],Ae⟩) (Xi (fun k=>k.1) (Yi (Xi ⟨s.length,Ao _,fun j hj G8=>by omega⟩ ?_) ?_)))
  .have e1:vi ((s.map Ag).length:Int)=vi (s.length:Int):=B0
   exact⟨⟨Zr,Zr,Zr,Zr,⟨e1,rfl⟩,Tv⟩,Z1,Fh,Tv⟩
  intro⟨k,k1,k2⟩;refine Yi (fun h4=>?_) (fun h4=>?_)
  .have h4:(0:Int)<k:=h4;refine Yi (show Az ((k:Int)-1) by grind [Az]) ?_;have hk:k-1<s.length:=ch
   have hg:s[k-1]?=some s[k-1]:=Ge hk;have hn:((k:Int)-1).toNat=k-1:=ch
   refine Xi (Ag s[k-1]) (Yi (Yi ch B0) (Yi rfl ?_));refine Yi (fun h5=>?_) (fun h5=>?_)
   .refine Yi aa1 (Yi (show Az ((k:Int)-1) by grind [Az]) ?_);have e1:vi ((k:Int)-1)=vi ((k-1:Nat):Int):=Aa vi ch;refine Xi ⟨k-1,by omega,fun j hj G8=>?_⟩ ?_
    .grind
    .exact⟨by grind,⟨Zr,Zr,Zr,Zr,⟨e1,rfl⟩,Tv⟩,Z1,Fh,Tv⟩
   have Qr:k=0\/∃h:k-1<s.length,s[k-1].1<=(GV l[i]).1:=.inr ⟨hk,by omega⟩;refine Yi aa1 (cU [(0,sl Ag l),(3,sl Ag s),(4,vi i),(5,.ref 5 0),(6,vi k)] [(5,.cells (Ag (GV l[i])))] Z5 Z1 (Yi (show(0:Int)<=0/\(0:Int)<=k/\(k:Int)=k/\(k:Int)<=((s.map Ag).length:Nat) by simp_all) (Yi (Qk s) (yN (Yi (show(0:Int)<=k/\(k:Int)<=((s.map Ag).length:Nat)/\(((s.map Ag).length:Nat):Int)<=((s.map Ag).length:Nat) by simp_all) (Yi (Qk s) ?_))))));refine Yi (uD s (GV l[i]) k ch) (Yi (uE s (GV l[i]) k k1 ch) (Yi aa1 (Be (show ∃t,t=s.take k++([GV l[i]]++s.drop k)from⟨_,rfl⟩) (fun t ht=>?_))));refine Xi ⟨[(0,sl Ag l),(3,sl Ag t),(4,vi i)],[],Ae⟩ (Yi ?_ ?_)
   .have e3:AV.slice .none (Uk s k++([Ag (GV l[i])]++NX s k))=sl Ag t:=by grind [Ag6]
    exact⟨⟨Zr,⟨e3,rfl⟩,Zr,Tv⟩,Tv,Fh,Tv⟩
   refine Yi (by grind [Az]) (Xi ⟨(i+1,t),by omega,by grind [od],by grind [Uv]⟩ ?_);exact⟨Dl l.length i ch,Z3,Tv,Fh,Tv⟩
  .have h4:¬(0:Int)<k:=h4;have Qr:k=0\/∃h:k-1<s.length,s[k-1].1<=(GV l[i]).1:=.inl ch;refine Yi aa1 (cU [(0,sl Ag l),(3,sl Ag s),(4,vi i),(5,.ref 5 0),(6,vi k)] [(5,.cells (Ag (GV l[i])))] Z5 Z1 (Yi (show(0:Int)<=0/\(0:Int)<=k/\(k:Int)=k/\(k:Int)<=((s.map Ag).length:Nat) by omega) (Yi (Qk s) (yN (Yi (show(0:Int)<=k/\(k:Int)<=((s.map Ag).length:Nat)/\(((s.map Ag).length:Nat):Int)<=((s.map Ag).length:Nat) by omega) (Yi (Qk s) ?_))))));refine Yi (uD s (GV l[i]) k ch) (Yi (uE s (GV l[i]) k k1 ch) (Yi aa1 (Be (show ∃t,t=s.take k++([GV l[i]]++s.drop k)from⟨_,rfl⟩) (fun t ht=>?_))));refine Xi ⟨[(0,sl Ag l),(3,sl Ag t),(4,vi i)],[],Ae⟩ (Yi ?_ ?_)
   .have e3:AV.slice .none (Uk s k++([Ag (GV l[i])]++NX s k))=sl Ag t:=aa0
    exact⟨⟨Zr,⟨e3,rfl⟩,Zr,Tv⟩,Tv,Fh,Tv⟩
   refine Yi (Ii i ch) (Xi ⟨(i+1,t),by omega,by grind,by show t.Pairwise _;rw[ht];exact Uv s _ k i3 k2 Qr⟩ ?_);exact⟨Dl l.length i ch,Z3,Tv,Fh,Tv⟩
 .skip
  have h:¬i<l.length:=B0
  have fin:(BF s).reverse=canon l:=LR aa0 i3;refine cU [(3,sl Ag s)] [] Z1 Tv (Xi {p:Nat×A7 // p.1<=s.length/\p.2=(BF (s.take p.1)).reverse} (Xi (fun p=>⟨[(3,sl Ag s),(7,.msl 63 p.1.2.length),(8,vi p.1.1)],[(63,GQ p.1.2)],Ae⟩) (Xi (fun p=>s.length-p.1.1) (Yi (Xi ⟨(0,[]),Aj _,rfl⟩ ?_) ?_))))
  .exact⟨Z3,Z1,Fh,Tv⟩
  intro⟨⟨j,A⟩,j1,hA⟩;have j1:j<=s.length:=j1;have hA:A=(BF (s.take j)).reverse:=hA;have hAl:A.length<=j:=by grind [Om]
  refine Yi (fun h2=>?_) (fun h2=>?_)
  .have h2:(j:Int)<((s.map Ag).length:Int):=h2;have h2:j<s.length:=B0
   have hgj:s[j]?=some s[j]:=Ge h2;refine cU [(3,sl Ag s),(7,.msl 63 A.length),(8,vi j),(9,vi A.length)] [(63,GQ A)] Z4 Z1 (Yi (fun h3=>?_) (fun h3=>?_))
   .have h3:(0:Int)<A.length:=h3;have nI:Az ((A.length:Int)-1):=by grind [Az]
    have hn:((A.length:Int)-1).toNat=A.length-1:=ch
    have lz:(0:Int)<=(A.length:Int)-1/\(A.length:Int)-1<(A.length:Int):=ch
    have EU:A.length-1<A.length:=ch
    have hg:A[A.length-1]?=some A[A.length-1]:=Ge EU;have zv:(A.map Ag)[((A.length:Int)-1).toNat]?=some (Ag A[A.length-1]):=by rw[hn];grind
    have hln:A.length=(A.map Ag).length:=B0
    have hsj:(0:Int)<=j/\(s.map Ag)[((j:Nat):Int).toNat]?=some (Ag s[j]):=⟨by omega,by simp_all⟩;refine Xi (Ag s[j]) (Yi hsj (Yi rfl (Yi nI (Yi lz (Yi hln (Xi (Ag A[A.length-1]) (Yi zv (Yi (fun h4=>?_) (fun h4=>?_)))))))))
    .have h4:s[j].1<=A[A.length-1].2:=h4;refine Yi aa1 (cU [(3,sl Ag s),(7,.msl 63 A.length),(8,vi j),(9,vi A.length)] [(63,GQ A)] Z4 Z1 (Yi nI (Yi nI (Yi lz (Yi hln (Xi (Ag A[A.length-1]) (Yi zv (Xi (Ag s[j]) (Yi hsj (Yi rfl (Yi lz (Yi hln (Xi (Ag A[A.length-1]) (Yi zv (yN (Yi aa1 (Be (show ∃B,B=A.set (A.length-1) (A[A.length-1].1,max A[A.length-1].2 s[j].2)from⟨_,rfl⟩) (fun B hB=>?_))))))))))))))))));have e2:HO.arr 2 ((A.map Ag).set ((A.length:Int)-1).toNat [vi A[A.length-1].1,vi (max A[A.length-1].2 s[j].2)])=GQ B:=B0
     have e1:AV.msl 63 A.length=.msl 63 B.length:=B0
     refine cU [(3,sl Ag s),(7,.msl 63 B.length),(8,vi j)] [(63,GQ B)] ⟨Zr,⟨e1,rfl⟩,Zr,Tv⟩ ⟨⟨e2,rfl⟩,Tv⟩ (Yi (Ii j ch) (Xi ⟨(j+1,B),by omega,by rw[hB];exact jL h2 hA hg h4⟩ ?_));exact⟨by grind,Z3,Z1,Fh,Tv⟩
    have h4:¬s[j].1<=A[A.length-1].2:=h4;have hjn:A++[s[j]]=(BF (s.take (j+1))).reverse:=aQ h2 hA fun y hy=>by
     simp_all
    refine Yi aa1 (cU [(3,sl Ag s),(7,.msl 63 A.length),(8,vi j),(9,vi A.length)] [(63,GQ A)] Z4 Z1 (Xi (Ag s[j]) (Yi hsj (Yi rfl (yN ?_)))));have F5:Bi 2 [Ag s[j]]/\(A.map Ag).length=A.length/\((A.map Ag).length+[Ag s[j]].length)*16<=140737488355328/\(A.map Ag).length+[Ag s[j]].length<=9223372036854775807:=
     ⟨⟨rfl,trivial⟩,by omega,by rw[Lm,H8];omega,by rw[Lm,H8];omega⟩
    refine Yi F5 (Be (show ∃B,B=A++[s[j]]from⟨_,rfl⟩) (fun B hB=>?_));have e1:AV.msl 63 ((A.map Ag).length+[Ag s[j]].length)=.msl 63 B.length:=by rw[hB];simp
    have e2:HO.arr 2 (A.map Ag++[Ag s[j]])=GQ B:=by rw[hB];simp
    refine cU [(3,sl Ag s),(7,.msl 63 B.length),(8,vi j)] [(63,GQ B)] ⟨Zr,⟨e1,rfl⟩,Zr,Tv⟩ ⟨⟨e2,rfl⟩,Tv⟩ (Yi (Ii j ch) (Xi ⟨(j+1,B),by omega,by simp_all⟩ ?_));exact⟨by grind,Z3,Z1,Fh,Tv⟩
   .have h3:¬(0:Int)<A.length:=h3;have hsj:(0:Int)<=j/\(s.map Ag)[((j:Nat):Int).toNat]?=some (Ag s[j]):=⟨by omega,by simp_all⟩;have hjn:A++[s[j]]=(BF (s.take (j+1))).reverse:=aQ h2 hA fun y hy=>by
     simp_all
    refine Yi aa1 (cU [(3,sl Ag s),(7,.msl 63 A.length),(8,vi j),(9,vi A.length)] [(63,GQ A)] Z4 Z1 (Xi (Ag s[j]) (Yi hsj (Yi rfl (yN ?_)))));have F5:Bi 2 [Ag s[j]]/\(A.map Ag).length=A.length/\((A.map Ag).length+[Ag s[j]].length)*16<=140737488355328/\(A.map Ag).length+[Ag s[j]].length<=9223372036854775807:=
     ⟨⟨rfl,trivial⟩,by simp_all,by simp_all,by simp_all⟩
    refine Yi F5 (Be (show ∃B,B=A++[s[j]]from⟨_,rfl⟩) (fun B hB=>?_));have e1:AV.msl 63 ((A.map Ag).length+[Ag s[j]].length)=.msl 63 B.length:=aa0
    have e2:HO.arr 2 (A.map Ag++[Ag s[j]])=GQ B:=aa0
    refine cU [(3,sl Ag s),(7,.msl 63 B.length),(8,vi j)] [(63,GQ B)] ⟨Zr,⟨e1,rfl⟩,Zr,Tv⟩ ⟨⟨e2,rfl⟩,Tv⟩ (Yi (Ii j ch) (Xi ⟨(j+1,B),by omega,by grind⟩ ?_));exact⟨by grind,Z3,Z1,Fh,Tv⟩
  .have h2:¬(j:Int)<((s.map Ag).length:Int):=h2;have h2:¬j<s.length:=B0
   refine Yi B0 ?_;exact .of_eq (Aa (sl Ag) (show A=canon l by grind))
theorem wM:zN:=Ae0
theorem wi:PC 237 [vs s] (vb (Er s)):=by
 refine Ps CQ func237 rfl (Nz rfl) (Yi (fun h=>?_) (fun h=>?_))
 .exact .of_eq (Aa vb (show true=Er s by grind [Er]))
 refine Yi (fun h2=>?_) (fun h2=>?_)
 .exact .of_eq (Aa vb (show true=Er s by grind [Er]))
 exact .of_eq (Aa vb (show false=Er s by grind [Er]))
def MK:Nat->Int
 |0=>v.a
 |1=>v.b
 |_=>v.c
abbrev eZ:C0:=[[vi v.a],[vi v.b],[vi v.c]]
theorem Qn(h:i<3):(eZ v)[((i:Nat):Int).toNat]?=some [vi (MK v i)]:=by
 rw[E0]
 match i,h with
 |0,_=>rfl
 |1,_=>rfl
 |2,_=>rfl
theorem mz(hi:i<3)(h:∀j,j<i->MK a j=MK b j)(hl:MK a i<MK b i):Ik a b=-1:=by
 match i,hi,h,hl with
 |0,_,h,hl=>
  have hl:a.a<b.a:=hl
  grind [Ik,FG]
 |1,_,h,hl=>
  have hl:a.b<b.b:=hl;have h0:a.a=b.a:=h 0 ch
  grind [Ik,FG]
 |2,_,h,hl=>
  have hl:a.c<b.c:=hl;have h0:a.a=b.a:=h 0 ch;have h1:a.b=b.b:=h 1 ch
  grind [Ik,FG]
theorem my(hi:i<3)(h:∀j,j<i->MK a j=MK b j)(hl:MK b i<MK a i):Ik a b=1:=by
 match i,hi,h,hl with
 |0,_,h,hl=>
  have hl:b.a<a.a:=hl
  grind [Ik,FG]
 |1,_,h,hl=>
  have hl:b.b<a.b:=hl;have hn:¬a.b<b.b:=ch
  have h0:a.a=b.a:=h 0 ch
  grind [Ik,FG]
 |2,_,h,hl=>
  have hl:b.c<a.c:=hl;have hn:¬a.c<b.c:=ch
  have h0:a.a=b.a:=h 0 ch;have h1:a.b=b.b:=h 1 ch
  grind [Ik,FG]
theorem mw(h:∀j,j<3->MK a j=MK b j):Ik a b=0:=by
 have h0:a.a=b.a:=h 0 ch;have h1:a.b=b.b:=h 1 ch;have h2:a.c=b.c:=h 2 ch
 grind [Ik,FG]
theorem Aec:PC 238 [.agg (CK a),.agg (CK b)] (vi (Ik a b)):=by
 refine Ps (Hy []) func238 rfl (Nz rfl) (Xi {i:Nat // i<=3/\∀j,j<i->MK a j=MK b j} (Xi (fun i=>⟨[(5,.slice (.id 14 1) (eZ a)),(6,.slice (.id 21 1) (eZ b)),(7,vi i.1)],[(14,.tok 1 3),(21,.tok 1 3)],Ae⟩) (Xi (fun i=>3-i.1) (Yi (Xi ⟨0,Aj _,fun j h=>by omega⟩ ?_) ?_))))
 .exact⟨Z3,Z2,Fh,Tv⟩
 intro⟨i,i1,i2⟩;refine Yi (fun h=>?_) (fun h=>?_)
 .have h:(i:Int)<3:=h;have h:i<3:=ch
  refine Xi [vi (MK a i)] (Yi (Yi ch (Qn a i h)) (Yi rfl (Xi [vi (MK b i)] (Yi (Yi ch (Qn b i h)) (Yi rfl (Yi (fun h2=>?_) (fun h2=>?_)))))))
  .refine Yi aa1 ?_;exact .of_eq (Aa vi (mz a b i h i2 h2).symm)
  refine Yi aa1 (Xi [vi (MK a i)] (Yi (Yi ch (Qn a i h)) (Yi rfl (Xi [vi (MK b i)] (Yi (Yi ch (Qn b i h)) (Yi rfl (Yi (fun h3=>?_) (fun h3=>?_))))))))
  .refine Yi aa1 ?_;exact .of_eq (Aa vi (my a b i h i2 h3).symm)
  refine Yi aa1 (Yi (by grind [Az]) (Xi ⟨i+1,by omega,fun j hj=>?_⟩ ?_))
  .grind
  exact⟨by grind,Z3,Z2,Fh,Tv⟩
 .have h:¬(i:Int)<3:=h;exact .of_eq (Aa vi (mw a b fun j hj=>i2 j ch).symm)
theorem AdY(a b:Rl):PC 173 [.agg (Au a),.agg (Au b)] (vi (CB a b)):=by
 have hc:=Aec a.ver b.ver;refine Ps CQ func173 rfl (Nz rfl) (Yi (fun h=>?_) (fun h=>?_))
 .exact .of_eq (Aa vi (show(-1:Int)=CB a b by grind [CB,IT,DZ]))
 refine Yi (fun h2=>?_) (fun h2=>?_)
 .exact .of_eq (Aa vi (show(1:Int)=CB a b by grind [CB,IT,DZ]))
 refine Yi (Nz rfl) (yN (C1 (C2 (hc) ?_)));exact .of_eq (Aa vi (show Ik a.ver b.ver=CB a b by grind [CB,IT,DZ]))
theorem o70(hs:Cc caps)(l:List (Sl))(p:Sl->Bool)(hF:∀x∈l,PC fF ([.agg (Ab x)]++caps) (vb (p x)))(hl:l.length<9223372036854775807) :
  PC 108 [sl Ab l,.clo fF caps] (vi (I7 p l 0)):=by
 refine Ps CQ func108 rfl (Nz rfl) (Xi {i:Nat // i<=l.length/\∀j (hj:j<l.length),j<i->p l[j]=false} (Xi (fun i=>⟨[(0,sl Ab l),(1,.clo fF caps),(7,vi (l.map Ab).length),(8,vi i.1)],[],Ae⟩) (Xi (fun i=>l.length-i.1) (Yi (Xi ⟨0,by simp⟩ ?_) ?_))))
 .exact⟨⟨Zr,⟨rfl,hs.ids _⟩,Zr,Zr,Tv⟩,Tv,Fh,Tv⟩
 .intro⟨i,h1,h2⟩;refine Yi ?_ ?_
  .intro h;have h:i<l.length:=B0
   have hg:l[i]?=some l[i]:=Ge h;refine Xi (Ab l[i]) (Yi (Yi ch B0) (Yi rfl (yN ?_)));have BQ:∀h,PC fF ([.agg (Ab l[i])]++caps.map (str0 h)) (vb (p l[i])):=fun h=>by rw[hs.map];simp_all
   cases hp:p l[i]with
   |true=>
    rw[hp]at BQ;refine Xi .pure (Xi (vb true) (Yi (BQ _) ?_));rw[Hl h (fun j hj G8=>h2 j hj G8) hp,Ev];exact .refl _
   |false=>
    rw[hp]at BQ;refine Xi .pure (Xi (vb false) (Yi (BQ _) (Yi (by grind [Az]) (Xi ⟨i+1,by omega,fun j hj G8=>?_⟩ ?_))))
    .grind
    .exact⟨by grind,⟨Zr,⟨rfl,hs.ids _⟩,Zr,Zr,Tv⟩,Tv,Fh,Tv⟩
  .intro h;have h:¬i<l.length:=B0
   rw[F8 fun j hj=>h2 j hj ch];exact .refl _
theorem o25(hs:Cc caps)(l:List (Sl))(p:Sl->Bool)(hF:∀x∈l,PC fF ([.agg (Ab x)]++caps) (vb (p x)))(hl:BD l) :
  PC 79 [sl Ab l,.clo fF caps] (vb (l.any p)):=by
 refine Ps CQ func79 rfl (Nz rfl) ?_;have hi:=o70 hs l p hF ch;have BQ:∀h,PC 108 [sl Ab l,.clo fF (caps.map (str0 h))] (vi (I7 p l 0)):=fun h=>by grind [Cc.map]
 refine C1 (C2 (BQ _) ?_);have ha:=Hg (p:=p) l 0 (Bs 0);refine Yi ?_ ?_
 .intro h;rw[<-ha,AB h];exact .refl _
 .intro h;rw[<-ha,Aw h];exact .refl _
def iZ(a b:Sl):Int:=if IT a.path b.path≠0 then IT a.path b.path else Ik a.ver b.ver
end Go.Eng
