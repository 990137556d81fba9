/- Lemmas 17. -/
import Derived.Test.YteaiieomnhbmgaaGreatDoorAA16
import Derived.Lib.LastIndexLaws
set_option maxHeartbeats 4000000
namespace Go.Eng
open Go.Proofs Go.Proofs.Tryz
variable {BU:List (Value×AV)}{h:Nat->HO}{a:AV}{k:Value}(y:List Rl)(r:Rl)(p:CS)(j:Nat)(l:List Rl)
abbrev Y4:Option Int->AV
 |some n=>.tup [vi n,vb true]
 |none=>.tup [vi 0,vb false]
theorem SZ{z:Int}(h0:0<=z)(h1:z<256):IntKind.u8.wrap z=z:=by
 show z % 256=z;omega
theorem Jp{c:UInt8}(h:Cs c=true):48<=c.toNat/\c.toNat<=57:=by
 grind [Cs,UInt8.le_iff_toNat_le]
theorem KX(r:List UInt8)(i:Nat)(h:i<r.length):D3 (r.take (i+1))=10*D3 (r.take i)+((r[i].toNat:Int)-48):=by
 grind [D3,List.take_add_one]
theorem Aeo(s:CS)(hs:ES s):PC 282 [vs s] (Y4 (Gm s.data.toList)):=by
 unfold ES at hs;have hc:=Aev s ⟨#[118]⟩
 by_cases hp:∃r,s.data.toList=118::r
 .obtain⟨r,hr⟩:=hp;have e1:Go.Lib.hasPrefix s.data.toList (⟨#[118]⟩:CS).data.toList=true:=by rw[hr];rfl
  have e2:Go.Lib.trimPrefix s.data.toList (⟨#[118]⟩:CS).data.toList=r:=by grind [Go.Lib.trimPrefix]
  rw[e1,e2]at hc;have hv:Gm s.data.toList=if(r.isEmpty||decide (3<r.length)||(decide (1<r.length)&&decide (r.headD 0=48))||!r.all Cs)=true then none else some (D3 r):=by rw[hr];rfl
  have hrl:r.length<s.size:=by
   have:s.size=s.data.toList.length:=Cl
   simp_all
  generalize hB:(⟨r.toArray⟩:CS)=rB at hc;have hBl:rB.data.toList=r:=aa0
  have hBs:rB.size=r.length:=by rw[<-hB];rfl
  have hw:=wm rB 287 Cs wq aa0;rw[hBl]at hw;have no:∀{b:Bool},b=true->(if b=true then none else some (D3 r))=(none:Option Int):=fun h=>Ax h;refine Ps (Hy []) func282 rfl (Nz rfl) (C1 (C2 (hc) (Yi ?_ ?_)))
  .intro h
   have:r=[]:=B0
   exact .of_eq (Aa Y4 (show(none:Option Int)=Gm s.data.toList by simp_all))
  intro h;have Ef:r≠[]:=fun e=>h B0;have Dr:0<r.length:=Jc.2 Ef;have se:r.isEmpty=false:=by
   simp_all
  refine Yi ?_ ?_
  .intro h2;exact .of_eq (Aa Y4 (show(none:Option Int)=Gm s.data.toList by grind))
  intro h2;have hl3:r.length<=3:=ch
  have d3:decide (3<r.length)=false:=Aw ch;refine Yi ?_ ?_
  .intro h3;have Afl:rB.data[(0:Int).toNat]?=some r[0]:=by
    grind
   refine Xi r[0] (Yi ⟨Bs _,Afl⟩ ?_);have hh:=Od r Dr;refine Yi ?_ ?_
   .intro h4
    have:r[0]=48:=HP.1 aa0
    exact .of_eq (Aa Y4 (show(none:Option Int)=Gm s.data.toList by grind))
   intro h4;have eo:(decide (1<r.length)&&decide (r.headD 0=48))=false:=by rw[hh,Aw (show ¬r[0]=48 from fun e=>h4 B0),Eo]
   have hv2:Gm s.data.toList=if(!r.all Cs)=true then none else some (D3 r):=aa0
   refine A1 (Bt (r.all Cs)) (fun e3=>?_) (fun e3=>?_)
   rotate_left
   .rw[e3]at hw;refine C1 (C2 (hw) ?_);exact .of_eq (Aa Y4 (show(none:Option Int)=Gm s.data.toList by simp_all))
   rw[e3]at hw;refine C1 (C2 (hw) ?_);have hv3:Gm s.data.toList=some (D3 r):=B0
   have z0:D3 (r.take 0)=0:=rfl;refine Xi {i:Nat // i<=r.length/\0<=D3 (r.take i)/\(i=0->D3 (r.take i)<=0)/\(i<=1->D3 (r.take i)<=9)/\(i<=2->D3 (r.take i)<=99)/\D3 (r.take i)<=999} (Xi (fun i=>⟨[(0,vs rB),(5,vi (D3 (r.take i.1))),(39,vi rB.size),(40,vi i.1)],[],Ae⟩) (Xi (fun i=>r.length-i.1) (Yi (Xi ⟨0,Aj _,by omega,fun _=>by omega,fun _=>by omega,fun _=>by omega,by omega⟩ ?_) ?_)))
   .exact⟨Z4,Tv,Fh,Tv⟩
   intro⟨i,i1,i2,i3,i4,i5,i6⟩;refine Yi ?_ ?_
   .intro h;have h:(i:Int)<(rB.size:Nat):=h;have h:i<r.length:=ch
    have hdg:Cs r[i]=true:=AS.1 e3 _ (Ai h);have uQ:=Jp hdg;have zy:=KX r i h;have qK:IntKind.u8.wrap ((r[i].toNat:Int)-48)=(r[i].toNat:Int)-48:=SZ ch ch;have Sv:rB.data[((i:Nat):Int).toNat]?=some r[i]:=aa0
    refine Yi (by show Az (10*D3 (r.take i));unfold Az;omega) (Xi r[i] (Yi ⟨by omega,Sv⟩ ?_));refine Yi (by show Az (IntKind.u8.wrap ((r[i].toNat:Int)-48));rw[qK];unfold Az;omega) ?_;refine Yi (by show Az (10*D3 (r.take i)+IntKind.u8.wrap ((r[i].toNat:Int)-48));rw[qK];unfold Az;omega) ?_;refine Yi (Ii i ch) ?_;have e5:vi (10*D3 (r.take i)+IntKind.u8.wrap ((r[i].toNat:Int)-48))=vi (D3 (r.take (i+1))):=B0
    refine Xi ⟨i+1,by omega,by omega,fun _=>by omega,fun _=>by omega,fun _=>by omega,by omega⟩ ?_;exact⟨Dl r.length i ch,⟨Zr,⟨e5,rfl⟩,Zr,Zr,Tv⟩,Tv,Fh,Tv⟩
   .intro h;have h:¬(i:Int)<(rB.size:Nat):=h;have e6:AV.tup [vi (D3 (r.take i)),vb true]=Y4 (Gm s.data.toList):=aa0
    exact .of_eq e6
  .intro h3;have h3:¬(1:Int)<((rB.size:Nat):Int):=h3;have eo:(decide (1<r.length)&&decide (r.headD 0=48))=false:=aa0
   have hv2:Gm s.data.toList=if(!r.all Cs)=true then none else some (D3 r):=aa0
   refine A1 (Bt (r.all Cs)) (fun e3=>?_) (fun e3=>?_)
   rotate_left
   .rw[e3]at hw;refine C1 (C2 (hw) ?_);exact .of_eq (Aa Y4 (show(none:Option Int)=Gm s.data.toList by simp_all))
   rw[e3]at hw;refine C1 (C2 (hw) ?_);have hv3:Gm s.data.toList=some (D3 r):=B0
   have z0:D3 (r.take 0)=0:=rfl;refine Xi {i:Nat // i<=r.length/\0<=D3 (r.take i)/\(i=0->D3 (r.take i)<=0)/\(i<=1->D3 (r.take i)<=9)/\(i<=2->D3 (r.take i)<=99)/\D3 (r.take i)<=999} (Xi (fun i=>⟨[(0,vs rB),(5,vi (D3 (r.take i.1))),(39,vi rB.size),(40,vi i.1)],[],Ae⟩) (Xi (fun i=>r.length-i.1) (Yi (Xi ⟨0,Aj _,by omega,fun _=>by omega,fun _=>by omega,fun _=>by omega,by omega⟩ ?_) ?_)))
   .exact⟨Z4,Tv,Fh,Tv⟩
   intro⟨i,i1,i2,i3,i4,i5,i6⟩;refine Yi ?_ ?_
   .intro h;have h:(i:Int)<(rB.size:Nat):=h;have h:i<r.length:=ch
    have hdg:Cs r[i]=true:=AS.1 e3 _ (Ai h);have uQ:=Jp hdg;have zy:=KX r i h;have qK:IntKind.u8.wrap ((r[i].toNat:Int)-48)=(r[i].toNat:Int)-48:=SZ ch ch;have Sv:rB.data[((i:Nat):Int).toNat]?=some r[i]:=aa0
    refine Yi (by show Az (10*D3 (r.take i));unfold Az;omega) (Xi r[i] (Yi ⟨by omega,Sv⟩ ?_));refine Yi (by show Az (IntKind.u8.wrap ((r[i].toNat:Int)-48));rw[qK];unfold Az;omega) ?_;refine Yi (by show Az (10*D3 (r.take i)+IntKind.u8.wrap ((r[i].toNat:Int)-48));rw[qK];unfold Az;omega) ?_;refine Yi (Ii i ch) ?_;have e5:vi (10*D3 (r.take i)+IntKind.u8.wrap ((r[i].toNat:Int)-48))=vi (D3 (r.take (i+1))):=B0
    refine Xi ⟨i+1,by omega,by omega,fun _=>by omega,fun _=>by omega,fun _=>by omega,by omega⟩ ?_;exact⟨Dl r.length i ch,⟨Zr,⟨e5,rfl⟩,Zr,Zr,Tv⟩,Tv,Fh,Tv⟩
   .intro h;have h:¬(i:Int)<(rB.size:Nat):=h;have e6:AV.tup [vi (D3 (r.take i)),vb true]=Y4 (Gm s.data.toList):=aa0
    exact .of_eq e6
 .have e1:Go.Lib.hasPrefix s.data.toList (⟨#[118]⟩:CS).data.toList=false:=by
   cases hl:s.data.toList with
   |nil=>rfl
   |cons a l=>
    have:a≠118:=fun e=>hp ⟨l,by simp_all⟩
    show(List.isPrefixOf [118] (a::l))=false
    grind
  have hv:Gm s.data.toList=none:=by
   cases hl:s.data.toList with
   |nil=>rfl
   |cons a l=>
    have:a≠118:=fun e=>hp ⟨l,by simp_all⟩
    show(if a=118 then _ else none)=none;simp_all
  rw[e1]at hc;refine Ps CQ func282 rfl (Nz rfl) (C1 (C2 (hc) ?_));exact .of_eq (Aa Y4 hv.symm)
abbrev QT:Option Int->AV
 |some n=>.tup [vi n,vi 0]
 |none=>.tup [vi 0,vi 4]
theorem LL(c:UInt8):∀(s x:List UInt8),x∈CL c s->x.length<=s.length
 | [],x,h=>by
  grind [CL]
 |b::r,x,h=>by
  have ih:=LL c r
  grind [CL]
theorem pd{p x:CS}(hp:ES p)(hx:x∈BK p):ES x:=by
 have h:x.data.toList∈CL 47 p.data.toList:=by grind [PY]
 have:=LL 47 _ _ h
 unfold ES at *
 have e1:x.size=x.data.toList.length:=Cl
 have e2:p.size=p.data.toList.length:=Cl
 omega
theorem ky:(BK p).length=(CL 47 p.data.toList).length:=by grind [PY]
theorem kz:0<(BK p).length:=by
 rw[show(BK p).length=Go.Lib.countB p cW+1 from Go.Lib.splitB_all cW Wk 0 _ p rfl];omega
theorem kw:(BK p).length<=p.size+1:=by
 rw[show(BK p).length=Go.Lib.countB p cW+1 from Go.Lib.splitB_all cW Wk 0 _ p rfl]
 have:=Go.Lib.countB_le cW Wk p.size p (Ao _);omega
theorem d6(h:(BK p).length-1<(BK p).length):(CL 47 p.data.toList).getLastD []=((BK p)[(BK p).length-1]).data.toList:=by
 grind [PY]
theorem ku:(CL 47 p.data.toList).all Hz=(BK p).all fun x=>Hz x.data.toList:=by
 grind [PY]
theorem Aa6(hp:ES p):PC 232 [vs p] (QT (Bc p)):=by
 have hps:=kw p;have Abd:=kz p;have hp1:(BK p).length-1<(BK p).length:=ch
 have FE:p.size=p.data.toList.length:=Cl
 have hfp:∀{x},x∈BK p->ES x:=fun h=>pd hp h;unfold ES at hp;have gj:((BK p).map Gx)[((((BK p).map Gx).length:Int)-1).toNat]?=some (Gx (BK p)[(BK p).length-1]):=by
  rw[Lm,show(((BK p).length:Int)-1).toNat=(BK p).length-1 by omega];grind
 have hv:=Aeo (BK p)[(BK p).length-1] (hfp (Ai hp1));have em:Bc p=match Gm ((BK p)[(BK p).length-1]).data.toList with
  |none=>none
  |some n=>if(decide (64<p.data.toList.length)||decide ((BK p).length<2))=true then none else if((BK p).all fun x=>Hz x.data.toList)=true then some n else none:=by
  unfold Bc QU;rw[d6 p hp1,ku,<-ky];cases Gm ((BK p)[(BK p).length-1]).data.toList<;>grind [Gm]
 cases hve:Gm ((BK p)[(BK p).length-1]).data.toList with
 |none=>
  rw[hve]at hv em;refine Ps (Hy []) func232 rfl (Nz rfl) (C1 (C2 (Aa9 p hp) (Yi (by show Az ((((BK p).map Gx).length:Int)-1);unfold Az;rw[Lm];omega) ?_)));refine Xi (Gx (BK p)[(BK p).length-1]) (Yi (Yi aa0 gj) (Yi rfl (C1 (C2 (hv) ?_))));exact .of_eq (Aa QT em.symm)
 |some n=>
  rw[hve]at hv em;refine Ps (Hy []) func232 rfl (Nz rfl) (C1 (C2 (Aa9 p hp) (Yi (by show Az ((((BK p).map Gx).length:Int)-1);unfold Az;rw[Lm];omega) ?_)));refine Xi (Gx (BK p)[(BK p).length-1]) (Yi (Yi aa0 gj) (Yi rfl (C1 (C2 (hv) (Yi ?_ ?_)))))
  .intro h;exact .of_eq (Aa QT (show(none:Option Int)=Bc p by grind))
  intro h;have d1:decide (64<p.data.toList.length)=false:=Aw ch;refine Yi ?_ ?_
  .intro h2;rw[Lm]at h2;exact .of_eq (Aa QT (show(none:Option Int)=Bc p by grind))
  intro h2;have d2:decide ((BK p).length<2)=false:=Aw (by rw[Lm]at h2;omega);have em2:Bc p=if((BK p).all fun x=>Hz x.data.toList)=true then some n else none:=aa0
  refine Xi {i:Nat // i<=(BK p).length/\∀j (hj:j<(BK p).length),j<i->Hz ((BK p)[j]).data.toList=true} (Xi (fun i=>⟨[(5,vi n),(33,sl Gx (BK p)),(34,vi ((BK p).map Gx).length),(35,vi i.1)],[],Ae⟩) (Xi (fun i=>(BK p).length-i.1) (Yi (Xi ⟨0,Aj _,fun j _ h=>by omega⟩ ?_) ?_)))
  .exact⟨Z4,Tv,Fh,Tv⟩
  intro⟨i,i1,i2⟩;refine Yi ?_ ?_
  .intro h;have h:i<(BK p).length:=by simpa using h
   have hg:(BK p)[i]?=some (BK p)[i]:=Ge h;refine Xi (Gx (BK p)[i]) (Yi (Yi ch (by simp[hg])) (Yi rfl ?_));have hfi:=hfp (Ai h);have hn:=Aep (BK p)[i] hfi;have ha:=wm (BK p)[i] 285 Va Aeq (by unfold ES at hfi;have e1:(BK p)[i].size=(BK p)[i].data.toList.length:=Cl;omega);have no:Hz ((BK p)[i]).data.toList=false->(none:Option Int)=Bc p:=fun e=>by
    rw[em2,AA];intro Gl
    have:=AS.1 Gl _ (Ai h)
    grind
   refine A1 (Bt (Gq ((BK p)[i]).data.toList)) (fun e1=>?_) (fun e1=>?_)
   rotate_left
   .rw[e1]at hn;refine C1 (C2 (hn) ?_);exact .of_eq (Aa QT (no (by unfold Hz;grind)))
   rw[e1]at hn;refine C1 (C2 (hn) (A1 (Bt (((BK p)[i]).data.toList.all Va)) (fun e2=>?_) (fun e2=>?_)))
   rotate_left
   .rw[e2]at ha;refine C1 (C2 (ha) ?_);exact .of_eq (Aa QT (no (by unfold Hz;grind)))
   rw[e2]at ha;refine C1 (C2 (ha) (Yi (Ii i ch) (Xi ⟨i+1,by omega,fun j hj G8=>?_⟩ ?_)))
   .rcases Db j i with z | z
    .exact i2 j hj z
    .have:j=i:=ch
     subst this;unfold Hz;grind
   .exact⟨by show(BK p).length-(i+1)<(BK p).length-i;omega,Z4,Tv,Fh,Tv⟩
  .intro h;have h:¬i<(BK p).length:=by simpa using h
   have e:some n=Bc p:=by
    rw[em2,Ax];exact AS.2 fun x hx=>by
     obtain⟨j,hj,rfl⟩:=NF hx;exact i2 j hj ch
   exact .of_eq (Aa QT e)
theorem Aeh(hp:ES p):PC 233 [vs p] (vb (Bc p).isSome):=by
 have hc:=Aa6 p hp;cases h:Bc p with
 |none=>
  rw[h]at hc;refine Ps CQ func233 rfl (Nz rfl) (C1 (C2 (hc) (Yi ?_ ?_)))
  .intro h;exact absurd (show(4:Int)=0 from h) Wk
  .intro _;exact .refl _
 |some n=>
  rw[h]at hc;refine Ps CQ func233 rfl (Nz rfl) (C1 (C2 (hc) (Yi ?_ ?_)))
  .intro _;exact .refl _
  .intro h;exact absurd rfl h
theorem OA(c:UInt8):∀s:List UInt8,2<=(CL c s).length->c∈s
 | [],h=>by grind [CL]
 |b::r,h=>by
  rw[CL]at h
  by_cases e:b=c
  .simp_all
  .rw[AA e]at h;refine Am _ (OA c r ?_)
   grind
theorem ol{p:CS}{m:Int}(h:Bc p=some m):0<=Go.Lib.lastIndex p.data.toList [47]/\Go.Lib.lastIndex p.data.toList [47]<=p.size:=by
 have h2:2<=(CL 47 p.data.toList).length:=by
  grind [Bc,QU]
 have hm:=OA 47 _ h2;obtain⟨i,hi,e⟩:=NF hm;have FE:p.size=p.data.toList.length:=Cl
 unfold Go.Lib.lastIndex;rw[Ax aa0];have Akx:Go.Lib.occAt p.data.toList [47] i=true:=by
  grind [Go.Lib.occAt,List.drop_eq_getElem_cons]
 grind [Go.Lib.lastOcc_spec]
abbrev dO:CS:=p.extract 0 (Go.Lib.lastIndex p.data.toList [47]).toNat
theorem VD:VA dO:=by
 intro p hp;have hc:=Aa6 p hp;have hi:=Aeh p hp;unfold aV;cases h:Bc p with
 |none=>
  rw[h]at hc hi;refine Ps CQ func167 rfl (Nz rfl) (C1 (C2 (hc) (C1 (C2 (hi) ?_))));exact .refl _
 |some n=>
  rw[h]at hc hi;obtain⟨l1,l2⟩:=ol h;have hl:PC 234 [vs p,vs cW] (vi (Go.Lib.lastIndex p.data.toList [47])):=Aei p cW hp;refine Ps CQ func167 rfl (Nz rfl) (C1 (C2 (hc) (C1 (C2 (hi) (Yi ?_ ?_)))))
  .intro h;exact absurd rfl h
  intro _;refine C1 (C2 (hl) (Yi ⟨Bs _,l1,l2⟩ ?_));exact .refl _
theorem Qe{l:List Rq}(h:A8 l=0):l.length<=16:=by
 grind [A8]
theorem Lz{x:List Rl}(h:AL x=0):x.length<=256/\∀r∈x,r.reqs.length<=16:=by
 have h1:x.length<=256:=by
  grind [AL]
 exact⟨h1,fun r hr=>Qe ((B7 h).1 r hr).reqs⟩
theorem mV{x:List Rl}(h:∀r∈x,r.reqs.length<=16):((x.map (·.reqs)).flatten).length<=x.length*16:=by
 induction x<;>grind
theorem d9{x:List Rl}{roots:List Rq}{l:List Nf}(h1:AL x=0)(h2:A8 roots=0)(h3:l.length<=65536):(Kx x roots l).length<=100000:=by
 grind [Lz,mV,Qe,Kx]
theorem Vz.fewI{U:List CS}{t:List Tm}(h:Vz U t)(hu:U.length<=100000):vI t:=
 ⟨by have:=h.len;omega,fun u hu=>SL (h.1.canon u hu)⟩
abbrev HZ(x:List Rl)(ifs:C0):AV:=.agg (Ic x ifs)
abbrev Zn:E1:=⟨true,[.str,.int .i64,.int .i64,.int .i64]⟩
abbrev WN(y:Sl):Value:=.agg #[.string y.path,.int .i64 y.ver.a,.int .i64 y.ver.b,.int .i64 y.ver.c]
abbrev WQ:Value×AV:=(WN (Fa r),.agg (Au r))
def AW:List Rl->List CS->List CS
 | [],acc=>acc
 |r::x,acc=>AW x (if acc.any (fun p=>decide (p=r.path))then acc else acc++[r.path])
abbrev ve(x:List Rl)(p:CS):Value×AV:=(.string p,sl Au (x.filter fun r=>decide (r.path=p)))
abbrev tV(x:List Rl):AV:=if AL x=0 then .tup [.agg [.cmap Zn (x.map WQ),.cmap BW ((AW x []).map (ve x))],vi 0]else .tup [.agg [.cmap Zn [],.cmap BW []],vi (AL x)]
abbrev uA(x:List Rl)(ifs:C0):Prop:=PC 82 [HZ x ifs] (tV x)
theorem AeO:PC 83 [.agg qQ] (.agg qQ):=by
 refine Ps CQ func83 rfl (Nz rfl) (yN (Xi Unit (Xi (fun _=>⟨[(1,.ref 1 0),(2,.ref 2 0),(10,vi 0),(11,vi 0)],[(1,.cells qQ),(2,.cells qQ)],Ae⟩) (Xi (fun _=>0) (Yi (Xi () ?_) ?_)))))
 .exact⟨Z4,Z2,Fh,Tv⟩
 intro _;refine Yi ?_ ?_
 .intro h;exact absurd (show(0:Int)<0 from h) Wk
 .intro _;refine Yi (Nz rfl) (Yi (Nz rfl) (yN ?_));exact .refl _
theorem sF{y z:Sl}(h:WN y=WN z):y=z:=by
 obtain⟨p,⟨a,b,c⟩⟩:=y<;>simp_all
theorem gv{x:List Rl}{y:Sl}(h:(WN y,a)∈x.map WQ):∃r∈x,Fa r=y/\a=.agg (Au r):=by
 grind [sF]
theorem mT{x:List Rl}(hx:AL x=0){r:Rl}(hr:r∈x):By x (Fa r)=some r:=by
 unfold By;rw[AA ch];cases h:x.find? (fun s=>decide (Fa s=Fa r))with
 |none=>
  grind
 |some s=>
  have h1:=DA h;simp only[Bj]at h1;have hs:=AX h;have hp:=(B7 hx).2
  grind [List.mem_iff_getElem,List.pairwise_iff_getElem,JJ]
theorem c53(x:List Rl)(ifs:C0)(p:CS)(v:Ver)(nv:uA x ifs)(hx:∀r∈x,CX r):PC 42 [HZ x ifs,vs p,.agg (CK v)] (Sc (By x ⟨p,v⟩)):=by
 have hz:=AeO
 by_cases h0:AL x=0
 .have nv:PC 82 [HZ x ifs] (.tup [.agg [.cmap Zn (x.map WQ),.cmap BW ((AW x []).map (ve x))],vi 0]):=by
   grind
  refine Ps (Hy []) func42 rfl (Nz rfl) (yN (C1 (C2 (nv) (yN (yN (Yi ?_ ?_))))))
  .intro a ha;refine Be (gv (y:=⟨p,v⟩) ha) (fun r hr=>?_);have e:=hr.2.2;subst e;have hf:By x ⟨p,v⟩=some r:=by grind [mT]
   have hrq:=(Lz h0).2 r hr.1;have hc:=c98 r ch (fun q hq=>((hx r hr.1).2 q hq).1);refine yN (yN (C1 (C2 (hc) (Yi (Nz rfl) (yN ?_)))));exact .of_eq (show AV.tup [.agg (Au r),vb true]=Sc (By x ⟨p,v⟩) by rw[hf])
  .intro hn;have hf:By x ⟨p,v⟩=none:=by
    cases h:By x ⟨p,v⟩with
    |none=>rfl
    |some r=>
     obtain⟨_,h2,h3⟩:=Gf h;exact absurd (Ay.2 ⟨r,h2,by simp_all⟩) (hn (.agg (Au r)))
   refine yN (yN (C1 (C2 (hz) (Yi (Nz rfl) (yN ?_)))));exact .of_eq (show AV.tup [.agg qQ,vb false]=Sc (By x ⟨p,v⟩) by rw[hf])
 .have nv:PC 82 [HZ x ifs] (.tup [.agg [.cmap Zn [],.cmap BW []],vi (AL x)]):=by
   grind
  have hf:By x ⟨p,v⟩=none:=by grind [By]
  refine Ps (Hy []) func42 rfl (Nz rfl) (yN (C1 (C2 (nv) (yN (yN (Yi ?_ ?_))))))
  .intro a ha;cases ha
  .intro _;refine yN (yN (C1 (C2 (hz) (Yi (Nz rfl) (yN ?_)))));exact .of_eq (show AV.tup [.agg qQ,vb false]=Sc (By x ⟨p,v⟩) by rw[hf])
abbrev EX:A7:=(l.filter fun r=>!r.yanked).map fun r=>(plc r.ver,plc r.ver+1)
theorem eY:(EX l).length<=l.length:=by
 grind
theorem sJ{x:List Rl}{ps:List CS}{p:CS}(h:(Value.string p,a)∈ps.map (ve x)):a=sl Au (x.filter fun r=>decide (r.path=p)):=by
 grind
theorem GE:∀(x:List Rl) (acc:List CS) (p:CS),p∈AW x acc↔p∈acc\/∃r∈x,r.path=p
 | [],acc,p=>by simp[AW]
 |r::x,acc,p=>by
  rw[AW,GE x]
  grind
abbrev vo:Qx:=(pT [] [(7,2)] [])
theorem Wm(L:List Rl)(i:Nat)(h:i<L.length):EX (L.take (i+1))=EX (L.take i)++(if L[i].yanked then []else [(plc L[i].ver,plc L[i].ver+1)]):=by
 unfold EX;rw[DI,Ge h,List.filter_append,Ar]
 grind
theorem Ael(x:List Rl)(ifs:C0)(p:CS)(nv:uA x ifs):PC 185 [HZ x ifs,vs p] (sl Ag (B3 x p)):=by
 by_cases h0:AL x=0
 .have nv:PC 82 [HZ x ifs] (.tup [.agg [.cmap Zn (x.map WQ),.cmap BW ((AW x []).map (ve x))],vi 0]):=by
   grind
  have HE:=(Lz h0).1;obtain⟨L,lx⟩:∃L,L=x.filter fun r=>decide (r.path=p):=⟨_,rfl⟩;have hL:LF x p=L:=by grind [LF]
  have hLl:L.length<=256:=aa0
  refine Ps vo func185 rfl (Nz rfl) (yN (C1 (C2 (nv) (yN (Yi ?_ ?_)))))
  .intro a ha;have ea:a=sl Au L:=aa0
   subst ea;refine Xi {i:Nat // i<=L.length} (Xi (fun i=>⟨[(7,.slice (.id 7 2) ((EX (L.take i.1)).map Ag)),(18,sl Au L),(19,vi (L.map Au).length),(20,vi i.1)],[(7,.tok 2 ((EX (L.take i.1)).map Ag).length)],Ae⟩) (Xi (fun i=>L.length-i.1) (Yi (Xi ⟨0,Aj _⟩ ?_) ?_)))
   .exact⟨Z4,Z1,Fh,Tv⟩
   intro⟨i,i1⟩;have VH:=eY (L.take i);rw[AF]at VH;refine Yi ?_ ?_
   .intro h;have h:i<L.length:=B0
    have hg:L[i]?=some L[i]:=Ge h;refine Xi (Au L[i]) (Yi (Yi ch B0) (Yi rfl ?_));refine Yi (Nz rfl) (yN (Yi ?_ ?_))
    .intro hy;refine Yi (by grind [Az]) ?_;have es:EX (L.take (i+1))=EX (L.take i):=by rw[Wm L i h,hy];simp
     have e1:AV.slice (.id 7 2) ((EX (L.take i)).map Ag)=.slice (.id 7 2) ((EX (L.take (i+1))).map Ag):=by rw[es]
     have e2:HO.tok 2 ((EX (L.take i)).map Ag).length=.tok 2 ((EX (L.take (i+1))).map Ag).length:=by rw[es]
     refine Xi ⟨i+1,by omega⟩ ?_;exact⟨by grind,⟨⟨e1,rfl⟩,Zr,Zr,Zr,Tv⟩,⟨⟨e2,rfl⟩,Tv⟩,Fh,Tv⟩
    .intro hy;have dE:=tq L[i].ver;refine yN (C2 (c88 L[i]) (yN (C2 (c88 L[i]) (Yi (by grind [Az]) ?_))));have F5:Bi 2 [[vi (plc L[i].ver),vi (plc L[i].ver+1)]]/\((EX (L.take i)).map Ag).length=((EX (L.take i)).map Ag).length/\(((EX (L.take i)).map Ag).length+[[vi (plc L[i].ver),vi (plc L[i].ver+1)]].length)*16<=140737488355328/\((EX (L.take i)).map Ag).length+[[vi (plc L[i].ver),vi (plc L[i].ver+1)]].length<=9223372036854775807:=
      ⟨⟨rfl,trivial⟩,rfl,by grind,by grind⟩
     refine Yi F5 (Yi aa1 (Yi (by grind [Az]) ?_));have es:EX (L.take (i+1))=EX (L.take i)++[(plc L[i].ver,plc L[i].ver+1)]:=by rw[Wm L i h,hy];simp
     have e1:AV.slice (.id 7 2) ((EX (L.take i)).map Ag++[[vi (plc L[i].ver),vi (plc L[i].ver+1)]])=.slice (.id 7 2) ((EX (L.take (i+1))).map Ag):=B0
     have e2:HO.tok 2 (((EX (L.take i)).map Ag).length+[[vi (plc L[i].ver),vi (plc L[i].ver+1)]].length)=.tok 2 ((EX (L.take (i+1))).map Ag).length:=B0
     refine Xi ⟨i+1,by omega⟩ ?_;exact⟨by grind,⟨⟨e1,rfl⟩,Zr,Zr,Zr,Tv⟩,⟨⟨e2,rfl⟩,Tv⟩,Fh,Tv⟩
   .intro h;have h:¬i<L.length:=B0
    have et:L.take i=L:=As ch;have hc:PC 169 [sl Ag (EX (L.take i))] (sl Ag (canon (EX (L.take i)))):=XZ _ ch;refine C1 (C2 (hc) ?_);exact .of_eq (show sl Ag (canon (EX (L.take i)))=sl Ag (B3 x p) by grind [B3])
  .intro hn;have hL:LF x p=[]:=by
    rw[hL,lx,List.filter_eq_nil_iff];intro r hr he;have he:=AT he;exact hn _ (Ay.2 ⟨p,(GE x [] p).2 (.inr ⟨r,hr,he⟩),rfl⟩)
   refine Xi Unit (Xi (fun _=>⟨[(7,.slice (.id 7 2) []),(19,vi 0),(20,vi 0)],[(7,.tok 2 0)],Ae⟩) (Xi (fun _=>0) (Yi (Xi () ?_) ?_)))
   .exact⟨Z3,Z1,Fh,Tv⟩
   intro _;refine Yi ?_ ?_
   .intro h;exact absurd (show(0:Int)<0 from h) Wk
   intro _;have hc:PC 169 [sl Ag []] (sl Ag (canon [])):=XZ [] B0;refine C1 (C2 (hc) ?_);exact .of_eq (show sl Ag (canon [])=sl Ag (B3 x p) by grind [B3])
 .have nv:PC 82 [HZ x ifs] (.tup [.agg [.cmap Zn [],.cmap BW []],vi (AL x)]):=by
   grind
  have hL:LF x p=[]:=by grind [LF]
  refine Ps vo func185 rfl (Nz rfl) (yN (C1 (C2 (nv) (yN (Yi ?_ ?_)))))
  .intro a ha;cases ha
  .intro _;refine Xi Unit (Xi (fun _=>⟨[(7,.slice (.id 7 2) []),(19,vi 0),(20,vi 0)],[(7,.tok 2 0)],Ae⟩) (Xi (fun _=>0) (Yi (Xi () ?_) ?_)))
   .exact⟨Z3,Z1,Fh,Tv⟩
   intro _;refine Yi ?_ ?_
   .intro h;exact absurd (show(0:Int)<0 from h) Wk
   intro _;have hc:PC 169 [sl Ag []] (sl Ag (canon [])):=XZ [] B0;refine C1 (C2 (hc) ?_);exact .of_eq (show sl Ag (canon [])=sl Ag (B3 x p) by grind [B3])
theorem Tw(x:List Rl)(p:CS):BD (B3 x p):=by
 grind [B3,Ij,B6]
theorem LH:∀(y:List Rl) (acc:List CS) (r:Rl),AW (y++[r]) acc=if(AW y acc).any (fun p=>decide (p=r.path))then AW y acc else AW y acc++[r.path]
 | [],acc,r=>rfl
 |s::y,acc,r=>by rw[G0,AW,AW,LH y]
theorem E9:∀(y:List Rl) (acc:List CS),acc.Nodup->(AW y acc).Nodup
 | [],_,h=>h
 |s::y,acc,h=>by
  rw[AW];refine E9 y _ ?_
  grind
abbrev dW:C0:=(y.filter fun r=>decide (r.path=p)).map Au
abbrev Aar(q:CS×Nat):Value×AV:=(.string q.1,.slice (.id (q.2+50) 9) (dW y q.1))
abbrev Ub:List (Value×AV):=(AW y []).zipIdx.map (Aar y)
def LO(l:Nat):HO:=match(AW y [])[l]? with
 |some q=>.tok 9 (dW y q).length
 |none=>.free
def WF:HO:=bif Nat.ble 50 j then LO y (j-50)else .free
theorem HY(l:Nat):WF y (l+50)=LO y l:=by
 grind [WF,Nat.ble_eq]
theorem wS{j:Nat}(h:j<50):WF y j=.free:=by
 grind [WF,Nat.ble_eq]
open Classical in
theorem MH(h:∀a',(k,a')∉BU):EV BU k a=BU++[(k,a)]:=by
 grind [EV]
open Classical in
theorem bn{a':AV}(h:(k,a')∈BU):EV BU k a=BU.map fun p=>if p.1=k then(k,a)else p:=by
 unfold EV;rw[Ax ⟨a',h⟩]
section
variable {y:List Rl}{r:Rl}{k:Nat}
theorem Nq(h:(AW y [])[k]?=some r.path):AW (y++[r]) []=AW y []:=by
 grind [LH]
theorem Np(h:r.path∉AW y []):AW (y++[r]) []=AW y []++[r.path]:=by
 grind [LH]
theorem Js{l:List CS}(hd:l.Nodup){i j:Nat}{p:CS}(h1:l[i]?=some p)(h2:l[j]?=some p):i=j:=by
 grind [List.getElem_inj]
open Classical in
theorem rT(h:(AW y [])[k]?=some r.path):EV (Ub y) (.string r.path) (.slice (.id (k+50) 9) (dW y r.path++[Au r]))=Ub (y++[r]):=by
 have hd:=E9 y [] ON;have hm:Aar y (r.path,k)∈Ub y:=Ay.2 ⟨_,HM.2 h,rfl⟩;rw[bn (a':=.slice (.id (k+50) 9) (dW y r.path)) hm];unfold Ub;rw[Nq h,Bw];refine CC fun q hq=>?_
 grind [Js]
theorem gM(h:r.path∉AW y []):dW y r.path=[]:=by
 grind [List.filter_eq_nil_iff,GE]
theorem ng(h:r.path∉AW y [])(a:AV):(Value.string r.path,a)∉Ub y:=by
 grind
theorem rS(h:r.path∉AW y []):EV (Ub y) (.string r.path) (.slice (.id ((AW y []).length+50) 9) [Au r])=Ub (y++[r]):=by
 grind [MH,Np,List.map_congr_left,gM]
theorem nl{p:CS}{j:Nat}(h:(AW y [])[j]?=some p):(Value.string p,AV.slice (.id (j+50) 9) (dW y p))∈Ub y/\∀b,(Value.string p,b)∈Ub y->b=AV.slice (.id (j+50) 9) (dW y p):=by
 refine⟨Ay.2 ⟨(p,j),HM.2 h,rfl⟩,fun b hb=>?_⟩
 grind [Js,E9]
theorem pX{p:CS}{j:Nat}(h:(AW y [])[j]?=some p):LO y j=.tok 9 (dW y p).length:=by
 grind [LO]
theorem tX(h:(AW y [])[k]?=some r.path)(l:Nat):(bif Nat.beq (l+50) (k+50)then HO.tok 9 ((dW y r.path).length+1)else LO y l)=LO (y++[r]) l:=by
 grind [Nat.beq_refl,LO,Nq,Nat.eq_of_beq_eq_true,Js,E9]
theorem tW(h:r.path∉AW y [])(l:Nat):(bif Nat.beq (l+50) ((AW y []).length+50)then HO.tok 9 1 else LO y l)=LO (y++[r]) l:=by
 grind [Nat.beq_refl,LO,Np,gM,Nat.eq_of_beq_eq_true]
end
theorem QO{h:Nat->HO}:∀{BU:List (Value×AV)},(∀p∈BU,Uq h p.2=true)->RQ h BU=true
 | [],_=>rfl
 |p::r,hk=>by
  unfold RQ;rw[hk p (Ah ..)];exact QO (fun q hq=>hk q (Am _ hq))
theorem Lw(hh:∀l,h (l+50)=LO y l):RQ h (Ub y)=true:=by
 refine QO fun p hp=>?_;obtain⟨q,h1,rfl⟩:=Ay.1 hp;show Sz h (q.2+50)=true
 grind [Sz,pX]
theorem JC{y:List Rl}{h':Nat->HO}(hh:∀l,h (l+50)=LO y l)(j:Nat):WF y j=.free\/(h j=WF y j/\SA h' (WF y j)=true):=by
 by_cases hj:j<50
 .grind [wS]
 .obtain⟨l,rfl⟩:∃l,j=l+50:=⟨j-50,by omega⟩
  right
  rw[HY];refine⟨hh l,?_⟩;unfold LO;cases (AW y [])[l]?<;>rfl
theorem tB{x:List Rl}(hx:AL x=0){i:Nat}(hi:i<x.length):EV ((x.take i).map WQ) (WN (Fa x[i])) (.agg (Au x[i]))=(x.take (i+1)).map WQ:=by
 rw[MH]
 .rw[DI,Ge hi,Ar];rfl
 intro a ha;obtain⟨r,hr,he,_⟩:=gv ha;obtain⟨j,hj,e2⟩:=DS.1 hr;rw[AF]at hj;rw[List.getElem_take]at e2;have hp:=(B7 hx).2
 grind [List.pairwise_iff_getElem,JJ]
abbrev AbH:Qx:=⟨[],[],[],[],[8,9],[9],[40],[],[],[],[8,9,10,11]⟩
abbrev zT:List AV:=[.v (.map none),.v (.map none)]
theorem ru(x:List Rl)(ifs:C0)(nu:PC 86 [HZ x ifs] (vi (AL x)))(h0:AL x≠0):uA x ifs:=by
 have ht:tV x=.tup [.agg [.cmap Zn [],.cmap BW []],vi (AL x)]:=B0
 unfold uA;rw[ht];refine Ps AbH func82 rfl (Nz rfl) (Xi 0 (Xi 0 (yN (Xi 0 (yN (C1 (C2 (nu) (Xi 0 (Yi ?_ ?_)))))))))
 .intro _;refine Xi 0 (yN (yN (yN ?_)));exact .refl _
 .intro h;exact absurd h (fun hc=>hc h0)
theorem Hx:∀(y:List Rl) (acc:List CS),(AW y acc).length<=acc.length+y.length
 | [],acc=>by simp[AW]
 |r::y,acc=>by
  rw[AW];refine Av (Hx y _) ?_
  grind
section
attribute [local irreducible] Ir
theorem wy(x:List Rl)(ifs:C0)(nu:PC 86 [HZ x ifs] (vi (AL x)))(h0:AL x=0)(Dr:x.length<=256):uA x ifs:=by
 have ht:tV x=.tup [.agg [.cmap Zn (x.map WQ),.cmap BW ((AW x []).map (ve x))],vi 0]:=B0
 unfold uA;rw[ht];rw[h0]at nu;refine Ps AbH func82 rfl (Nz rfl) (Xi 0 (Xi 0 (yN (Xi 0 (yN (C1 (C2 (nu) (Xi 0 (Yi ?_ ?_)))))))))
 .intro hc;exact absurd (show(0:Int)≠0 from hc) Wk
 intro _;refine Xi 0 (Xi {i:Nat // i<=x.length} (Xi (fun i=>⟨[(2,.ref 2 0),(4,.ref 4 0),(18,sl Au x),(19,vi (x.map Au).length),(20,vi i.1)],[(2,.cells zT),(4,.cells [.mref 8,.mref 9]),(8,.map Zn ((x.take i.1).map WQ)),(9,.mapU BW (Ub (x.take i.1)))],WF (x.take i.1)⟩) (Xi (fun i=>x.length-i.1) (Yi (Xi ⟨0,Aj _⟩ ?_) ?_))))
 .refine⟨Z5,Z4,fun j=>.inl ?_,Tv⟩;show WF [] j=.free;unfold WF;cases Nat.ble 50 j<;>rfl
 intro⟨i,i1⟩;refine Xi 0 (Yi ?_ ?_)
 .intro h;have h:i<x.length:=B0
  have hg:x[i]?=some x[i]:=Ge h;have PA:x.take (i+1)=x.take i++[x[i]]:=B0
  refine Xi 0 (Xi (Au x[i]) (Yi (Yi ch B0) (Yi rfl ?_)));refine Yi (Nz rfl) (yN (Xi ⟨[(2,.ref 2 0),(4,.ref 4 0),(7,.ref 7 0),(18,sl Au x),(19,vi (x.map Au).length),(20,vi i)],[(2,.cells zT),(4,.cells [.mref 8,.mref 9]),(7,.cells (Au x[i])),(8,.map Zn ((x.take i).map WQ)),(9,.mapU BW (Ub (x.take i)))],WF (x.take i)⟩ (Yi ?_ ?_)))
  .exact⟨Z6,⟨Zr,Zr,Zr,Zr,⟨rfl,Lw _ (HY _)⟩,Tv⟩,JC (HY _),Tv⟩
  refine Xi 0 (yN (C2 (wd x[i]) (yN (Yi aa1 ?_))));have e8:EV ((x.take i).map WQ) (WN (Fa x[i])) (.agg (Au x[i]))=(x.take (i+1)).map WQ:=tB h0 h;refine Xi ⟨[(2,.ref 2 0),(4,.ref 4 0),(7,.ref 7 0),(18,sl Au x),(19,vi (x.map Au).length),(20,vi i)],[(2,.cells zT),(4,.cells [.mref 8,.mref 9]),(7,.cells (Au x[i])),(8,.map Zn ((x.take (i+1)).map WQ)),(9,.mapU BW (Ub (x.take i)))],WF (x.take i)⟩ (Yi ?_ ?_)
  .exact⟨Z6,⟨Zr,Zr,Zr,⟨Aa (HO.map Zn) e8,rfl⟩,⟨rfl,Lw _ (HY _)⟩,Tv⟩,JC (HY _),Tv⟩
  have hL:((x.take i).filter (fun r=>decide (r.path=x[i].path))).length<=256:=by
   grind
  have hP:∀l,WF (x.take i) (l+50)=LO (x.take i) l:=HY _;refine A1 (Classical.em (x[i].path∈AW (x.take i) [])) (fun hp=>?_) (fun hp=>?_)
  .refine Be (En.1 hp) (fun k hk=>?_);have hu:=nl hk;refine Xi 0 ?_;refine Or.inl (Xi (.slice (.id (k+50) 9) (dW (x.take i) x[i].path)) (Yi hu ?_));refine yN ?_;have hr:WF (x.take i) (k+50)=.tok 9 (dW (x.take i) x[i].path).length:=by rw[hP,pX hk]
   have hl:(dW (x.take i) x[i].path).length<=256:=aa0
   refine RG (e:=78) (m:=8) (es2:=[Au x[i]]) rfl rfl rfl (fun _ h=>h) hr ⟨rfl,trivial⟩ (by show(_+1)*120<=_;omega) aa0 ?_;have AaZ:k<256:=by
    have:=(Bf.1 hk).1
    have:=Hx (x.take i) []
    grind
   have xc:=hk;refine Yi (Jg ⟨AR _,AR _,AR _,AR _,AR _,AR _,AR _,AR _,AR _,AR _,Ej (show 39<10000000 by decide),Ej ch,Ej (show 9<10000000 by decide),trivial⟩ aa1) ?_;have e9:EV (Ub (x.take i)) (.string x[i].path) (.slice (.id (k+50) 9) (dW (x.take i) x[i].path++[Au x[i]]))=Ub (x.take (i+1)):=by rw[PA];exact rT xc
   have hG:∀l,(bif Nat.beq (l+50) (k+50)then HO.tok 9 ((dW (x.take i) x[i].path).length+1)else LO (x.take i) l)=LO (x.take (i+1)) l:=by rw[PA];exact tX xc
   refine Xi ⟨[(2,.ref 2 0),(4,.ref 4 0),(18,sl Au x),(19,vi (x.map Au).length),(20,vi i)],[(2,.cells zT),(4,.cells [.mref 8,.mref 9]),(8,.map Zn ((x.take (i+1)).map WQ)),(9,.mapU BW (Ub (x.take (i+1))))],WF (x.take (i+1))⟩ (Yi ?_ ?_)
   .refine⟨Z5,⟨Zr,Zr,Zr,⟨Aa (HO.mapU BW) e9,Lw _ (HY _)⟩,Tv⟩,JC (fun l=>?_),Tv⟩;show(bif Nat.beq (l+50) (k+50)then HO.tok 9 ((dW (x.take i) x[i].path).length+1)else WF (x.take i) (l+50))=_
    grind
   refine Xi 0 (Yi (Ii i ch) (Xi ⟨i+1,by omega⟩ ?_));exact⟨by grind,Z5,⟨Zr,Zr,Zr,⟨rfl,Lw _ (HY _)⟩,Tv⟩,JC (HY _),Tv⟩
  .have xc:=hp;have Um:(AW (x.take i) []).length<=256:=by
    have:=Hx (x.take i) []
    grind
   have hn:=ng hp;refine Xi ((AW (x.take i) []).length+50) ?_;refine Or.inr (Yi hn ?_);refine yN ?_;have hr:WF (x.take i) ((AW (x.take i) []).length+50)=.free:=by
    rw[hP];unfold LO;simp_all
   refine RF (e:=78) (m:=8) (es2:=[Au x[i]]) rfl rfl rfl (fun _ h=>h) hr rfl ⟨rfl,trivial⟩ (by show 1*120<=_;omega) B0 ?_;refine Yi (Jg ⟨AR _,AR _,AR _,AR _,AR _,AR _,AR _,AR _,AR _,AR _,Ej (show 39<10000000 by decide),Ej (by show _+50<10000000;omega),Ej (show 9<10000000 by decide),trivial⟩ aa1) ?_;have e9:EV (Ub (x.take i)) (.string x[i].path) (.slice (.id ((AW (x.take i) []).length+50) 9) [Au x[i]])=Ub (x.take (i+1)):=by rw[PA];exact rS xc
   have hG:∀l,(bif Nat.beq (l+50) ((AW (x.take i) []).length+50)then HO.tok 9 1 else LO (x.take i) l)=LO (x.take (i+1)) l:=by rw[PA];exact tW xc
   refine Xi ⟨[(2,.ref 2 0),(4,.ref 4 0),(18,sl Au x),(19,vi (x.map Au).length),(20,vi i)],[(2,.cells zT),(4,.cells [.mref 8,.mref 9]),(8,.map Zn ((x.take (i+1)).map WQ)),(9,.mapU BW (Ub (x.take (i+1))))],WF (x.take (i+1))⟩ (Yi ?_ ?_)
   .refine⟨Z5,⟨Zr,Zr,Zr,⟨Aa (HO.mapU BW) e9,Lw _ (HY _)⟩,Tv⟩,JC (fun l=>?_),Tv⟩;show(bif Nat.beq (l+50) ((AW (x.take i) []).length+50)then HO.tok 9 1 else WF (x.take i) (l+50))=_;simp_all
   refine Xi 0 (Yi (Ii i ch) (Xi ⟨i+1,by omega⟩ ?_));exact⟨by grind,Z5,⟨Zr,Zr,Zr,⟨rfl,Lw _ (HY _)⟩,Tv⟩,JC (HY _),Tv⟩
 .intro h;have h:¬i<x.length:=B0
  have et:x.take i=x:=As ch;refine Xi ⟨[(2,.ref 2 0),(4,.ref 4 0)],[(2,.cells zT),(4,.cells [.mref 8,.mref 9]),(8,.map Zn ((x.take i).map WQ)),(9,.mapU BW (Ub (x.take i)))],WF (x.take i)⟩ (Yi ?_ ?_)
  .exact⟨Z2,⟨Zr,Zr,Zr,⟨rfl,Lw _ (HY _)⟩,Tv⟩,JC (HY _),Tv⟩
  refine Xi 0 (yN (yN (yN ?_)));have es:∀h:Nat->HO,SG h (Ub (x.take i))=(AW x []).map (ve x):=fun h=>by
   rw[et];unfold SG Ub;rw[Bw];refine Da fun j=>?_;rw[B1,B1,List.getElem?_zipIdx];cases (AW x [])[j]?<;>rfl
  have e1:(x.take i).map WQ=x.map WQ:=by rw[et]
  exact .of_eq (show AV.tup [.agg [.cmap Zn ((x.take i).map WQ),.cmap BW (SG _ (Ub (x.take i)))],vi 0]=_ by rw[e1,es])
end
theorem c84(x:List Rl)(ifs:C0)(hx:∀r∈x,CX r):uA x ifs:=by
 by_cases h0:AL x=0
 .exact wy x ifs (zg VD x ifs hx) h0 (Lz h0).1
 .exact ru x ifs (zg VD x ifs hx) h0
abbrev plT(n:Nat):Qx:=⟨[],[(2,n)],[],[],[],[],[5],[],[],[],[2,3]⟩
theorem wx(l:List Sl)(hl:BD l):AU Tryz.prog 138 [sl Ab l] (Ak [] Ae) fun r h'=>r=.slice (.id 2000 4) (l.map Ab)/\h'=Ak [(2000,.tok 4 (l.map Ab).length)] Ae:=by
 refine BX (Ms (plT 4)) [(2,2000)] rfl Ct hm rfl func138 aa1 rfl (Nz rfl) aa1 rfl ?_;have F5:Bi 4 (l.map Ab)/\([]:C0).length=0/\(([]:C0).length+(l.map Ab).length)*40<=140737488355328/\([]:C0).length+(l.map Ab).length<=9223372036854775807:=by
  grind [BV]
 have e2:HO.tok 4 (([]:C0).length+(l.map Ab).length)=.tok 4 (l.map Ab).length:=B0
 have e3:AV.slice (.id 2000 4) ([]++l.map Ab)=.slice (.id 2000 4) (l.map Ab):=rfl;refine Xi 0 (Xi 0 (Yi ?_ ?_))
 .intro _;refine cU [(0,sl Ab l)] [] Z1 Tv (Xi 2 (Yi F5 ?_));exact C2 (.refl _) (Yi e3 (Aa (fun o=>Ak [(2000,o)] Ae) e2))
 .intro h;refine Yi ?_ ?_
  .refine Xi ⟨[],[],Ae⟩ (Yi ⟨trivial,trivial,fun _=>.inl rfl,Bu aa1⟩ ?_);refine Xi 0 ?_;exact C2 (.refl _) (Yi (show AV.slice (.id 2000 4) []=_ by rw[h]) (show Ak [(2000,HO.tok 4 0)] Ae=_ by simp_all))
  .refine cU [(0,sl Ab l)] [] Z1 Tv (Xi 2 (Yi F5 ?_));exact C2 (.refl _) (Yi e3 (Aa (fun o=>Ak [(2000,o)] Ae) e2))
def Oy(q:Rq):Bool:=decide (q.path.size<=100)&&decide (q.set.length<=8)
def Gs(l:List Rq):Bool:=l.all Oy&&decide (l.length<=20)
theorem c35(l:List Rq)(hl:BD l):PC 30 [sl AI l] (vb (Gs l)):=by
 unfold BD at hl;refine Ps CQ func30 rfl (Nz rfl) (Xi {i:Nat // i<=l.length/\∀j (hj:j<l.length),j<i->Oy l[j]=true} (Xi (fun i=>⟨[(0,sl AI l),(3,vi i.1)],[],Ae⟩) (Xi (fun i=>l.length-i.1) (Yi (Xi ⟨0,Aj _,fun j _ h=>by omega⟩ ?_) ?_))))
 .exact⟨Z2,Tv,Fh,Tv⟩
 intro⟨i,h1,h2⟩;refine Yi ?_ ?_
 .intro h;have h:i<l.length:=B0
  have hg:l[i]?=some l[i]:=Ge h;have no:Oy l[i]=false->false=Gs l:=fun e=>by
   grind [Gs]
  refine Xi (AI l[i]) (Yi (Yi ch B0) (Yi rfl ?_));refine Yi ?_ ?_
  .intro h3;exact .of_eq (Aa vb (no (by grind [Oy])))
  intro h3;refine Xi (AI l[i]) (Yi (Yi ch B0) (Yi rfl ?_));refine Yi ?_ ?_
  .intro h4;rw[Lm]at h4;exact .of_eq (Aa vb (no (by grind [Oy])))
  intro h4;have h5:l[i].set.length<=8:=aa0
  refine Yi (by grind [Az]) (Xi ⟨i+1,by omega,fun j hj G8=>?_⟩ ?_)
  .grind [Oy]
  .exact⟨Dl l.length i ch,Z2,Tv,Fh,Tv⟩
 .intro h;have h:¬i<l.length:=B0
  have ha:l.all Oy=true:=AS.2 fun q hq=>by
   grind [List.getElem_of_mem]
  refine Yi ?_ ?_
  .intro h3;rw[Lm]at h3;exact .of_eq (Aa vb (show true=Gs l by grind [Gs]))
  .intro h3;rw[Lm]at h3;exact .of_eq (Aa vb (show false=Gs l by grind [Gs]))
def JR:Bool:=decide (r.path.size<=100)&&decide (r.arch.size<=100)&&decide (r.ifc.size<=100)&&decide (r.cert.size<=100)&&Gs r.reqs
def FY(x:List Rl)(n:Nat):Bool:=x.all JR&&decide (x.length<=n)
theorem c34(x:List Rl)(n:Nat)(hl:BD x)(hr:∀r∈x,BD r.reqs):PC 60 [sl Au x,vi n] (vb (FY x n)):=by
 unfold BD at hl;refine Ps CQ func60 rfl (Nz rfl) (Xi {i:Nat // i<=x.length/\∀j (hj:j<x.length),j<i->JR x[j]=true} (Xi (fun i=>⟨[(0,sl Au x),(1,vi n),(5,vi i.1)],[],Ae⟩) (Xi (fun i=>x.length-i.1) (Yi (Xi ⟨0,Aj _,fun j _ h=>by omega⟩ ?_) ?_))))
 .exact⟨Z3,Tv,Fh,Tv⟩
 intro⟨i,h1,h2⟩;refine Yi ?_ ?_
 .intro h;have h:i<x.length:=B0
  have hg:x[i]?=some x[i]:=Ge h;have no:JR x[i]=false->false=FY x n:=fun e=>by
   grind [FY]
  have hc:=c35 x[i].reqs (hr _ (Ai h));refine Xi (Au x[i]) (Yi (Yi ch B0) (Yi rfl ?_));refine Yi ?_ ?_
  .intro h3;exact .of_eq (Aa vb (no (by grind [JR])))
  intro h3;refine Xi (Au x[i]) (Yi (Yi ch B0) (Yi rfl ?_));refine Yi ?_ ?_
  .intro h4;exact .of_eq (Aa vb (no (by grind [JR])))
  intro h4;refine Xi (Au x[i]) (Yi (Yi ch B0) (Yi rfl ?_));refine Yi ?_ ?_
  .intro h5;exact .of_eq (Aa vb (no (by grind [JR])))
  intro h5;refine Xi (Au x[i]) (Yi (Yi ch B0) (Yi rfl ?_));refine Yi ?_ ?_
  .intro h6;exact .of_eq (Aa vb (no (by grind [JR])))
  intro h6;refine Xi (Au x[i]) (Yi (Yi ch B0) (Yi rfl ?_));refine A1 (Bt (Gs x[i].reqs)) (fun e=>?_) (fun e=>?_)
  rotate_left
  .rw[e]at hc;refine C1 (C2 (hc) ?_);exact .of_eq (Aa vb (no (by grind [JR])))
  rw[e]at hc;refine C1 (C2 (hc) (Yi (by grind [Az]) (Xi ⟨i+1,by omega,fun j hj G8=>?_⟩ ?_)))
  .grind [JR]
  .exact⟨Dl x.length i ch,Z3,Tv,Fh,Tv⟩
 .intro h;have h:¬i<x.length:=B0
  have ha:x.all JR=true:=AS.2 fun q hq=>by
   grind [List.getElem_of_mem]
  refine Yi ?_ ?_
  .intro h3;rw[Lm]at h3;exact .of_eq (Aa vb (show true=FY x n by grind [FY]))
  .intro h3;rw[Lm]at h3;exact .of_eq (Aa vb (show false=FY x n by grind [FY]))
theorem c11(x:List Rl)(ifs:C0)(roots:List Rq)(hl:BD x)(hr:∀r∈x,BD r.reqs)(hq:BD roots):PC 26 [HZ x ifs,sl AI roots] (vb (FY x 16&&Gs roots)):=by
 have h1:=c34 x 16 hl hr;have h2:=c35 roots hq;cases e:FY x 16 with
 |true=>
  rw[e]at h1;refine Ps CQ func26 rfl (Nz rfl) (C1 (C2 (h1) (C1 (C2 (h2) ?_))));exact .refl _
 |false=>
  rw[e]at h1;refine Ps CQ func26 rfl (Nz rfl) (C1 (C2 (h1) ?_));exact .refl _
structure qT(x:List Rl)(roots:List Rq):Prop where
 ix:BD x
 rs:BD roots
 rel:∀r∈x,BD r.reqs/\CX r
 rq:∀q∈roots,Jb q
theorem qT.x{x:List Rl}{roots:List Rq}(h:qT x roots):∀r∈x,CX r:=fun r hr=>(h.rel r hr).2
theorem qT.c11{x:List Rl}{roots:List Rq}(h:qT x roots)(ifs:C0):PC 26 [HZ x ifs,sl AI roots] (vb (FY x 16&&Gs roots)):=
 Go.Eng.c11 x ifs roots h.ix (fun r hr=>(h.rel r hr).1) h.rs
end Go.Eng
namespace Go.Eng
variable {i:Nat}{tl:List AV}{m:Nat}(x a w:Int)(s:CS)(ws:List Int)(k b:Int)
abbrev EN:AV:=.v (.int .u32 x)
theorem G7{cs r:List AV}{a:AV}{K:AV->Prop}(h:cs=a::r)(k:K a):LX cs K:=by rw[h];exact k
theorem Pf{l:List AV}{n:Nat}{a:AV}(h:l[n]?=some a)(e:m=n):l.drop m=a::l.drop (n+1):=by
 grind [List.drop_eq_getElem_cons]
theorem vh{a:AV}:∀{l:List AV} {n:Nat},over l n [a]=l.set n a
 | [],_=>rfl
 |c::l,0=>by cases l<;>rfl
 |c::l,n+1=>by show c::over l n [a]=_;rw[vh (l:=l)];rfl
def HI:Int:=Cq .or .u32 (Cr .shl .u32 x (Cq .and .u64 (IntKind.wrap .u64 k) 31)) (Cr .shr .u32 x (IntKind.wrap .u64 (32-Cq .and .u64 (IntKind.wrap .u64 k) 31)))
def xr:Int:=Cq .xor .u32 a b
def an:Int:=Cq .and .u32 a b
def nt:Int:=Cq .xor .u32 4294967295 a
def ad:Int:=IntKind.wrap .u32 (a+b)
def xE(c:Int):Int:=xr (xr (HI x (-a)) (HI x (-b))) (HI x (-c))
def oz(s:Int):Int:=xr (xr (HI x (-a)) (HI x (-b))) (Cr .shr .u32 x s)
def Do(i:Nat):UInt8:=s.data[i]?.getD 0
def NZ(s:CS)(i:Nat):Nat->Int
 |0=>0
 |k+1=>Cq .or .u32 (Cr .shl .u32 (NZ s i k) 8) (IntKind.wrap .u32 ((Do s (4*i+k)).toNat:Int))
def Fl(i:Nat):Int:=ws[i]?.getD 0
def UJ(i:Nat):Int:=
 if i<16 then NZ s i 4 else ad (ad (ad (oz (Fl ws (i-2)) 17 19 10) (Fl ws (i-7))) (oz (Fl ws (i-15)) 7 18 3)) (Fl ws (i-16))
def BL(s:CS):Nat->List Int
 |0=>[]
 |i+1=>BL s i++[UJ s (BL s i) i]
theorem E3(s:CS):∀i,(BL s i).length=i
 |0=>rfl
 |i+1=>by rw[BL,Ac,E3 s i];rfl
theorem Vm{ws:List Int}(h:i<ws.length):ws[i]?=some (Fl ws i):=by grind [Fl]
structure S8 where
 (a b c d e f g h:Int)
def S8.l(v:S8):List Int:=[v.a,v.b,v.c,v.d,v.e,v.f,v.g,v.h]
abbrev ZV(v:S8):List AV:=[EN v.a,EN v.b,EN v.c,EN v.d,EN v.e,EN v.f,EN v.g,EN v.h]
def rT1(v:S8):Int:=ad (ad (ad (ad v.h (xE v.e 6 11 25)) (xr (an v.e v.f) (an (nt v.e) v.g))) k) w
def rT2(v:S8):Int:=ad (xE v.a 2 13 22) (xr (xr (an v.a v.b) (an v.a v.c)) (an v.b v.c))
def AgL(v:S8):S8:=⟨ad (rT1 w k v) (rT2 v),v.a,v.b,v.c,ad v.d (rT1 w k v),v.e,v.f,v.g⟩
def Ed(ws ks:List Int)(v:S8):Nat->S8
 |0=>v
 |i+1=>AgL (Fl ws i) (Fl ks i) (Ed ws ks v i)
def qU(v r:S8):S8:=⟨ad v.a r.a,ad v.b r.b,ad v.c r.c,ad v.d r.d,ad v.e r.e,ad v.f r.f,ad v.g r.g,ad v.h r.h⟩
def kK:List Int:=[0x428a2f98,0x71374491,0xb5c0fbcf,0xe9b5dba5,0x3956c25b,0x59f111f1,0x923f82a4,0xab1c5ed5,
 0xd807aa98,0x12835b01,0x243185be,0x550c7dc3,0x72be5d74,0x80deb1fe,0x9bdc06a7,0xc19bf174,
 0xe49b69c1,0xefbe4786,0x0fc19dc6,0x240ca1cc,0x2de92c6f,0x4a7484aa,0x5cb0a9dc,0x76f988da,
 0x983e5152,0xa831c66d,0xb00327c8,0xbf597fc7,0xc6e00bf3,0xd5a79147,0x06ca6351,0x14292967,
 0x27b70a85,0x2e1b2138,0x4d2c6dfc,0x53380d13,0x650a7354,0x766a0abb,0x81c2c92e,0x92722c85,
 0xa2bfe8a1,0xa81a664b,0xc24b8b70,0xc76c51a3,0xd192e819,0xd6990624,0xf40e3585,0x106aa070,
 0x19a4c116,0x1e376c08,0x2748774c,0x34b0bcb5,0x391c0cb3,0x4ed8aa4a,0x5b9cca4f,0x682e6ff3,
 0x748f82ee,0x78a5636f,0x84c87814,0x8cc70208,0x90befffa,0xa4506ceb,0xbef9a3f7,0xc67178f2]
def bT(v:S8)(s:CS):S8:=qU v (Ed (BL s 64) kK v 64)
def RY(v r:S8)(i:Nat)(tl:List AV):List AV:=
 EN (if 0<i then ad v.a r.a else v.a)::EN (if 1<i then ad v.b r.b else v.b)::EN (if 2<i then ad v.c r.c else v.c)::EN (if 3<i then ad v.d r.d else v.d) ::
 EN (if 4<i then ad v.e r.e else v.e)::EN (if 5<i then ad v.f r.f else v.f)::EN (if 6<i then ad v.g r.g else v.g)::EN (if 7<i then ad v.h r.h else v.h)::tl
def CZ(v:S8)(b:CS):S8×CS:=
 if 64<=b.size then CZ (bT v (b.extract 0 64)) (b.extract 64 b.size)else(v,b)
termination_by b.size
decreasing_by grind [ByteArray.size_extract]
def aP:S8:=⟨1779033703,3144134277,1013904242,2773480762,1359893119,2600822924,528734635,1541459225⟩
structure HS where
 v:S8
 rest:CS
 tot:Int
abbrev Gp(x:HS):List AV:=[EN x.v.a,EN x.v.b,EN x.v.c,EN x.v.d,EN x.v.e,EN x.v.f,EN x.v.g,EN x.v.h,vs x.rest,.v (.int .u64 x.tot)]
def GJ(x:HS)(s:CS):HS:=⟨(CZ x.v (x.rest++s)).1,(CZ x.v (x.rest++s)).2,IntKind.wrap .u64 (x.tot+IntKind.wrap .u64 (s.size:Int))⟩
def E5(n:Int):CS:=⟨((List.range 8).map fun(i:Nat)=>UInt8.ofNat (IntKind.wrap .u8 (Cr .shr .u64 n (56-8*(i:Int)))).toNat).toArray⟩
def Ee:List UInt8:=[UInt8.ofNat (IntKind.wrap .u8 (Cr .shr .u32 x 24)).toNat,UInt8.ofNat (IntKind.wrap .u8 (Cr .shr .u32 x 16)).toNat,UInt8.ofNat (IntKind.wrap .u8 (Cr .shr .u32 x 8)).toNat,UInt8.ofNat (IntKind.wrap .u8 x).toNat]
def lD(n:Nat):CS:=⟨(List.replicate n 0).toArray⟩
def EE(x:HS):CS:=(⟨#[128]⟩++lD ((119-(x.rest.size:Int)) % 64).toNat)++E5 (IntKind.wrap .u64 (8*x.tot))
def lc(x:HS):CS:=⟨(((GJ x (EE x)).v.l).flatMap Ee).toArray⟩
def PN:HS:=⟨aP,⟨#[]⟩,0⟩
def ND(x:HS)(l:List CS):HS:=l.foldl (fun x s=>GJ (GJ x (E5 (IntKind.wrap .u64 (s.size:Int)))) s) x
def Qm(tag:CS)(l:List CS):CS:=lc (ND (GJ PN (E5 (IntKind.wrap .u64 (tag.size:Int))++tag)) l)
theorem mq{b:Bool}{p:Prop}(h:b=true)(k:p):(match(generalizing:=false) b with | true=>p | false=>False):=B0
theorem mapU(h:Nat->HO):∀ws:List Int,(ws.map EN).map (str0 h)=ws.map EN
 | []=>rfl
 |_::ws=>Aa (_ :: ·) (mapU h ws)
theorem Aha{h:Nat->HO}{l:List AV}{ws:List Int}(e:l=ws.map EN):BC (.agg (l.map (str0 h))) (.agg (ws.map EN)):=by
 rw[e,mapU];exact .refl _
theorem vU{l:List AV}{a:AV}{n:Nat}(h:l.length=n):(l++a::tl)[n]?=some a:=by
 simp_all
theorem YE{ws:List Int}(h:i<ws.length):(ws.map EN++tl)[i]?=some (EN (Fl ws i)):=by
 grind [Vm]
theorem YF{ws:List Int}(h:i<ws.length):(ws.map EN)[i]?=some (EN (Fl ws i)):=by
 grind [Vm]
theorem PX{a b:AV}{tl:List AV}:∀{l:List AV} {n:Nat},l.length=n->over (l++a::tl) n [b]=l++b::tl
 | [],_,rfl=>by cases tl<;>rfl
 |c::l,_,rfl=>by show c::over (l++a::tl) l.length [b]=_;rw[PX rfl];rfl
theorem MP:∀{z l:List AV},z.length=l.length->over z 0 l=l
 | [],[],_=>rfl
 | [],_::_,h=>by cases h
 |_::_,[],h=>by cases h
 |_::z,b::l,h=>by show b::over z 0 l=_;rw[MP (Nat.succ.inj h)]
theorem Lh{s:CS}{z:Int}{n:Nat}(h:n<s.size)(e:z=(n:Int)):(0:Int)<=z/\s.data[z.toNat]?=some (Do s n):=by
 subst e;refine⟨OL n,?_⟩;have h:n<s.data.size:=h
 grind [Do]
def S8.n(v:S8)(i:Nat):Int:=Fl v.l i
theorem uG{v:S8}(h:i<8)(e:m=i):(ZV v).drop m=EN (v.n i)::(ZV v).drop (i+1):=
 Pf (YF (ws:=v.l) h) e
theorem mM{v r:S8}(h:i<8)(e:m=i):(RY v r i tl).drop m=EN (v.n i)::(RY v r i tl).drop (i+1):=by
 refine Pf ?_ e
 match i,h with
 |0,_ |1,_ |2,_ |3,_ |4,_ |5,_ |6,_ |7,_=>rfl
theorem o7{v r:S8}(h:i<8)(e:m=i):over (RY v r i tl) m [EN (ad (v.n i) (r.n i))]=RY v r (i+1) tl:=by
 subst e;rw[vh]
 match m,h with
 |0,_ |1,_ |2,_ |3,_ |4,_ |5,_ |6,_ |7,_=>rfl
theorem gV{n:Nat}(h:n<64):List.replicate (64-n) (EN 0)=EN 0::List.replicate (64-(n+1)) (EN 0):=by
 rw[show 64-n=(64-(n+1))+1 by omega];rfl
theorem bR{s:CS}{x:Int}(h:x=UJ s (BL s i) i):(BL s i).map EN++EN x::List.replicate (64-(i+1)) (EN 0)=(BL s (i+1)).map EN++List.replicate (64-(i+1)) (EN 0):=by
 grind [BL]
theorem xq(h:Nat->HO)(tl:List AV):∀ws:List Int,Yv h (ws.map EN++tl)=Yv h tl
 | []=>rfl
 |_::ws=>xq h tl ws
theorem xp(h:Nat->HO):∀n:Nat,Yv h (List.replicate n (EN 0))=true
 |0=>rfl
 |n+1=>xp h n
theorem dF(h:Nat->HO):∀ws:List Int,SA h (.cells (ws.map EN))=true
 | []=>rfl
 |_::ws=>dF h ws
theorem xt(h:Nat->HO)(ws:List Int)(n:Nat):SA h (.cells (ws.map EN++List.replicate n (EN 0)))=true:=(xq h _ ws).trans (xp h n)
theorem Abo(h:Nat->HO)(ws:List Int)(x:Int)(n:Nat):SA h (.cells (ws.map EN++EN x::List.replicate n (EN 0)))=true:=(xq h _ ws).trans (xp h n)
theorem U9(i:Nat):((BL s i).map EN).length=i:=by grind [E3]
end Go.Eng
namespace Go.Eng
open Go.Proofs
variable {α:Type}{f:α->List AV}{l O:List α}{args:List AV}{i n:Nat}(a:Int)
theorem AU.to2{P:Program}{f:Nat}{h0:Nat->HO}{r0:AV}{H0:Nat->HO}{Q' : AV->(Nat->HO)->Prop}(h:AU P f args h0 fun r h'=>r=r0/\h'=H0)(k:Q' r0 H0):AU P f args h0 Q':=
 h.mono fun r h' q=>⟨r,.refl _,by rw[q.1,q.2];exact k⟩
theorem cb{f:Nat}{b x:Bool}(h:b=x)(hc:PC f args (vb b)):PC f args (vb x):=h▸hc
theorem Dh(h:(i:Int)<((l.map f).length:Int)):i<l.length:=by rw[Lm]at h;omega
theorem BB(h:¬(i:Int)<((l.map f).length:Int)):¬i<l.length:=by rw[Lm]at h;omega
theorem DC(h:i<l.length):(0:Int)<=(i:Int)/\(l.map f)[((i:Nat):Int).toNat]?=some (f l[i]):=⟨OL _,by rw[E0,B1,Ge h];rfl⟩
theorem Zi{z:Nat}{x:List AV}(hx:x.length=n)(h:O.length<=2147483647)(hz:z<=65536) :
  Bi n [x]/\(O.map f).length=O.length/\((O.map f).length+([x]:C0).length)*z<=140737488355328/\(O.map f).length+([x]:C0).length<=9223372036854775807:=by
 refine⟨⟨hx,trivial⟩,Lm _,?_,?_⟩<;>rw[Lm]<;>simp only[Ap,AC]
 .have:=Nat.mul_le_mul (show O.length+(0+1)<=2147483648 by omega) hz
  omega
 .omega
theorem tkA{x:α}{r:Nat}:AV.slice (.id r n) (O.map f++[f x])=.slice (.id r n) ((O++[x]).map f):=by rw[Ar];rfl
theorem zw{x:α}{y:List AV}:HO.tok n ((O.map f).length+([y]:C0).length)=.tok n (O++[x]).length:=by rw[Ac,Lm];rfl
theorem Vp:0<=IntKind.wrap .u64 a:=Nw _ Wk
theorem lY(b:Int):0<=Cq .and .u64 a b:=Vp _
theorem ci(x k:Int):PC 201 [.v (.int .u32 x),vi k] (.v (.int .u32 (HI x k))):=by
 refine Ps CQ Tryz.func201 rfl (Nz rfl) (Yi (lY _ _) (Yi (Vp _) ?_));exact .refl _
theorem qk(x a b c:Int)(ha:0<=a/\a<=64)(hb:0<=b/\b<=64)(hc:0<=c):PC 266 [.v (.int .u32 x),vi a,vi b,vi c] (.v (.int .u32 (oz x a b c))):=by
 refine Ps CQ Tryz.func266 rfl (Nz rfl) (Yi (by grind [Az]) (C2 (ci x (-a)) (Yi (by grind [Az]) (C2 (ci x (-b)) (Yi hc (Yi aa1 ?_))))));exact .refl _
theorem qj(x a b c:Int)(ha:0<=a/\a<=64)(hb:0<=b/\b<=64)(hc:0<=c)(hd:c<=64):PC 200 [.v (.int .u32 x),vi a,vi b,vi c] (.v (.int .u32 (xE x a b c))):=by
 refine Ps CQ Tryz.func200 rfl (Nz rfl) (Yi (by grind [Az]) (C1 (C2 (ci x (-a)) (Yi (by grind [Az]) (C1 (C2 (ci x (-b)) (Yi (by grind [Az]) (C1 (C2 (ci x (-c)) ?_)))))))));exact .refl _
end Go.Eng
