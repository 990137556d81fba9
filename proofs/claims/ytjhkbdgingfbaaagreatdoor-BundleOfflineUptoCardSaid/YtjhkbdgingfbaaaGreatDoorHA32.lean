/- Lemmas 32. -/
import Derived.Test.YtjhkbdgingfbaaaGreatDoorHA31
import Derived.Lib.IndexMore
import Derived.Lib.IndexBytes
import Derived.Lib.AppendStr
import Derived.Lib.Builder
import Derived.Lib.UnsafeStr
import Derived.RegionTactic
set_option maxHeartbeats 4000000
namespace Go.Eng
open Go.Proofs
variable {z:UInt8}{l:List Cp}(D:List UInt8)(v:Ver)(c:Cp)(d:ByteArray)(i:Nat)
def pV:List AV:=[vi (if 0<i then v.a else 0),vi (if 1<i then v.b else 0),vi (if 2<i then v.c else 0)]
theorem ft{i:Nat}(h:i<3){m:Nat}(e:m=i):over (pV v i) m [vi (part v i)]=pV v (i+1):=by
 subst e
 match m,h with
 |0,_=>rfl
 |1,_=>rfl
 |2,_=>rfl
theorem vl{i:Nat}(h:i<3):(wv v 3)[i]?=some (IN (part v i)):=by
 unfold wv;rw[Aw,List.getElem?_range h];rfl
theorem QT{n:Int}(h:sr (IN n)){c:UInt8}(hc:c.toNat<48):c∉(IN n).data.toList:=fun hm=>by have:=h.dig c hm;omega
theorem Vr{v:Ver}(h:B3 v=true){i:Nat}(hi:i<3):sr (IN (part v i))/\Go.Lib.atoiAll (IN (part v i)).data.toList=.ok (part v i):=by
 have q:=Vp h i hi;exact qt q.1 q.2
theorem We(a b:ByteArray):(a++b).data.toList=a.data.toList++b.data.toList:=by rw[ByteArray.data_append,Array.toList_append]
theorem dM{v:Ver}(h:B3 v=true):B2 46 (Ja v.a v.b v.c).data.toList=(wv v 3).map (·.data.toList):=by
 have d:=fun i hi=>(Vr h (i:=i) hi).1;have e:(Ja v.a v.b v.c).data.toList=(IN v.a).data.toList++46::((IN v.b).data.toList++46::(IN v.c).data.toList):=by
  unfold Ja;simp only[We,Bm];rfl
 rw[e,Vj (show(46:UInt8)∉(IN v.a).data.toList from QT (d 0 Cl) Cl),Vj (show(46:UInt8)∉(IN v.b).data.toList from QT (d 1 Cl) Cl),dJ (show(46:UInt8)∉(IN v.c).data.toList from QT (d 2 Cl) Cl)];rfl
theorem fS{v:Ver}(h:B3 v=true){c:UInt8}(hc:c.toNat<46):c∉(Ja v.a v.b v.c).data.toList:=by
 have d:=fun i hi=>(Vr h (i:=i) hi).1;have e:(Ja v.a v.b v.c).data.toList=(IN v.a).data.toList++46::((IN v.b).data.toList++46::(IN v.c).data.toList):=by
  unfold Ja;simp only[We,Bm];rfl
 rw[e];intro hm;have h46:∀{x:UInt8},x=46->x.toNat<46->False:=fun e h=>by subst e;exact absurd h Cl
 rcases AT.1 hm with hm | hm
 .exact QT (d 0 Cl) ch hm
 .rcases Ay.1 hm with hm | hm
  .exact h46 hm hc
  .rcases AT.1 hm with hm | hm
   .exact QT (d 1 Cl) ch hm
   .rcases Ay.1 hm with hm | hm
    .exact h46 hm hc
    .exact QT (d 2 Cl) ch hm
theorem kY(hv:B3 v=true):PC 105 [vs (Ja v.a v.b v.c)] (.tup [.agg [vi v.a,vi v.b,vi v.c],vi 0]):=by
 refine Ps (pC [] [13]) Tryz.func105 rfl (Nz rfl) (Xi .pure (Xi _ (Yi (dW (Ja v.a v.b v.c) 46 (wv v 3) (by unfold Er;have q:=Fc hv;have:=RG (a:=v.a) (b:=v.b) (c:=v.c) ch ch ch;omega) (dM hv)) (Yi (fun hf=>absurd (show(((wv v 3).map BJ).length:Int)=3 from rfl) hf) (fun _=>?_)))));refine Xi {q:Nat // q<=3} (Xi (fun q=>⟨[(2,.ref 2 0),(5,.ref 5 0),(15,sl BJ (wv v 3)),(16,vi ((wv v 3).map BJ).length),(17,vi q.1)],[(2,.cells [vi 0,vi 0,vi 0]),(5,.cells (pV v q.1))],Ad⟩) (Xi (fun q=>3-q.1) (Yi (Xi ⟨0,AE _⟩ ?_) ?_)))
 .exact⟨Z5,Z2,Fh,Tv⟩
 intro⟨i,i1⟩;have i1:i<=3:=i1;refine Yi (fun h1=>?_) (fun h1=>?_)
 .have h1:(i:Int)<(((wv v 3).map BJ).length:Int):=h1;have n1:=Lu h1;have kj:i<3:=n1;have hd:=(Vr hv kj).1;have Hp:=hd.le;have tM:=hd.ge;refine Xi (BJ (IN (part v i))) (Yi (Yi (Nn i) (Ee (vl v kj))) (Yi rfl (Xi .pure (Xi _ (Yi (show PC 164 [vs (IN (part v i)),.v (.func (.func 165) #[] #[])] (vb false)from by have q:=wF (IN (part v i));rw[hd.odd]at q;exact q) (Yi (fun h2=>?_) (fun h2=>?_)))))))
  .have h2:((IN (part v i)):ByteArray)=⟨#[]⟩:=h2;exact absurd (Aa ByteArray.size h2) (by show ¬_=0;omega)
  have h2:¬((IN (part v i)):ByteArray)=⟨#[]⟩:=h2;refine Yi (fun h3=>?_) (fun h3=>?_)
  .have h3:(3:Int)<((IN (part v i)).size:Int):=h3;exact absurd h3 ch
  have h3:¬((3:Int)<((IN (part v i)).size:Int)):=h3;refine Yi (fun h4=>?_) (fun h4=>?_)
  .have h4:(1:Int)<((IN (part v i)).size:Int):=h4;refine Xi (CV (IN (part v i)) 0) (Yi (LR (s:=(IN (part v i))) (z:=(0:Int)) (n:=0) ch rfl) (Yi (fun h5=>?_) (fun h5=>?_)))
   .have h5:(((CV (IN (part v i)) 0).toNat:Int):Int)=(48:Int):=h5;exact absurd h5 (fun e=>hd.lead ch ch)
   have h5:¬((((CV (IN (part v i)) 0).toNat:Int):Int)=(48:Int)):=h5;refine Xi .pure (Xi _ (Yi (kP (IN (part v i)) (part v i) ch (Vr hv kj).2) (Yi (show(0:Int)<=i/\(i:Int)<(3:Nat)from by omega) (Yi (show(0+(i:Int).toNat*1)+1<=(pV v i).length from by show(0+(i:Int).toNat*1)+1<=3;omega) (Yi (Ii i ch) (Xi ⟨i+1,by omega⟩ ?_))))));exact⟨Dl 3 i ch,Z5,⟨Zr,⟨(show HO.cells (over (pV v i) (0+(i:Int).toNat*1) [vi (part v i)])=.cells (pV v (i+1))from Aa HO.cells (ft v kj (show(0+(i:Int).toNat*1)=i by omega))),rfl⟩,Tv⟩,Fh,Tv⟩
  have h4:¬((1:Int)<((IN (part v i)).size:Int)):=h4;refine Xi .pure (Xi _ (Yi (kP (IN (part v i)) (part v i) ch (Vr hv kj).2) (Yi (show(0:Int)<=i/\(i:Int)<(3:Nat)from by omega) (Yi (show(0+(i:Int).toNat*1)+1<=(pV v i).length from by show(0+(i:Int).toNat*1)+1<=3;omega) (Yi (Ii i ch) (Xi ⟨i+1,by omega⟩ ?_))))));exact⟨Dl 3 i ch,Z5,⟨Zr,⟨(show HO.cells (over (pV v i) (0+(i:Int).toNat*1) [vi (part v i)])=.cells (pV v (i+1))from Aa HO.cells (ft v kj (show(0+(i:Int).toNat*1)=i by omega))),rfl⟩,Tv⟩,Fh,Tv⟩
 have h1:¬((i:Int)<(((wv v 3).map BJ).length:Int)):=h1;have n1:=Ip h1;refine cU [(2,.ref 2 0),(5,.ref 5 0)] [(2,.cells [vi 0,vi 0,vi 0]),(5,.cells [vi v.a,vi v.b,vi v.c])] Z2 ⟨Zr,⟨(Aa HO.cells (show pV v i=[vi v.a,vi v.b,vi v.c]from by rw[show i=3 by have q:=Ip h1;rw[show(wv v 3).length=3 from rfl]at q;omega];rfl)),rfl⟩,Tv⟩ ?_
 refine Yi ⟨by decide,by decide⟩ ?_;refine Yi ⟨by decide,by decide⟩ ?_;refine Yi ⟨by decide,by decide⟩ ?_;refine yN (yN ?_);exact .refl _
def SM:Nat:=if i % 2=0 then(D[i / 2]?.getD 0).toNat / 16 else(D[i / 2]?.getD 0).toNat % 16
theorem uI:SM D i<16:=by
 unfold SM
 have:=(D[i / 2]?.getD 0).toNat_lt
 split<;>omega
theorem ZV:∀(D:List UInt8) (i:Nat),i<2*D.length->(HX D)[i]?=some (CV QF (SM D i))
 | [],i,h=>by simp at h
 |c::D,0,_=>rfl
 |c::D,1,_=>rfl
 |c::D,i+2,h=>by
  show(HX D)[i]?=_;rw[ZV D i (by rw[Al]at h;omega)];have e1:(i+2) / 2=i / 2+1:=by omega
  have e2:(i+2) % 2=i % 2:=by omega
  unfold SM;rw[e1,e2];rfl
theorem eI{d:ByteArray}{i:Nat}(h:i<2*d.size):CV (JW d) i=CV QF (SM d.data.toList i):=by
 unfold CV JW;rw[<-AI];show((HX d.data.toList)[i]?).getD 0=_;rw[ZV _ _ h];rfl
theorem io:(JW d).size=2*d.size:=by
 show(HX d.data.toList).toArray.size=_;rw[DW,Uh];rfl
theorem pM:∀n,n<16->Go.Lib.indexByte QF.data.toList (((CV QF n).toNat:Int)).toNat.toUInt8=(n:Int):=by decide +kernel
theorem nu:∀a,a<16->∀b,b<16->G5 .or .u8 (FP .shl .u8 (a:Nat) 4) (IntKind.wrap .u8 ((b:Nat):Int))=((a*16+b:Nat):Int):=by decide +kernel
def pB(k:Nat):UInt8:=if 2*k+1<i then D[k]?.getD 0 else if 2*k<i then UInt8.ofNat ((D[k]?.getD 0).toNat / 16)else 0
def YH:List UInt8:=(List.range 32).map (pB D i)
theorem KE:(YH D i).length=32:=by unfold YH;rw[Lm,Is]
theorem NL{k:Nat}(h:k<32):(YH D i)[k]?=some (pB D i k):=by unfold YH;rw[Aw,List.getElem?_range h];rfl
theorem qW:G5 .or .u8 (FP .shl .u8 ((pB D i (i / 2)).toNat:Int) 4) (IntKind.wrap .u8 ((SM D i:Nat):Int))=((pB D (i+1) (i / 2)).toNat:Int):=by
 have hl:=(D[i / 2]?.getD 0).toNat_lt;unfold SM pB
 by_cases h:i % 2=0
 .rw[As h,Ah ch,Ah ch,Ah ch,As ch];have q:=nu 0 Cl ((D[i / 2]?.getD 0).toNat / 16) ch;rw[HT,A7]at q;refine Eq.trans q ?_;rw[UInt8.toNat_ofNat_of_lt' (by show _<256;omega)]
 .rw[Ah h,Ah ch,As ch,As ch];have q:=nu ((D[i / 2]?.getD 0).toNat / 16) ch ((D[i / 2]?.getD 0).toNat % 16) ch;rw[UInt8.toNat_ofNat_of_lt' (by show _<256;omega)];refine q.trans ?_
  congr 1;omega
theorem nw{i:Nat}:(YH D i).set (i / 2) (pB D (i+1) (i / 2))=YH D (i+1):=by
 apply Cz;intro k;rw[List.getElem?_set]
 by_cases hk:k<32
 .by_cases e:i / 2=k
  .subst e;rw[As rfl,As (by rw[KE];exact hk),NL _ _ hk]
  .rw[Ah e,NL _ _ hk,NL _ _ hk];unfold pB
   congr 1
   by_cases h1:2*k+1<i
   .rw[As h1,As ch]
   .rw[Ah h1,Ah (show ¬2*k+1<i+1 by omega)]
    by_cases h2:2*k<i
    .rw[As h2,As ch]
    .rw[Ah h2,Ah ch]
 .rw[AQ (by rw[KE];omega),AQ (by rw[KE];omega)];split<;>simp[KE];omega
theorem qV{D:List UInt8}(h:D.length=32):YH D 64=D:=by
 apply Cz;intro k
 by_cases hk:k<32
 .rw[NL _ _ hk,pB,As ch,Ge ch];rfl
 .rw[AQ (by rw[KE];omega),AQ ch]
theorem kS(hd:d.size=32):PC 106 [vs (JW d)] (.tup [vs d,vi 0]):=by
 have D5:=io d;have hdl:d.data.toList.length=32:=hd;refine Ps ⟨[],[],[(10,1)],[],[],[],[],[],[],[(200012,4)],[12]⟩ Tryz.func106 rfl (Nz rfl) (Yi (fun h1=>?_) (fun h1=>?_))
 .have h1:((JW d).size:Int)≠(64:Int):=h1;exact absurd (show((JW d).size:Int)=64 by omega) h1
 have h1:((JW d).size:Int)=(64:Int):=Bc h1;refine Yi (show(0:Int)<=32/\(32:Int)<=32/\(32:Int)*1<=140737488355328/\(32:Int)<=9223372036854775807 by omega) (Xi {q:Nat // q<=64} (Xi (fun q=>⟨[(0,vs (JW d)),(4,.msl 10 32),(12,vi (JW d).size),(13,vi q.1)],[(10,.arr 1 ((YH d.data.toList q.1).map Dk))],Ad⟩) (Xi (fun q=>64-q.1) (Yi (Xi ⟨0,AE _⟩ ?_) ?_))))
 .exact⟨Z4,⟨⟨(show HO.arr 1 (List.replicate (32:Int).toNat [AV.v (.int .u8 0)])=.arr 1 ((YH d.data.toList 0).map Dk)from rfl),rfl⟩,Tv⟩,Fh,Tv⟩
 intro⟨i,i1⟩;have i1:i<=64:=i1;refine Yi (fun h2=>?_) (fun h2=>?_)
 .have h2:(i:Int)<((JW d).size:Int):=h2;have Ag3:i<64:=by have q:=h2;omega
  have x8:=uI d.data.toList i;refine Xi (CV (JW d) i) (Yi (LR (s:=JW d) (z:=(i:Int)) (show i<(JW d).size by omega) rfl) (Xi .pure (Xi _ (Yi (show PC 167 [vs QF,.v (.int .u8 ((CV (JW d) i).toNat:Int))] (vi ((SM d.data.toList i:Nat):Int))from by have q:=wD QF ((CV (JW d) i).toNat:Int);rw[eI ch,pM _ x8,<-eI ch]at q;exact q) ?_))));refine Yi (fun h3=>?_) (fun h3=>?_)
  .have h3:(((SM d.data.toList i:Nat):Int):Int)<(0:Int):=h3;exact absurd h3 ch
  have h3:¬((((SM d.data.toList i:Nat):Int):Int)<(0:Int)):=h3;refine Yi ⟨by omega,by omega,(by show A5 (i);unfold A5;omega)⟩ ?_;refine Yi ⟨by omega,by omega,(by show A5 (i);unfold A5;omega)⟩ ?_;refine Yi (by show(0:Int)<=i / 2/\(i / 2:Int)<(32:Nat);omega) (Yi (show 32=((YH d.data.toList i).map Dk).length by rw[Lm,KE]) (Xi (Dk (pB d.data.toList i (i / 2))) (Yi (Ee (by rw[show((i:Int) / 2).toNat=i / 2 by omega];exact NL d.data.toList i ch)) ?_)));refine Yi Cl (Yi (by show(0:Int)<=i / 2/\(i / 2:Int)<(32:Nat);omega) (Yi (show 32=((YH d.data.toList i).map Dk).length by rw[Lm,KE]) (Xi (Dk (pB d.data.toList i (i / 2))) (Yi (Ee (by rw[show((i:Int) / 2).toNat=i / 2 by omega];exact NL d.data.toList i ch)) (yN ?_)))));refine Yi (Ii i ch) ?_;have ew:(((YH d.data.toList i).map Dk).set (i / 2:Int).toNat [.v (.int .u8 (G5 .or .u8 (FP .shl .u8 ((pB d.data.toList i (i / 2)).toNat:Int) 4) (IntKind.wrap .u8 ((SM d.data.toList i:Nat):Int))))])=(YH d.data.toList (i+1)).map Dk:=by rw[qW,<-nw (i:=i) d.data.toList,K8];exact Aa (fun z=>(List.map Dk (YH d.data.toList i)).set z (Dk (pB d.data.toList (i+1) (i / 2)))) ch
  refine Xi ⟨i+1,by omega⟩ ?_;exact⟨Dl 64 i ch,Z4,⟨⟨(show HO.arr 1 (((YH d.data.toList i).map Dk).set (i / 2:Int).toNat [.v (.int .u8 (G5 .or .u8 (FP .shl .u8 ((pB d.data.toList i (i / 2)).toNat:Int) 4) (IntKind.wrap .u8 ((SM d.data.toList i:Nat):Int))))])=.arr 1 ((YH d.data.toList (i+1)).map Dk)from Aa (HO.arr 1) ew),rfl⟩,Tv⟩,Fh,Tv⟩
 have h2:¬((i:Int)<((JW d).size:Int)):=h2;refine Yi (show 32=((YH d.data.toList i).map Dk).length by rw[Lm,KE]) (cU [(4,sl Dk (YH d.data.toList i))] [] Z1 Tv (Xi d.data.toList (Yi (show(YH d.data.toList i).map Dk=d.data.toList.map Dk by rw[show i=64 by omega,qV hdl]) ?_)));exact .refl _
structure Lk where
 path:ByteArray
 ver:Ver
 arch:ByteArray
 ifc:ByteArray
 deriving DecidableEq
abbrev EZ(k:Lk):List AV:=[vs k.path,vi k.ver.a,vi k.ver.b,vi k.ver.c,vs k.arch,vs k.ifc]
abbrev Jt:Lk:=⟨c.path,c.ver,EB c.bytes,⟨#[]⟩⟩
abbrev bX:ByteArray:=⟨#[32]⟩
abbrev KK:ByteArray:=⟨#[10]⟩
abbrev oD:List ByteArray:=[c.path,Ja c.ver.a c.ver.b c.ver.c,JW (EB c.bytes)]
def SL:ByteArray:=Gr bX (oD c)
def IQ:List Cp->ByteArray
 | []=>⟨#[]⟩
 |c::l=>(SL c++KK)++IQ l
theorem fu{p:ByteArray}(h:(Bs p).isSome=true)(hz:z=32\/z=10):z∉p.data.toList:=by
 unfold Bs Rb at h;split at h
 .cases h
 .split at h
  .cases h
  .rename_i h1;split at h
   .rename_i h2;intro hc;rcases Mm 47 _ _ hc with e | ⟨g,g1,g2⟩
    .rcases hz with hz | hz<;>subst hz<;>exact absurd e Cl
    .have:=AP.1 h2 g g1
     unfold Hs at this;rw[Af]at this
     have:=AP.1 this.2 z g2
     rcases hz with hz | hz<;>subst hz<;>revert this<;>decide
   .cases h
theorem d6:∀n,n<16->48<=(CV QF n).toNat:=by decide +kernel
theorem eJ{D:List UInt8}(hz:z.toNat<48):z∉HX D:=fun hm=>by
 obtain⟨c,_,hc⟩:=List.mem_flatMap.1 hm;have hl:=c.toNat_lt;rcases Ay.1 hc with e | e
 .have:=d6 (c.toNat / 16) ch
  rw[e]at hz;have hz:(CV QF (c.toNat / 16)).toNat<48:=hz;omega
 .have:=d6 (c.toNat % 16) ch
  rw[Aj.1 e]at hz;have hz:(CV QF (c.toNat % 16)).toNat<48:=hz;omega
theorem Qx{s:Sl}(h:Im s=false):(Bs s.path).isSome=true/\B3 s.ver=true:=by
 unfold Im at h;split at h
 .cases h
 .rename_i m e;rw[MK,Bool.not_eq_false']at h;exact⟨by rw[e];rfl,h.1⟩
theorem UD:(SL c).data.toList=c.path.data.toList++32::((Ja c.ver.a c.ver.b c.ver.c).data.toList++32::HX (EB c.bytes).data.toList):=by
 unfold SL;rw[Ma,QU];simp only[We,JW];rfl
theorem iO{c:Cp}(h:Im (Es c)=false):B2 32 (SL c).data.toList=(oD c).map (·.data.toList):=by
 obtain⟨h1,h2⟩:=Qx h;rw[UD,Vj (fu h1 (.inl rfl)),Vj (fS h2 Cl),dJ (eJ Cl)];simp[JW]
theorem uy{c:Cp}(h:Im (Es c)=false):(10:UInt8)∉(SL c).data.toList:=by
 obtain⟨h1,h2⟩:=Qx h;rw[UD];intro hm;rcases AT.1 hm with hm | hm
 .exact fu h1 (.inr rfl) hm
 .rcases Ay.1 hm with hm | hm
  .exact absurd hm Cl
  .rcases AT.1 hm with hm | hm
   .exact fS h2 Cl hm
   .rcases Ay.1 hm with hm | hm
    .exact absurd hm Cl
    .exact eJ Cl hm
theorem UE{c:Cp}(h:Im (Es c)=false):(SL c).size<=c.path.size+131:=by
 have q:=Fc (v:=c.ver) (Qx h).2;have h1:=RG (a:=c.ver.a) (b:=c.ver.b) (c:=c.ver.c) ch ch ch;have e:(SL c).size=(SL c).data.toList.length:=rfl;rw[e,UD];simp only[Ac,Al,Uh];have e1:c.path.data.toList.length=c.path.size:=rfl;have e2:(Ja c.ver.a c.ver.b c.ver.c).data.toList.length=(Ja c.ver.a c.ver.b c.ver.c).size:=rfl;have e3:(EB c.bytes).data.toList.length=32:=Rs _;omega
theorem aP:∀{l:List Cp},(∀c∈l,Im (Es c)=false/\c.path.size<=100)->(IQ l).size<=232*l.length
 | [],_=>Ai _
 |c::l,h=>by
  have h1:=UE (h c (Ab ..)).1;have h2:=(h c (Ab ..)).2;have h3:=aP (l:=l) fun d hd=>h d (Ae _ hd);show((SL c++KK)++IQ l).size<=_;rw[BM,BM,Al];have e:KK.size=1:=rfl;omega
theorem pJ{b:List UInt8}{a:List UInt8}(h:z∉a):Go.Lib.cut (a++z::b) [z]=(a,b,true):=by
 have hi:Go.Lib.index (a++z::b) [z]=(a.length:Int):=by
  rw[Go.Lib.index_one]
  induction a with
  |nil=>show Go.Lib.indexByte (z::b) z=0;rw[Go.Lib.indexByte];simp
  |cons x a ih=>
   have hx:(x == z)=false:=by rw[Jz];exact fun e=>h (by rw[e];exact Ab ..)
   show Go.Lib.indexByte (x::(a++z::b)) z=_;rw[Go.Lib.indexByte,hx,ih fun hm=>h (Ae _ hm)];have e:((a.length:Int) == -1)=false:=by rw[Jz];omega
   simp only[CM,FZ,e];rw[Al];omega
 unfold Go.Lib.cut;rw[hi,As ch,BE,Ev,List.drop_append]
 .simp
 .rfl
theorem sL{c:Cp}(hc:Im (Es c)=false)(r:List Cp)(hs:(IQ (c::r)).size<4294967281):PC 65 [vs (IQ (c::r)),vs KK] (.tup [vs (SL c),vs (IQ r),vb true]):=by
 have q:=wz (IQ (c::r)) KK hs;have e:(IQ (c::r)).data.toList=(SL c).data.toList++10::(IQ r).data.toList:=by
  show((SL c++KK)++IQ r).data.toList=_;simp only[We,Bm];rfl
 have e2:Go.Lib.cut (IQ (c::r)).data.toList KK.data.toList=((SL c).data.toList,(IQ r).data.toList,true):=by
  rw[e];exact pJ (uy hc)
 rw[e2]at q;exact q
theorem kR(ps:List ByteArray)(hp3:((ps.map BJ).length:Int)=(3:Int))(h0:ps[0]?=some c.path)(h1:ps[1]?=some (Ja c.ver.a c.ver.b c.ver.c))(h2:ps[2]?=some (JW (EB c.bytes)))(qm:PC 104 [vs (SL c),vs bX] (sl BJ ps))(hv:B3 c.ver=true):PC 66 [vs (SL c)] (.tup [.agg (EZ (Jt c)),vb true]):=by
 refine Ps DU Tryz.func66 rfl (Nz rfl) (Xi .pure (Xi _ (Yi qm (Yi (fun hf=>absurd hp3 hf) (fun _=>?_)))));refine Xi (BJ (Ja c.ver.a c.ver.b c.ver.c)) (Yi (Yi Cl (Ee h1)) (Yi rfl (Xi .pure (Xi _ (Yi (kY c.ver hv) (yN (Xi (BJ (JW (EB c.bytes))) (Yi (Yi Cl (Ee h2)) (Yi rfl (Xi .pure (Xi _ (Yi (kS (EB c.bytes) (Rs _)) (Xi (BJ c.path) (Yi (Yi Cl (Ee h0)) (Yi rfl (yN (Yi (fun _=>?_) (fun h=>absurd Cl h))))))))))))))))));refine Yi (fun _=>?_) (fun h=>absurd Cl h);refine yN (Yi aa0 (yN ?_));exact .refl _
theorem pi(hc:Im (Es c)=false)(hp:c.path.size<=1000000):PC 66 [vs (SL c)] (.tup [.agg (EZ (Jt c)),vb true]):=
 kR c (oD c) rfl rfl rfl rfl (dW (SL c) 32 (oD c) (by unfold Er;have:=UE hc;omega) (iO hc)) (Qx hc).2
theorem mQ{i:Nat}(h:IQ (l.drop i)=⟨#[]⟩):l.length<=i:=by
 rcases BT i l.length with hi | hi
 .rw[AY hi]at h;have h:((SL l[i]++KK)++IQ (l.drop (i+1)))=⟨#[]⟩:=h;have q:=Aa ByteArray.size h;rw[BM,BM]at q;have e:KK.size=1:=rfl;have e2:(⟨#[]⟩:ByteArray).size=0:=rfl;omega
 .exact hi
theorem mR{i:Nat}(h:¬IQ (l.drop i)=⟨#[]⟩):i<l.length:=by
 rcases BT i l.length with hi | hi
 .exact hi
 .rw[EW hi]at h;exact absurd rfl h
theorem aN(l:List Cp):∀i,(IQ (l.drop i)).size<=(IQ l).size
 |0=>Ai _
 |i+1=>by
  refine A9 ?_ (aN l i);rcases BT i l.length with hi | hi
  .rw[AY hi];show _<=((SL l[i]++KK)++IQ (l.drop (i+1))).size;rw[BM];omega
  .rw[EW ch,EW hi];exact Ai _
theorem sP(l:List Cp)(hl:l.length<=1000)(FY:∀c∈l,Im (Es c)=false/\c.path.size<=1000000)(hr:Ha (l.map Es)=true)(hs:(IQ l).size<=65536):PC 26 [vs (IQ l)] (.tup [sl EZ (l.map Jt),vi 0]):=by
 refine Ps (pT [] [(4,6),(5,4)] [13]) Tryz.func26 rfl (Nz rfl) (Yi (fun h1=>?_) (fun h1=>?_))
 .have h1:(65536:Int)<((IQ l).size:Int):=h1;exact absurd h1 ch
 have h1:¬((65536:Int)<((IQ l).size:Int)):=h1;refine Xi {q:Nat // q<=l.length} (Xi (fun q=>⟨[(0,vs (IQ (l.drop q.1))),(4,.slice (.id 4 6) (((l.take q.1).map Jt).map EZ)),(5,.slice (.id 5 4) (((l.take q.1).map Es).map Ao))],[(4,.tok 6 (((l.take q.1).map Jt).map EZ).length),(5,.tok 4 (((l.take q.1).map Es).map Ao).length)],Ad⟩) (Xi (fun q=>l.length-q.1) (Yi (Xi ⟨0,AE _⟩ ?_) ?_)))
 .exact⟨Z3,Z2,Fh,Tv⟩
 intro⟨i,i1⟩;have i1:i<=l.length:=i1;have kl:=uA Jt EZ l i;have Yl:=uA Es Ao l i;refine Yi (fun h3=>?_) (fun h3=>?_)
 .have h3:((IQ (l.drop i)):ByteArray)≠⟨#[]⟩:=h3;have hi:i<l.length:=mR h3;refine Xi .pure (Xi _ (Yi (show PC 65 [vs (IQ (l.drop i)),vs KK] (.tup [vs (SL l[i]),vs (IQ (l.drop (i+1))),vb true])from by rw[AY hi];exact sL (FY _ (Aq hi)).1 _ (by rw[<-AY hi];have:=aN l i;omega)) ?_));refine Xi .pure (Xi _ (Yi (pi l[i] (FY _ (Aq hi)).1 (FY _ (Aq hi)).2) (yN (Yi (fun h4=>?_) (fun h4=>?_)))))
  .have h4:((((l.take i).map Jt).map EZ).length:Int)=(1024:Int):=h4;exact absurd h4 ch
  have h4:¬(((((l.take i).map Jt).map EZ).length:Int)=(1024:Int)):=h4;refine yN ?_;have b5:CR 6 [(EZ (Jt l[i]))]/\(((l.take i).map Jt).map EZ).length=(((l.take i).map Jt).map EZ).length/\((((l.take i).map Jt).map EZ).length+([(EZ (Jt l[i]))]:List (List AV)).length)*72<=140737488355328/\(((l.take i).map Jt).map EZ).length+([(EZ (Jt l[i]))]:List (List AV)).length<=9223372036854775807:=⟨⟨rfl,trivial⟩,rfl,(by simp only[Lm,Al,Ax,AA];omega),(by simp only[Lm,Al,Ax,AA];omega)⟩;refine Yi b5 (yN ?_);have b6:CR 4 [[vs (Jt l[i]).path,vi (Jt l[i]).ver.a,vi (Jt l[i]).ver.b,vi (Jt l[i]).ver.c]]/\(((l.take i).map Es).map Ao).length=(((l.take i).map Es).map Ao).length/\((((l.take i).map Es).map Ao).length+([[vs (Jt l[i]).path,vi (Jt l[i]).ver.a,vi (Jt l[i]).ver.b,vi (Jt l[i]).ver.c]]:List (List AV)).length)*40<=140737488355328/\(((l.take i).map Es).map Ao).length+([[vs (Jt l[i]).path,vi (Jt l[i]).ver.a,vi (Jt l[i]).ver.b,vi (Jt l[i]).ver.c]]:List (List AV)).length<=9223372036854775807:=⟨⟨rfl,trivial⟩,rfl,(by simp only[Lm,Al,Ax,AA];omega),(by simp only[Lm,Al,Ax,AA];omega)⟩;refine Yi b6 ?_;have e4:=uB Jt EZ hi;have e5:=uB Es Ao hi;refine Xi ⟨i+1,hi⟩ ?_;exact⟨Dl l.length i ch,⟨Zr,⟨(Aa (AV.slice (.id 4 6)) e4),rfl⟩,⟨(Aa (AV.slice (.id 5 4)) e5),rfl⟩,Tv⟩,⟨⟨(show HO.tok 6 ((((l.take i).map Jt).map EZ).length+([(EZ (Jt l[i]))]:List (List AV)).length)=.tok 6 (((l.take (i+1)).map Jt).map EZ).length from Aa (HO.tok 6) (Ac.symm.trans (Aa List.length e4))),rfl⟩,⟨(show HO.tok 4 ((((l.take i).map Es).map Ao).length+([[vs (Jt l[i]).path,vi (Jt l[i]).ver.a,vi (Jt l[i]).ver.b,vi (Jt l[i]).ver.c]]:List (List AV)).length)=.tok 4 (((l.take (i+1)).map Es).map Ao).length from Aa (HO.tok 4) (Ac.symm.trans (Aa List.length e5))),rfl⟩,Tv⟩,Fh,Tv⟩
 have h3:((IQ (l.drop i)):ByteArray)=⟨#[]⟩:=Bc h3;have et:l.take i=l:=AB (mQ h3);refine cU [(4,.slice (.id 4 6) ((l.map Jt).map EZ)),(5,.slice (.id 5 4) ((l.map Es).map Ao))] [(4,.tok 6 ((l.map Jt).map EZ).length),(5,.tok 4 ((l.map Es).map Ao).length)] ⟨⟨(Aa (fun z:List Cp=>AV.slice (.id 4 6) ((z.map Jt).map EZ)) et),rfl⟩,⟨(Aa (fun z:List Cp=>AV.slice (.id 5 4) ((z.map Es).map Ao)) et),rfl⟩,Tv⟩ ⟨⟨(Aa (fun z:List Cp=>HO.tok 6 ((z.map Jt).map EZ).length) et),rfl⟩,⟨(Aa (fun z:List Cp=>HO.tok 4 ((z.map Es).map Ao).length) et),rfl⟩,Tv⟩ (Xi .pure (Xi _ (Yi (cb hr (XM (l.map Es) (T0 (by unfold Cw;omega)) (fun s q=>by obtain⟨c,q1,rfl⟩:=Ak.1 q;have:=(FY c q1).2;unfold Er;show c.path.size<=_;omega))) ?_)));exact .refl _
end Go.Eng
namespace Go.Eng
/-! The three comparisons. -/
abbrev vX(a b:Sl):Prop:=FQ a.path b.path=true
/-! Pins. -/
/-! What the reference makes of a list. -/
end Go.Eng
namespace Go.Eng
open Go.Proofs
variable {caps:List AV}{fF:Nat}{s:Sl}(m:List Cp)(c:Cp)
abbrev bG:Value×AV:=(Iv (Es c),vs (EB c.bytes))
theorem WF{a b:Sl}(h:Iv a=Iv b):a=b:=by
 simp only[Iv,Value.agg.injEq,Array.mk.injEq,Eu,Value.string.injEq,Value.int.injEq,true_and,Tw]at h;exact se ⟨h.1,h.2.1,h.2.2.1,h.2.2.2,trivial⟩
theorem th{m:List Cp}(h:(m.map Es).Pairwise vX){i:Nat}(hi:i<m.length):Ff ((m.take i).map bG) (Iv (Es m[i])) (vs (EB m[i].bytes))=(m.take (i+1)).map bG:=by
 rw[NF]
 .rw[AZ,Ge hi,Pb,Az];rfl
 .intro b hb;obtain⟨t,ht,e⟩:=Ak.1 hb;obtain⟨j,hj,rfl⟩:=B1.1 ht;rw[K6]at e;rw[AA]at hj;have q:=(A8.1 h) j i (by rw[Lm];omega) (by rw[Lm];exact hi) ch;rw[Gd,Gd]at q;have e2:m[j].path=m[i].path:=by
   have e1:=Aa Prod.fst e;exact Aa Sl.path (WF e1)
  have q:FQ m[j].path m[i].path=true:=q;rw[e2,Dn]at q;cases q
def oL(s:Sl):ByteArray:=match m.find? (fun c=>decide (Es c=s))with
 |some c=>EB c.bytes
 |none=>⟨#[]⟩
theorem Zw{m:List Cp}{a:AV}(hp:(m.map Es).Pairwise vX)(h:(Iv s,a)∈m.map bG):a=vs (oL m s):=by
 obtain⟨c,hc,e⟩:=Ak.1 h;have e1:Es c=s:=WF (Aa Prod.fst e);have e2:vs (EB c.bytes)=a:=Aa Prod.snd e;unfold oL;cases hf:m.find? (fun c=>decide (Es c=s))with
 |none=>exact absurd e1 (of_decide_eq_false (by simpa using EE.1 hf c hc))
 |some d=>
  have h1:Es d=s:=BO (DL (p:=fun c=>decide (Es c=s)) hf);have hd:=BP hf;obtain⟨i,hi,rfl⟩:=B1.1 hc;obtain⟨j,hj,rfl⟩:=B1.1 hd;have QM:i=j:=by
   rcases Lb i j with h | h | h
   .have q:=(A8.1 hp) i j (by rw[Lm];exact hi) (by rw[Lm];exact hj) h;rw[Gd,Gd,e1,h1,vX,Dn]at q;cases q
   .exact h
   .have q:=(A8.1 hp) j i (by rw[Lm];exact hj) (by rw[Lm];exact hi) h;rw[Gd,Gd,e1,h1,vX,Dn]at q;cases q
  subst QM;exact e2.symm
theorem lG{m:List Cp}(h:∀a,(Iv s,a)∉m.map bG):oL m s=⟨#[]⟩:=by
 unfold oL;cases hf:m.find? (fun c=>decide (Es c=s))with
 |none=>rfl
 |some d=>
  have h1:Es d=s:=BO (DL (p:=fun c=>decide (Es c=s)) hf);exact absurd (Ak.2 ⟨d,BP hf,by rw[<-h1]⟩) (h (vs (EB d.bytes)))
abbrev dQ:Bool:=!decide (oL m (Es c)=EB c.bytes)
def j8(l m:List Cp):Int:=
 if GZ l≠0 then GZ l else if m.any (fun c=>!decide (Es c∈l.map Es))=true then 6 else if m.length<l.length then 5 else if l.any (dQ m)=true then 9 else 0
theorem wH(hp:(m.map Es).Pairwise vX)(hb:c.bytes.size<=100000000):PC 63 [.agg (BY c),.cptr [.cmap SP (m.map bG)]] (vb (dQ m c)):=by
 refine Ps DU Tryz.func63 rfl (Nz rfl) (yN (Xi _ (Yi (kX c) (BL (Classical.em (∃a,(Iv (Es c),a)∈(m.map bG))) (fun h1=>?_) (fun h1=>?_)))))
 .refine BA h1 (fun a ha=>?_);have ea:=Zw hp ha;subst ea;refine Or.inl (Xi (vs (oL m (Es c))) (Yi (Yi ha (fun b hb=>Zw hp hb)) ?_));refine Xi _ (Yi (Wc c.bytes hb) (Yi (fun h3=>?_) (fun h3=>?_)))
  .have h3:((oL m (Es c)):ByteArray)≠(EB c.bytes):=h3;refine Yi aa0 ?_;exact EY.of_eq (show vb true=vb (dQ m c) by rw[dQ,Am h3];rfl)
  have h3:((oL m (Es c)):ByteArray)=(EB c.bytes):=Bc h3;refine Yi aa0 ?_;exact EY.of_eq (show vb false=vb (dQ m c) by rw[dQ,Ap h3];rfl)
 have JH:∀a,(Iv (Es c),a)∉(m.map bG):=fun a ha=>h1 ⟨a,ha⟩;have eg:=lG JH;refine Or.inr (Yi JH ?_);refine Xi _ (Yi (Wc c.bytes hb) (Yi (fun h7=>?_) (fun h7=>?_)))
 .have h7:(⟨#[]⟩:ByteArray)≠(EB c.bytes):=h7;refine Yi aa0 ?_;exact EY.of_eq (show vb true=vb (dQ m c) by rw[dQ,eg,Am h7];rfl)
 have h7:(⟨#[]⟩:ByteArray)=(EB c.bytes):=Bc h7;refine Yi aa0 ?_;exact EY.of_eq (show vb false=vb (dQ m c) by rw[dQ,eg,Ap h7];rfl)
theorem Adx(hs:DD caps)(l:List (Cp))(p:Cp->Bool)(hF:∀x∈l,PC fF ([.agg (BY x)]++caps) (vb (p x)))(hl:l.length<9223372036854775807) :
  PC 102 [sl BY l,.clo fF caps] (vi (IL p l 0)):=by
 refine Ps DU Tryz.func102 rfl (Nz rfl) (Xi {i:Nat // i<=l.length/\∀j (hj:j<l.length),j<i->p l[j]=false} (Xi (fun i=>⟨[(0,sl BY l),(1,.clo fF caps),(7,vi (l.map BY).length),(8,vi i.1)],[],Ad⟩) (Xi (fun i=>l.length-i.1) (Yi (Xi ⟨0,by simp⟩ ?_) ?_))))
 .exact⟨⟨Zr,⟨rfl,hs.ids _⟩,Zr,Zr,Tv⟩,Tv,Fh,Tv⟩
 .intro⟨i,h1,h2⟩;refine Yi ?_ ?_
  .intro h;have h:(i:Int)<(l.map BY).length:=h;have h:i<l.length:=by simpa using h
   have hg:l[i]?=some l[i]:=Ge h;refine Xi (BY l[i]) (Yi (Yi (Nn i) (by simp[hg])) (Yi rfl (yN ?_)));have CQ:∀h,PC fF ([.agg (BY l[i])]++caps.map (str0 h)) (vb (p l[i])):=fun h=>by rw[hs.map];exact hF l[i] (Aq _)
   cases hp:p l[i]with
   |true=>
    rw[hp]at CQ;refine Xi .pure (Xi (vb true) (Yi (CQ _) ?_));rw[Jk h (fun j hj Iu=>h2 j hj Iu) hp,EU];exact .refl _
   |false=>
    rw[hp]at CQ;refine Xi .pure (Xi (vb false) (Yi (CQ _) (Yi (Ii i ch) (Xi ⟨i+1,by omega,fun j hj Iu=>?_⟩ ?_))))
    .by_cases e:j=i
     .subst e;exact hp
     .exact h2 j hj ch
    .exact⟨Dl l.length i ch,⟨Zr,⟨rfl,hs.ids _⟩,Zr,Zr,Tv⟩,Tv,Fh,Tv⟩
  .intro h;have h:¬(i:Int)<(l.map BY).length:=h;have h:¬i<l.length:=by simpa using h
   rw[Gq fun j hj=>h2 j hj ch];exact .refl _
theorem z62(hs:DD caps)(l:List (Cp))(p:Cp->Bool)(hF:∀x∈l,PC fF ([.agg (BY x)]++caps) (vb (p x)))(hl:Cw l) :
  PC 62 [sl BY l,.clo fF caps] (vb (l.any p)):=by
 refine Ps DU Tryz.func62 rfl (Nz rfl) ?_;have hi:=Adx hs l p hF (by unfold Cw at hl;omega);have CQ:∀h,PC 102 [sl BY l,.clo fF (caps.map (str0 h))] (vi (IL p l 0)):=fun h=>by rw[hs.map];exact hi
 refine Xi .pure (Xi _ (Yi (CQ _) ?_));have ha:=IM (p:=p) l 0 (By 0);refine Yi ?_ ?_
 .intro h;have h:(0:Int)<=IL p l 0:=h;rw[<-ha,Ap h];exact .refl _
 .intro h;have h:¬(0:Int)<=IL p l 0:=h;rw[<-ha,Am h];exact .refl _
theorem gx(l m:List Cp)(s:ByteArray)(hl:Cw l)(hmf:Cw m)(hp:∀c∈l,Er c.path)(hb:∀c∈l,c.bytes.size<=100000000)(hpw:(m.map Es).Pairwise vX)(hr:PC 26 [vs s] (.tup [sl EZ (m.map Jt),vi 0])):PC 25 [sl BY l,vs s] (vi (j8 l m)):=by
 have vG:m.length<=1073741824:=hmf;refine Ps ⟨[],[],[],[(54,[28]),(55,[9])],[],[],[],[],[],[],[17]⟩ Tryz.func25 rfl (Nz rfl) (Xi .pure (Xi _ (Yi hr (Yi (fun h=>absurd h Cl) (fun _=>?_)))));refine Xi .pure (Xi _ (Yi (Pj l hl hp) (Yi (fun h1=>?_) (fun h1=>?_))))
 .have h1:((GZ l):Int)≠(0:Int):=h1;exact EY.of_eq (show vi (GZ l)=vi (j8 l m) by rw[j8,As h1])
 have h1:((GZ l):Int)=(0:Int):=Bc h1;refine Xi .pure (Xi _ (Yi (XL l hl) (yN (Xi {q:Nat // q<=m.length/\∀j (hj:j<m.length),j<q->Es m[j]∈l.map Es} (Xi (fun q=>⟨[(0,sl BY l),(8,sl Ao (l.map Es)),(9,.ref 9 0),(29,sl EZ (m.map Jt)),(30,vi ((m.map Jt).map EZ).length),(31,vi q.1)],[(9,.cells [.mref 28]),(28,.map SP ((m.take q.1).map bG))],Ad⟩) (Xi (fun q=>m.length-q.1) (Yi (Xi ⟨0,AE _,fun _ _ h=>absurd h (FM _)⟩ ?_) ?_)))))))
 .exact⟨Z6,Z2,Fh,Tv⟩
 intro⟨i,i1,i2⟩;have i1:i<=m.length:=i1;have i2:∀j (hj:j<m.length),j<i->Es m[j]∈l.map Es:=i2;refine Yi (fun h3=>?_) (fun h3=>?_)
 .have h3:(i:Int)<(((m.map Jt).map EZ).length:Int):=h3;have n3:=Lu h3;have hmi:i<m.length:=by have q:=n3;rw[Lm]at q;exact q
  refine Xi (EZ (Jt m[i])) (Yi (Yi (Nn i) (Ee (show(m.map Jt)[i]?=some (Jt m[i]) by rw[Aw,Ge hmi];rfl))) (Yi rfl ?_));refine yN (yN (yN (yN (yN (yN (BL (Bt (decide (Es m[i]∈l.map Es))) (fun h4=>?_) (fun h4=>?_)))))))
  .have h4:(decide (Es m[i]∈l.map Es))=true:=h4;refine Xi .pure (Xi _ (Yi (cb h4 (z8 (l.map Es) (Es m[i]) (T0 hl))) (Yi (Ii i ch) (Xi ⟨i+1,hmi,fun j hj gg=>by rcases BT j i with g4 | g4;exact i2 j hj g4;have e:j=i:=ch;subst e;exact BO h4⟩ ?_))));exact⟨Dl m.length i ch,Z6,⟨Zr,⟨(show HO.map SP (Ff ((m.take i).map bG) (Iv (Es m[i])) (vs (Jt m[i]).arch))=.map SP ((m.take (i+1)).map bG)from Aa (HO.map SP) (th hpw hmi)),rfl⟩,Tv⟩,Fh,Tv⟩
  have h4:(decide (Es m[i]∈l.map Es))=false:=h4;refine Xi .pure (Xi _ (Yi (cb h4 (z8 (l.map Es) (Es m[i]) (T0 hl))) ?_));exact EY.of_eq (show vi 6=vi (j8 l m) by rw[j8,Ah (fun c=>c h1),As (AX.2 ⟨m[i],Aq _,by rw[h4];rfl⟩)])
 have h3:¬((i:Int)<(((m.map Jt).map EZ).length:Int)):=h3;have n3:=Ip h3;have ei:m.take i=m:=AB (by have q:=Ip h3;rw[Lm]at q;omega);have i3:∀j (hj:j<m.length),Es m[j]∈l.map Es:=fun j hj=>i2 j hj (by have q:=Ip h3;rw[Lm]at q;omega);refine cU [(0,sl BY l),(8,sl Ao (l.map Es)),(9,.ref 9 0)] [(9,.cells [.mref 28]),(28,.map SP (m.map bG))] Z3 ⟨Zr,⟨(Aa (fun z:List Cp=>HO.map SP (z.map bG)) ei),rfl⟩,Tv⟩ (Yi (fun h7=>?_) (fun h7=>?_))
 .have h7:((m.map bG).length:Int)<(((l.map Es).map Ao).length:Int):=h7;have n7:=Lu h7;have JH:¬m.any (fun c=>!decide (Es c∈l.map Es))=true:=fun h=>by
   obtain⟨c,hc,q⟩:=AX.1 h;obtain⟨j,hj,rfl⟩:=B1.1 hc;rw[Ap (i3 j hj)]at q;cases q
  exact EY.of_eq (show vi 5=vi (j8 l m) by rw[j8,Ah (fun c=>c h1),Ah JH,As (by have q:=h7;rw[Lm,Lm,Lm]at q;omega)])
 have h7:¬(((m.map bG).length:Int)<(((l.map Es).map Ao).length:Int)):=h7;have n7:=Ip h7;refine BL (Bt (l.any (dQ m))) (fun h9=>?_) (fun h9=>?_)
 .have h9:(l.any (dQ m))=true:=h9;refine Xi .pure (Xi _ (Yi (cb h9 (z62 (fF:=63) (DD.ptr [.cmap SP (m.map bG)]) l (dQ m) (fun c hc=>wH m c hpw (hb c hc)) hl)) ?_));have JH:¬m.any (fun c=>!decide (Es c∈l.map Es))=true:=fun h=>by
   obtain⟨c,hc,q⟩:=AX.1 h;obtain⟨j,hj,rfl⟩:=B1.1 hc;rw[Ap (i3 j hj)]at q;cases q
  exact EY.of_eq (show vi 9=vi (j8 l m) by rw[j8,Ah (fun c=>c h1),Ah JH,Ah (by have q:=h7;rw[Lm,Lm,Lm]at q;omega),As h9])
 have h9:(l.any (dQ m))=false:=h9;refine Xi .pure (Xi _ (Yi (cb h9 (z62 (fF:=63) (DD.ptr [.cmap SP (m.map bG)]) l (dQ m) (fun c hc=>wH m c hpw (hb c hc)) hl)) ?_));have JH:¬m.any (fun c=>!decide (Es c∈l.map Es))=true:=fun h=>by
  obtain⟨c,hc,q⟩:=AX.1 h;obtain⟨j,hj,rfl⟩:=B1.1 hc;rw[Ap (i3 j hj)]at q;cases q
 exact EY.of_eq (show vi 0=vi (j8 l m) by rw[j8,Ah (fun c=>c h1),Ah JH,Ah (by have q:=h7;rw[Lm,Lm,Lm]at q;omega),Ah (by rw[h9];decide)])
end Go.Eng
namespace Go.Eng
open Go.Proofs Go.RowKit Go.Shelf
variable {P:Program}(b:Nat)(p v:Value)(w:World)
theorem Zg(t u ty e:TypeId)(i:TypeInfo)(ht:P.underlying t=some (.slice e))(hu:P.underlying u=some .string)(hi:P.info? e=some i)(hz:i.zero=some (.int .u8 0))(am:i.size=1)(tC:i.bytes=1)(v:Value)(n:Nat)(xs:List Value)(Jj:w.ownsRow 0 e 1 v n xs)(s:ByteArray)(hb:n+s.size<=140737488355328) :
  ∃v' w',(Builtin.append_ #[t,u] ty #[v,.string s]).run P w=.ok v' w'/\w'.ownsRow 0 e 1 v' (n+s.size) (xs++Lib.strCells s)/\w.grownBy w' v.ownBlock/\(v'.ownBlock=v.ownBlock\/v'.ownBlock=some w.heap.size/\∀k,k<w.heap.size->w'.heap[k]?=w.heap[k]?)/\(s.size=0->v'=v):=by
 obtain⟨v',w',hr,h2,h3,h4⟩:=Lib.run_append_own_string w 0 t u ty e i ht hu hi hz am tC v n xs Jj s (by unfold maxLen;omega) hb (AE _);refine⟨v',w',hr,h2,h3,?_⟩;rcases Jj.2 with ⟨rfl,rfl⟩ | ⟨g,cap,Db,rfl,hbg,hg,hnc,xF,hcs,Ky⟩
 .by_cases hm:s.size=0
  .have e:=h4.2 ⟨rfl,hm⟩;subst e;exact⟨.inl rfl,fun _=>rfl⟩
  .have SH:=run_append_nil_string (P:=P) w t u ty e i (.int .u8 0) ht hu hi hz s ch ch (by rw[tC];omega);rw[hr]at SH
   injection SH with e1 e2
   exact⟨.inr ⟨by rw[e1];rfl,fun k hk=>h3.block k hk (by simp[Value.ownBlock])⟩,fun h=>absurd h hm⟩
 .have AfT : Db.size=cap:=by simpa using hcs
  by_cases I5:n+s.size<=cap
  .have SH:=Lib.run_append_room_string (P:=P) w t u ty e i ht hu hi am g n cap Db hg s I5 ch;rw[hr]at SH
   injection SH with e1 e2
   exact⟨.inl (by rw[e1];rfl),fun h=>by rw[e1,h];rfl⟩
  .have GB:∀j u,xs[j]?=some u->w.cell? ((⟨g,0,none⟩:Addr).add j)=some u:=Jj.cells (g:=g) rfl;have cP:xs.length=n:=by simpa using Jj.1
   have SH:=Lib.run_append_grow_string (P:=P) w t u ty e i (.int .u8 0) ht hu hi hz ⟨g,0,none⟩ n cap xs (by rw[am];simpa using cP) GB s ch ch (by rw[tC];exact Go.growslice_fits ch ch);rw[hr]at SH
   injection SH with e1 e2
   exact⟨.inr ⟨by rw[e1];rfl,fun k hk=>by rw[e2];exact heap_alloc_old w.drew _ hk⟩,fun h=>absurd ch I5⟩
theorem OV{w:World}{ops:Array Oper}{rest:List Oper}{o:Oper}{a:Act}{Q:Exit->Act->World->Prop}(hgd:o.guard=none)(sl x:Operand)(t u:TypeId)(ho:o.op=.call { callee:=.builtin .append,args:=#[sl,x],argTypes:=#[t,u] })(e:TypeId)(i:TypeInfo)(ht:P.underlying t=some (.slice e))(hu:P.underlying u=some .string)(hi:P.info? e=some i)(hz:i.zero=some (.int .u8 0))(am:i.size=1)(tC:i.bytes=1)(v:Value)(n:Nat)(xs:List Value)(hs:a.eval sl=v)(Jj:w.ownsRow 0 e 1 v n xs)(s:ByteArray)(hx:a.eval x=.string s)(hb:n+s.size<=140737488355328)(h:∀v' w',w'.ownsRow 0 e 1 v' (n+s.size) (xs++Lib.strCells s)->w.grownBy w' v.ownBlock->(v'.ownBlock=v.ownBlock\/v'.ownBlock=some w.heap.size/\∀k,k<w.heap.size->w'.heap[k]?=w.heap[k]?)->Hid (s.size=0->v'=v)->wpList P ops Q rest (a.put o.dst v') w'):wpList P ops Q (o::rest) a w:=by
 refine wpList_plain hgd fun K hK=>?_;obtain⟨v',w',hr,h2,h3,h4,h5⟩:=Zg (P:=P) w t u o.type e i ht hu hi hz am tC v n xs Jj s hb;unfold Oper.wp execOp;simp only[ho,resolve,invoke,builtin,Sem.run_bind,Sem.run_pure,Result.andThen_ok,List.map_toArray,AK,Eb,hs,hx,hr];exact hK _ _ (h v' w' h2 h3 h4 h5)
theorem mK:Lays.n240 Tryz.prog Tryz.layJoin_ren:={ Tryz.layJoin with }
theorem pz(hb:w.heap[b]?=some (.cells #[p,v] 104 (0,0)))(hp:p=.pointer none\/p=.pointer (some ⟨b,0,none⟩)) :
  Calls Tryz.prog 98 #[.pointer (some ⟨b,0,none⟩)] w fun e w'=>e=.returned (.tuple #[])/\w'.heap[b]?=some (.cells #[.pointer (some ⟨b,0,none⟩),v] 104 (0,0))/\(w'.os=w.os/\w'.tape=w.tape/\w'.output=w.output)/\w'.heap.size=w.heap.size/\∀k,k≠b->w'.heap[k]?=w.heap[k]?:=by
 rcases hp with rfl | rfl
 .have q:=Any.Builder_copyCheck_fresh mK Tryz.layJoinX.toX72 b w (by rw[Lib.cell_of_heap hb];rfl) (by simp[World.shape?,hb];rfl) (Lib.frozen_of_heap hb 0);refine q.mono ?_
  rintro e w' ⟨rfl,rfl⟩
  refine⟨rfl,?_,⟨rfl,rfl,rfl⟩,by simp[World.setCell],fun k hk=>?_⟩
  .simp[World.setCell,Array.getElem?_modify,hb]
  .simp[World.setCell,Array.getElem?_modify,Ne.symm hk]
 .have q:=Any.Builder_copyCheck_used mK Tryz.layJoinX.toX72 b w (by rw[Lib.cell_of_heap hb];rfl);refine q.mono ?_
  rintro e w' ⟨rfl,rfl⟩
  exact⟨rfl,hb,⟨rfl,rfl,rfl⟩,rfl,fun k _=>rfl⟩
set_option maxRecDepth 100000 in
theorem rC(n:Nat)(xs:List Value)(s:ByteArray)(w:World)(hb:w.heap[b]?=some (.cells #[p,v] 104 (0,0)))(hp:p=.pointer none\/p=.pointer (some ⟨b,0,none⟩))(Jj:w.ownsRow 0 5 1 v n xs)(Dv:v.ownBlock≠some b)(Ca:n+s.size<=140737488355328) :
  Calls Tryz.prog 57 #[.pointer (some ⟨b,0,none⟩),.string s] w fun e w'=>e=.returned (.tuple #[.int .i64 s.size,.nilIface])/\∃v',w'.heap[b]?=some (.cells #[.pointer (some ⟨b,0,none⟩),v'] 104 (0,0)) /\
   w'.ownsRow 0 5 1 v' (n+s.size) (xs++Lib.strCells s)/\(w'.os=w.os/\w'.tape=w.tape/\w'.output=w.output)/\w.heap.size<=w'.heap.size/\(∀k,k<w.heap.size->k≠b->some k≠v.ownBlock->w'.heap[k]?=w.heap[k]?) /\
   (v'.ownBlock=v.ownBlock\/v'.ownBlock=some w.heap.size/\∀k,k<w.heap.size->k≠b->w'.heap[k]?=w.heap[k]?)/\(s.size=0->v'=v):=by
 obtain⟨i0,hi,qq,hz1,vT⟩:=info_parts (P:=Tryz.prog) (e:=5) (z:=.int .u8 0) (size:=1) (bytes:=1) aa0;have Dx:b<w.heap.size:=by
  rcases BT b w.heap.size with h' | h'
  .exact h'
  .simp[Array.getElem?_eq_none h']at hb
 have e98:∀args w,(callFunc 98 args).run Tryz.prog w=.ok (.enter 98 args) w:=enters_of Tryz.func98 aa0 rfl
 go_enter Tryz.func57,Tryz.ntmps57
 go_wp2_with (go_at_fn 98;refine(pz b p v _ hb hp).mono ?_)
 rintro e w1 ⟨rfl,zF,rU,vN,qb⟩
 have c0:w1.cell? ⟨b,0,none⟩=some (.pointer (some ⟨b,0,none⟩)):=by rw[Lib.cell_of_heap zF];rfl
 have c1:w1.cell? ⟨b,1,none⟩=some v:=by rw[Lib.cell_of_heap zF];rfl
 have yc:w1.ownsRow 0 5 1 v n xs:=by
  refine⟨Jj.1,Jj.2.imp id fun⟨g,cap,Db,h1,h2,h3,h4⟩=>⟨g,cap,Db,h1,h2,?_,h4⟩⟩;rw[qb g (fun e=>Dv (by rw[h1,e];rfl))];exact h3
 go_wp2_with (at_builtin;refine OV rfl _ _ 68 9 rfl 5 i0 Tryz.underlying68 Tryz.underlying9 hi qq hz1 vT _ _ _ rfl yc s rfl Ca ?_)
 intro v' w2 Sc N9 af hz;have RZ:w2.heap[b]?=some (.cells #[.pointer (some ⟨b,0,none⟩),v] 104 (0,0)):=by
  rw[N9.block b (by rw[vN];exact Dx) (fun e=>Dv e.symm)];exact zF
 have d0:w2.cell? ⟨b,0,none⟩=some (.pointer (some ⟨b,0,none⟩)):=by rw[Lib.cell_of_heap RZ];rfl
 have d1:w2.cell? ⟨b,1,none⟩=some v:=by rw[Lib.cell_of_heap RZ];rfl
 have f1:w2.frozen? ⟨b,1,none⟩=false:=Lib.frozen_of_heap RZ 1;obtain⟨ao,n',cap,rfl⟩:∃ao n' cap,v'=.slice ao n' cap:=by
  rcases Sc.2 with ⟨hv,_⟩ | ⟨g,cap,Db,hv,_⟩
  .exact⟨_,_,_,hv⟩
  .exact⟨_,_,_,hv⟩
 have hzz:s.size=0->Value.slice ao n' cap=v:=fun h=>hz (ByteArray.size_eq_zero_iff.1 h)
 clear hz
 go_wp2
 go_ret2
 have cJ : (Value.slice ao n' cap).ownBlock≠some b:=by
  rcases af with e | ⟨e,_⟩
  .rw[e];exact Dv
  .rw[e];intro e;injection e with e;omega
 refine⟨rfl,.slice ao n' cap,?_,?_,⟨?_,?_,?_⟩,?_,fun k hk xV hko=>?_,?_,hzz⟩
 .simp[World.setCell,Array.getElem?_modify,RZ]
 .refine⟨Sc.1,Sc.2.imp id fun⟨g,Ln,Db,h1,h2,h3,h4⟩=>⟨g,Ln,Db,h1,h2,?_,h4⟩⟩;have tL:g≠b:=fun e=>cJ (by rw[h1,e];rfl);simp[World.setCell,Array.getElem?_modify,Ne.symm tL,h3]
 .exact N9.os.trans rU.1
 .exact N9.tape.trans rU.2.1
 .exact N9.output.trans rU.2.2
 .have:=N9.size
  simp[World.setCell];omega
 .simp[World.setCell,Array.getElem?_modify,Ne.symm xV];rw[N9.block k ch hko,qb k xV]
 .rcases af with e | ⟨e,e2⟩
  .exact .inl e
  .refine .inr ⟨e,fun k hk xV=>?_⟩;simp[World.setCell,Array.getElem?_modify,Ne.symm xV];rw[e2 k ch,qb k xV]
set_option maxRecDepth 100000 in
theorem rr(g cap:Nat)(p:Value)(Db:Array Value)(l:List UInt8)(w:World)(hb:w.heap[b]?=some (.cells #[p,.slice (some ⟨g,0,none⟩) l.length cap] 104 (0,0)))(hg:w.heap[g]?=some (.cells Db 5 (0,0)))(h0:l≠[])(hnc:l.length<=cap)(xF:cap<=maxLen)(hcs:Db.size=cap)(Dg:∀(j:Nat) (x:UInt8),l[j]?=some x->Db[j]?=some (Value.int .u8 x.toNat)) :
  Calls Tryz.prog 61 #[.pointer (some ⟨b,0,none⟩)] w fun e w'=>e=.returned (.string ⟨l.toArray⟩)/\w'=w.drew.freeze ⟨g,0,none⟩ l.length:=by
 have tU:l.length≠0:=by simpa using h0
 have c1:w.drew.cell? ⟨b,1,none⟩=some (.slice (some ⟨g,0,none⟩) l.length cap):=by
  have:w.drew.heap[b]?=some (.cells #[p,.slice (some ⟨g,0,none⟩) l.length cap] 104 (0,0)):=hb
  rw[Lib.cell_of_heap this];rfl
 have hSD:(Builtin.unsafeSliceData_ #[68] 170 #[.slice (some ⟨g,0,none⟩) l.length cap]).run Tryz.prog w.drew=.ok (.pointer (some ⟨g,0,none⟩)) w.drew:=
  Lib.run_unsafeSliceData_row _ _ _ _ _ _ ch
 have hUS:(Builtin.unsafeString_ #[170,3] 9 #[.pointer (some ⟨g,0,none⟩),.int .i64 l.length]).run Tryz.prog w.drew=.ok (.string ⟨l.toArray⟩) (w.drew.freeze ⟨g,0,none⟩ l.length):=by
  refine Lib.run_unsafeString_row w.drew 170 3 9 5 Tryz.underlying170 aa0 g Db.size (by have VK : w.drew.heap[g]?=some (.cells Db 5 (0,0)):=hg;simp[World.shape?,VK]) l h0 ch (by unfold maxLen at xF;omega) ?_;intro j x hx;rw[Addr.add_lit,A7];have VK : w.drew.heap[g]?=some (.cells Db 5 (0,0)):=hg;rw[Lib.cell_of_heap VK];exact Dg j x hx
 go_enter Tryz.func61,Tryz.ntmps61
 go_wp2
 go_region
 all_goals (go_wp2;go_ret;exact⟨rfl,rfl⟩)
end Go.Eng
