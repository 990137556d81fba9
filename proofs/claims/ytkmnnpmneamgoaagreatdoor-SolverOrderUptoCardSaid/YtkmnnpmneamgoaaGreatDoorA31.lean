/- Lemmas for the claims of this seat, without a condition: part 31 (S28, S37, S38, S39, S40). -/
import Derived.Test.YtkmnnpmneamgoaaGreatDoorA30
namespace Go.Eng
open Go.Proofs
theorem s15(l m:List Int)(hl:Cv l):PC 15 [sl Ck l,sl Ck m] (vb (decide (l=m))):=by
 refine Ps FC Tryz.func15 rfl (Nz rfl) ?_;refine Yi ?_ ?_
 ·intro h;have h:¬((l.map Ck).length:Int)=(m.map Ck).length:=h
  have:l≠m:=fun e=>h (by rw[e])
  rw[AD this];exact .refl _
 ·intro h;have h:¬((l.map Ck).length:Int)≠(m.map Ck).length:=h;have CM:l.length=m.length:=by simp at h;omega
  refine Xi {i:Nat // i≤l.length∧l.take i=m.take i} (Xi (fun i=>⟨[(0,sl Ck l),(1,sl Ck m),(12,vi (l.map Ck).length),(13,vi i.1)],[],Aa⟩) (Xi (fun i=>l.length-i.1) (Yi (Xi ⟨0,by simp⟩ ?_) ?_)))
  ·exact⟨Z4,Tv,Fh,Tv⟩
  ·intro⟨i,h1,h2⟩;refine Yi ?_ ?_
   ·intro h;have h:(i:Int)<(l.map Ck).length:=h;have h:i<l.length:=by simpa using h
    have h' : i<m.length:=by omega
    have hg:l[i]?=some l[i]:=Ge h;have Xf : m[i]?=some m[i]:=Ge h';refine Xi (Ck l[i]) (Yi (Yi (Nn i) (by simp[hg])) (Yi rfl ?_));refine Xi (Ck m[i]) (Yi (Yi (Nn i) (by simp[Xf])) (Yi rfl ?_));refine Yi ?_ ?_
    ·intro h5;refine Yi (by kernel_rfl) ?_;have h5:(l[i]:Int)≠(m[i]:Int):=h5
     have:l≠m:=fun e=>h5 (by subst e;rfl)
     rw[AD this];exact .refl _
    ·intro h5;have h5:¬(l[i]:Int)≠(m[i]:Int):=h5;have e:l[i]=m[i]:=by have:=BZ.1 h5;omega
     refine Yi (by kernel_rfl) ?_;refine Yi (by show BQ ((i:Int)+1);unfold Cv at hl;unfold BQ;omega) ?_;refine Xi ⟨i+1,by omega,?_⟩ ?_
     ·rw[Bk,Bk,h2,hg,Xf,e]
     ·exact⟨Dl l.length i (by omega),Z4,Tv,Fh,Tv⟩
   ·intro h;have h:¬(i:Int)<(l.map Ck).length:=h;have h:¬i<l.length:=by simpa using h
    have e:l=m:=by
     rw[←AI (l:=l) (i:=i) (by omega),h2,AI (by omega)]
    rw[AE e];exact .refl _

abbrev pa:ByteArray:=⟨#[97,47,118,49]⟩
abbrev pb:ByteArray:=⟨#[98,47,118,49]⟩
abbrev pc:ByteArray:=⟨#[99,47,118,49]⟩
abbrev i9(m:Int):Ver:=⟨1,m,0⟩
abbrev Zn(p:ByteArray)(m:Int)(q:List Rq):Rl:=⟨p,i9 m,q,mt,mt,mt,false⟩
abbrev aL:List Rl:=[Zn pa 0 [⟨pb,[(0,1)]⟩],Zn pa 1 [⟨pb,[(1000,1000000)]⟩],Zn pb 0 [],Zn pb 1 []]
abbrev IY:Rq:=⟨pa,[(0,1000000)]⟩
abbrev Ld:Rq:=⟨pb,[(1000,1000000)]⟩
abbrev gW:Rq:=⟨pc,[(0,1000000)]⟩
abbrev Q0:List Sl:=[⟨pa,i9 1⟩,⟨pb,i9 1⟩]
theorem ZL:∀r∈aL,Io r:=by
 refine Ds.2 ⟨⟨by decide,by decide⟩,Ds.2 ⟨⟨by decide,by decide⟩,Ds.2 ⟨⟨by decide,by decide⟩,Ds.2 ⟨⟨by decide,by decide⟩,MV _⟩⟩⟩⟩
abbrev ic(p:ByteArray)(b:Int):List AV:=[vs p,vi 1,vi b,vi 0,rc,vs mt,vs mt,vs mt,vb false]
abbrev iM:List AV:=[.slice .none [A5 (Zn pa 0 [⟨pb,[(0,1)]⟩]),A5 (Zn pa 1 [⟨pb,[(1000,1000000)]⟩]),ic pb 0,ic pb 1],rc]
theorem Rz:GO (.agg iM) (MQ aL []) :=
 have h (p:ByteArray) (b:Int):MK (ic p b) (A5 (Zn p b [])):=⟨.refl _,.refl _,.refl _,.refl _,.nil,.refl _,.refl _,.refl _,.refl _,trivial⟩
 GO.agg ⟨GO.slice ⟨.refl _,.refl _,h pb 0,h pb 1,trivial⟩,.nil,trivial⟩
theorem rK(m:Int):PC 24 [vi m] (.agg [vi 1,vi m,vi 0]):=by
 refine Ps ⟨[],[],[],[],[],[],[],[],[],[],[]⟩ Tryz.func24 rfl (Nz rfl) ?_;refine Yi (Nz rfl) ?_;refine Yi (Nz rfl) ?_;exact .refl _
set_option maxHeartbeats 4000000 in
theorem s8  : PC 8 [] (vb true):=by
 have hq:∀q∈[IY,Ld,gW],Js q:=Ds.2 ⟨⟨by decide,by decide⟩,Ds.2 ⟨⟨by decide,by decide⟩,Ds.2 ⟨⟨by decide,by decide⟩,MV _⟩⟩⟩;have hqa:∀q∈[IY],Js q:=fun q h=>hq q (by simp at h;subst h;simp);have xV:∀q∈[IY,Ld],Js q:=fun q h=>hq q (by simp at h;rcases h with rfl | rfl<;>simp)
 obtain⟨A,hA⟩:∃A,A=Ft aL [IY,Ld]:=⟨_,rfl⟩;have a1:A.found=true:=by rw[hA];kernel_rfl
 have a2:A.sel=Q0:=by rw[hA];kernel_rfl
 have a3:A.skips.length=1:=by rw[hA];kernel_rfl
 have a4:Fu aL [IY,Ld]=0:=by kernel_rfl
 have mM:=sr aL [] [IY,Ld] ZL xV;have mM:=mM.args (args':=[.agg iM,sl Ah [IY,Ld]]) ⟨Rz,.refl _,trivial⟩;unfold Zt at mM;rw[←hA,a4,show Jb A=[vb A.found,sl Aq A.sel,sl AU A.infs,sl Bw A.skips]from rfl,a1,a2]at mM;have a5:NP aL [IY,Ld]=0:=by unfold NP;rw[a4,←hA,a1];rfl
 have a6:QZ aL [IY,Ld]=Q0:=by unfold QZ;rw[a5,←hA,a2];rfl
 have mK:=yr aL [] [IY,Ld] ZL xV;rw[a5,a6]at mK;have mK:=mK.args (args':=[.agg iM,sl Ah [IY,Ld]]) ⟨Rz,.refl _,trivial⟩;have QU:=yq aL [] [IY] 9 ZL hqa;rw[show ML aL [IY] 9=0 by kernel_rfl]at QU;obtain⟨L,hL⟩:∃L,L=KQ aL [IY] 9:=⟨_,rfl⟩;have t6:L.length=2:=by rw[hL];kernel_rfl
 rw[←hL]at QU;have QU:=QU.args (args':=[.agg iM,sl Ah [IY],vi 9]) ⟨Rz,.refl _,.refl _,trivial⟩;have Wm:=s13 aL [] [IY,Ld,gW] ZL hq (by decide);rw[show Kp aL [IY,Ld,gW]=0 by kernel_rfl,show UA aL [IY,Ld,gW]=[2] by kernel_rfl]at Wm;have Wm:=Wm.args (args':=[.agg iM,sl Ah [IY,Ld,gW]]) ⟨Rz,.refl _,trivial⟩;have bH:=w7 Q0 Q0 (by decide);rw[AE rfl]at bH;have VL:=s15 [2] [2] (by decide);rw[AE rfl]at VL;generalize A.infs=F at mM;generalize A.skips=K at mM a3;have zw:((L.map Cz).length:Int)=2:=by rw[Lm,t6];rfl
 have zv:((K.map Bw).length:Int)=1:=by rw[Lm,a3];rfl
 refine Ps ⟨[],[],[],[],[],[],[],[],[(65,3)],[],[2,3,4,5,6,7,8,9]⟩ Tryz.func8 rfl (Nz rfl) ?_;refine Xi ⟨[(1,.v (.func (.func 24) #[] #[]))],[],Aa⟩ (Yi ⟨Z1,Tv,Fh,Tv⟩ ?_)
 refine Xi .pure (Xi _ (Yi (rK 0) ?_));refine Xi .pure (Xi _ (Yi (rK 1) ?_));refine Xi .pure (Xi _ (Yi (rK 0) ?_));refine Xi .pure (Xi _ (Yi (rK 1) ?_));refine Yi (Nz rfl) ?_;refine Xi ⟨[(1,.v (.func (.func 24) #[] #[])),(2,.ref 2 0)],[(2,.cells [.slice (.id 33 9) [[vs ⟨#[97,47,118,49]⟩,vi 1,vi 0,vi 0,.slice .none [[vs ⟨#[98,47,118,49]⟩,.slice .none [[vi 0,vi 1]]]],vs ⟨#[]⟩,vs ⟨#[]⟩,vs ⟨#[]⟩,vb false],[vs ⟨#[97,47,118,49]⟩,vi 1,vi 1,vi 0,.slice .none [[vs ⟨#[98,47,118,49]⟩,.slice .none [[vi 1000,vi 1000000]]]],vs ⟨#[]⟩,vs ⟨#[]⟩,vs ⟨#[]⟩,vb false],[vs ⟨#[98,47,118,49]⟩,vi 1,vi 0,vi 0,.v (.slice none 0 0),vs ⟨#[]⟩,vs ⟨#[]⟩,vs ⟨#[]⟩,vb false],[vs ⟨#[98,47,118,49]⟩,vi 1,vi 1,vi 0,.v (.slice none 0 0),vs ⟨#[]⟩,vs ⟨#[]⟩,vs ⟨#[]⟩,vb false]],.v (.slice none 0 0)]),(33,.tok 9 4)],Aa⟩ (Yi ⟨Z2,Z2,Fh,Tv⟩ ?_)
 refine Xi ⟨[(1,.v (.func (.func 24) #[] #[])),(2,.ref 2 0),(3,.slice (.id 36 2) [[vi 0,vi 1000000]])],[(2,.cells [.slice (.id 33 9) [[vs ⟨#[97,47,118,49]⟩,vi 1,vi 0,vi 0,.slice .none [[vs ⟨#[98,47,118,49]⟩,.slice .none [[vi 0,vi 1]]]],vs ⟨#[]⟩,vs ⟨#[]⟩,vs ⟨#[]⟩,vb false],[vs ⟨#[97,47,118,49]⟩,vi 1,vi 1,vi 0,.slice .none [[vs ⟨#[98,47,118,49]⟩,.slice .none [[vi 1000,vi 1000000]]]],vs ⟨#[]⟩,vs ⟨#[]⟩,vs ⟨#[]⟩,vb false],[vs ⟨#[98,47,118,49]⟩,vi 1,vi 0,vi 0,.v (.slice none 0 0),vs ⟨#[]⟩,vs ⟨#[]⟩,vs ⟨#[]⟩,vb false],[vs ⟨#[98,47,118,49]⟩,vi 1,vi 1,vi 0,.v (.slice none 0 0),vs ⟨#[]⟩,vs ⟨#[]⟩,vs ⟨#[]⟩,vb false]],.v (.slice none 0 0)]),(33,.tok 9 4),(36,.tok 2 1)],Aa⟩ (Yi ⟨Z3,Z3,Fh,Tv⟩ ?_)
 refine Xi ⟨[(1,.v (.func (.func 24) #[] #[])),(2,.ref 2 0),(3,.slice (.id 36 2) [[vi 0,vi 1000000]]),(4,.slice (.id 42 2) [[vs ⟨#[97,47,118,49]⟩,.slice .none [[vi 0,vi 1000000]]],[vs ⟨#[98,47,118,49]⟩,.slice .none [[vi 1000,vi 1000000]]]])],[(2,.cells [.slice (.id 33 9) [[vs ⟨#[97,47,118,49]⟩,vi 1,vi 0,vi 0,.slice .none [[vs ⟨#[98,47,118,49]⟩,.slice .none [[vi 0,vi 1]]]],vs ⟨#[]⟩,vs ⟨#[]⟩,vs ⟨#[]⟩,vb false],[vs ⟨#[97,47,118,49]⟩,vi 1,vi 1,vi 0,.slice .none [[vs ⟨#[98,47,118,49]⟩,.slice .none [[vi 1000,vi 1000000]]]],vs ⟨#[]⟩,vs ⟨#[]⟩,vs ⟨#[]⟩,vb false],[vs ⟨#[98,47,118,49]⟩,vi 1,vi 0,vi 0,.v (.slice none 0 0),vs ⟨#[]⟩,vs ⟨#[]⟩,vs ⟨#[]⟩,vb false],[vs ⟨#[98,47,118,49]⟩,vi 1,vi 1,vi 0,.v (.slice none 0 0),vs ⟨#[]⟩,vs ⟨#[]⟩,vs ⟨#[]⟩,vb false]],.v (.slice none 0 0)]),(33,.tok 9 4),(36,.tok 2 1),(42,.tok 2 2)],Aa⟩ (Yi ⟨Z4,Z4,Fh,Tv⟩ ?_)
 refine Yi (Nz rfl) ?_;refine Xi .pure (Xi _ (Yi mM ?_));refine Yi (Nz rfl) ?_;refine Xi ⟨[(1,.v (.func (.func 24) #[] #[])),(2,.ref 2 0),(3,.slice (.id 36 2) [[vi 0,vi 1000000]]),(4,.slice (.id 42 2) [[vs ⟨#[97,47,118,49]⟩,.slice .none [[vi 0,vi 1000000]]],[vs ⟨#[98,47,118,49]⟩,.slice .none [[vi 1000,vi 1000000]]]]),(5,.ref 5 0),(6,vi 0)],[(2,.cells [.slice (.id 33 9) [[vs ⟨#[97,47,118,49]⟩,vi 1,vi 0,vi 0,.slice .none [[vs ⟨#[98,47,118,49]⟩,.slice .none [[vi 0,vi 1]]]],vs ⟨#[]⟩,vs ⟨#[]⟩,vs ⟨#[]⟩,vb false],[vs ⟨#[97,47,118,49]⟩,vi 1,vi 1,vi 0,.slice .none [[vs ⟨#[98,47,118,49]⟩,.slice .none [[vi 1000,vi 1000000]]]],vs ⟨#[]⟩,vs ⟨#[]⟩,vs ⟨#[]⟩,vb false],[vs ⟨#[98,47,118,49]⟩,vi 1,vi 0,vi 0,.v (.slice none 0 0),vs ⟨#[]⟩,vs ⟨#[]⟩,vs ⟨#[]⟩,vb false],[vs ⟨#[98,47,118,49]⟩,vi 1,vi 1,vi 0,.v (.slice none 0 0),vs ⟨#[]⟩,vs ⟨#[]⟩,vs ⟨#[]⟩,vb false]],.v (.slice none 0 0)]),(5,.cells [vb true,sl Aq Q0,sl AU F,sl Bw K]),(33,.tok 9 4),(36,.tok 2 1),(42,.tok 2 2)],Aa⟩ (Yi ⟨Z6,Z5,Fh,Tv⟩ ?_)
 refine Yi (Nz rfl) ?_;refine Yi ⟨BP _,by decide,by decide⟩ (Yi (Ds.2 ⟨rfl,Ds.2 ⟨rfl,MV _⟩⟩) ?_);refine Xi _ (Yi QU ?_);refine Yi (by kernel_rfl) ?_;refine Xi ⟨[(1,.v (.func (.func 24) #[] #[])),(2,.ref 2 0),(3,.slice (.id 36 2) [[vi 0,vi 1000000]]),(4,.slice (.id 42 2) [[vs ⟨#[97,47,118,49]⟩,.slice .none [[vi 0,vi 1000000]]],[vs ⟨#[98,47,118,49]⟩,.slice .none [[vi 1000,vi 1000000]]]]),(5,.ref 5 0),(6,vi 0),(7,sl Cz L),(8,vi 0)],[(2,.cells [.slice (.id 33 9) [[vs ⟨#[97,47,118,49]⟩,vi 1,vi 0,vi 0,.slice .none [[vs ⟨#[98,47,118,49]⟩,.slice .none [[vi 0,vi 1]]]],vs ⟨#[]⟩,vs ⟨#[]⟩,vs ⟨#[]⟩,vb false],[vs ⟨#[97,47,118,49]⟩,vi 1,vi 1,vi 0,.slice .none [[vs ⟨#[98,47,118,49]⟩,.slice .none [[vi 1000,vi 1000000]]]],vs ⟨#[]⟩,vs ⟨#[]⟩,vs ⟨#[]⟩,vb false],[vs ⟨#[98,47,118,49]⟩,vi 1,vi 0,vi 0,.v (.slice none 0 0),vs ⟨#[]⟩,vs ⟨#[]⟩,vs ⟨#[]⟩,vb false],[vs ⟨#[98,47,118,49]⟩,vi 1,vi 1,vi 0,.v (.slice none 0 0),vs ⟨#[]⟩,vs ⟨#[]⟩,vs ⟨#[]⟩,vb false]],.v (.slice none 0 0)]),(5,.cells [vb true,sl Aq Q0,sl AU F,sl Bw K]),(33,.tok 9 4),(36,.tok 2 1),(42,.tok 2 2)],Aa⟩ (Yi ⟨Z8,Z5,Fh,Tv⟩ ?_)
 refine Yi (Nz rfl) ?_;refine Xi .pure (Xi _ (Yi mK ?_));refine Xi ⟨[(1,.v (.func (.func 24) #[] #[])),(2,.ref 2 0),(3,.slice (.id 36 2) [[vi 0,vi 1000000]]),(4,.slice (.id 42 2) [[vs ⟨#[97,47,118,49]⟩,.slice .none [[vi 0,vi 1000000]]],[vs ⟨#[98,47,118,49]⟩,.slice .none [[vi 1000,vi 1000000]]]]),(5,.ref 5 0),(6,vi 0),(7,sl Cz L),(8,vi 0),(9,sl Aq Q0),(10,vi 0)],[(2,.cells [.slice (.id 33 9) [[vs ⟨#[97,47,118,49]⟩,vi 1,vi 0,vi 0,.slice .none [[vs ⟨#[98,47,118,49]⟩,.slice .none [[vi 0,vi 1]]]],vs ⟨#[]⟩,vs ⟨#[]⟩,vs ⟨#[]⟩,vb false],[vs ⟨#[97,47,118,49]⟩,vi 1,vi 1,vi 0,.slice .none [[vs ⟨#[98,47,118,49]⟩,.slice .none [[vi 1000,vi 1000000]]]],vs ⟨#[]⟩,vs ⟨#[]⟩,vs ⟨#[]⟩,vb false],[vs ⟨#[98,47,118,49]⟩,vi 1,vi 0,vi 0,.v (.slice none 0 0),vs ⟨#[]⟩,vs ⟨#[]⟩,vs ⟨#[]⟩,vb false],[vs ⟨#[98,47,118,49]⟩,vi 1,vi 1,vi 0,.v (.slice none 0 0),vs ⟨#[]⟩,vs ⟨#[]⟩,vs ⟨#[]⟩,vb false]],.v (.slice none 0 0)]),(5,.cells [vb true,sl Aq Q0,sl AU F,sl Bw K]),(33,.tok 9 4),(36,.tok 2 1),(42,.tok 2 2)],Aa⟩ (Yi ⟨Z10,Z5,Fh,Tv⟩ ?_)
 refine Yi (Nz rfl) ?_;refine Xi _ (Xi _ (Yi (by kernel_rfl) (Yi (pE [IY,Ld] (by decide)) ?_)));have b1:BY 2 [[vs ⟨#[99,47,118,49]⟩,.slice .none [[vi 0,vi 1000000]]]]∧([IY,Ld].map Ah).length=([IY,Ld].map Ah).length∧(([IY,Ld].map Ah).length+([[vs ⟨#[99,47,118,49]⟩,.slice .none [[vi 0,vi 1000000]]]]:List (List AV)).length)*40≤140737488355328∧([IY,Ld].map Ah).length+([[vs ⟨#[99,47,118,49]⟩,.slice .none [[vi 0,vi 1000000]]]]:List (List AV)).length≤9223372036854775807:=⟨⟨rfl,trivial⟩,rfl,(by simp only[Lm,Al,Ar];omega),(by simp only[Lm,Al,Ar];omega)⟩;refine Yi b1 ?_;refine Xi _ (Yi Wm ?_);refine Yi (by kernel_rfl) ?_;refine Xi ⟨[(1,.v (.func (.func 24) #[] #[])),(5,.ref 5 0),(6,vi 0),(7,sl Cz L),(8,vi 0),(9,sl Aq Q0),(10,vi 0),(11,sl Ck [2]),(12,vi 0)],[(5,.cells [vb true,sl Aq Q0,sl AU F,sl Bw K])],Aa⟩ (Yi ⟨Z9,Z1,Fh,Tv⟩ ?_)
 refine Yi (fun _=>?_) (fun h=>absurd (by decide) h);refine Yi (fun _=>?_) (fun h=>absurd h (by decide));refine Yi (fun h2=>?_) (fun h2=>?_)
 ·have h2:((K.map Bw).length:Int)=(1:Int):=h2;refine Xi _ (Yi bH ?_);refine Yi (fun _=>?_) (fun h=>absurd (by decide) h);refine Yi (fun h3=>?_) (fun h3=>?_)
  ·have h3:((L.map Cz).length:Int)=(2:Int):=h3;refine Yi (fun _=>?_) (fun h=>absurd (by decide) h);refine Yi (fun h4=>?_) (fun h4=>?_)
   ·have h4:((Q0.map Aq).length:Int)=(2:Int):=h4;refine Xi (Aq (⟨pa,i9 1⟩:Sl)) (Yi ⟨by decide,rfl⟩ (Yi rfl ?_));refine Yi (Nz rfl) ?_;refine Xi _ (Yi (rK 1) ?_);refine Yi (fun h5=>?_) (fun h5=>?_)
    ·have h5:((⟨pa,i9 1⟩:Sl).ver.a:Int)=1∧((⟨pa,i9 1⟩:Sl).ver.b:Int)=1∧((⟨pa,i9 1⟩:Sl).ver.c:Int)=0∧True:=h5;refine Yi (fun _=>?_) (fun h=>absurd (by decide) h);refine Xi _ (Yi VL ?_);refine Yi (by kernel_rfl) ?_;exact .refl _
    have h5:¬(((⟨pa,i9 1⟩:Sl).ver.a:Int)=1∧((⟨pa,i9 1⟩:Sl).ver.b:Int)=1∧((⟨pa,i9 1⟩:Sl).ver.c:Int)=0∧True):=h5;refine Yi (by kernel_rfl) ?_;exact absurd (⟨rfl,rfl,rfl,trivial⟩) h5
   have h4:¬(((Q0.map Aq).length:Int)=(2:Int)):=h4;refine Yi (by kernel_rfl) ?_;exact absurd rfl h4
  have h3:¬(((L.map Cz).length:Int)=(2:Int)):=h3;refine Yi (by kernel_rfl) ?_;exact absurd zw h3
 have h2:¬(((K.map Bw).length:Int)=(1:Int)):=h2;refine Yi (by kernel_rfl) ?_;exact absurd zv h2
end Go.Eng

namespace Go.Eng
open Go.Proofs
section
variable {x:List Rl}{roots:List Rq}
theorem OB(hv:CR x roots=true)(hx:x.length≤16):B9 x roots (x.length+1) []≠[]↔O6 x roots:=by
 obtain⟨h0,h1⟩:=HH hv;constructor
 ·intro h;cases hl:B9 x roots (x.length+1) []with
  |nil=>exact absurd hl h
  |cons d L =>
   have hm:d∈B9 x roots (x.length+1) []:=by rw[hl];exact Ab ..
   exact⟨_,(GE (.nil x) (.nil roots) _ hm).sol h0⟩
 ·intro h e;have hf:=(Pn hv hx).2 h;have hR:=MG h0 h1;rw[MF hv hx]at hf;unfold aW at hf
  by_cases Qr:(Eu x roots).found=true
  ·obtain⟨_,t,sl,y2,y3,y4,y5⟩:=hR.yes Qr;have hm:=List.mem_of_head? y5;rw[e]at hm;cases hm
  ·rw[Am Qr]at hf;cases hf
def preI(i:Nat):List Int:=(List.range i).map fun k:Nat=>(k:Int)
end
theorem Zs{x:List Rl}{roots:List Rq}(h:(Gz x 16&&Fm roots)=true):x.length≤16:=by
 simp only[Af,Gz,Az]at h;exact h.1.2
end Go.Eng

namespace Go.Eng
open Go.Proofs
theorem dK(x:List Rl)(roots:List Rq)(m:Int):(KQ x roots m).length≤1024∧∀s∈KQ x roots m,s.length≤256:=by
 unfold KQ;split
 ·rename_i h;have hm:CR x roots=true∧0≤m∧m≤1024:=by
   unfold ML at h;split at h
   ·cases h
   ·rename_i hn;refine⟨?_,?_,?_⟩
    ·cases e:CR x roots with
     |true=>rfl
     |false=>exact absurd (.inl e) hn
    ·exact Int.not_lt.1 fun c=>hn (.inr (.inl c))
    ·exact Int.not_lt.1 fun c=>hn (.inr (.inr c))
  refine⟨by rw[AN];omega,fun s hs=>?_⟩;obtain⟨d,hd,rfl⟩:=Ao.1 (DQ hs);have hx:=(HH hm.1).1;have h1:=(GE (.nil x) (.nil roots) d hd).ok;have h2:=LQ h1;have h3:=(Iz hx).1;rw[(Jo _).length_eq];unfold Ax;rw[Lm];omega
 ·exact⟨AS _,fun _ h=>by cases h⟩
end Go.Eng

namespace Go.Eng
section
variable {x:List Rl}{roots:List Rq}
def dF(x:List Rl)(roots:List Rq):List Cd→List Cd→Prop
 |b,[]=>Gt (FD roots b) (Ax b)=none
 |b,c::t=>Gt (FD roots b) (Ax b)=some c.rel.path∧c∈Bm x c.rel.path∧dF x roots (b++[c]) t
theorem ge{n:Nat}{b d:List Cd}(h:d∈B9 x roots (n+1) b) :
  ((Dz roots b).2=[]∧d=b)∨∃n0 l,(Dz roots b).2=n0::l∧∃c∈Bm x (Dz roots b).1,Wp b (n0::l) c=true∧d∈B9 x roots n (b++[c]):=by
 cases hN:(Dz roots b).2 with
 |nil =>
  rw[NC hN]at h;exact .inl ⟨rfl,Ai.1 h⟩
 |cons n0 l =>
  unfold B9 at h;rw[hN]at h;dsimp only at h;obtain⟨L,hL,hd⟩:=E0.1 h;obtain⟨c,hc,rfl⟩:=Ao.1 hL;split at hd
  ·rename_i F3;exact .inr ⟨n0,l,rfl,c,hc,F3,hd⟩
  ·cases hd
theorem JN:∀{n:Nat} {b d:List Cd},d∈B9 x roots n b→∃t,d=b++t∧dF x roots b t
 |0,_,_,h=>by cases h
 |n+1,b,d,h=>by
  rcases ge h with ⟨hN,rfl⟩ | ⟨n0,l,hN,c,hc,_,hd⟩
  ·exact⟨[],(CP _).symm,NI.1 hN⟩
  ·obtain⟨t,rfl,ht⟩:=JN hd;have hNx:=HY hN;obtain⟨c1,_⟩:=Gd hc;exact⟨c::t,by simp,by rw[c1];exact hNx.next,by rw[c1];exact hc,ht⟩
def iK(roots:List Rq):List Cd→List Cd→List lZ
 |_,[]=>[]
 |b,c::t=>⟨Ax b,FD roots b,c.rel⟩::iK roots (b++[c]) t
theorem QJ(hx:A6 x=0){D:List Cd}(hD:DX x D):∀{t b:List Cd} {n:Nat},b++t=D→t.length<n→dF x roots b t →
  GZ x (Dd (Ax D)) n (Ax b) (FD roots b)=(iK roots b t,true)
 |_,_,0,_,h,_=>by omega
 | [],b,n+1,_,_,h=>by
  have h:Gt (FD roots b) (Ax b)=none:=h;unfold GZ;rw[h];rfl
 |c::t,b,n+1,e,hn,h=>by
  obtain⟨h1,_,h⟩:=h;have xz:c∈D:=by rw[←e];simp
  have ih:=QJ hx hD (t:=t) (b:=b++[c]) (n:=n) (by rw[←e];simp) (by rw[Al]at hn;omega) h;have e1:Ax b++[Py c]=Ax (b++[c]):=by unfold Ax;rw[AB];rfl
  unfold GZ;rw[h1];dsimp only;rw[hD.findS xz];dsimp only;rw[show Ej x (Py c)=some c.rel from Pm hx (hD.cand c xz).1];dsimp only;rw[e1,←Tq,ih];rfl
theorem TF:∀{t b:List Cd},(iK roots b t).map (fun v=>v.rel.path)=t.map fun c=>c.rel.path
 | [],_=>rfl
 |c::t,b=>by
  unfold iK;rw[AM,AM,TF]
theorem Mb(hv:CR x roots=true){d:List Cd}(hd:d∈B9 x roots (x.length+1) []):FX x roots (Dd (Ax d))=(d.map fun c=>c.rel.path,0):=by
 obtain⟨h0,h1⟩:=HH hv;have F3:=(GE (.nil x) (.nil roots) d hd).ok;obtain⟨t,e,hp⟩:=JN hd;rw[D8]at e;subst e;have hl:(Dd (Ax d)).length=d.length:=by rw[(Jo _).length_eq];unfold Ax;rw[Lm]
 have ZW:=QJ h0 F3 (n:=(Dd (Ax d)).length+1) (D8 _) (by rw[hl];omega) hp;have ZW:visits x roots (Dd (Ax d))=(iK roots [] d,true):=by
  unfold visits;rw[←ZW,show Ax []=[]from rfl,show FD roots []=roots by unfold FD;simp]
 unfold FX;rw[Am (by rintro(c | c | c);exact c h0;exact c h1;rw[fU F3.sorted]at c;cases c),ZW,Aw rfl,TF]
def wY(d d' : List Cd):Prop:=∃pre c c' t t',d=pre++c::t∧d'=pre++c' :: t'∧c.rel.path=c'.rel.path∧plc c.rel.ver<plc c'.rel.ver
theorem Yu(hx:A6 x=0)(p:ByteArray):(Bm x p).Pairwise fun a b=>plc a.rel.ver<plc b.rel.ver:=by
 rw[Bb];intro i j hi hj Qs;have e:Bm x p=(Bm x p).take j++(Bm x p)[j]::(Bm x p).drop (j+1):=by
  rw[List.getElem_cons_drop,EQ]
 have:=(Vw hx e).1 (Bm x p)[i] (by
  rw[List.mem_take_iff_getElem];exact⟨i,by omega,rfl⟩)
 exact this
theorem Qy(hx:A6 x=0):∀{n:Nat} {b:List Cd},(B9 x roots n b).Pairwise wY
 |0,_=>List.Pairwise.nil
 |n+1,b=>by
  cases hN:(Dz roots b).2 with
  |nil=>rw[NC hN];exact List.pairwise_singleton _ _
  |cons n0 l =>
   unfold B9;rw[hN];dsimp only;rw[List.pairwise_flatten];refine⟨fun L hL=>?_,?_⟩
   ·obtain⟨c,_,rfl⟩:=Ao.1 hL;split
    ·exact Qy hx
    ·exact List.Pairwise.nil
   ·rw[List.pairwise_map];refine List.Pairwise.imp_of_mem ?_ (Yu hx (Dz roots b).1);intro c c' hc jK Dt d hd d' W7;split at hd
    ·split at W7
     ·obtain⟨t,rfl,_⟩:=JN hd;obtain⟨t',rfl,_⟩:=JN W7;exact⟨b,c,c',t,t',by simp,by simp,by rw[(Gd hc).1,(Gd jK).1],Dt⟩
     ·cases W7
    ·cases hd
def NK(s:List Sl)(p:ByteArray):Int:=match BV s p with
 |none=>-1
 |some y=>if CL y.ver then place y.ver else 0
def Ky(s s' : List Sl):List ByteArray→Bool
 | []=>false
 |p::l=>if NK s p=NK s' p then Ky s s' l else decide (NK s p<NK s' p)
theorem Rv(hx:A6 x=0){d:List Cd}(hd:DX x d){c:Cd}(hc:c∈d):NK (Dd (Ax d)) c.rel.path=plc c.rel.ver:=by
 have h:=(Cj hx).1 _ (hd.cand c hc).1;unfold NK;rw[hd.findS hc];show(if CL c.rel.ver then place c.rel.ver else 0)=_;rw[h.val,Aw rfl,h.plc]
theorem cf{s s' : List Sl}{a b:List ByteArray}(h:∀p∈a,NK s p=NK s' p):Ky s s' (a++b)=Ky s s' b:=by
 induction a with
 |nil=>rfl
 |cons p a ih =>
  show(if NK s p=NK s' p then Ky s s' (a++b)else _)=_;rw[Aw (h p (Ab ..)),ih fun q hq=>h q (Ag _ hq)]
theorem cg(hx:A6 x=0){d d' : List Cd}(hd:DX x d)(W7 : DX x d')(h:wY d d'):Ky (Dd (Ax d)) (Dd (Ax d')) (d.map fun c=>c.rel.path)=true:=by
 obtain⟨pre,c,c',t,t',e,e',hp,hl⟩:=h;rw[show(d.map fun c=>c.rel.path)=(pre.map fun c=>c.rel.path)++(c.rel.path::t.map fun c=>c.rel.path) by rw[e,AB,AM]];rw[cf]
 ·have h1:=Rv hx hd (c:=c) (by rw[e];simp);have h2:=Rv hx W7 (c:=c') (by rw[e'];simp);rw[←hp]at h2;unfold Ky;rw[h1,h2,Am (by omega),AE hl]
 ·intro p hp;obtain⟨c0,dv,rfl⟩:=Ao.1 hp;rw[Rv hx hd (c:=c0) (by rw[e];simp[dv]),Rv hx W7 (c:=c0) (by rw[e'];simp[dv])]
structure oX(x:List Rl)(roots:List Rq)(F:List (List Sl))(ae:Int)(sa:List Sl)(se:Int):Prop where
 len:F.length≤40
 few:∀s∈F,s.length≤256
 bad:ae≠0→se≠0∧sa=[]
 nil:F=[]→se≠0∧sa=[]
 one:ae=0→∀s l,F=s::l→se=0∧sa=s
 dec:∀i (h:i<F.length),(FX x roots F[i]).2=0∧(FX x roots F[i]).1.length≤256
 less:∀i (h:i+1<F.length),Ky F[i] F[i+1] (FX x roots F[i]).1=true
theorem jf(h:ML x roots 40≠0):CR x roots=false:=by
 cases e:CR x roots with
 |false=>rfl
 |true=>exact absurd (by unfold ML;rw[e,Am (by decide)]) h
theorem Wz(h:ML x roots 40=0):CR x roots=true:=by
 cases e:CR x roots with
 |true=>rfl
 |false=>unfold ML at h;rw[e,Aw (.inl rfl)]at h;cases h
theorem aC(h:CR x roots=false):NP x roots≠0∧QZ x roots=[]:=by
 have h2:Fu x roots=1:=by unfold Fu;rw[h];rfl
 have h3:NP x roots=1:=by unfold NP;rw[h2];rfl
 exact⟨by rw[h3];decide,by unfold QZ;rw[h3];rfl⟩
theorem Vt{i:Nat}(h:i<(KQ x roots 40).length):∃hL:i<(B9 x roots (x.length+1) []).length,(KQ x roots 40)[i]=Dd (Ax (B9 x roots (x.length+1) [])[i]):=by
 unfold KQ at h⊢;split
 ·rename_i e;simp only[e,LI,AN,ND,Lm]at h;exact⟨by omega,by simp[ND]⟩
 ·rename_i e;simp only[e,FL,Ar]at h;omega
theorem WA{i:Nat}(h:i<(KQ x roots 40).length):CR x roots=true:=by
 refine Wz (Cm fun e=>?_);unfold KQ at h;rw[Am e]at h;exact absurd h (MJ _)
theorem im(hv:CR x roots=true)(hx:x.length≤16){d:List Cd}{l:List (List Cd)}(h:B9 x roots (x.length+1) []=d::l):NP x roots=0∧QZ x roots=Dd (Ax d):=by
 obtain⟨h0,h1⟩:=HH hv;have hF:O6 x roots:=(OB hv hx).1 (by rw[h];exact List.cons_ne_nil _ _);have hE:=(aB hv hx).1.2 hF;refine⟨hE,?_⟩;have hf:=(Pn hv hx).2 hF;have hR:=MG h0 h1;unfold QZ;rw[hE,Aw rfl,MF hv hx];rw[MF hv hx]at hf;unfold aW at hf⊢
 by_cases Qr:(Eu x roots).found=true
 ·rw[Aw Qr];obtain⟨_,t,sl,y2,y3,y4,y5⟩:=hR.yes Qr;rw[h]at y5;have y5:some d=some (Eu x roots).dec:=y5;cases y5;rfl
 ·rw[Am Qr]at hf;cases hf
theorem nH(hx:x.length≤16):oX x roots (KQ x roots 40) (ML x roots 40) (QZ x roots) (NP x roots) where
 len:=by
  unfold KQ;split
  ·rw[AN];exact Nat.min_le_left _ _
  ·exact AS _
 few:=(dK x roots 40).2
 bad h:=aC (jf h)
 nil h:=by
  cases hv:CR x roots with
  |false=>exact aC hv
  |true =>
   have hE:ML x roots 40=0:=by unfold ML;rw[hv,Am (by decide)]
   have hl:B9 x roots (x.length+1) []=[]:=by
    unfold KQ at h;rw[hE,Aw rfl]at h;cases hL:B9 x roots (x.length+1) []with
    |nil=>rfl
    |cons d l=>rw[hL]at h;cases h
   have hn:¬O6 x roots:=fun c=>(OB hv hx).2 c hl;have hs:=(aB hv hx).2.2 hn;exact⟨by rw[hs];decide,by unfold QZ;rw[hs];rfl⟩
 one h s l e:=by
  have hv:=Wz h;unfold KQ at e;rw[h,Aw rfl]at e;cases hL:B9 x roots (x.length+1) []with
  |nil=>rw[hL]at e;cases e
  |cons d l' =>
   rw[hL]at e;have e:Dd (Ax d)::(ND l').take 39=s::l:=e;obtain⟨a,b⟩:=im hv hx hL;exact⟨a,b.trans (List.cons.inj e).1⟩
 dec i h:=by
  obtain⟨hL,e⟩:=Vt h;have hm:=AC hL;have hv:=WA h;have h0:=(HH hv).1;have h1:=LQ (GE (.nil x) (.nil roots) _ hm).ok;have h2:=(Iz h0).1;rw[e,Mb hv hm];exact⟨rfl,by rw[Lm];omega⟩
 less i h:=by
  obtain⟨hL,e⟩:=Vt (x:=x) (roots:=roots) (i:=i) (by omega);obtain⟨xp,e'⟩:=Vt h;have hm:=AC hL;have uR:=AC xp;have hv:=WA h;have h0:=(HH hv).1;rw[e,e',Mb hv hm];exact cg h0 (GE (.nil x) (.nil roots) _ hm).ok (GE (.nil x) (.nil roots) _ uR).ok ((Bb.1 (Qy h0)) i (i+1) hL xp (by omega))
end
end Go.Eng

namespace Go.Eng
open Go.Proofs
theorem nL{s:List Sl}{p:ByteArray}{i:Nat}(hi:i<s.length)(h:∀j (hj:j<s.length),j<i→s[j].path≠p)(hp:s[i].path=p):NK s p=if CL s[i].ver then place s[i].ver else 0:=by
 have e:BV s p=some s[i]:=by
  unfold BV;rw[List.find?_eq_some_iff_getElem];exact⟨by simpa using hp,i,hi,rfl,fun j hj=>by simpa using h j (by omega) hj⟩
 unfold NK;rw[e]
theorem gP{s:List Sl}{p:ByteArray}(h:∀j (hj:j<s.length),s[j].path≠p):NK s p=-1:=by
 have e:BV s p=none:=by
  unfold BV;rw[DO];intro y hy;obtain⟨j,hj,rfl⟩:=DP.1 hy;simpa using h j hj
 unfold NK;rw[e]
theorem Xz{s s' : List Sl}{P:List ByteArray}{k:Nat}(hk:k<P.length)(h:Ky s s' (P.drop k)=true) :
  (NK s P[k]=NK s' P[k]→Ky s s' (P.drop (k+1))=true)∧(NK s P[k]≠NK s' P[k]→NK s P[k]<NK s' P[k]):=by
 rw[Br hk]at h;unfold Ky at h;constructor
 ·intro e;rwa [Aw e]at h
 ·intro e;rw[Am e]at h;simpa using h
set_option maxHeartbeats 4000000 in
theorem rJ(s:List Sl)(p:ByteArray)(hs:s.length≤1000000):PC 20 [sl Aq s,vs p] (vi (NK s p)):=by
 refine Ps ⟨[6],[],[],[],[],[],[],[],[],[],[5,6,7]⟩ Tryz.func20 rfl (Nz rfl) ?_;refine Xi {q:Nat // q≤s.length∧∀j (hj:j<s.length),j<q→s[j].path≠p} (Xi (fun q=>⟨[(1,vs p),(9,sl Aq s),(10,vi (s.map Aq).length),(11,vi q.1)],[],Aa⟩) (Xi (fun q=>s.length-q.1) (Yi (Xi ⟨0,AS _,fun _ _ h=>absurd h (MJ _)⟩ ?_) ?_)))
 ·exact⟨Z4,Tv,Fh,Tv⟩
 intro⟨i,i1,i2⟩;have i1:i≤s.length:=i1;have i2:∀j (hj:j<s.length),j<i→s[j].path≠p:=i2;refine Yi (fun h1=>?_) (fun h1=>?_)
 ·have h1:(i:Int)<((s.map Aq).length:Int):=h1;have n1:i<s.length:=by have q:=h1;rw[Lm]at q;omega
  have g1:s[i]?=some s[i]:=Ge n1;refine Xi (Aq s[i]) (Yi (Yi (Nn i) (Dr g1)) (Yi rfl ?_));refine Yi (Nz rfl) ?_;refine Yi (Nz rfl) ?_;refine Yi (fun h2=>?_) (fun h2=>?_)
  ·have h2:(s[i].path:ByteArray)=p:=h2;refine Xi ⟨[(6,.ref 6 0)],[(6,.ro (Aq s[i]))],Aa⟩ (Yi ⟨Z1,Z1,Fh,Tv⟩ ?_)
   refine Yi (Nz rfl) ?_;refine Xi .pure (Xi _ (Yi (pz s[i].ver) ?_));refine Xi ⟨[(7,vi (if CL s[i].ver then place s[i].ver else 0))],[],Aa⟩ (Yi ⟨Z1,Tv,Fh,Tv⟩ ?_)
   exact .of_eq (Ae vi (nL n1 i2 h2).symm)
  have h2:¬(s[i].path:ByteArray)=p:=h2;refine Xi ⟨[(1,vs p),(9,sl Aq s),(10,vi (s.map Aq).length),(11,vi i)],[],Aa⟩ (Yi ⟨Z4,Tv,Fh,Tv⟩ ?_)
  refine Yi (Ii i (by omega)) ?_;refine Xi ⟨i+1,n1,fun j hj MO=>if e:j<i then i2 j hj e else by
    have e:j=i:=by omega
    subst e;exact h2⟩ ?_
  exact⟨Dl s.length i (by omega),Z4,Tv,Fh,Tv⟩
 have h1:¬((i:Int)<((s.map Aq).length:Int)):=h1;have n1:¬i<s.length:=by have q:=h1;rw[Lm]at q;omega
 exact .of_eq (Ae vi (gP fun j hj=>i2 j hj (by have q:=h1;rw[Lm]at q;omega)).symm)
set_option maxHeartbeats 4000000 in
theorem rM(x:List Rl)(ifs:List (List AV))(roots:List Rq)(hL:lh x roots):PC 6 [MQ x ifs,sl Ah roots] (vb true):=by
 have hx:=hL.x;have hr:=hL.rq;have h8:=s8;have h9:=hL.c11 ifs;have TH:=hL.c84 ifs;have QU:=yq x ifs roots 40 hx hr;have mK:=yr x ifs roots hx hr;obtain⟨F,hF⟩:∃F,F=KQ x roots 40:=⟨_,rfl⟩;obtain⟨ae,xu⟩:∃ae,ae=ML x roots 40:=⟨_,rfl⟩;obtain⟨sa,qM⟩:∃sa,sa=QZ x roots:=⟨_,rfl⟩;obtain⟨se,Oy⟩:∃se,se=NP x roots:=⟨_,rfl⟩;rw[←hF,←xu]at QU;rw[←qM,←Oy]at mK;refine Ps ⟨[2],[],[],[],[],[],[],[],[],[],[4,5,6,7,8,9,10,11,15,22,24]⟩ Tryz.func6 rfl (Nz rfl) ?_;refine Xi .pure (Xi _ (Yi h8 ?_));refine Yi (Nz rfl) ?_;refine Cy (Bt (Gz x 16&&Fm roots)) (fun h1=>?_) (fun h1=>?_)
 ·have h1:(Gz x 16&&Fm roots)=true:=h1;have dB:=h1;have hO:=nH (roots:=roots) (Zs dB);rw[←hF,←xu,←qM,←Oy]at hO;have rV:F.length≤40:=hO.len;have Re:=h9;rw[show(Gz x 16&&Fm roots)=true from h1]at Re;refine Xi .pure (Xi _ (Yi Re ?_));refine Xi ⟨[(1,sl Ah roots),(2,.ref 2 0)],[(2,.ro (Ic x ifs))],Aa⟩ (Yi ⟨Z2,Z1,Fh,Tv⟩ ?_)
  refine Yi (Nz rfl) ?_;refine Xi .pure (Xi _ (Yi QU ?_));refine Xi ⟨[(1,sl Ah roots),(2,.ref 2 0),(5,sl Cz F),(6,vi (ae:Int))],[(2,.ro (Ic x ifs))],Aa⟩ (Yi ⟨Z4,Z1,Fh,Tv⟩ ?_)
  refine Yi (Nz rfl) ?_;refine Xi .pure (Xi _ (Yi mK ?_));refine Xi ⟨[(1,sl Ah roots),(2,.ref 2 0),(5,sl Cz F),(6,vi (ae:Int)),(7,sl Aq sa),(8,vi (se:Int))],[(2,.ro (Ic x ifs))],Aa⟩ (Yi ⟨Z6,Z1,Fh,Tv⟩ ?_)
  refine Yi (fun h3=>?_) (fun h3=>?_)
  ·have h3:((ae:Int):Int)≠(0:Int):=h3;have hq:=hO.bad h3;refine Xi ⟨[(7,sl Aq sa),(8,vi (se:Int))],[],Aa⟩ (Yi ⟨Z2,Tv,Fh,Tv⟩ ?_)
   refine Yi (fun h4=>?_) (fun h4=>?_)
   ·have h4:((se:Int):Int)≠(0:Int):=h4;refine Yi (fun h5=>?_) (fun h5=>?_)
    ·have h5:((sa.map Aq).length:Int)=(0:Int):=h5;exact .refl _
    have h5:¬(((sa.map Aq).length:Int)=(0:Int)):=h5;exact absurd (by rw[hq.2];rfl) h5
   have h4:((se:Int):Int)=(0:Int):=Cm h4;exact absurd h4 hq.1
  have h3:((ae:Int):Int)=(0:Int):=Cm h3;refine Yi (fun h9=>?_) (fun h9=>?_)
  ·have h9:((F.map Cz).length:Int)=(0:Int):=h9;have hq:=hO.nil (AJ (by have q:=h9;rw[Lm]at q;omega));refine Xi ⟨[(7,sl Aq sa),(8,vi (se:Int))],[],Aa⟩ (Yi ⟨Z2,Tv,Fh,Tv⟩ ?_)
   refine Yi (fun QU=>?_) (fun QU=>?_)
   ·have QU:((se:Int):Int)≠(0:Int):=QU;refine Yi (fun L0=>?_) (fun L0=>?_)
    ·have L0:((sa.map Aq).length:Int)=(0:Int):=L0;exact .refl _
    have L0:¬(((sa.map Aq).length:Int)=(0:Int)):=L0;exact absurd (by rw[hq.2];rfl) L0
   have QU:((se:Int):Int)=(0:Int):=Cm QU;exact absurd QU hq.1
  have h9:¬(((F.map Cz).length:Int)=(0:Int)):=h9;have tV:1≤F.length:=by have q:=h9;rw[Lm]at q;omega
  have uj:ae=0:=by have q:=h3;omega
  have Pr:se=0∧F=sa::F.tail:=by
   cases e:F with
   |nil=>rw[e]at tV;exact absurd tV (by decide)
   |cons s l=>have q:=hO.one uj s l e;exact⟨q.1,by rw[q.2];rfl⟩
  have vt:=Pr.1;have xn:=Pr.2;have bH:PC 18 [sl Aq sa,sl Aq sa] (vb true):=by
   have q:=w7 sa sa (Bh (hO.few sa (by rw[xn];exact Ab ..)) (by decide));rw[AE rfl]at q;exact q
  refine Xi ⟨[(1,sl Ah roots),(2,.ref 2 0),(5,sl Cz F),(7,sl Aq sa),(8,vi (se:Int))],[(2,.ro (Ic x ifs))],Aa⟩ (Yi ⟨Z5,Z1,Fh,Tv⟩ ?_)
  refine Yi (fun VL=>?_) (fun VL=>?_)
  ·have VL:((se:Int):Int)≠(0:Int):=VL;refine Xi ⟨[],[],Aa⟩ (Yi ⟨Tv,Tv,Fh,Tv⟩ ?_)
   exact absurd vt VL
  have VL:((se:Int):Int)=(0:Int):=Cm VL;refine Xi [sl Aq sa] (Yi (Yi (BP 0) (by rw[xn];rfl)) (Yi rfl ?_));refine Xi .pure (Xi _ (Yi bH ?_));refine Xi ⟨[(1,sl Ah roots),(2,.ref 2 0),(5,sl Cz F)],[(2,.ro (Ic x ifs))],Aa⟩ (Yi ⟨Z3,Z1,Fh,Tv⟩ ?_)
  refine Xi {q:Nat // 1≤q∧q≤F.length} (Xi (fun q=>⟨[(1,sl Ah roots),(2,.ref 2 0),(5,sl Cz F),(9,vi q.1)],[(2,.ro (Ic x ifs))],Aa⟩) (Xi (fun q=>F.length-q.1) (Yi (Xi ⟨1,Ak _,tV⟩ ?_) ?_)))
  ·exact⟨Z4,Z1,Fh,Tv⟩
  intro⟨i,i1,i2⟩;have i1:1≤i:=i1;have i2:i≤F.length:=i2;refine Yi (fun lm=>?_) (fun lm=>?_)
  ·have lm:(i:Int)<((F.map Cz).length:Int):=lm;have n17:i<F.length:=by have q:=lm;rw[Lm]at q;omega
   have g17:F[i]?=some F[i]:=Ge n17;have m6:i<F.length:=by have q:=lm;rw[Lm]at q;omega
   refine Yi (Nz rfl) ?_;refine Yi (by show BQ ((i:Int)-(1:Int));unfold BQ;omega) ?_;have YR:i-1<F.length:=by omega
   refine Xi [sl Aq (F[i-1])] (Yi (Yi (show(0:Int)≤(i:Int)-1 by omega) (by rw[show((i:Int)-1).toNat=i-1 by omega];exact Dr (Ge YR))) (Yi rfl ?_));have p6:=yT x ifs roots F[i-1] TH hx hr (Bh (hO.few _ (AC YR)) (by decide));refine BC (show ∃P,FX x roots F[i-1]=(P,0)from⟨_,Prod.ext rfl (hO.dec _ YR).1⟩) (fun P hP=>?_);have hPl:P.length≤256:=by have q:=(hO.dec _ YR).2;rw[hP]at q;exact q
   have qy:Ky F[i-1] F[i] (P.drop 0)=true:=by have q:=hO.less (i-1) (by omega);rw[hP]at q;simpa[show i-1+1=i by omega]using q
   rw[hP]at p6;refine Xi _ (Yi p6 ?_);refine Yi (by kernel_rfl) ?_;refine Xi ⟨[(1,sl Ah roots),(2,.ref 2 0),(5,sl Cz F),(9,vi i),(10,sl Bx P),(11,vi 0)],[(2,.ro (Ic x ifs))],Aa⟩ (Yi ⟨Z6,Z1,Fh,Tv⟩ ?_)
   refine Yi (fun h=>absurd h (by decide)) (fun _=>?_);refine Xi {q:Nat // q≤P.length∧Ky F[i-1] F[i] (P.drop q)=true} (Xi (fun q=>⟨[(1,sl Ah roots),(2,.ref 2 0),(5,sl Cz F),(9,vi i),(12,vb false),(78,sl Bx P),(79,vi (P.map Bx).length),(80,vi q.1)],[(2,.ro (Ic x ifs))],Aa⟩) (Xi (fun q=>P.length-q.1) (Yi (Xi ⟨0,AS _,qy⟩ ?_) ?_)))
   ·exact⟨Z8,Z1,Fh,Tv⟩
   intro⟨k,k1,k2⟩;have k1:k≤P.length:=k1;have k2:Ky F[i-1] F[i] (P.drop k)=true:=k2;refine Yi (fun bH=>?_) (fun bH=>?_)
   ·have bH:(k:Int)<((P.map Bx).length:Int):=bH;have n18:k<P.length:=by have q:=bH;rw[Lm]at q;omega
    have g18:P[k]?=some P[k]:=Ge n18;have dy:k<P.length:=by have q:=bH;rw[Lm]at q;omega
    refine Xi (Bx P[k]) (Yi (Yi (Nn k) (Dr g18)) (Yi rfl ?_));refine Yi (by show BQ ((i:Int)-(1:Int));unfold BQ;omega) ?_;have YR:i-1<F.length:=by omega
    refine Xi [sl Aq (F[i-1])] (Yi (Yi (show(0:Int)≤(i:Int)-1 by omega) (by rw[show((i:Int)-1).toNat=i-1 by omega];exact Dr (Ge YR))) (Yi rfl ?_));refine Xi _ (Yi (rJ F[i-1] P[k] (Bh (hO.few _ (AC YR)) (by decide))) ?_);refine Xi [sl Aq F[i]] (Yi (Yi (Nn i) (Dr (Ge m6))) (Yi rfl ?_));refine Xi _ (Yi (rJ F[i] P[k] (Bh (hO.few _ (AC m6)) (by decide))) ?_);refine Yi (by kernel_rfl) ?_;refine Xi ⟨[(1,sl Ah roots),(2,.ref 2 0),(5,sl Cz F),(9,vi i),(12,vb false),(15,vi (NK F[i-1] P[k])),(16,vi (NK F[i] P[k])),(78,sl Bx P),(79,vi (P.map Bx).length),(80,vi k)],[(2,.ro (Ic x ifs))],Aa⟩ (Yi ⟨Z10,Z1,Fh,Tv⟩ ?_)
    refine Yi (fun mL=>?_) (fun mL=>?_)
    ·have mL:((NK F[i-1] P[k]):Int)≠((NK F[i] P[k]):Int):=mL;refine Yi (fun om=>?_) (fun om=>?_)
     ·have om:((NK F[i-1] P[k]):Int)<((NK F[i] P[k]):Int):=om;refine Yi (Ii i (by omega)) ?_;refine Xi ⟨i+1,by omega,m6⟩ ?_;exact⟨Dl F.length i (by omega),Z4,Z1,Fh,Tv⟩
     have om:¬(((NK F[i-1] P[k]):Int)<((NK F[i] P[k]):Int)):=om;exact absurd ((Xz dy k2).2 mL) om
    have mL:((NK F[i-1] P[k]):Int)=((NK F[i] P[k]):Int):=Cm mL;refine Xi ⟨[(1,sl Ah roots),(2,.ref 2 0),(5,sl Cz F),(9,vi i),(12,vb false),(78,sl Bx P),(79,vi (P.map Bx).length),(80,vi k)],[(2,.ro (Ic x ifs))],Aa⟩ (Yi ⟨Z8,Z1,Fh,Tv⟩ ?_)
    refine Yi (Ii k (by omega)) ?_;refine Xi ⟨k+1,dy,(Xz dy k2).1 mL⟩ ?_;exact⟨Dl P.length k (by omega),Z8,Z1,Fh,Tv⟩
   have bH:¬((k:Int)<((P.map Bx).length:Int)):=bH;have n18:¬k<P.length:=by have q:=bH;rw[Lm]at q;omega
   exact absurd k2 (by rw[Kc (by omega)];intro c;cases c)
  have lm:¬((i:Int)<((F.map Cz).length:Int)):=lm;have n17:¬i<F.length:=by have q:=lm;rw[Lm]at q;omega
  exact .refl _
 have h1:(Gz x 16&&Fm roots)=false:=h1;have p9:=h9;rw[show(Gz x 16&&Fm roots)=false from h1]at p9;refine Xi .pure (Xi _ (Yi p9 ?_));refine Xi ⟨[],[],Aa⟩ (Yi ⟨Tv,Tv,Fh,Tv⟩ ?_)
 exact .refl _
end Go.Eng
