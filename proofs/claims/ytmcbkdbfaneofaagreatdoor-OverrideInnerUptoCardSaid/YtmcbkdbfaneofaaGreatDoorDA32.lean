/- Lemmas for the claims of this seat, without a condition: part 32 (O22). -/
import Derived.Test.YtmcbkdbfaneofaaGreatDoorDA31
set_option maxHeartbeats 4000000
namespace Go.Eng
open Go.Proofs
theorem o22(x r:Rl)(hx:Cn x.reqs∧∀q∈x.reqs,Cn q.set):PC 22 [.agg (Ah x),.cptr (Ah r)] (vb (decide (x=r))):=by
 refine Ps ⟨[2],[],[],[],[],[],[],[],[],[],[]⟩ Tryz.func22 rfl (Nz rfl) ?_;refine Yi (Nz rfl) ?_;refine Yi (Nz rfl) ?_;refine BN (Bt (decide (x=r))) (fun h1=>?_) (fun h1=>?_)
 ·have h1:(decide (x=r))=true:=h1;refine Xi .pure (Xi _ (Yi (cb h1 (sq x r hx.1 hx.2)) ?_));exact .of_eq (show vb true=vb (decide (x=r)) by rw[h1])
 have h1:(decide (x=r))=false:=h1;refine Xi .pure (Xi _ (Yi (cb h1 (sq x r hx.1 hx.2)) ?_));exact .of_eq (show vb false=vb (decide (x=r)) by rw[h1])
theorem o24(x r:Rl):PC 24 [.agg (Ah x),.cptr (Ah r)] (vb (decide (F6 x=F6 r))):=by
 refine Ps ⟨[2],[],[],[],[],[],[],[],[],[],[]⟩ Tryz.func24 rfl (Nz rfl) ?_;refine Yi (fun h1=>?_) (fun h1=>?_)
 ·have h1:(x.path:ByteArray)=r.path:=h1;refine Yi (Nz rfl) ?_;refine Yi (Nz rfl) ?_;refine Yi (fun h2=>?_) (fun h2=>?_)
  ·have h2:(x.ver.a:Int)=r.ver.a∧(x.ver.b:Int)=r.ver.b∧(x.ver.c:Int)=r.ver.c∧True:=h2;exact .of_eq (show vb true=vb (decide (F6 x=F6 r)) by rw[Aw (show F6 x=F6 r by rw[F6,F6,h1,ZC h2])])
  have h2:¬((x.ver.a:Int)=r.ver.a∧(x.ver.b:Int)=r.ver.b∧(x.ver.c:Int)=r.ver.c∧True):=h2;exact .of_eq (show vb false=vb (decide (F6 x=F6 r)) by rw[Ap (fun e=>iG h2 (Ac Sl.ver e))])
 have h1:¬(x.path:ByteArray)=r.path:=h1;exact .of_eq (show vb false=vb (decide (F6 x=F6 r)) by rw[Ap (fun e=>h1 (Ac Sl.path e))])
theorem o26(s:Sl)(m:Wk)(hl:Cn m.exc):PC 26 [.agg (Ae s),.cptr (Bg m)] (vb (!decide (s∈m.exc))):=by
 refine Ps ⟨[2],[],[],[],[],[],[],[],[],[],[]⟩ Tryz.func26 rfl (Nz rfl) ?_;refine Yi (Nz rfl) ?_;refine BN (Bt (decide (s∈m.exc))) (fun h1=>?_) (fun h1=>?_)
 ·have h1:(decide (s∈m.exc))=true:=h1;refine Xi .pure (Xi _ (Yi (cb h1 (iQ m.exc s hl)) ?_));exact .of_eq (show vb false=vb (!decide (s∈m.exc)) by rw[h1];rfl)
 have h1:(decide (s∈m.exc))=false:=h1;refine Xi .pure (Xi _ (Yi (cb h1 (iQ m.exc s hl)) ?_));exact .of_eq (show vb true=vb (!decide (s∈m.exc)) by rw[h1];rfl)
theorem o28(s:Sl)(m:Wk)(hl:Cn m.pin):PC 28 [.agg (Ae s),.cptr (Bg m)] (vb (!decide (s∈m.pin))):=by
 refine Ps ⟨[2],[],[],[],[],[],[],[],[],[],[]⟩ Tryz.func28 rfl (Nz rfl) ?_;refine Yi (Nz rfl) ?_;refine BN (Bt (decide (s∈m.pin))) (fun h1=>?_) (fun h1=>?_)
 ·have h1:(decide (s∈m.pin))=true:=h1;refine Xi .pure (Xi _ (Yi (cb h1 (iQ m.pin s hl)) ?_));exact .of_eq (show vb false=vb (!decide (s∈m.pin)) by rw[h1];rfl)
 have h1:(decide (s∈m.pin))=false:=h1;refine Xi .pure (Xi _ (Yi (cb h1 (iQ m.pin s hl)) ?_));exact .of_eq (show vb true=vb (!decide (s∈m.pin)) by rw[h1];rfl)
theorem iZ{f:Nat}{args:List AV}{b x:Bool}(h:PC f args (vb b))(e:b=x):PC f args (vb x):=e▸h
structure oV(a b:Wk)(p:Wk×Int):Prop where
 chk:BU p.1=0
 len:p.1.rep.length≤a.rep.length+b.rep.length
 inB:∀r∈b.rep,(p.1.rep.any fun x=>decide (x=r))=true
 inA:∀r∈a.rep,(p.1.rep.any fun x=>decide (F6 x=F6 r))=true
 e:(b.exc.any fun s=>!decide (s∈p.1.exc))=false
 p:(b.pin.any fun s=>!decide (s∈p.1.pin))=false
theorem fN{a b:Wk}(h:(Ed a b).2=0):oV a b (Ed a b):=by
 obtain⟨ja,jb,h3,e⟩:=XP h;have no {l m:List Sl} (h:∀s∈l,s∈m):(l.any fun s=>!decide (s∈m))=false:=by
  rw[Fl];intro s hs;rw[Aw (h s hs)];decide
 refine⟨by rw[e];exact XA ja jb h3,by rw[e];exact G0 _ _,fun r hr=>?_,fun r hr=>?_,?_,?_⟩
 ·rw[e,A7];exact⟨r,(PA ja jb r).2 (.inl hr),Aw rfl⟩
 ·rw[e,A7];obtain⟨r',h1,h2⟩:=Y3 ja jb hr;exact⟨r',h1,Aw h2⟩
 ·rw[e];exact no fun s hs=>bY ja jb hs
 ·rw[e];exact no fun s hs=>bZ ja jb hs
theorem qL(a b:Wk)(hA:Lr a)(hB:Lr b)(h:(Ed a b).2=0):PC 7 [.agg (Bg a),.agg (Bg b)] (vb true):=by
 have ml1:(a.rep.map Ah).length=a.rep.length:=Lm _;have ml2:(b.rep.map Ah).length=b.rep.length:=Lm _;have q1:=hA.rep;have q2:=hB.rep;have q3:=hA.exc;have q4:=hB.exc;have bJ:=vd a b hA.few hB.few (by omega) (by omega) hA.rq hB.rq;have hF:=Ta hA hB;have h7:=fN h;obtain⟨p,hp⟩:∃p,p=Ed a b:=⟨_,rfl⟩;rw[←hp]at bJ hF h7 h;have bJ:PC 17 [.agg (Bg a),.agg (Bg b)] (.tup [.agg (Bg p.1),vi 0]):=by
  have q:=bJ;unfold S8 at q;rw[h]at q;exact q
 have eY:=qV p.1 hF.1;rw[h7.chk]at eY;have CB:((p.1.rep.map Ah).length:Int)≤((a.rep.map Ah).length:Int)+((b.rep.map Ah).length:Int):=by
  rw[Lm,Lm,Lm]
  have:=h7.len
  omega
 refine Ps ⟨[2,3,5,8,10],[],[],[],[],[],[],[],[],[],[3,4,5,6,8,9,10,12,13,16,18,19,22]⟩ Tryz.func7 rfl (Nz rfl) ?_;refine Xi .pure (Xi _ (Yi o9 ?_));refine Xi ⟨[(2,.ref 2 0),(3,.ref 3 0)],[(2,.ro (Bg a)),(3,.ro (Bg b))],Ab⟩ (Yi ⟨Z2,Z2,Fh,Tv⟩ ?_)
 refine Yi (Nz rfl) ?_;refine BN (Bt (EA a)) (fun h1=>?_) (fun h1=>?_)
 ·have h1:(EA a)=true:=h1;refine Xi .pure (Xi _ (Yi (cb h1 (lS a hA)) ?_));refine Yi (Nz rfl) ?_;refine BN (Bt (EA b)) (fun h2=>?_) (fun h2=>?_)
  ·have h2:(EA b)=true:=h2;refine Xi .pure (Xi _ (Yi (cb h2 (lS b hB)) ?_));refine Xi ⟨[(2,.ref 2 0),(3,.ref 3 0)],[(2,.ro (Bg a)),(3,.ro (Bg b))],Ab⟩ (Yi ⟨Z2,Z2,Fh,Tv⟩ ?_)
   refine Yi (Nz rfl) ?_;refine Yi (Nz rfl) ?_;refine Xi .pure (Xi _ (Yi bJ ?_));refine Yi (Nz rfl) ?_;refine Xi ⟨[(2,.ref 2 0),(3,.ref 3 0),(5,.ref 5 0),(6,vi 0)],[(2,.ro (Bg a)),(3,.ro (Bg b)),(5,.ro (Bg p.1))],Ab⟩ (Yi ⟨Z4,Z3,Fh,Tv⟩ ?_)
   refine Yi (fun h=>absurd h (by decide)) (fun _=>?_);refine Xi ⟨[(2,.ref 2 0),(3,.ref 3 0),(5,.ref 5 0)],[(2,.ro (Bg a)),(3,.ro (Bg b)),(5,.ro (Bg p.1))],Ab⟩ (Yi ⟨Z3,Z3,Fh,Tv⟩ ?_)
   refine Yi (Nz rfl) ?_;refine Xi .pure (Xi _ (Yi eY ?_));refine Yi (fun h=>absurd h (by decide)) (fun _=>?_);refine Yi (by show BY (((a.rep.map Ah).length:Int)+((b.rep.map Ah).length:Int));unfold BY;omega) ?_;refine Yi (fun h3=>?_) (fun h3=>?_)
   ·have h3:((a.rep.map Ah).length+(b.rep.map Ah).length:Int)<((p.1.rep.map Ah).length:Int):=h3;have n3:=Jy h3;exact absurd h3 (Int.not_lt.2 CB)
   have h3:¬(((a.rep.map Ah).length+(b.rep.map Ah).length:Int)<((p.1.rep.map Ah).length:Int)):=h3;have n3:=Jx h3;refine Xi ⟨[(2,.ref 2 0),(3,.ref 3 0),(5,.ref 5 0)],[(2,.ro (Bg a)),(3,.ro (Bg b)),(5,.ro (Bg p.1))],Ab⟩ (Yi ⟨Z3,Z3,Fh,Tv⟩ ?_)
   refine Xi {q:Nat // q≤b.rep.length} (Xi (fun q=>⟨[(2,.ref 2 0),(3,.ref 3 0),(5,.ref 5 0),(49,sl Ah b.rep),(50,vi (b.rep.map Ah).length),(51,vi q.1)],[(2,.ro (Bg a)),(3,.ro (Bg b)),(5,.ro (Bg p.1))],Ab⟩) (Xi (fun q=>b.rep.length-q.1) (Yi (Xi ⟨0,AM _⟩ ?_) ?_)))
   ·exact⟨Z6,Z3,Fh,Tv⟩
   intro⟨i,i1⟩;have i1:i≤b.rep.length:=i1;refine Yi (fun h4=>?_) (fun h4=>?_)
   ·have h4:(i:Int)<((b.rep.map Ah).length:Int):=h4;have n4:=Jy h4;refine Xi ⟨[(2,.ref 2 0),(3,.ref 3 0),(5,.ref 5 0),(49,sl Ah b.rep),(50,vi (b.rep.map Ah).length),(51,vi i)],[(2,.ro (Bg a)),(3,.ro (Bg b)),(5,.ro (Bg p.1))],Ab⟩ (Yi ⟨Z6,Z3,Fh,Tv⟩ ?_)
    refine Xi (Ah b.rep[i]) (Yi (NP n4) (Yi rfl ?_));refine Yi (Nz rfl) ?_;refine Yi (Nz rfl) ?_;refine Xi ⟨[(2,.ref 2 0),(3,.ref 3 0),(5,.ref 5 0),(8,.ref 8 0),(49,sl Ah b.rep),(50,vi (b.rep.map Ah).length),(51,vi i)],[(2,.ro (Bg a)),(3,.ro (Bg b)),(5,.ro (Bg p.1)),(8,.ro (Ah b.rep[i]))],Ab⟩ (Yi ⟨Z7,Z4,Fh,Tv⟩ ?_)
    refine Xi .pure (Xi _ (Yi (iZ (xQ (fF:=22) (caps:=[.cptr (Ah b.rep[i])]) (fun c hc=>by obtain rfl:=Ai.1 hc;intro h;rfl) p.1.rep (fun x=>decide (x=b.rep[i])) (fun x hx=>o22 x b.rep[i] (hF.2 x hx)) hF.1.reps) (h7.inB _ (Ao n4))) ?_));refine Yi (Ii i (by omega)) ?_;refine Xi ⟨i+1,n4⟩ ?_;exact⟨Dl b.rep.length i (by omega),Z6,Z3,Fh,Tv⟩
   have h4:¬((i:Int)<((b.rep.map Ah).length:Int)):=h4;have n4:=Jx h4;refine Xi ⟨[(2,.ref 2 0),(3,.ref 3 0),(5,.ref 5 0)],[(2,.ro (Bg a)),(3,.ro (Bg b)),(5,.ro (Bg p.1))],Ab⟩ (Yi ⟨Z3,Z3,Fh,Tv⟩ ?_)
   refine Xi {q:Nat // q≤a.rep.length} (Xi (fun q=>⟨[(3,.ref 3 0),(5,.ref 5 0),(62,sl Ah a.rep),(63,vi (a.rep.map Ah).length),(64,vi q.1)],[(3,.ro (Bg b)),(5,.ro (Bg p.1))],Ab⟩) (Xi (fun q=>a.rep.length-q.1) (Yi (Xi ⟨0,AM _⟩ ?_) ?_)))
   ·exact⟨Z5,Z2,Fh,Tv⟩
   intro⟨k,k1⟩;have k1:k≤a.rep.length:=k1;refine Yi (fun h6=>?_) (fun h6=>?_)
   ·have h6:(k:Int)<((a.rep.map Ah).length:Int):=h6;have n6:=Jy h6;refine Xi ⟨[(3,.ref 3 0),(5,.ref 5 0),(62,sl Ah a.rep),(63,vi (a.rep.map Ah).length),(64,vi k)],[(3,.ro (Bg b)),(5,.ro (Bg p.1))],Ab⟩ (Yi ⟨Z5,Z2,Fh,Tv⟩ ?_)
    refine Xi (Ah a.rep[k]) (Yi (NP n6) (Yi rfl ?_));refine Yi (Nz rfl) ?_;refine Yi (Nz rfl) ?_;refine Xi ⟨[(3,.ref 3 0),(5,.ref 5 0),(10,.ref 10 0),(62,sl Ah a.rep),(63,vi (a.rep.map Ah).length),(64,vi k)],[(3,.ro (Bg b)),(5,.ro (Bg p.1)),(10,.ro (Ah a.rep[k]))],Ab⟩ (Yi ⟨Z6,Z3,Fh,Tv⟩ ?_)
    refine Xi .pure (Xi _ (Yi (iZ (xQ (fF:=24) (caps:=[.cptr (Ah a.rep[k])]) (fun c hc=>by obtain rfl:=Ai.1 hc;intro h;rfl) p.1.rep (fun x=>decide (F6 x=F6 a.rep[k])) (fun x _=>o24 x a.rep[k]) hF.1.reps) (h7.inA _ (Ao n6))) ?_));refine Yi (Ii k (by omega)) ?_;refine Xi ⟨k+1,n6⟩ ?_;exact⟨Dl a.rep.length k (by omega),Z5,Z2,Fh,Tv⟩
   have h6:¬((k:Int)<((a.rep.map Ah).length:Int)):=h6;have n6:=Jx h6;refine Xi ⟨[(3,.ref 3 0),(5,.ref 5 0)],[(3,.ro (Bg b)),(5,.ro (Bg p.1))],Ab⟩ (Yi ⟨Z2,Z2,Fh,Tv⟩ ?_)
   refine Xi .pure (Xi _ (Yi (iZ (sr (fF:=26) (caps:=[.cptr (Bg p.1)]) (fun c hc=>by obtain rfl:=Ai.1 hc;intro h;rfl) b.exc (fun s=>!decide (s∈p.1.exc)) (fun s _=>o26 s p.1 hF.1.exc) hB.few.exc) h7.e) ?_));refine Xi .pure (Xi _ (Yi (iZ (sr (fF:=28) (caps:=[.cptr (Bg p.1)]) (fun c hc=>by obtain rfl:=Ai.1 hc;intro h;rfl) b.pin (fun s=>!decide (s∈p.1.pin)) (fun s _=>o28 s p.1 hF.1.pin) hB.few.pin) h7.p) ?_));exact .refl _
  have h2:(EA b)=false:=h2;refine Xi .pure (Xi _ (Yi (cb h2 (lS b hB)) ?_));refine Xi ⟨[],[],Ab⟩ (Yi ⟨Tv,Tv,Fh,Tv⟩ ?_)
  exact .refl _
 have h1:(EA a)=false:=h1;refine Xi .pure (Xi _ (Yi (cb h1 (lS a hA)) ?_));refine Xi ⟨[],[],Ab⟩ (Yi ⟨Tv,Tv,Fh,Tv⟩ ?_)
 exact .refl _
theorem qM(a b:Wk)(hA:Lr a)(hB:Lr b)(h:(Ed a b).2≠0):PC 7 [.agg (Bg a),.agg (Bg b)] (vb true):=by
 have ml1:(a.rep.map Ah).length=a.rep.length:=Lm _;have ml2:(b.rep.map Ah).length=b.rep.length:=Lm _;have q1:=hA.rep;have q2:=hB.rep;have q3:=hA.exc;have q4:=hB.exc;have bJ:=vd a b hA.few hB.few (by omega) (by omega) hA.rq hB.rq;have hF:=Ta hA hB;obtain⟨c,hc⟩:∃c,c=(Ed a b).2:=⟨_,rfl⟩;have pZ:c≠0:=by rw[hc];exact h
 have bJ:PC 17 [.agg (Bg a),.agg (Bg b)] (.tup [.agg (Bg WC),vi c]):=by
  have q:=bJ;unfold S8 at q;rw[Zc h,←hc]at q;exact q
 have T1:=(xP WC WC PG.few PG.qs).args (args':=[.agg (Bg WC),.agg [.v (.slice none 0 0),.v (.slice none 0 0),.v (.slice none 0 0)]]) ⟨.refl _,.agg ⟨.nil,.nil,.nil,trivial⟩,trivial⟩;rw[Ty]at T1;refine Ps ⟨[2,3,5,8,10],[],[],[],[],[],[],[],[],[],[3,4,5,6,8,9,10,12,13,16,18,19,22]⟩ Tryz.func7 rfl (Nz rfl) ?_;refine Xi .pure (Xi _ (Yi o9 ?_));refine Xi ⟨[(2,.ref 2 0),(3,.ref 3 0)],[(2,.ro (Bg a)),(3,.ro (Bg b))],Ab⟩ (Yi ⟨Z2,Z2,Fh,Tv⟩ ?_)
 refine Yi (Nz rfl) ?_;refine BN (Bt (EA a)) (fun h1=>?_) (fun h1=>?_)
 ·have h1:(EA a)=true:=h1;refine Xi .pure (Xi _ (Yi (cb h1 (lS a hA)) ?_));refine Yi (Nz rfl) ?_;refine BN (Bt (EA b)) (fun h2=>?_) (fun h2=>?_)
  ·have h2:(EA b)=true:=h2;refine Xi .pure (Xi _ (Yi (cb h2 (lS b hB)) ?_));refine Xi ⟨[(2,.ref 2 0),(3,.ref 3 0)],[(2,.ro (Bg a)),(3,.ro (Bg b))],Ab⟩ (Yi ⟨Z2,Z2,Fh,Tv⟩ ?_)
   refine Yi (Nz rfl) ?_;refine Yi (Nz rfl) ?_;refine Xi .pure (Xi _ (Yi bJ ?_));refine Yi (Nz rfl) ?_;refine Xi ⟨[(2,.ref 2 0),(3,.ref 3 0),(5,.ref 5 0),(6,vi c)],[(2,.ro (Bg a)),(3,.ro (Bg b)),(5,.ro (Bg WC))],Ab⟩ (Yi ⟨Z4,Z3,Fh,Tv⟩ ?_)
   refine Yi (fun h3=>?_) (fun h3=>?_)
   ·have h3:(c:Int)≠(0:Int):=h3;refine Yi (Nz rfl) ?_;refine Xi .pure (Xi _ (Yi T1 ?_));exact .refl _
   have h3:(c:Int)=(0:Int):=Br h3;exact absurd h3 pZ
  have h2:(EA b)=false:=h2;refine Xi .pure (Xi _ (Yi (cb h2 (lS b hB)) ?_));refine Xi ⟨[],[],Ab⟩ (Yi ⟨Tv,Tv,Fh,Tv⟩ ?_)
  exact .refl _
 have h1:(EA a)=false:=h1;refine Xi .pure (Xi _ (Yi (cb h1 (lS a hA)) ?_));refine Xi ⟨[],[],Ab⟩ (Yi ⟨Tv,Tv,Fh,Tv⟩ ?_)
 exact .refl _
theorem uY(a b:Wk)(hA:Lr a)(hB:Lr b):PC 7 [.agg (Bg a),.agg (Bg b)] (vb true):=by
 by_cases h:(Ed a b).2=0
 ·exact qL a b hA hB h
 ·exact qM a b hA hB h
end Go.Eng
