/- Lemmas for the claims of this seat, without a condition: part 23 (C56, C57, C58, C59, C70, C71, C72, C73, J1, J2, S15, S17, S1, S2). -/
import Derived.Test.YtkmnnpmneamgoaaGreatDoorA22
import Derived.Test.YtkmnnpmneamgoaaGreatDoorA03
import Derived.Test.YtkmnnpmneamgoaaGreatDoorCards
import Derived.Test.YtkmnnpmneamgoaaGreatDoorTie
import Derived.ProofKit
import Derived.OpenShut
import Derived.Deep.DeepHandedRow
import Derived.Lib.LaidTab
namespace Go.Eng
open Go.Proofs
def Ml(q:Rq):Bool:=decide (q.path.size≤100)&&decide (q.set.length≤8)
def Fm(l:List Rq):Bool:=l.all Ml&&decide (l.length≤20)
theorem w9(l:List Rq)(hl:Cv l):PC 27 [sl Ah l] (vb (Fm l)):=by
 unfold Cv at hl;refine Ps FC Tryz.func27 rfl (Nz rfl) ?_;refine Xi {i:Nat // i≤l.length∧∀j (hj:j<l.length),j<i→Ml l[j]=true} (Xi (fun i=>⟨[(0,sl Ah l),(3,vi i.1)],[],Aa⟩) (Xi (fun i=>l.length-i.1) (Yi (Xi ⟨0,AS _,fun j _ h=>by omega⟩ ?_) ?_)))
 ·exact⟨Z2,Tv,Fh,Tv⟩
 intro⟨i,h1,h2⟩;refine Yi ?_ ?_
 ·intro h;have h:(i:Int)<(l.map Ah).length:=h;have h:i<l.length:=by simpa using h
  have hg:l[i]?=some l[i]:=Ge h;have no:Ml l[i]=false→false=Fm l:=fun e=>by
   unfold Fm
   have:l.all Ml=false:=by
    rw[AL];intro ha
    have:=BB.1 ha _ (AC h)
    rw[e]at this;cases this
   rw[this];rfl
  refine Xi (Ah l[i]) (Yi (Yi (Nn i) (by simp[hg])) (Yi rfl ?_));refine Yi ?_ ?_
  ·intro h3;have h3:(100:Int)<((l[i].path.size:Nat):Int):=h3;exact .of_eq (Ae vb (no (by unfold Ml;rw[AD (by omega)];rfl)))
  intro h3;have h3:¬(100:Int)<((l[i].path.size:Nat):Int):=h3;refine Xi (Ah l[i]) (Yi (Yi (Nn i) (by simp[hg])) (Yi rfl ?_));refine Yi ?_ ?_
  ·intro h4;have h4:(8:Int)<((l[i].set.map Ap).length:Int):=h4;rw[Lm]at h4;exact .of_eq (Ae vb (no (by unfold Ml;rw[AD (by omega:¬l[i].set.length≤8),DN])))
  intro h4;have h4:¬(8:Int)<((l[i].set.map Ap).length:Int):=h4;have h5:l[i].set.length≤8:=by rw[Lm]at h4;omega
  refine Yi (Ii i (by omega)) ?_;refine Xi ⟨i+1,by omega,fun j hj MO=>?_⟩ ?_
  ·rcases DV j i with z | z
   ·exact h2 j hj z
   ·have:j=i:=by omega
    subst this;unfold Ml;rw[AE (by omega),AE h5];rfl
  ·exact⟨Dl l.length i (by omega),Z2,Tv,Fh,Tv⟩
 ·intro h;have h:¬(i:Int)<(l.map Ah).length:=h;have h:¬i<l.length:=by simpa using h
  have ha:l.all Ml=true:=BB.2 fun q hq=>by
   obtain⟨j,hj,rfl⟩:=ED hq;exact h2 j hj (by omega)
  refine Yi ?_ ?_
  ·intro h3;have h3:((l.map Ah).length:Int)≤20:=h3;rw[Lm]at h3;exact .of_eq (Ae vb (show true=Fm l by unfold Fm;rw[ha,AE (by omega)];rfl))
  ·intro h3;have h3:¬((l.map Ah).length:Int)≤20:=h3;rw[Lm]at h3;exact .of_eq (Ae vb (show false=Fm l by unfold Fm;rw[AD (by omega),DN]))
end Go.Eng

namespace Go.Eng
open Go.Proofs
def Jn(r:Rl):Bool:=decide (r.path.size≤100)&&decide (r.arch.size≤100)&&decide (r.ifc.size≤100)&&decide (r.cert.size≤100)&&Fm r.reqs
def Gz(x:List Rl)(n:Nat):Bool:=x.all Jn&&decide (x.length≤n)
theorem yX(x:List Rl)(n:Nat)(hl:Cv x)(hr:∀r∈x,Cv r.reqs):PC 26 [sl A5 x,vi n] (vb (Gz x n)):=by
 unfold Cv at hl;refine Ps FC Tryz.func26 rfl (Nz rfl) ?_;refine Xi {i:Nat // i≤x.length∧∀j (hj:j<x.length),j<i→Jn x[j]=true} (Xi (fun i=>⟨[(0,sl A5 x),(1,vi n),(5,vi i.1)],[],Aa⟩) (Xi (fun i=>x.length-i.1) (Yi (Xi ⟨0,AS _,fun j _ h=>by omega⟩ ?_) ?_)))
 ·exact⟨Z3,Tv,Fh,Tv⟩
 intro⟨i,h1,h2⟩;refine Yi ?_ ?_
 ·intro h;have h:(i:Int)<(x.map A5).length:=h;have h:i<x.length:=by simpa using h
  have hg:x[i]?=some x[i]:=Ge h;have no:Jn x[i]=false→false=Gz x n:=fun e=>by
   unfold Gz
   have:x.all Jn=false:=by
    rw[AL];intro ha
    have:=BB.1 ha _ (AC h)
    rw[e]at this;cases this
   rw[this];rfl
  have hc:=w9 x[i].reqs (hr _ (AC h));refine Xi (A5 x[i]) (Yi (Yi (Nn i) (by simp[hg])) (Yi rfl ?_));refine Yi ?_ ?_
  ·intro h3;have h3:(100:Int)<((x[i].path.size:Nat):Int):=h3;exact .of_eq (Ae vb (no (by unfold Jn;rw[AD (by omega:¬x[i].path.size≤100)];simp)))
  intro h3;have h3:¬(100:Int)<((x[i].path.size:Nat):Int):=h3;refine Xi (A5 x[i]) (Yi (Yi (Nn i) (by simp[hg])) (Yi rfl ?_));refine Yi ?_ ?_
  ·intro h4;have h4:(100:Int)<((x[i].arch.size:Nat):Int):=h4;exact .of_eq (Ae vb (no (by unfold Jn;rw[AD (by omega:¬x[i].arch.size≤100)];simp)))
  intro h4;have h4:¬(100:Int)<((x[i].arch.size:Nat):Int):=h4;refine Xi (A5 x[i]) (Yi (Yi (Nn i) (by simp[hg])) (Yi rfl ?_));refine Yi ?_ ?_
  ·intro h5;have h5:(100:Int)<((x[i].ifc.size:Nat):Int):=h5;exact .of_eq (Ae vb (no (by unfold Jn;rw[AD (by omega:¬x[i].ifc.size≤100)];simp)))
  intro h5;have h5:¬(100:Int)<((x[i].ifc.size:Nat):Int):=h5;refine Xi (A5 x[i]) (Yi (Yi (Nn i) (by simp[hg])) (Yi rfl ?_));refine Yi ?_ ?_
  ·intro h6;have h6:(100:Int)<((x[i].cert.size:Nat):Int):=h6;exact .of_eq (Ae vb (no (by unfold Jn;rw[AD (by omega:¬x[i].cert.size≤100)];simp)))
  intro h6;have h6:¬(100:Int)<((x[i].cert.size:Nat):Int):=h6;refine Xi (A5 x[i]) (Yi (Yi (Nn i) (by simp[hg])) (Yi rfl ?_));refine Cy (Bt (Fm x[i].reqs)) (fun e=>?_) (fun e=>?_)
  rotate_left
  ·rw[e]at hc;refine Xi .pure (Xi _ (Yi (hc) ?_));exact .of_eq (Ae vb (no (by unfold Jn;rw[e,DN])))
  rw[e]at hc;refine Xi .pure (Xi _ (Yi (hc) ?_));refine Yi (Ii i (by omega)) ?_;refine Xi ⟨i+1,by omega,fun j hj MO=>?_⟩ ?_
  ·rcases DV j i with z | z
   ·exact h2 j hj z
   ·have:j=i:=by omega
    subst this;unfold Jn;rw[AE (by omega:x[j].path.size≤100),AE (by omega:x[j].arch.size≤100),AE (by omega:x[j].ifc.size≤100),AE (by omega:x[j].cert.size≤100),e];rfl
  ·exact⟨Dl x.length i (by omega),Z3,Tv,Fh,Tv⟩
 ·intro h;have h:¬(i:Int)<(x.map A5).length:=h;have h:¬i<x.length:=by simpa using h
  have ha:x.all Jn=true:=BB.2 fun q hq=>by
   obtain⟨j,hj,rfl⟩:=ED hq;exact h2 j hj (by omega)
  refine Yi ?_ ?_
  ·intro h3;have h3:((x.map A5).length:Int)≤n:=h3;rw[Lm]at h3;exact .of_eq (Ae vb (show true=Gz x n by unfold Gz;rw[ha,AE (by omega)];rfl))
  ·intro h3;have h3:¬((x.map A5).length:Int)≤n:=h3;rw[Lm]at h3;exact .of_eq (Ae vb (show false=Gz x n by unfold Gz;rw[AD (by omega),DN]))
theorem c11(x:List Rl)(ifs:List (List AV))(roots:List Rq)(hl:Cv x)(hr:∀r∈x,Cv r.reqs)(hq:Cv roots):PC 9 [MQ x ifs,sl Ah roots] (vb (Gz x 16&&Fm roots)):=by
 have h1:=yX x 16 hl hr;have h2:=w9 roots hq;cases e:Gz x 16 with
 |true =>
  rw[e]at h1;refine Ps FC Tryz.func9 rfl (Nz rfl) ?_;refine Xi .pure (Xi _ (Yi (h1) ?_));refine Xi .pure (Xi _ (Yi (h2) ?_));exact .refl _
 |false =>
  rw[e]at h1;refine Ps FC Tryz.func9 rfl (Nz rfl) ?_;refine Xi .pure (Xi _ (Yi (h1) ?_));exact .refl _
end Go.Eng

namespace Go.Eng
open Go.Proofs
abbrev rc:AV:=.v (.slice none 0 0)
end Go.Eng

namespace Go.Eng
open Go.Proofs
end Go.Eng

namespace Go.Eng
open Go.Proofs
theorem eO(l:List lZ)(a:List ByteArray):l.foldl H6 a=a++l.map (fun v=>v.rel.path):=by
 induction l generalizing a with
 |nil=>simp
 |cons v l ih=>rw[EI,ih,AM];simp[H6]
abbrev nJ:O3:=⟨[],[],[],[],[],[],[],[(24,(10,0,900,1))],[],[],[4,5,7]⟩
abbrev br(p:List ByteArray×Int):AV:=.tup [sl Bx p.1,vi p.2]
theorem nE(e:Int):GO (.tup [.v (.slice none 0 0),vi e]) (br ([],e)):=GO.tup ⟨.nil,.refl _,trivial⟩
theorem yT(x:List Rl)(ifs:List (List AV))(roots:List Rq)(s:List Sl)(TH:Yc x ifs)(hx:∀r∈x,Io r)(hr:∀q∈roots,Js q)(hs:s.length≤500):PC 19 [MQ x ifs,sl Ah roots,sl Aq s] (br (FX x roots s)):=by
 have hsf:Cv s:=by unfold Cv;omega
 have fm:PC 40 [MQ x ifs,sl Ah roots,.v (.slice none 0 0)] (Uw x ifs roots []):=(yY x ifs roots [] hx hr (fun _=>s7 x ifs roots TH)).args ⟨.refl _,.refl _,.nil,trivial⟩;have jL:=y0 s hsf;obtain⟨D,hD⟩:∃D,D=FX x roots s:=⟨_,rfl⟩;rw[←hD];unfold FX at hD
 by_cases h0:A6 x≠0∨BE roots≠0
 ·have e:Hp x roots []=([],1):=by unfold Hp;rw[Aw h0]
  have hD:D=([],1):=by rw[hD,Aw (h0.elim .inl (fun h=>.inr (.inl h)))]
  rw[←Kn e (by decide)]at fm;refine Ps nJ Tryz.func19 rfl (Nz rfl) ?_;refine Yi (Nz rfl) ?_;refine Xi .pure (Xi _ (Yi (fm) ?_));refine Yi ?_ ?_
  ·intro _;exact(nE 1).trans (.of_eq (by rw[hD]))
  ·intro h;exact absurd (show(1:Int)≠0 by decide) h
 ·have e:Hp x roots []=([],0):=by unfold Hp;rw[Am h0];rfl
  have h1:A6 x=0:=BZ.1 fun h=>h0 (.inl h);have h2:BE roots=0:=BZ.1 fun h=>h0 (.inr h);rw[←WH e]at fm;cases hi:Et s with
  |false =>
   have hD:D=([],1):=by rw[hD,Aw (.inr (.inr hi))]
   rw[hi]at jL;refine Ps nJ Tryz.func19 rfl (Nz rfl) ?_;refine Yi (Nz rfl) ?_;refine Xi .pure (Xi _ (Yi (fm) ?_));refine Yi ?_ ?_
   ·intro h;exact absurd rfl h
   intro _;refine Xi .pure (Xi _ (Yi (jL) ?_));exact(nE 1).trans (.of_eq (by rw[hD]))
  |true =>
   have hD:D=if(visits x roots s).2 then((visits x roots s).1.map fun v=>v.rel.path,0)else([],6):=by
    rw[hD,Am (fun h=>h.elim (fun h=>h0 (.inl h)) (fun h=>h.elim (fun h=>h0 (.inr h)) (fun h=>by rw[hi]at h;cases h)))]
   rw[hi]at jL;have xA:=tE x ifs roots [] s [] TH h1 hx (by have:=Jm h2;omega) (fun q hq=>(hr q hq).1) hs rfl;have hf:(visits x roots s).1.foldl H6 []=(visits x roots s).1.map (fun v=>v.rel.path):=by rw[eO];rfl
   rw[hf]at xA;refine Ps nJ Tryz.func19 rfl (Nz rfl) ?_;refine Yi (Nz rfl) ?_;refine Xi .pure (Xi _ (Yi (fm) ?_));refine Yi ?_ ?_
   ·intro h;exact absurd rfl h
   intro _;refine Xi .pure (Xi _ (Yi (jL) ?_));refine Xi ⟨[(2,sl Aq s),(8,.cptr (Gp x (.slice .none ifs) roots []))],[],Aa⟩ (Yi ⟨Z2,Tv,Fh,Tv⟩ ?_)
   refine Xi ⟨[(2,sl Aq s),(8,.cptr (Gp x (.slice .none ifs) roots [])),(10,.ref 10 0)],[(10,.cells [.v (.slice none 0 0)])],Aa⟩ (Yi ⟨Z3,Z1,Fh,Tv⟩ ?_)
   refine Xi (.gen [(10,1000),(900,1001)] 0) (Yi rfl (xA.imp ?_));intro v g q;have q1:=q.1;have q2:=q.2;refine Cy (Bt (visits x roots s).2) (fun hv=>?_) (fun hv=>?_)
   ·rw[hv]at q1 hD;subst q1;subst q2;refine Xi ⟨[(10,.ref 10 0)],[(10,.cells [.slice (.id 900 1) (((visits x roots s).1.map (fun v=>v.rel.path)).map Bx)]),(900,.tok 1 (((visits x roots s).1.map (fun v=>v.rel.path)).map Bx).length)],Aa⟩ (Yi ⟨Z1,⟨Zr,Zr,Tv⟩,Fh,Tv⟩ ?_)
    exact .of_eq (show br ((visits x roots s).1.map (fun v=>v.rel.path),0)=br D by rw[hD];rfl)
   ·rw[hv]at q1 hD;subst q1;subst q2;exact(nE 6).trans (.of_eq (show br ([],6)=br D by rw[hD];rfl))
end Go.Eng

namespace Go.Eng
open Go.Proofs
section
variable {l:List Rl}{roots t:List Rq}{d:List ByteArray}{n:Nat}
end
end Go.Eng

namespace Go.Eng
open Go.Proofs
end Go.Eng

namespace Go.Eng
open Go.Proofs
structure lh(x:List Rl)(roots:List Rq):Prop where
 ix:Cv x
 rs:Cv roots
 rel:∀r∈x,Cv r.reqs∧Io r
 rq:∀q∈roots,Js q
theorem lh.x{x:List Rl}{roots:List Rq}(h:lh x roots):∀r∈x,Io r:=fun r hr=>(h.rel r hr).2
theorem lh.c84{x:List Rl}{roots:List Rq}(h:lh x roots)(ifs:List (List AV)):Yc x ifs:=Go.Eng.c84 x ifs h.x
theorem lh.c11{x:List Rl}{roots:List Rq}(h:lh x roots)(ifs:List (List AV)):PC 9 [MQ x ifs,sl Ah roots] (vb (Gz x 16&&Fm roots)) :=
 Go.Eng.c11 x ifs roots h.ix (fun r hr=>(h.rel r hr).1) h.rs
end Go.Eng

namespace Go.Proofs.YtkmnnpmneamgoaaGreatDoor.joins
open Go Go.Eng Go.Proofs Go.ChangeShapes Go.WideShapes Go.ChangeAt Go.RowKit

section
variable {H:Type}{enc:TypeId×Value→H}{w:World}
theorem all_le{d:DataW H}{l:List (DataW H)}(h:d∈l):Rows.uptoBulk d≤Rows.uptoBulkAll l:=by
 induction l with
 |nil=>cases h
 |cons x r ih =>
  simp only[Rows.uptoBulkAll]
  cases AF.1 h with
  |inl e=>subst e;omega
  |inr e=>have:=ih e;omega
theorem one_le(d:DataW H):1≤Rows.uptoBulk d:=by
 cases d with
 |lit l=>cases l<;>simp[Rows.uptoBulk]
 |nil=>simp[Rows.uptoBulk]
 |ptr d=>simp[Rows.uptoBulk]
 |slice lk spare=>simp[Rows.uptoBulk]
 |agg parts=>simp[Rows.uptoBulk]
 |iface t d=>simp[Rows.uptoBulk]
 |map entries=>simp[Rows.uptoBulk]
 |held h=>simp[Rows.uptoBulk]
theorem len_le(l:List (DataW H)):l.length≤Rows.uptoBulkAll l:=by
 induction l with
 |nil=>simp[Rows.uptoBulkAll]
 |cons x r ih=>have:=one_le x;simp only[Rows.uptoBulkAll,Al];omega
theorem bulk_ok:Vk (H:=H) Rows.uptoBulk where
 slice es sp:=by
  have h1:=len_le es
  refine⟨by simp only[Rows.uptoBulk];omega,fun d hd=>?_⟩
  have:=all_le hd
  simp only[Rows.uptoBulk];omega
 agg ps d hd:=by
  have:=all_le hd
  simp only[Rows.uptoBulk];omega
 str b:=by simp only[Rows.uptoBulk];omega
theorem app_all(l r:List (DataW H)):Rows.uptoBulkAll (l++r)=Rows.uptoBulkAll l+Rows.uptoBulkAll r:=by
 induction l with
 |nil=>simp[Rows.uptoBulkAll]
 |cons x l ih=>simp only[Iq,Rows.uptoBulkAll,ih];omega

abbrev NB:Nat:=1048576
abbrev Op(enc:TypeId×Value→H)(w:World)(t:TypeId){α:Type}(e:α→List AV)(ok:α→Prop):Prop:=JB enc Tryz.prog w Rows.uptoBulk NB t e ok
theorem oI:Op enc w 3 (fun n:Int=>[vi n]) (fun _=>True):=(cC Tryz.underlying3).to id (fun _ _=>⟨rfl,trivial⟩)
theorem oB:Op enc w 4 (fun b:Bool=>[vb b]) (fun _=>True):=Za Tryz.underlying4
theorem oS:Op enc w 9 (fun s:ByteArray=>[vs s]) (fun s=>s.size≤NB):=V5 bulk_ok Tryz.underlying9
theorem oVer:Op enc w 49 Ix (fun _=>True) :=
 (Ee bulk_ok Tryz.underlying49 (L:=3) (by kernel_rfl) (Bv rfl (n:=1) (by kernel_rfl) oI (Bv rfl (n:=1) (by kernel_rfl) oI (Bv rfl (n:=1) (by kernel_rfl) oI Fs)))).to
  (fun p=>(⟨p.1,p.2.1,p.2.2.1⟩:Ver)) (fun _ _=>⟨rfl,trivial⟩)
theorem oSpan:Op enc w 65 Ap (fun _=>True) :=
 (Ee bulk_ok Tryz.underlying65 (L:=2) (by kernel_rfl) (Bv rfl (n:=1) (by kernel_rfl) oI (Bv rfl (n:=1) (by kernel_rfl) oI Fs))).to
  (fun p=>(p.1,p.2.1)) (fun _ _=>⟨rfl,trivial⟩)
theorem oSet:Op enc w 43 (fun l:Bj=>[sl Ap l]) (fun l=>l.length≤NB) :=
 (Gv bulk_ok Tryz.underlying43 (m:=1) (by kernel_rfl) (fun _=>rfl) oSpan).to id (fun _ h=>⟨rfl,h.1⟩)
abbrev OkRq(q:Rq):Prop:=q.path.size≤NB∧q.set.length≤NB
theorem oRq:Op enc w 45 Ah OkRq :=
 (Ee bulk_ok Tryz.underlying45 (L:=2) (by kernel_rfl) (Bv rfl (n:=1) (by kernel_rfl) oS (Bv rfl (n:=1) (by kernel_rfl) oSet Fs))).to
  (fun p=>(⟨p.1,p.2.1⟩:Rq)) (fun _ h=>⟨rfl,h.1,h.2.1⟩)
abbrev OkRqs(l:List Rq):Prop:=l.length≤NB∧∀q∈l,OkRq q
theorem oRqs:Op enc w 26 (fun l:List Rq=>[sl Ah l]) OkRqs :=
 Gv bulk_ok Tryz.underlying26 (m:=1) (by kernel_rfl) (fun _=>rfl) oRq
abbrev OkRl(r:Rl):Prop:=r.path.size≤NB∧OkRqs r.reqs
theorem oRl:Op enc w 67 A5 OkRl :=
 (Ee bulk_ok Tryz.underlying67 (L:=9) (by kernel_rfl) (Bv rfl (n:=1) (by kernel_rfl) oS (Bv rfl (n:=3) (by kernel_rfl) oVer (Bv rfl (n:=1) (by kernel_rfl) oRqs
  (Bv rfl (n:=1) (by kernel_rfl) oS (Bv rfl (n:=1) (by kernel_rfl) oS (Bv rfl (n:=1) (by kernel_rfl) oS (Bv rfl (n:=1) (by kernel_rfl) oB Fs)))))))).to
  (fun p=>(⟨p.1,p.2.1,p.2.2.1,p.2.2.2.1,p.2.2.2.2.1,p.2.2.2.2.2.1,p.2.2.2.2.2.2.1⟩:Rl)) (fun _ h=>⟨rfl,h.1,h.2.2.1⟩)
theorem oRls:Op enc w 22 (fun l:List Rl=>[sl A5 l]) (fun l=>l.length≤NB∧∀r∈l,OkRl r) :=
 Gv bulk_ok Tryz.underlying22 (m:=8) (by kernel_rfl) (fun _=>rfl) oRl
theorem oIfc:Op enc w 349 (fun s:ByteArray=>[vs s,.junk,.junk,.junk,.junk]) (fun _=>True) :=
 (Ee bulk_ok Tryz.underlying349 (L:=5) (by kernel_rfl) (Bv rfl (n:=1) (by kernel_rfl) oS (Bv rfl (n:=1) (by kernel_rfl) (MC Tryz.underlying344) (Bv rfl (n:=1) (by kernel_rfl) (MC Tryz.underlying345)
  (Bv rfl (n:=1) (by kernel_rfl) (MC Tryz.underlying346) (Bv rfl (n:=1) (by kernel_rfl) (MC Tryz.underlying347) Fs)))))).to (fun p=>p.1) (fun _ _=>⟨rfl,trivial⟩)
theorem oIfs:Op enc w 23 (fun l:List ByteArray=>[sl (fun s=>[vs s,.junk,.junk,.junk,.junk]) l]) (fun _=>True) :=
 (Gv bulk_ok Tryz.underlying23 (m:=4) (by kernel_rfl) (fun _=>rfl) oIfc).to id (fun _ _=>⟨rfl,trivial⟩)
theorem oIx:Op enc w 25 (fun p:List Rl×List (List AV)=>[sl A5 p.1,.slice .none p.2]) (fun p=>p.1.length≤NB∧∀r∈p.1,OkRl r) :=
 (Ee bulk_ok Tryz.underlying25 (L:=2) (by kernel_rfl) (Bv rfl (n:=1) (by kernel_rfl) oRls (Bv rfl (n:=1) (by kernel_rfl) oIfs Fs))).to
  (fun p=>(p.1,p.2.1.map (fun s=>[vs s,.junk,.junk,.junk,.junk]))) (fun _ h=>⟨rfl,h.1⟩)
theorem oSl:Op enc w 51 Aq (fun y=>y.path.size≤NB) :=
 (Ee bulk_ok Tryz.underlying51 (L:=4) (by kernel_rfl) (Bv rfl (n:=1) (by kernel_rfl) oS (Bv rfl (n:=3) (by kernel_rfl) oVer Fs))).to
  (fun p=>(⟨p.1,p.2.1⟩:Sl)) (fun _ h=>⟨rfl,h.1⟩)
theorem oSls:Op enc w 39 (fun l:List Sl=>[sl Aq l]) (fun l=>l.length≤NB∧∀y∈l,y.path.size≤NB) :=
 Gv bulk_ok Tryz.underlying39 (m:=3) (by kernel_rfl) (fun _=>rfl) oSl
theorem oNf:Op enc w 136 AU (fun i=>i.path.size≤NB) :=
 (Ee bulk_ok Tryz.underlying136 (L:=6) (by kernel_rfl) (Bv rfl (n:=1) (by kernel_rfl) oI (Bv rfl (n:=1) (by kernel_rfl) oS (Bv rfl (n:=1) (by kernel_rfl) oI
  (Bv rfl (n:=1) (by kernel_rfl) oI (Bv rfl (n:=1) (by kernel_rfl) oI (Bv rfl (n:=1) (by kernel_rfl) oI Fs))))))).to
  (fun p=>(⟨p.1,p.2.1,p.2.2.1,p.2.2.2.1,p.2.2.2.2.1,p.2.2.2.2.2.1⟩:Nf)) (fun _ h=>⟨rfl,h.2.1⟩)
theorem oNfs:Op enc w 56 (fun l:List Nf=>[sl AU l]) (fun l=>l.length≤NB∧∀i∈l,i.path.size≤NB) :=
 Gv bulk_ok Tryz.underlying56 (m:=5) (by kernel_rfl) (fun _=>rfl) oNf
theorem oSk:Op enc w 151 Bw (fun y=>y.path.size≤NB) :=
 (Ee bulk_ok Tryz.underlying151 (L:=3) (by kernel_rfl) (Bv rfl (n:=1) (by kernel_rfl) oS (Bv rfl (n:=1) (by kernel_rfl) oI (Bv rfl (n:=1) (by kernel_rfl) oI Fs)))).to
  (fun p=>(⟨p.1,p.2.1,p.2.2.1⟩:Sk)) (fun _ h=>⟨rfl,h.1⟩)
theorem oSks:Op enc w 57 (fun l:List Sk=>[sl Bw l]) (fun l=>l.length≤NB∧∀y∈l,y.path.size≤NB) :=
 Gv bulk_ok Tryz.underlying57 (m:=2) (by kernel_rfl) (fun _=>rfl) oSk
abbrev OkAn(a:An):Prop:=a.sel.length≤NB∧a.infs.length≤NB∧a.skips.length≤NB
theorem oAn:Op enc w 59 Jb OkAn :=
 (Ee bulk_ok Tryz.underlying59 (L:=4) (by kernel_rfl) (Bv rfl (n:=1) (by kernel_rfl) oB (Bv rfl (n:=1) (by kernel_rfl) oSls (Bv rfl (n:=1) (by kernel_rfl) oNfs
  (Bv rfl (n:=1) (by kernel_rfl) oSks Fs))))).to
  (fun p=>(⟨p.1,p.2.1,p.2.2.1,p.2.2.2.1⟩:An)) (fun _ h=>⟨rfl,h.2.1.1,h.2.2.1.1,h.2.2.2.1.1⟩)
theorem few_of{n:Nat}(h:n≤NB):n≤1073741824:=Bh h (by decide)
theorem lim_of{x:List Rl}{roots:List Rq}(h:x.length≤NB∧∀r∈x,OkRl r)(k:OkRqs roots):lh x roots where
 ix:=few_of h.1
 rs:=few_of k.1
 rel r hr:=⟨few_of (h.2 r hr).2.1,few_of (h.2 r hr).1,fun q hq=>⟨few_of ((h.2 r hr).2.2 q hq).2,few_of ((h.2 r hr).2.2 q hq).1⟩⟩
 rq q hq:=⟨few_of (k.2 q hq).2,few_of (k.2 q hq).1⟩
end

theorem ok_agg{P:Program}{W:World}{base:Nat}{t:TypeId}{v:Value}{fs:Array Field}(hu:P.underlying t=some (.struct fs))(h:Value.okWide P W .any base t v):∃cs,v=.agg cs:=by
 unfold Value.okWide at h
 rw[hu]at h
 obtain⟨cs,e,_⟩:=h
 exact⟨cs,e⟩
theorem ok_slice{P:Program}{W:World}{base:Nat}{t e:TypeId}{v:Value}(hu:P.underlying t=some (.slice e))(h:Value.okWide P W .any base t v):v.oneCell'=true:=by
 unfold Value.okWide at h
 rw[hu]at h
 unfold Cell.okWide Cell.ok at h
 rw[hu]at h
 cases v<;>first | rfl | simp at h
theorem ok_int{P:Program}{W:World}{base:Nat}{t:TypeId}{k:IntKind}{v:Value}(hu:P.underlying t=some (.int k))(h:Value.okWide P W .any base t v):v.oneCell'=true:=by
 unfold Value.okWide at h
 rw[hu]at h
 unfold Cell.okWide Cell.ok at h
 rw[hu]at h
 cases v<;>first | rfl | simp at h
theorem int_of_shape{P:Program}{w:World}{g:Nat}{t:TypeId}{k:IntKind}{zero:Array Value}(h:w.ShapedOpen P)(hg:g<P.globals.size)
  (h0:((begin P (fun _ _=>0) default).world.heap[g]?).bind Obj.row?=some (zero,t)) (hz:zero.size=1)
  (hb:P.buildable t=true) (hc:P.cellTypes P.depth t=some [t]) (hu:P.underlying t=some (.int k)):∃p,w.cell? ⟨g,0,none⟩=some (.int k p):=by
 obtain⟨cs,hh,hs,hr⟩:=h.1 g zero t hg h0
 obtain⟨ts,x7,_,HW⟩:=hr hb
 rw[hc]at x7
 cases x7
 have h1:0<cs.size:=by omega
 obtain⟨u,fN,F3⟩:=HW 0 cs[0] (by simp[h1])
 have:u=t:=by simpa using fN.symm
 subst this
 have CY:w.cell? ⟨g,0,none⟩=some cs[0]:=by simp[World.cell?,hh,h1]
 rw[CY]
 unfold Cell.ok at F3
 rw[hu]at F3
 cases hv:cs[0]<;>rw[hv]at F3<;>simp at F3
 obtain⟨rfl,_⟩:=F3
 exact⟨_,rfl⟩
theorem maxLen_cell{W:World}(h:W.ShapedOpen Tryz.prog):∃m,W.cell? ⟨0,0,none⟩=some (.int .i64 m) :=
 int_of_shape (t:=3) (zero:=#[.int .i64 0]) h (CB (by kernel_rfl)) (by kernel_rfl) rfl (by kernel_rfl) (by kernel_rfl) Tryz.underlying3

def Still(W W' : World):Prop:=W'.os=W.os∧W'.output=W.output∧W.heap.size≤W'.heap.size∧∀b,b<W.heap.size→W'.heap[b]?=W.heap[b]?
theorem run_true{f:Nat}{args:List AV}{vals:Array Value}{W:World}(hc:PC f args (vb true))(hM:∃m,W.cell? ⟨0,0,none⟩=some (.int .i64 m))(hs:vals.size=args.length)
  (hr:∀(i:Nat) (av:AV) (x:Value),args[i]?=some av→vals[i]?=some x→BF (eX W) W E8 av x):Calls Tryz.prog f vals W fun e W'=>e=.returned (.bool true)∧Still W W':=by
 refine(hc.2 (eX W) W vals hs (fun i av x q1 q2=>(hr i av x q1 q2).up _) (qV hM (fun _ h=>by cases h))).mono fun e W' ⟨v,r,h',g',e1,e2,e3,e4,_⟩=>?_
 subst e1
 obtain⟨rfl,rfl⟩:=e2
 obtain rfl:=e3.v_eq
 exact⟨rfl,e4.os,e4.output,e4.size,fun b hb=>e4.frame b hb (fun r h=>h.elim)⟩
theorem Still.kept{W W' : World}(h:Still W W')(yc:MemPlace→Prop):W.keptBut W' yc:=by
 refine⟨h.1,h.2.1,fun i hi=>?_⟩
 rw[h.2.2.2 i hi]
 cases hh:W.heap[i]? with
 |none=>rfl
 |some o=>cases o<;>simp
theorem Still.same{W W' : World}(h:Still W W'){p:MemPlace}(hp:p.block<W.heap.size):W.sameAt W' p:=by
 cases p with
 |cell b off =>
  show W'.cell? ⟨b,off,none⟩=W.cell? ⟨b,off,none⟩
  unfold World.cell?
  rw[h.2.2.2 b hp]
 |map b=>exact h.2.2.2 b hp
theorem kids:Kids Tryz.prog (· < Tryz.prog.types.size):=kids_rows (by kernel_rfl) (by kernel_rfl)
theorem full:∀t e,t<Tryz.prog.types.size→Tryz.prog.underlying t=some (.slice e)→0<Tryz.prog.cellsOf e:=slices_full_of Tryz.prog (by kernel_rfl)
theorem carry{H:Type}{enc:TypeId×Value→H}{W W' : World}(h:Still W W'):∀{ts:List TypeId} {vs:List Value} {ds:List (DataW H)} {ps:List MemPlace},DataW.TrodAll enc Tryz.prog W 0 (fun _=>true) true ts vs ds ps→DataW.TrodAll enc Tryz.prog W' 0 (fun _=>true) true ts vs ds ps
 | [],[],[],_,e=>e
 |t::ts,v::vs,d::ds,ps,k=>by
  have Dt:=k.lt
  obtain⟨p,q,⟨n,h1⟩,h2,rfl⟩:=k
  exact⟨p,q,⟨n,DataW.trod_carry n _ _ _ h1 (fun x hx=>h.same (Dt x (Bs _ hx)))⟩,carry h h2,rfl⟩
 | [],[],_::_,_,k=>k.elim
 | [],_::_,_,_,k=>k.elim
 |_::_,[],_,_,k=>k.elim
 |_::_,_::_,[],_,k=>k.elim
theorem post_true{H:Type}{enc:TypeId×Value→H}{W W' : World}{f:Func}{s:ChangeSpec}{args:Array Value}{ds:List (DataW H)}{before:List MemPlace}(FK:Still W W')(hv:s.vars=[])
  (hW:DataW.Whole enc Tryz.prog f.params.toList s.vars false W args.toList ds [] before) (hr:f.resultTypes=#[4]) (hT:∀t∈f.params.toList,t<Tryz.prog.types.size) (hs:s.fn H ds={ results:=[.lit (.bool true)],args:=ds }) :
  s.post enc Tryz.prog f false true false false W args (.bool true) W':=by
 have xt:=hW
 obtain⟨p,q,hA,hV,rfl,hz,_⟩:=hW
 rw[hv]at hV
 have hq:q=[]:=hV
 subst hq
 have Dt:=xt.lt
 have oF:s.fn H (ds++[])={ results:=[.lit (.bool true)],args:=ds }:=by rw[CP];exact hs
 refine⟨ds,[],p++[],[],p,[],xt,?_,?_,?_,FK.kept _,fun h=>by cases h⟩
 ·rw[oF,hr]
  exact⟨[],[],⟨1,by rw[show(Value.bool true).cells.toList=[.bool true]from rfl,DataW.trod_step];unfold DataW.trodStep;rw[Tryz.underlying4]⟩,rfl,rfl⟩
 ·rw[oF]
  exact(carry FK hA).respare kids full hT (fun x hx=>by simpa using Dt x (Bs _ hx))
 ·rw[oF,hv];rfl
end Go.Proofs.YtkmnnpmneamgoaaGreatDoor.joins

namespace Go.Proofs.YtkmnnpmneamgoaaGreatDoor.joins
open Go Go.Eng Go.Proofs Go.ChangeShapes Go.WideShapes Go.ChangeAt Go.RowKit
theorem own:ownKnob Tryz.prog.godebug=none:=by kernel_rfl
def flatD:Nat→DataW Unit→List Value
 |0,_=>[]
 |n+1,.agg l=>l.flatMap (flatD n)
 |_+1,.lit (.int k i)=>[.int k i]
 |_+1,_=>[]
def layIn(d:DataW Unit):Obj→Obj
 |.cells _ t frozen=>.cells (flatD 4 d).toArray t frozen
 |o=>o
noncomputable def laidWorld(os:Os):World :=
 { World.holding Tryz.prog os ⟨#[],#[],[]⟩with heap:=((World.holding Tryz.prog os ⟨#[],#[],[]⟩).heap.modify 1 (layIn Rows.laid_unicode_utf8_first)).modify 2 (layIn Rows.laid_unicode_utf8_acceptRanges) }
abbrev nilV:Value:=.slice none 0 0
theorem arr2{args:Array Value}{a b:Value}(h:args.toList=[a,b]):args=#[a,b]:=by
 cases args;simp_all
theorem arr3{args:Array Value}{a b c:Value}(h:args.toList=[a,b,c]):args=#[a,b,c]:=by
 cases args;simp_all
theorem arr4{args:Array Value}{a b c d:Value}(h:args.toList=[a,b,c,d]):args=#[a,b,c,d]:=by
 cases args;simp_all
theorem arr5{args:Array Value}{a b c d e:Value}(h:args.toList=[a,b,c,d,e]):args=#[a,b,c,d,e]:=by
 cases args;simp_all
theorem looksOff:false=Tryz.pinned.checked.prog.looks []:=by kernel_rfl
theorem noStand:∀t∈([25,26,3]:List Nat),Tryz.pinned.checked.prog.wantsStandIn t=false:=by
 intro t ht
 simp only[AF,Lx,or_false]at ht
 rcases ht with rfl | rfl | rfl<;>exact(show Tryz.prog.wantsStandIn _=false by kernel_rfl)
end Go.Proofs.YtkmnnpmneamgoaaGreatDoor.joins

namespace Go.Proofs
open Go.Shelf Go.RowKit Go.Lib Go.Sort
abbrev OneC:Type:={v:Value // v.oneCell'=true}
def SlA:Type:=ByteArray×OneC×OneC×OneC
instance:Inhabited SlA:=⟨⟨ByteArray.empty,⟨.bool false,rfl⟩,⟨.bool false,rfl⟩,⟨.bool false,rfl⟩⟩⟩
def encSlA(x:SlA):List Value:=[.string x.1,x.2.1.1,x.2.2.1.1,x.2.2.2.1]
def cfSlA(x y:SlA):Int:=Lib.compareBytes x.1.data.toList y.1.data.toList
abbrev CmpSlA(k:Nat):Prop:=∀(x y:SlA) (W:World),Calls Tryz.prog k #[.agg #[.string x.1,x.2.1.1,x.2.2.1.1,x.2.2.2.1],.agg #[.string y.1,y.2.1.1,y.2.2.1.1,y.2.2.2.1]] W fun e w'=>e=.returned (.int .i64 (cfSlA x y))∧∃q os',w'=grow (W.drewN q) os'
set_option maxHeartbeats 1000000 in
theorem Tryz.closure48:CmpSlA 48:=fun x y W=>by
 have hcon:=fun W'=>Any.strings_Compare Tryz.layCompare x.1 y.1 W';obtain⟨a,⟨b,hb⟩,⟨c,hc⟩,⟨d,hd⟩⟩:=x;obtain⟨a',⟨b',iO⟩,⟨c',jK⟩,⟨d',W7⟩⟩:=y;dsimp only at hcon
 change ∀W',Calls Tryz.prog 49 _ _ _ at hcon
 unfold cfSlA;dsimp only;generalize Lib.compareBytes a.data.toList a'.data.toList=r at hcon⊢
 go_enter Tryz.func48,Tryz.ntmps48
 go_wp2_with (go_at_call 49;refine(hcon _).mono ?_;rintro e w' ⟨rfl,rfl⟩)
 go_ret
 exact⟨rfl,0,_,by rw[alloc_eq_grow,alloc_eq_grow,grow_grow];rfl⟩
set_option maxHeartbeats 1000000 in
theorem Tryz.closure65:CmpSlA 65:=fun x y W=>by
 have hcon:=fun W'=>Any.strings_Compare Tryz.layCompare x.1 y.1 W';obtain⟨a,⟨b,hb⟩,⟨c,hc⟩,⟨d,hd⟩⟩:=x;obtain⟨a',⟨b',iO⟩,⟨c',jK⟩,⟨d',W7⟩⟩:=y;dsimp only at hcon
 change ∀W',Calls Tryz.prog 49 _ _ _ at hcon
 unfold cfSlA;dsimp only;generalize Lib.compareBytes a.data.toList a'.data.toList=r at hcon⊢
 go_enter Tryz.func65,Tryz.ntmps65
 go_wp2_with (go_at_call 49;refine(hcon _).mono ?_;rintro e w' ⟨rfl,rfl⟩)
 go_ret
 exact⟨rfl,0,_,by rw[alloc_eq_grow,alloc_eq_grow,grow_grow];rfl⟩
end Go.Proofs
namespace Go.Eng
open Go.Proofs Go.Shelf Go.RowKit Go.Lib Go.Sort
theorem ab(x y:SlA):ltOf cfSlA x y=FV x.1 y.1:=SQ _ _
theorem iw:SWO (ltOf cfSlA) where
 irrefl x:=by rw[ab];exact DM _
 trans x y z h1 h2:=by rw[ab]at *;exact EN h1 h2
 ntrans x y z h1 h2:=by
  rw[ab]at *
  rw[AL];intro h;cases oK:FV y.1 x.1 with
  |true=>have:=EN oK h;rw[h2]at this;cases this
  |false =>
   have e:=JC h1 oK;rw[e]at h;rw[h2]at h;cases h
theorem s92(k:Nat)(hc:CmpSlA k)(eg:∀args w,(callFunc k args).run Tryz.prog w=.ok (.enter k args) w)(l:List Sl)(hl:Cv l)(lim:Nat)(Xh:lim<100) :
  Bn Tryz.prog 92 [.msl 1000 l.length,vi 0,vi l.length,vi lim,.v (GC k)] (Ad [(1000,.arr 4 (l.map Aq))] Aa) fun r h' =>
   r=.tup []∧∃l' : List Sl,l'.Perm l∧l'.Pairwise (fun x y=>FV y.path x.path=false)∧h'=Ad [(1000,.arr 4 (l'.map Aq))] Aa:=by
 have hl:l.length≤1073741824:=hl;have hE:Gb Tryz.prog 92:=eB 92 Tryz.func92 (by kernel_rfl) rfl;have Ik:=I8 (P:=Tryz.prog) (f:=92) (α:=SlA) (rest:=[.int .i64 0,.int .i64 l.length,.int .i64 lim,GC k]) hE Aq encSlA (k:=4) (fun _=>rfl) (fun _=>rfl) (ltOf cfSlA) (fun x a=>a.1=x.path) l (by omega) ?_ ?_ ?_
 ·refine⟨hE,fun g w vals q1 q2 q3=>(Ik.2 g w vals q1 q2 q3).mono fun _ _ ⟨v,r,h',g',e1,⟨e2,l',p1,⟨al,a1,a2,a3⟩,p2⟩,rest⟩=>⟨v,r,h',g',e1,⟨e2,l',p1,?_,p2⟩,rest⟩⟩;rw[Bb]at a3⊢;intro i j hi hj Qs
  have:=a3 i j (by omega) (by omega) Qs
  rw[ab]at this;have e1:=a2 i _ _ (Ge hi) (Ge (by omega));have e2:=a2 j _ _ (Ge hj) (Ge (by omega));rw[←e1,←e2];exact this
 ·intro x hx g w vs hr
  match vs,hr with
  | [a,b,c,d],hr =>
   have h1:=(hr.2.2 0 (Go.Eng.vs x.path) a rfl rfl).v_eq;subst h1;exact⟨⟨x.path,⟨b,hr.2.1 b (by simp)⟩,⟨c,hr.2.1 c (by simp)⟩,⟨d,hr.2.1 d (by simp)⟩⟩,rfl,rfl⟩
  | [],hr=>have:=hr.1;simp at this
  | [_],hr=>have:=hr.1;simp at this
  | [_,_],hr=>have:=hr.1;simp at this
  | [_,_,_],hr=>have:=hr.1;simp at this
  |_::_::_::_::_::_,hr=>have:=hr.1;simp at this
 ·intro w b cap d hH hb Ew hdl;have fp:CmpLays Tryz.prog k #[] encSlA 4 cfSlA b 0 d.size w:=fun _ _ _ _ x y=>hc x y _;have hp:=AnyQ.pdqsortCmpFunc_all Tryz.layPdqSel 4 Tryz.isAgg51 Tryz.sizeOf51 encSlA cfSlA k #[] iw b 0 cap d w eg fp ⟨fun _=>rfl,fun x v hv=>by
    simp only[encSlA,AF,Lx,or_false]at hv;rcases hv with rfl | rfl | rfl | rfl
    ·rfl
    ·exact x.2.1.2
    ·exact x.2.2.1.2
    ·exact x.2.2.2.2,hH,hb⟩ (d.size+1) 0 d.size lim d w (by omega) rfl (SWK.start hH) (AS _) (Ak _) Ew (by omega) (Or.inl rfl)
  rw[hdl]at hp⊢;refine hp.mono ?_
  rintro e w' ⟨rfl,n,os,rfl⟩
  have h:=pdq_sorts (ltOf cfSlA) iw d 0 d.size lim true true (AS _) (Ak _) (Or.inl rfl);rw[hdl]at h;exact⟨rfl,_,n,os,h.1,h.2,rfl⟩
 ·intro e w;subst e;exact AnyF.pdqsortCmpFunc_none Tryz.layPdqSel none 0 lim (GC k) w
theorem Ub{l l' : List Sl}(h1:Vm l)(h2:Vm l')(hm:∀y,y∈l↔y∈l'):l=l':=by
 induction l generalizing l' with
 |nil =>
  cases l' with
  |nil=>rfl
  |cons y l'=>have:=(hm y).2 (Ab ..);cases this
 |cons x l ih =>
  cases l' with
  |nil=>have:=(hm x).1 (Ab ..);cases this
  |cons y l' =>
   obtain⟨a1,a2⟩:=Dh.1 h1;obtain⟨b1,b2⟩:=Dh.1 h2;have e:x=y:=by
    rcases AF.1 ((hm x).1 (Ab ..))with e | e
    ·exact e
    ·rcases AF.1 ((hm y).2 (Ab ..))with e2 | e2
     ·exact e2.symm
     ·have c1:=b1 x e;have c2:=a1 y e2
      have:=EN c1 c2
      rw[DM]at this;cases this
   subst e
   congr 1
   refine ih a2 b2 fun z=>⟨fun hz=>?_,fun hz=>?_⟩
   ·rcases AF.1 ((hm z).1 (Ag _ hz))with e | e
    ·subst e
     have:=a1 z hz
     rw[DM]at this;cases this
    ·exact e
   ·rcases AF.1 ((hm z).2 (Ag _ hz))with e | e
    ·subst e
     have:=b1 z hz
     rw[DM]at this;cases this
    ·exact e
theorem iq{l l' : List Sl}(hn:(l.map (·.path)).Nodup)(hp:l'.Perm l)(hs:l'.Pairwise fun x y=>FV y.path x.path=false):l'=Dd l:=by
 refine Ub ?_ (PR hn) fun y=>by rw[hp.mem_iff,H1]
 have Xk : (l'.map (·.path)).Nodup:=(hp.map (·.path)).nodup_iff.2 hn;show l'.Pairwise _;rw[Bb]at hs⊢;intro i j hi hj Qs;cases hb:FV l'[i].path l'[j].path with
 |true=>rfl
 |false =>
  have e:=JC hb (hs i j hi hj Qs)
  have:=(Bb.1 Xk) i j (by simpa using hi) (by simpa using hj) Qs
  simp at this;exact absurd e this
theorem yu(k:Nat)(hc:CmpSlA k)(eg:∀args w,(callFunc k args).run Tryz.prog w=.ok (.enter k args) w)(l:List Sl)(hl:Cv l)(hn:(l.map (·.path)).Nodup) :
  Bn Tryz.prog 47 [.msl 1000 l.length,.v (GC k)] (Ad [(1000,.arr 4 (l.map Aq))] Aa) fun r h' =>
   r=.tup []∧h'=Ad [(1000,.arr 4 ((Dd l).map Aq))] Aa:=by
 obtain⟨lim,Xh,hb⟩:=mi l.length hl;refine BD (Iv FC) [(1000,1000)] rfl BS hm rfl Tryz.func47 (by kernel_rfl) rfl (Nz rfl) (by kernel_rfl) rfl ?_;refine Xi .pure (Xi _ (Yi (hb) ?_));refine Xi (.gen [(1000,1000)] 0) (Yi rfl ((s92 k hc eg l hl lim Xh).imp ?_));intro r h' hq;refine BC hq.2 (fun l' Pp=>?_);have e:=iq hn Pp.1 Pp.2.1;refine Xi (.tup []) (Yi ?_ (Yi rfl ?_))
 ·exact .refl _
 ·rw[Pp.2.2,e];rfl
end Go.Eng

namespace Go.Eng
open Go.Proofs
abbrev rh(n:Nat):O3:=⟨[],[],[(2,n),(5,n)],[],[],[],[5],[],[],[],[2,3]⟩
theorem rL(l:List Sl)(hl:Cv l):Bn Tryz.prog 46 [sl Aq l] (Ad [] Aa) fun r h'=>r=.msl 2000 l.length∧h'=Ad [(2000,.arr 4 (l.map Aq))] Aa:=by
 refine BD (Iv (rh 4)) [(2,2000)] rfl BS hm rfl Tryz.func46 (by kernel_rfl) rfl (Nz rfl) (by kernel_rfl) rfl ?_;have Ei:BY 4 (l.map Aq)∧([]:List (List AV)).length=0∧(([]:List (List AV)).length+(l.map Aq).length)*40≤140737488355328∧([]:List (List AV)).length+(l.map Aq).length≤9223372036854775807:=by
  refine⟨Es (enc:=Aq) (n:=4) (fun _=>rfl) l,rfl,?_,?_⟩<;>simp only[Ar,Lm]<;>unfold Cv at hl<;>omega
 have e1:AV.msl 2000 (([]:List (List AV)).length+(l.map Aq).length)=.msl 2000 l.length:=by simp
 refine Xi 0 ?_;refine Xi 0 ?_;refine Yi ?_ ?_
 ·intro _;refine Xi ⟨[(0,sl Aq l)],[],Aa⟩ (Yi ⟨Z1,Tv,Fh,Aj (by kernel_rfl)⟩ ?_)
  refine Xi 2 ?_;refine Yi Ei ?_;exact Xi _ (Yi (.refl _) (Yi e1 rfl))
 ·intro h;have h:l.map Aq=[]:=h;refine Yi ?_ ?_
  ·refine Xi ⟨[],[],Aa⟩ (Yi ⟨trivial,trivial,fun _=>.inl rfl,Aj (by kernel_rfl)⟩ ?_)
   refine Xi 2 ?_;exact Xi _ (Yi (.refl _) (Yi (show AV.msl 2000 0=_ by rw[EE.1 h];rfl) (show Ad [(2000,HO.arr 4 [])] Aa=_ by rw[h])))
  ·refine Xi ⟨[(0,sl Aq l)],[],Aa⟩ (Yi ⟨Z1,Tv,Fh,Aj (by kernel_rfl)⟩ ?_)
   refine Xi 2 ?_;refine Yi Ei ?_;exact Xi _ (Yi (.refl _) (Yi e1 rfl))
end Go.Eng

namespace Go.Eng
open Go.Proofs
abbrev Au(c:Cd):List AV:=vi c.place::A5 c.rel
abbrev AQ(n:Nd):List AV:=[vs n.rq.path,sl Ap n.rq.set,vs n.path,vi n.place,vi n.number]
abbrev AP(l:List Sk):List AV:=[sl Bw l]
abbrev Bz(i:Nat):List AV:=[vi (i:Nat)]
def Dj:Ez:=⟨true,[.int .i64,.str,.int .i64,.int .i64,.int .i64,.int .i64]⟩
def Jh(i:Nf):Value:=.agg [.int .i64 i.kind,.string i.path,.int .i64 i.place,.int .i64 i.number,.int .i64 i.left,.int .i64 i.right].toArray
def DT:Nat→List Nf→List (Value×AV)
 |_,[]=>[]
 |k,i::l=>(Jh i,vi (k:Nat))::DT (k+1) l
abbrev OX(roots:List Rq)(C A:List (Value×AV))(s:SS)(dec:List Cd)(n:Nat):List AV :=
 [sl Ah roots,.cmap Dv C,.cmap Dv A,.slice (.id 1001 6) (s.infs.map AU),.slice (.id 1002 1) (s.drv.map AG),.mref 1003,vb s.full,sl Au dec,sl Aq (Ax dec),.msl 1004 n]
abbrev srM(roots:List Rq)(C A:List (Value×AV))(s:SS)(dec:List Cd)(k n:Nat):List AV :=
 [sl Ah roots,.cmap Dv C,.cmap Dv A,.slice (.id 1001 6) (s.infs.map AU),.slice (.id 1002 1) (s.drv.map AG),.mref 1003,vb s.full,sl Au dec,sl Aq (Ax dec),.msl k n]
abbrev HL(roots:List Rq)(C A:List (Value×AV))(s:SS)(dec:List Cd)(st:List (List Sk)):List (Nat×HO) :=
 [(1000,.cells (OX roots C A s dec st.length)),(1001,.tok 6 s.infs.length),(1002,.tok 1 s.drv.length),(1003,.map Dj (DT 0 s.infs)),(1004,.arr 1 (st.map AP))]
theorem wM{fF:Nat}{caps:List AV}(hs:ER caps)(l:List (Cd))(p:Cd→Bool)(hF:∀x∈l,PC fF ([.agg (Au x)]++caps) (vb (p x)))(hl:l.length<9223372036854775807) :
  PC 217 [sl Au l,.clo fF caps] (vi (Jz p l 0)):=by
 refine Ps FC Tryz.func217 rfl (Nz rfl) ?_;refine Xi {i:Nat // i≤l.length∧∀j (hj:j<l.length),j<i→p l[j]=false} (Xi (fun i=>⟨[(0,sl Au l),(1,.clo fF caps),(7,vi (l.map Au).length),(8,vi i.1)],[],Aa⟩) (Xi (fun i=>l.length-i.1) (Yi (Xi ⟨0,by simp⟩ ?_) ?_)))
 ·exact⟨⟨Zr,⟨rfl,hs.ids _⟩,Zr,Zr,Tv⟩,Tv,Fh,Tv⟩
 ·intro⟨i,h1,h2⟩;refine Yi ?_ ?_
  ·intro h;have h:(i:Int)<(l.map Au).length:=h;have h:i<l.length:=by simpa using h
   have hg:l[i]?=some l[i]:=Ge h;refine Xi (Au l[i]) (Yi (Yi (Nn i) (by simp[hg])) (Yi rfl (Yi (Nz rfl) ?_)));have DE:∀h,PC fF ([.agg (Au l[i])]++caps.map (str0 h)) (vb (p l[i])):=fun h=>by rw[hs.map];exact hF l[i] (AC _)
   cases hp:p l[i]with
   |true =>
    rw[hp]at DE;refine Xi .pure (Xi (vb true) (Yi (DE _) ?_));rw[Pv h (fun j hj MO=>h2 j hj MO) hp,Kb];exact .refl _
   |false =>
    rw[hp]at DE;refine Xi .pure (Xi (vb false) (Yi (DE _) ?_));refine Yi (Ii i (by omega)) ?_;refine Xi ⟨i+1,by omega,fun j hj MO=>?_⟩ ?_
    ·by_cases e:j=i
     ·subst e;exact hp
     ·exact h2 j hj (by omega)
    ·exact⟨Dl l.length i (by omega),⟨Zr,⟨rfl,hs.ids _⟩,Zr,Zr,Tv⟩,Tv,Fh,Tv⟩
  ·intro h;have h:¬(i:Int)<(l.map Au).length:=h;have h:¬i<l.length:=by simpa using h
   rw[Kx fun j hj=>h2 j hj (by omega)];exact .refl _
theorem yx{fF:Nat}{caps:List AV}(hs:ER caps)(l:List (Nd))(p:Nd→Bool)(hF:∀x∈l,PC fF ([.agg (AQ x)]++caps) (vb (p x)))(hl:l.length<9223372036854775807) :
  PC 86 [sl AQ l,.clo fF caps] (vi (Jz p l 0)):=by
 refine Ps FC Tryz.func86 rfl (Nz rfl) ?_;refine Xi {i:Nat // i≤l.length∧∀j (hj:j<l.length),j<i→p l[j]=false} (Xi (fun i=>⟨[(0,sl AQ l),(1,.clo fF caps),(7,vi (l.map AQ).length),(8,vi i.1)],[],Aa⟩) (Xi (fun i=>l.length-i.1) (Yi (Xi ⟨0,by simp⟩ ?_) ?_)))
 ·exact⟨⟨Zr,⟨rfl,hs.ids _⟩,Zr,Zr,Tv⟩,Tv,Fh,Tv⟩
 ·intro⟨i,h1,h2⟩;refine Yi ?_ ?_
  ·intro h;have h:(i:Int)<(l.map AQ).length:=h;have h:i<l.length:=by simpa using h
   have hg:l[i]?=some l[i]:=Ge h;refine Xi (AQ l[i]) (Yi (Yi (Nn i) (by simp[hg])) (Yi rfl (Yi (Nz rfl) ?_)));have DE:∀h,PC fF ([.agg (AQ l[i])]++caps.map (str0 h)) (vb (p l[i])):=fun h=>by rw[hs.map];exact hF l[i] (AC _)
   cases hp:p l[i]with
   |true =>
    rw[hp]at DE;refine Xi .pure (Xi (vb true) (Yi (DE _) ?_));rw[Pv h (fun j hj MO=>h2 j hj MO) hp,Kb];exact .refl _
   |false =>
    rw[hp]at DE;refine Xi .pure (Xi (vb false) (Yi (DE _) ?_));refine Yi (Ii i (by omega)) ?_;refine Xi ⟨i+1,by omega,fun j hj MO=>?_⟩ ?_
    ·by_cases e:j=i
     ·subst e;exact hp
     ·exact h2 j hj (by omega)
    ·exact⟨Dl l.length i (by omega),⟨Zr,⟨rfl,hs.ids _⟩,Zr,Zr,Tv⟩,Tv,Fh,Tv⟩
  ·intro h;have h:¬(i:Int)<(l.map AQ).length:=h;have h:¬i<l.length:=by simpa using h
   rw[Kx fun j hj=>h2 j hj (by omega)];exact .refl _
theorem rH{fF:Nat}{caps:List AV}(hs:ER caps)(l:List (Cd))(p:Cd→Bool)(hF:∀x∈l,PC fF ([.agg (Au x)]++caps) (vb (p x)))(hl:Cv l) :
  PC 171 [sl Au l,.clo fF caps] (vb (l.any p)):=by
 refine Ps FC Tryz.func171 rfl (Nz rfl) ?_;have hi:=wM hs l p hF (by unfold Cv at hl;omega);have DE:∀h,PC 217 [sl Au l,.clo fF (caps.map (str0 h))] (vi (Jz p l 0)):=fun h=>by rw[hs.map];exact hi
 refine Xi .pure (Xi _ (Yi (DE _) ?_));have ha:=Mu (p:=p) l 0 (BP 0);refine Yi ?_ ?_
 ·intro h;have h:(0:Int)≤Jz p l 0:=h;rw[←ha,AE h];exact .refl _
 ·intro h;have h:¬(0:Int)≤Jz p l 0:=h;rw[←ha,AD h];exact .refl _
theorem s66{fF:Nat}{caps:List AV}(hs:ER caps)(l:List (Nd))(p:Nd→Bool)(hF:∀x∈l,PC fF ([.agg (AQ x)]++caps) (vb (p x)))(hl:Cv l) :
  PC 66 [sl AQ l,.clo fF caps] (vb (l.any p)):=by
 refine Ps FC Tryz.func66 rfl (Nz rfl) ?_;have hi:=yx hs l p hF (by unfold Cv at hl;omega);have DE:∀h,PC 86 [sl AQ l,.clo fF (caps.map (str0 h))] (vi (Jz p l 0)):=fun h=>by rw[hs.map];exact hi
 refine Xi .pure (Xi _ (Yi (DE _) ?_));have ha:=Mu (p:=p) l 0 (BP 0);refine Yi ?_ ?_
 ·intro h;have h:(0:Int)≤Jz p l 0:=h;rw[←ha,AE h];exact .refl _
 ·intro h;have h:¬(0:Int)≤Jz p l 0:=h;rw[←ha,AD h];exact .refl _
theorem nX(l:List Cd)(hl:Cv l):Bn Tryz.prog 70 [sl Au l] (Ad [] Aa) fun r h'=>r=.slice (.id 2000 10) (l.map Au)∧h'=Ad [(2000,.tok 10 (l.map Au).length)] Aa:=by
 refine BD (Iv (rg 10)) [(2,2000)] rfl BS hm rfl Tryz.func70 (by kernel_rfl) rfl (Nz rfl) (by kernel_rfl) rfl ?_;have Ei:BY 10 (l.map Au)∧([]:List (List AV)).length=0∧(([]:List (List AV)).length+(l.map Au).length)*128≤140737488355328∧([]:List (List AV)).length+(l.map Au).length≤9223372036854775807:=by
  refine⟨Es (enc:=Au) (n:=10) (fun _=>rfl) l,rfl,?_,?_⟩<;>simp only[Ar,Lm]<;>unfold Cv at hl<;>omega
 have e2:HO.tok 10 (([]:List (List AV)).length+(l.map Au).length)=.tok 10 (l.map Au).length:=by rw[Ar,Bd]
 have e3:AV.slice (.id 2000 10) ([]++l.map Au)=.slice (.id 2000 10) (l.map Au):=rfl;have full:∀st:St,(∃s:LS,St.le (Iv (rg 10)) st s∧True)→True:=fun _ _=>trivial;refine Xi 0 ?_;refine Xi 0 ?_;refine Yi ?_ ?_
 ·intro _;refine Xi ⟨[(0,sl Au l)],[],Aa⟩ (Yi ⟨Z1,Tv,Fh,Aj (by kernel_rfl)⟩ ?_)
  refine Xi 2 ?_;refine Yi Ei ?_;exact Xi _ (Yi (.refl _) (Yi e3 (Ae (fun o=>Ad [(2000,o)] Aa) e2)))
 ·intro h;have h:l.map Au=[]:=h;refine Yi ?_ ?_
  ·refine Xi ⟨[],[],Aa⟩ (Yi ⟨trivial,trivial,fun _=>.inl rfl,Aj (by kernel_rfl)⟩ ?_)
   refine Xi 0 ?_;exact Xi _ (Yi (.refl _) (Yi (show AV.slice (.id 2000 10) []=_ by rw[h]) (show Ad [(2000,HO.tok 10 0)] Aa=_ by rw[h];rfl)))
  ·refine Xi ⟨[(0,sl Au l)],[],Aa⟩ (Yi ⟨Z1,Tv,Fh,Aj (by kernel_rfl)⟩ ?_)
   refine Xi 2 ?_;refine Yi Ei ?_;exact Xi _ (Yi (.refl _) (Yi e3 (Ae (fun o=>Ad [(2000,o)] Aa) e2)))
end Go.Eng

namespace Go.Eng
open Go.Proofs
theorem Ri:∀{l:List Nf} {k:Nat} {kx:Value} {a:AV},(kx,a)∈DT k l↔∃j i,l[j]?=some i∧kx=Jh i∧a=vi ((k+j:Nat):Int)
 | [],k,kx,a=>by simp[DT]
 |y::l,k,kx,a=>by
  unfold DT;rw[AF,Ri];constructor
  ·rintro(h | ⟨j,i,h1,h2,h3⟩)
   ·cases h;exact⟨0,y,rfl,rfl,rfl⟩
   ·exact⟨j+1,i,h1,h2,by rw[h3,show k+1+j=k+(j+1) by omega]⟩
  ·rintro⟨j,i,h1,h2,h3⟩
   cases j with
   |zero=>cases h1;exact .inl (by rw[h2,h3];rfl)
   |succ j=>exact .inr ⟨j,i,h1,h2,by rw[h3,show k+1+j=k+(j+1) by omega]⟩
theorem UQ{a b:Nf}(h:Jh a=Jh b):a=b:=by
 obtain⟨a1,a2,a3,a4,a5,a6⟩:=a;obtain⟨b1,b2,b3,b4,b5,b6⟩:=b;unfold Jh at h;simp at h;obtain⟨rfl,rfl,rfl,rfl,rfl,rfl⟩:=h
 rfl
theorem qX{l:List Nf}{i:Nf}{k:Nat}(h:LE i 0 l=some k):(Jh i,vi (k:Nat))∈DT 0 l:=by
 obtain⟨j,e,hj⟩:=ME h;exact Ri.2 ⟨j,i,hj,rfl,by rw[e]⟩
theorem kj{l:List Nf}(hn:l.Nodup){i:Nf}{k:Nat}(h:LE i 0 l=some k):∀b,(Jh i,b)∈DT 0 l→b=vi (k:Nat):=fun b hb=>by
 obtain⟨j,e,hj⟩:=ME h;obtain⟨j',i',h1,h2,h3⟩:=Ri.1 hb
 have:=UQ h2
 subst this;obtain⟨a1,a2⟩:=At.1 hj;obtain⟨b1,b2⟩:=At.1 h1
 have:j'=j:=(List.getElem_inj hn).1 (b2.trans a2.symm)
 subst this;rw[h3,e]
theorem lL{l:List Nf}{i:Nf}(h:LE i 0 l=none):∀a,(Jh i,a)∉DT 0 l:=fun a ha=>by
 obtain⟨j,i',h1,h2,_⟩:=Ri.1 ha
 have:=UQ h2
 subst this;exact PH h (Av h1)
theorem ZZ:∀(l:List Nf) (k:Nat) (i:Nf),DT k (l++[i])=DT k l++[(Jh i,vi ((k+l.length:Nat):Int))]
 | [],k,i=>by simp[DT]
 |y::l,k,i=>by
  show(Jh y,_)::DT (k+1) (l++[i])=_;rw[ZZ l (k+1) i];simp[DT,show k+1+l.length=k+(l.length+1) by omega]
theorem nx{l:List Nf}{i:Nf}(h:LE i 0 l=none):E1 (DT 0 l) (Jh i) (vi ((l.map AU).length:Int))=DT 0 (l++[i]):=by
 rw[Md (lL h),ZZ,Lm,Bd]
theorem Wx{s:SS}{i:Nf}{l:List Tm}{k:Nat}(h:LE i 0 s.infs=some k):DG s i l=(k,s):=by unfold DG;rw[h]
theorem Uj{s:SS}{i:Nf}{l:List Tm}(h:LE i 0 s.infs=none)(hf:65536≤s.infs.length):DG s i l=(s.infs.length-1,⟨s.infs,s.drv,true⟩):=by unfold DG;rw[h];exact Aw hf
theorem Wv{s:SS}{i:Nf}{l:List Tm}(h:LE i 0 s.infs=none)(hf:¬65536≤s.infs.length):DG s i l=(s.infs.length,⟨s.infs++[i],s.drv++[l],s.full⟩):=by unfold DG;rw[h];exact Am hf
section
variable {roots:List Rq}{C A:List (Value×AV)}{s s' : SS}{dec:List Cd}{st:List (List Sk)}{i:Nf}{l:List Tm}
theorem dI{k:Nat}{z:Int}(e:DG s i l=(k,s'))(hz:z=k):vi z=vi ((DG s i l).1:Nat)∧Ad (HL roots C A s' dec st) Aa=Ad (HL roots C A (DG s i l).2 dec st) Aa:=by rw[e,hz];exact Zr
theorem o0(h:LE i 0 s.infs=none):Ad [(1000,.cells [sl Ah roots,.cmap Dv C,.cmap Dv A,.slice (.id 1001 6) (s.infs.map AU++[AU i]),.slice (.id 1002 1) (s.drv.map AG++[AG l]),.mref 1003,vb s.full,sl Au dec,sl Aq (Ax dec),.msl 1004 st.length]),
      (1001,.tok 6 ((s.infs.map AU).length+[AU i].length)),(1002,.tok 1 ((s.drv.map AG).length+[AG l].length)),(1003,.map Dj (E1 (DT 0 s.infs) (Jh i) (vi ((s.infs.map AU).length:Int)))),(1004,.arr 1 (st.map AP))] Aa=Ad (HL roots C A ⟨s.infs++[i],s.drv++[l],s.full⟩ dec st) Aa:=by
  have e1:s.infs.map AU++[AU i]=(s.infs++[i]).map AU:=by simp
  have e2:s.drv.map AG++[AG l]=(s.drv++[l]).map AG:=by simp
  have e3:(s.infs.map AU).length+[AU i].length=(s.infs++[i]).length:=by simp
  have e4:(s.drv.map AG).length+[AG l].length=(s.drv++[l]).length:=by simp
  rw[e1,e2,e3,e4,nx h]
end
theorem rI(c:Cd)(p:ByteArray):PC 172 [.agg (Au c),.cptr [vs p]] (vb (decide (c.rel.path=p))):=by
 refine Ps ⟨[2],[],[],[],[],[],[],[],[],[],[]⟩ Tryz.func172 rfl (Nz rfl) ?_;refine Yi (fun h1=>?_) (fun h1=>?_)
 ·have h1:(c.rel.path:ByteArray)=p:=h1;exact .of_eq (show vb true=vb (decide (c.rel.path=p)) by rw[AE h1])
 have h1:¬(c.rel.path:ByteArray)=p:=h1;exact .of_eq (show vb false=vb (decide (c.rel.path=p)) by rw[AD h1])
theorem rG(t:Tm)(p:ByteArray):PC 136 [.agg (AA t),.cptr [vs p]] (vb (decide (t.path=p))):=by
 refine Ps ⟨[2],[],[],[],[],[],[],[],[],[],[]⟩ Tryz.func136 rfl (Nz rfl) ?_;refine Yi (fun h1=>?_) (fun h1=>?_)
 ·have h1:(t.path:ByteArray)=p:=h1;exact .of_eq (show vb true=vb (decide (t.path=p)) by rw[AE h1])
 have h1:¬(t.path:ByteArray)=p:=h1;exact .of_eq (show vb false=vb (decide (t.path=p)) by rw[AD h1])
theorem iZ(l:List Tm)(p:ByteArray)(hl:Cv l):PC 90 [sl AA l,vs p] (vb (Cq l p)):=by
 refine Ps ⟨[3],[],[],[],[],[],[],[],[],[],[]⟩ Tryz.func90 rfl (Nz rfl) ?_;refine Cy (Bt (Cq l p)) (fun h1=>?_) (fun h1=>?_)
 ·have h1:(Cq l p)=true:=h1;have Re:=(show PC 135 [sl AA l,.clo 136 [.cptr [vs p]]] (vb (Cq l p))from ml (fF:=136) (caps:=[.cptr [vs p]]) (fun c hc=>by obtain rfl:=Ai.1 hc;intro h;rfl) l (fun t=>decide (t.path=p)) (fun t _=>rG t p) hl);rw[show(Cq l p)=true from h1]at Re;refine Xi .pure (Xi _ (Yi Re ?_));exact .of_eq (show vb true=vb (Cq l p) by rw[h1])
 have h1:(Cq l p)=false:=h1;have fo:=(show PC 135 [sl AA l,.clo 136 [.cptr [vs p]]] (vb (Cq l p))from ml (fF:=136) (caps:=[.cptr [vs p]]) (fun c hc=>by obtain rfl:=Ai.1 hc;intro h;rfl) l (fun t=>decide (t.path=p)) (fun t _=>rG t p) hl);rw[show(Cq l p)=false from h1]at fo;refine Xi .pure (Xi _ (Yi fo ?_));exact .of_eq (show vb false=vb (Cq l p) by rw[h1])
theorem rF(roots:List Rq)(C A:List (Value×AV))(s:SS)(dec:List Cd)(st:List (List Sk))(p:ByteArray)(hl:Cv dec):Bn Tryz.prog 118 [.ref 1000 0,vs p] (Ad (HL roots C A s dec st) Aa) fun r h'=>r=vb (CD dec p)∧h'=Ad (HL roots C A s dec st) Aa:=by
 refine BD (Iv ⟨[3],[],[],[],[],[],[],[],[],[],[]⟩) [(1000,1000),(1001,1001),(1002,1002),(1003,1003),(1004,1004)] rfl BS hm rfl Tryz.func118 (by kernel_rfl) rfl (Nz rfl) (by kernel_rfl) rfl ?_;refine Cy (Bt (CD dec p)) (fun h1=>?_) (fun h1=>?_)
 ·have h1:(CD dec p)=true:=h1;have Re:=(show PC 171 [sl Au dec,.clo 172 [.cptr [vs p]]] (vb (CD dec p))from rH (fF:=172) (caps:=[.cptr [vs p]]) (fun c hc=>by obtain rfl:=Ai.1 hc;intro h;rfl) dec (fun c=>decide (c.rel.path=p)) (fun c _=>rI c p) hl);rw[show(CD dec p)=true from h1]at Re;refine Xi .pure (Xi _ (Yi Re ?_));exact Xi _ (Yi (.refl _) (Yi (show vb true=vb (CD dec p) by rw[h1]) rfl))
 have h1:(CD dec p)=false:=h1;have fo:=(show PC 171 [sl Au dec,.clo 172 [.cptr [vs p]]] (vb (CD dec p))from rH (fF:=172) (caps:=[.cptr [vs p]]) (fun c hc=>by obtain rfl:=Ai.1 hc;intro h;rfl) dec (fun c=>decide (c.rel.path=p)) (fun c _=>rI c p) hl);rw[show(CD dec p)=false from h1]at fo;refine Xi .pure (Xi _ (Yi fo ?_));exact Xi _ (Yi (.refl _) (Yi (show vb false=vb (CD dec p) by rw[h1]) rfl))
set_option maxHeartbeats 4000000 in
theorem kV(roots:List Rq)(C A:List (Value×AV))(s:SS)(dec:List Cd)(st:List (List Sk))(i:Nf)(l:List Tm)(k:Nat)(hk:LE i 0 s.infs=some k)(Pq:s.infs.Nodup):Bn Tryz.prog 132 [.ref 1000 0,.agg (AU i),sl AA l] (Ad (HL roots C A s dec st) Aa) fun r h'=>r=vi ((DG s i l).1:Nat)∧h'=Ad (HL roots C A (DG s i l).2 dec st) Aa:=by
 refine BD (Iv ⟨[4],[],[],[],[],[],[],[],[],[],[2,5,7,8,9,10,11]⟩) [(1000,1000),(1001,1001),(1002,1002),(1003,1003),(1004,1004)] rfl BS hm rfl Tryz.func132 (by kernel_rfl) rfl (Nz rfl) (by kernel_rfl) rfl ?_;refine Yi (Nz rfl) ?_;refine Or.inl (Xi (vi (k:Nat)) (Yi (Yi (qX hk) (kj Pq hk)) ?_));refine Yi (by kernel_rfl) ?_;refine Xi ⟨[(0,.ref 1000 0),(2,sl AA l),(4,.ref 4 0),(7,vi (k:Nat)),(8,vb true)],[(4,.ro (AU i)),(1000,.cells (srM roots C A s dec 1004 st.length)),(1001,.tok 6 s.infs.length),(1002,.tok 1 s.drv.length),(1003,.map Dj (DT 0 s.infs)),(1004,.arr 1 (st.map AP))],Aa⟩ (Yi ⟨Z5,Z6,Fh,Aj (by kernel_rfl)⟩ ?_)
 exact Xi _ (Yi (.refl _) (dI (Wx hk) rfl))
set_option maxHeartbeats 4000000 in
theorem kU(roots:List Rq)(C A:List (Value×AV))(s:SS)(dec:List Cd)(st:List (List Sk))(i:Nf)(l:List Tm)(hk:LE i 0 s.infs=none)(hn:s.infs.length≤65536)(hdl:s.drv.length=s.infs.length):Bn Tryz.prog 132 [.ref 1000 0,.agg (AU i),sl AA l] (Ad (HL roots C A s dec st) Aa) fun r h'=>r=vi ((DG s i l).1:Nat)∧h'=Ad (HL roots C A (DG s i l).2 dec st) Aa:=by
 have hdn:s.drv.length≤65536:=by omega
 have uU:(s.infs.map AU).length=s.infs.length:=Lm _;refine BD (Iv ⟨[4],[],[],[],[],[],[],[],[],[],[2,5,7,8,9,10,11]⟩) [(1000,1000),(1001,1001),(1002,1002),(1003,1003),(1004,1004)] rfl BS hm rfl Tryz.func132 (by kernel_rfl) rfl (Nz rfl) (by kernel_rfl) rfl ?_;refine Yi (Nz rfl) ?_;refine Or.inr (Yi (lL hk) ?_);refine Yi (by kernel_rfl) ?_;refine Xi ⟨[(0,.ref 1000 0),(2,sl AA l),(4,.ref 4 0),(7,vi 0),(8,vb false)],[(4,.ro (AU i)),(1000,.cells (srM roots C A s dec 1004 st.length)),(1001,.tok 6 s.infs.length),(1002,.tok 1 s.drv.length),(1003,.map Dj (DT 0 s.infs)),(1004,.arr 1 (st.map AP))],Aa⟩ (Yi ⟨Z5,Z6,Fh,Aj (by kernel_rfl)⟩ ?_)
 refine Yi (fun h1=>?_) (fun h1=>?_)
 ·have h1:(65536:Int)≤((s.infs.map AU).length:Int):=h1;refine Xi ⟨[(0,.ref 1000 0)],[(1000,.cells (srM roots C A s dec 1004 st.length)),(1001,.tok 6 s.infs.length),(1002,.tok 1 s.drv.length),(1003,.map Dj (DT 0 s.infs)),(1004,.arr 1 (st.map AP))],Aa⟩ (Yi ⟨Z1,Z5,Fh,Aj (by kernel_rfl)⟩ ?_)
  refine Yi (Nz rfl) ?_;refine Yi (by show BQ (((s.infs.map AU).length:Int)-(1:Int));unfold BQ;omega) ?_;exact Xi _ (Yi (.refl _) (dI (Uj hk (by have q:=h1;rw[Lm]at q;omega)) (by have q:=h1;rw[Lm]at q⊢;omega)))
 have h1:¬((65536:Int)≤((s.infs.map AU).length:Int)):=h1;refine Xi ⟨[(0,.ref 1000 0),(2,sl AA l),(4,.ref 4 0)],[(4,.ro (AU i)),(1000,.cells (srM roots C A s dec 1004 st.length)),(1001,.tok 6 s.infs.length),(1002,.tok 1 s.drv.length),(1003,.map Dj (DT 0 s.infs)),(1004,.arr 1 (st.map AP))],Aa⟩ (Yi ⟨Z3,Z6,Fh,Aj (by kernel_rfl)⟩ ?_)
 refine Xi ⟨[(0,.ref 1000 0),(2,sl AA l),(4,.ref 4 0),(9,vi (s.infs.map AU).length)],[(4,.ro (AU i)),(1000,.cells (srM roots C A s dec 1004 st.length)),(1001,.tok 6 s.infs.length),(1002,.tok 1 s.drv.length),(1003,.map Dj (DT 0 s.infs)),(1004,.arr 1 (st.map AP))],Aa⟩ (Yi ⟨Z4,Z6,Fh,Aj (by kernel_rfl)⟩ ?_)
 refine Yi (Nz rfl) ?_;refine Yi (by kernel_rfl) ?_;refine Xi ⟨[(0,.ref 1000 0),(2,sl AA l),(4,.ref 4 0),(9,vi (s.infs.map AU).length)],[(4,.ro (AU i)),(1000,.cells (srM roots C A s dec 1004 st.length)),(1001,.tok 6 s.infs.length),(1002,.tok 1 s.drv.length),(1003,.map Dj (E1 (DT 0 s.infs) (Jh i) (vi (s.infs.map AU).length))),(1004,.arr 1 (st.map AP))],Aa⟩ (Yi ⟨Z4,Z6,Fh,Aj (by kernel_rfl)⟩ ?_)
 refine Yi (Nz rfl) ?_;have b3:BY 6 [(AU i)]∧(s.infs.map AU).length=s.infs.length∧((s.infs.map AU).length+([(AU i)]:List (List AV)).length)*56≤140737488355328∧(s.infs.map AU).length+([(AU i)]:List (List AV)).length≤9223372036854775807:=⟨⟨rfl,trivial⟩,(by rw[Lm]),(by simp only[Lm,Al,Ar];omega),(by simp only[Lm,Al,Ar];omega)⟩;refine Yi b3 ?_;refine Yi (Nz rfl) ?_;refine Yi (by kernel_rfl) ?_;refine Xi ⟨[(0,.ref 1000 0),(2,sl AA l),(9,vi (s.infs.map AU).length)],[(1000,.cells [sl Ah roots,.cmap Dv C,.cmap Dv A,.slice (.id 1001 6) ((s.infs.map AU)++[(AU i)]),.slice (.id 1002 1) (s.drv.map AG),.mref 1003,vb s.full,sl Au dec,sl Aq (Ax dec),.msl 1004 st.length]),(1001,.tok 6 ((s.infs.map AU).length+([(AU i)]:List (List AV)).length)),(1002,.tok 1 s.drv.length),(1003,.map Dj (E1 (DT 0 s.infs) (Jh i) (vi (s.infs.map AU).length))),(1004,.arr 1 (st.map AP))],Aa⟩ (Yi ⟨Z3,Z5,Fh,Aj (by kernel_rfl)⟩ ?_)
 have b4:BY 1 [[sl AA l]]∧(s.drv.map AG).length=s.drv.length∧((s.drv.map AG).length+([[sl AA l]]:List (List AV)).length)*24≤140737488355328∧(s.drv.map AG).length+([[sl AA l]]:List (List AV)).length≤9223372036854775807:=⟨⟨rfl,trivial⟩,(by rw[Lm]),(by simp only[Lm,Al,Ar];omega),(by simp only[Lm,Al,Ar];omega)⟩;refine Yi b4 ?_;refine Yi (Nz rfl) ?_;refine Xi ⟨[(9,vi (s.infs.map AU).length)],[(1000,.cells [sl Ah roots,.cmap Dv C,.cmap Dv A,.slice (.id 1001 6) ((s.infs.map AU)++[(AU i)]),.slice (.id 1002 1) ((s.drv.map AG)++[[sl AA l]]),.mref 1003,vb s.full,sl Au dec,sl Aq (Ax dec),.msl 1004 st.length]),(1001,.tok 6 ((s.infs.map AU).length+([(AU i)]:List (List AV)).length)),(1002,.tok 1 ((s.drv.map AG).length+([[sl AA l]]:List (List AV)).length)),(1003,.map Dj (E1 (DT 0 s.infs) (Jh i) (vi (s.infs.map AU).length))),(1004,.arr 1 (st.map AP))],Aa⟩ (Yi ⟨Z1,Z5,Fh,Aj (by kernel_rfl)⟩ ?_)
 have hq:=dI (roots:=roots) (C:=C) (A:=A) (dec:=dec) (st:=st) (z:=((s.infs.map AU).length:Int)) (Wv (l:=l) hk (by have q:=h1;rw[Lm]at q;omega)) (by rw[Lm]);exact Xi _ (Yi (.refl _) (Yi hq.1 ((o0 hk).trans hq.2)))
structure Jv(x:List Rl)(roots:List Rq)(s:SS):Prop where
 der:Fx x roots s
 nodup:s.infs.Nodup
abbrev lS(roots:List Rq)(C A:List (Value×AV))(dec:List Cd)(st:List (List Sk))(o:Nat×SS)(r:AV)(h' : Nat→HO):Prop:=r=vi (o.1:Nat)∧h'=Ad (HL roots C A o.2 dec st) Aa
theorem kT(roots:List Rq)(C A:List (Value×AV))(s:SS)(dec:List Cd)(st:List (List Sk))(i:Nf)(l:List Tm)(hn:s.infs.length≤65536)(hdl:s.drv.length=s.infs.length)(Pq:s.infs.Nodup) :
  Bn Tryz.prog 132 [.ref 1000 0,.agg (AU i),sl AA l] (Ad (HL roots C A s dec st) Aa) (lS roots C A dec st (DG s i l)):=by
 cases hk:LE i 0 s.infs with
 |some k=>exact kV roots C A s dec st i l k hk Pq
 |none=>exact kU roots C A s dec st i l hk hn hdl
end Go.Eng
