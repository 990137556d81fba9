/- Lemmas for the claims of this seat, without a condition: part 31 (V15, J1, J2). -/
import Derived.Test.YtddfphmpfnmknaaGreatDoorA30
import Derived.Test.YtddfphmpfnmknaaGreatDoorCards
import Derived.Test.YtddfphmpfnmknaaGreatDoorTie
import Derived.ProofKit
import Derived.OpenShut
import Derived.Deep.DeepHandedRow
import Derived.Lib.LaidTab
namespace Go.Eng
open Go.Proofs
theorem wm{x:List Rl}(h:kp x [])(ifs:List (List AV)):PC 10 [GP x ifs,.v (.slice none 0 0)] (vb (FW x 16)):=by
 have q:=(h.c11 ifs).args (args':=[GP x ifs,.v (.slice none 0 0)]) ⟨.refl _,.nil,trivial⟩;rw[show(FW x 16&&FY [])=FW x 16 by rw[show FY []=true by decide,Bool.and_true]]at q;exact q
theorem Y4{x:List Rl}(h:FW x 16=true):x.length≤16:=by
 unfold FW at h;simp only[Ae,Au]at h;omega
structure kq(x:List Rl)(ifs:List (List AV)):Prop where
 lim:kp x []
 fi:CJ ifs
 si:∀c∈ifs,c.length=5
theorem K3{x:List Rl}(hs:FW x 16=true):∀r∈x,r.reqs.length≤1000:=fun r hr=>by
 unfold FW at hs;simp only[Ae,Au,Bp]at hs;have q:=hs.1 r hr;simp only[IA,FY,Ae,Au]at q;omega
theorem XO(x:List Rl)(s:Sl)(y:Bool):((CF x s y).map Ag).length≤x.length:=by
 unfold CF;rw[Lm];split
 ·rw[Mb];exact Al _
 ·exact AL _
theorem ZW{x:List Rl}{s:Sl}{y:Bool}(h:J6 x):J6 (CF x s y):=by
 unfold CF;split
 ·exact⟨by rw[Mb];exact h.len,kl h.few⟩
 ·exact⟨AL _,Cj _⟩
theorem XP{x:List Rl}{s:Sl}{y:Bool}(h:∀r∈x,r.reqs.length≤1000):∀r∈CF x s y,r.reqs.length≤1000:=by
 unfold CF;split
 ·exact ia fun r hr=>⟨h r hr,h r hr⟩
 ·exact Cj _
theorem kn{x:List Rl}(ifs:List (List AV))(s:Sl)(h:J6 x)(hr:∀r∈x,r.reqs.length≤1000)(hf:CJ ifs)(hs:∀c∈ifs,c.length=5):PC 11 [GP x ifs,.agg (Af s)] (Jk x ifs s true)∧PC 12 [GP x ifs,.agg (Af s)] (Jk x ifs s false) :=
 ⟨qY x ifs s (lk ifs s h hr (uV ifs hf hs)),qZ x ifs s (lj ifs s h hr (uV ifs hf hs))⟩
theorem VF{ifs:List (List AV)}(c:Prop)[Decidable c](hf:CJ ifs)(hs:∀c∈ifs,c.length=5):CJ (if c then ifs else [])∧∀d∈(if c then ifs else []),d.length=5:=by
 split
 ·exact⟨hf,hs⟩
 ·exact⟨AL _,Cj _⟩
set_option maxHeartbeats 4000000 in
theorem qn(x:List Rl)(ifs:List (List AV))(s:Sl)(hl:CJ x)(sm:Bool)(hB:cZ x s)(RZ:PC 10 [GP x ifs,.v (.slice none 0 0)] (vb sm))(KD:sm=true→PC 11 [GP x ifs,.agg (Af s)] (Jk x ifs s true))(QE:sm=true→PC 12 [GP x ifs,.agg (Af s)] (Jk x ifs s false))(tj:sm=true→PC 12 [GP (CF x s true) (if Cz x s true=0 then ifs else []),.agg (Af s)] (Jk (CF x s true) (if Cz x s true=0 then ifs else []) s false))(ti:sm=true→PC 11 [GP (CF x s false) (if Cz x s false=0 then ifs else []),.agg (Af s)] (Jk (CF x s false) (if Cz x s false=0 then ifs else []) s true))(WZ:PC 13 [sl Ag x,sl Ag x] (vb true)):PC 3 [.agg (Ic x ifs),.agg (Af s)] (vb true):=by
 have hl:x.length≤1073741824:=hl;have kS:=XO x s true;have im:=XO x s false;refine Ps ⟨[2,3,5],[],[],[],[],[],[],[],[],[],[4,5,7,9,14]⟩ Tryz.func3 rfl (Nz rfl) ?_;refine Xi .pure (Xi _ (Yi yk9 ?_));refine Yi (Nz rfl) ?_;refine CQ (Bt sm) (fun h1=>?_) (fun h1=>?_)
 ·have h1:sm=true:=h1;refine Xi .pure (Xi _ (Yi (cb h1 RZ) ?_));refine Yi (fun h2=>?_) (fun h2=>?_)
  ·have h2:(100:Int)<(s.path.size:Int):=h2;refine Xi ⟨[],[],Aa⟩ (Yi ⟨Tv,Tv,Fh,Tv⟩ ?_)
   exact .refl _
  have h2:¬((100:Int)<(s.path.size:Int)):=h2;refine Xi ⟨[(2,.ref 2 0),(3,.ref 3 0)],[(2,.ro (Ic x ifs)),(3,.ro (Af s))],Aa⟩ (Yi ⟨Z2,Z2,Fh,Tv⟩ ?_)
  refine Yi (Nz rfl) ?_;refine Yi (Nz rfl) ?_;refine Xi .pure (Xi _ (Yi (KD h1) ?_));refine Yi (Nz rfl) ?_;refine Yi (Nz rfl) ?_;refine Yi (Nz rfl) ?_;refine Xi .pure (Xi _ (Yi (QE h1) ?_));refine Yi (Nz rfl) ?_;refine Xi ⟨[(2,.ref 2 0),(3,.ref 3 0),(5,.ref 5 0),(6,vi (Cz x s true)),(7,.ref 7 0),(8,vi (Cz x s false))],[(2,.ro (Ic x ifs)),(3,.ro (Af s)),(5,.ro [sl Ag (CF x s true),.slice .none (if Cz x s true=0 then ifs else [])]),(7,.cells [sl Ag (CF x s false),.slice .none (if Cz x s false=0 then ifs else [])])],Aa⟩ (Yi ⟨Z6,Z4,Fh,Tv⟩ ?_)
  refine Yi (fun h4=>?_) (fun h4=>?_)
  ·have h4:((Cz x s true):Int)≠(0:Int):=h4;refine Yi (fun h5=>?_) (fun h5=>?_)
   ·have h5:((Cz x s false):Int)≠(0:Int):=h5;refine Yi (fun h6=>?_) (fun h6=>?_)
    ·have h6:((Cz x s true):Int)=((Cz x s false):Int):=h6;refine Yi (fun h7=>?_) (fun h7=>?_)
     ·have h7:((Cz x s true):Int)=(1:Int):=h7;refine Yi (by show BK ((((CF x s true).map Ag).length:Int)+(((CF x s false).map Ag).length:Int));unfold BK;omega) ?_;refine Yi (fun h8=>?_) (fun h8=>?_)
      ·have h8:(((CF x s true).map Ag).length+((CF x s false).map Ag).length:Int)=(0:Int):=h8;exact .refl _
      have h8:¬((((CF x s true).map Ag).length+((CF x s false).map Ag).length:Int)=(0:Int)):=h8;have hb:=hB.both h4 h5;exact absurd (show((((CF x s true).map Ag).length:Nat):Int)+((((CF x s false).map Ag).length:Nat):Int)=0 by rw[hb.2.2.1,hb.2.2.2];rfl) h8
     have h7:¬(((Cz x s true):Int)=(1:Int)):=h7;refine Yi (fun KD=>?_) (fun KD=>?_)
     ·have KD:((Cz x s true):Int)=(6:Int):=KD;refine Yi (by show BK ((((CF x s true).map Ag).length:Int)+(((CF x s false).map Ag).length:Int));unfold BK;omega) ?_;refine Yi (fun QE=>?_) (fun QE=>?_)
      ·have QE:(((CF x s true).map Ag).length+((CF x s false).map Ag).length:Int)=(0:Int):=QE;exact .refl _
      have QE:¬((((CF x s true).map Ag).length+((CF x s false).map Ag).length:Int)=(0:Int)):=QE;have hb:=hB.both h4 h5;exact absurd (show((((CF x s true).map Ag).length:Nat):Int)+((((CF x s false).map Ag).length:Nat):Int)=0 by rw[hb.2.2.1,hb.2.2.2];rfl) QE
     have KD:¬(((Cz x s true):Int)=(6:Int)):=KD;have hb:=hB.both h4 h5;exact absurd hb.2.1 (fun q=>q.elim h7 KD)
    have h6:¬(((Cz x s true):Int)=((Cz x s false):Int)):=h6;have hb:=hB.both h4 h5;exact absurd hb.1 h6
   have h5:((Cz x s false):Int)=(0:Int):=AR h5;refine Xi ⟨[(2,.ref 2 0),(3,.ref 3 0),(5,.ref 5 0),(6,vi (Cz x s true)),(7,.ref 7 0)],[(2,.ro (Ic x ifs)),(3,.ro (Af s)),(5,.ro [sl Ag (CF x s true),.slice .none (if Cz x s true=0 then ifs else [])]),(7,.cells [sl Ag (CF x s false),.slice .none (if Cz x s false=0 then ifs else [])])],Aa⟩ (Yi ⟨Z5,Z4,Fh,Tv⟩ ?_)
   refine Yi (fun hf=>absurd hf h4) (fun _=>?_);refine Yi (fun cM=>?_) (fun cM=>?_)
   ·have cM:((Cz x s true):Int)≠(8:Int):=cM;exact absurd (hB.back h4 h5).1 cM
   have cM:((Cz x s true):Int)=(8:Int):=AR cM;refine Yi (Nz rfl) ?_;refine Yi (Nz rfl) ?_;refine Xi .pure (Xi _ (Yi (ti h1) ?_));refine Yi (Nz rfl) ?_;refine Xi ⟨[(2,.ref 2 0),(7,.ref 7 0),(8,vi (Cz (CF x s false) s true))],[(2,.ro (Ic x ifs)),(7,.cells [sl Ag (CF (CF x s false) s true),.slice .none (if Cz (CF x s false) s true=0 then(if Cz x s false=0 then ifs else [])else [])])],Aa⟩ (Yi ⟨Z3,Z2,Fh,Tv⟩ ?_)
   refine Yi (fun cN=>?_) (fun cN=>?_)
   ·have cN:((Cz (CF x s false) s true):Int)=(0:Int):=cN;refine Xi .pure (Xi _ (Yi (by rw[show(CF (CF x s false) s true)=x from(hB.back h4 h5).2.2];exact WZ:PC 13 [sl Ag (CF (CF x s false) s true),sl Ag x] (vb true)) ?_));exact .refl _
   have cN:¬(((Cz (CF x s false) s true):Int)=(0:Int)):=cN;exact absurd (hB.back h4 h5).2.1 cN
  have h4:((Cz x s true):Int)=(0:Int):=AR h4;refine Xi ⟨[(2,.ref 2 0),(3,.ref 3 0),(5,.ref 5 0),(6,vi (Cz x s true)),(7,.ref 7 0)],[(2,.ro (Ic x ifs)),(3,.ro (Af s)),(5,.ro [sl Ag (CF x s true),.slice .none (if Cz x s true=0 then ifs else [])]),(7,.cells [sl Ag (CF x s false),.slice .none (if Cz x s false=0 then ifs else [])])],Aa⟩ (Yi ⟨Z5,Z4,Fh,Tv⟩ ?_)
  refine Yi (fun _=>?_) (fun hf=>absurd h4 hf);refine Yi (Nz rfl) ?_;refine Yi (Nz rfl) ?_;refine Xi .pure (Xi _ (Yi (tj h1) ?_));refine Yi (Nz rfl) ?_;refine Xi ⟨[(2,.ref 2 0),(7,.ref 7 0),(8,vi (Cz (CF x s true) s false))],[(2,.ro (Ic x ifs)),(7,.cells [sl Ag (CF (CF x s true) s false),.slice .none (if Cz (CF x s true) s false=0 then(if Cz x s true=0 then ifs else [])else [])])],Aa⟩ (Yi ⟨Z3,Z2,Fh,Tv⟩ ?_)
  refine Yi (fun i7=>?_) (fun i7=>?_)
  ·have i7:((Cz (CF x s true) s false):Int)=(0:Int):=i7;refine Xi .pure (Xi _ (Yi (by rw[show(CF (CF x s true) s false)=x from(hB.yank h4).2];exact WZ:PC 13 [sl Ag (CF (CF x s true) s false),sl Ag x] (vb true)) ?_));exact .refl _
  have i7:¬(((Cz (CF x s true) s false):Int)=(0:Int)):=i7;exact absurd (hB.yank h4).1 i7
 have h1:sm=false:=h1;refine Xi .pure (Xi _ (Yi (cb h1 RZ) ?_));refine Xi ⟨[],[],Aa⟩ (Yi ⟨Tv,Tv,Fh,Tv⟩ ?_)
 exact .refl _
theorem uP(x:List Rl)(ifs:List (List AV))(s:Sl)(h:kq x ifs):PC 3 [GP x ifs,.agg (Af s)] (vb true):=by
 have fw (q:FW x 16=true):J6 x:=⟨Y4 q,h.lim.x⟩;have WZ:=zL x x h.lim.ix fun r hr=>⟨(h.lim.rel r hr).1,fun q hq=>(((h.lim.rel r hr).2).2 q hq).1⟩;rw[AA rfl]at WZ
 exact qn x ifs s h.lim.ix _ (iE x s) (wm h.lim ifs) (fun q=>(kn ifs s (fw q) (K3 q) h.fi h.si).1) (fun q=>(kn ifs s (fw q) (K3 q) h.fi h.si).2)
  (fun q=>(kn _ s (ZW (fw q)) (XP (K3 q)) (VF _ h.fi h.si).1 (VF _ h.fi h.si).2).2) (fun q=>(kn _ s (ZW (fw q)) (XP (K3 q)) (VF _ h.fi h.si).1 (VF _ h.fi h.si).2).1) WZ
end Go.Eng
namespace Go.Proofs.YtddfphmpfnmknaaGreatDoor.joins
open Go Go.Eng Go.Proofs Go.ChangeShapes Go.WideShapes Go.ChangeAt Go.RowKit
section
variable {H:Type}{enc:TypeId×Value→H}{w:World}
theorem all_le{d:DataW H}{l:List (DataW H)}(h:d∈l):Rows.uptoBulk d≤Rows.uptoBulkAll l:=by
 induction l with
 |nil=>cases h
 |cons x r ih =>
  simp only[Rows.uptoBulkAll]
  cases Av.1 h with
  |inl e=>subst e;omega
  |inr e=>have:=ih e;omega
theorem one_le(d:DataW H):1≤Rows.uptoBulk d:=by
 cases d with
 |lit l=>cases l<;>simp[Rows.uptoBulk]
 |nil=>simp[Rows.uptoBulk]
 |ptr d=>simp[Rows.uptoBulk]
 |slice kw spare=>simp[Rows.uptoBulk]
 |agg parts=>simp[Rows.uptoBulk]
 |iface t d=>simp[Rows.uptoBulk]
 |map entries=>simp[Rows.uptoBulk]
 |held h=>simp[Rows.uptoBulk]
theorem len_le(l:List (DataW H)):l.length≤Rows.uptoBulkAll l:=by
 induction l with
 |nil=>simp[Rows.uptoBulkAll]
 |cons x r ih=>have:=one_le x;simp only[Rows.uptoBulkAll,Ay];omega
theorem bulk_ok:U4 (H:=H) Rows.uptoBulk where
 slice es sp:=by
  have h1:=len_le es
  refine⟨by simp only[Rows.uptoBulk];omega,fun d hd=>?_⟩
  have:=all_le hd
  simp only[Rows.uptoBulk];omega
 agg ps d hd:=by
  have:=all_le hd
  simp only[Rows.uptoBulk];omega
 str b:=by simp only[Rows.uptoBulk];omega
theorem app_all(l r:List (DataW H)):Rows.uptoBulkAll (l++r)=Rows.uptoBulkAll l+Rows.uptoBulkAll r:=by
 induction l with
 |nil=>simp[Rows.uptoBulkAll]
 |cons x l ih=>simp only[Iv,Rows.uptoBulkAll,ih];omega
abbrev NB:Nat:=1048576
abbrev Op(enc:TypeId×Value→H)(w:World)(t:TypeId){α:Type}(e:α→List AV)(ok:α→Prop):Prop:=Kc enc Tryz.prog w Rows.uptoBulk NB t e ok
theorem oI:Op enc w 3 (fun n:Int=>[vi n]) (fun _=>True):=(bS Tryz.underlying3).to id (fun _ _=>⟨rfl,trivial⟩)
theorem oB:Op enc w 4 (fun b:Bool=>[vb b]) (fun _=>True):=YN Tryz.underlying4
theorem oS:Op enc w 9 (fun s:ByteArray=>[vs s]) (fun s=>s.size≤NB):=VO bulk_ok Tryz.underlying9
theorem oVer:Op enc w 27 Gu (fun _=>True) :=
 (FL bulk_ok Tryz.underlying27 (L:=3) (by kernel_rfl) (Ca rfl (n:=1) (by kernel_rfl) oI (Ca rfl (n:=1) (by kernel_rfl) oI (Ca rfl (n:=1) (by kernel_rfl) oI GR)))).to
  (fun p=>(⟨p.1,p.2.1,p.2.2.1⟩:Ver)) (fun _ _=>⟨rfl,trivial⟩)
theorem oSpan:Op enc w 67 Ao (fun _=>True) :=
 (FL bulk_ok Tryz.underlying67 (L:=2) (by kernel_rfl) (Ca rfl (n:=1) (by kernel_rfl) oI (Ca rfl (n:=1) (by kernel_rfl) oI GR))).to
  (fun p=>(p.1,p.2.1)) (fun _ _=>⟨rfl,trivial⟩)
theorem oSet:Op enc w 69 (fun l:Bh=>[sl Ao l]) (fun l=>l.length≤NB) :=
 (Ir bulk_ok Tryz.underlying69 (m:=1) (by kernel_rfl) (fun _=>rfl) oSpan).to id (fun _ h=>⟨rfl,h.1⟩)
abbrev OkRq(q:Rq):Prop:=q.path.size≤NB∧q.set.length≤NB
theorem oRq:Op enc w 71 AI OkRq :=
 (FL bulk_ok Tryz.underlying71 (L:=2) (by kernel_rfl) (Ca rfl (n:=1) (by kernel_rfl) oS (Ca rfl (n:=1) (by kernel_rfl) oSet GR))).to
  (fun p=>(⟨p.1,p.2.1⟩:Rq)) (fun _ h=>⟨rfl,h.1,h.2.1⟩)
abbrev OkRqs(l:List Rq):Prop:=l.length≤NB∧∀q∈l,OkRq q
theorem oRqs:Op enc w 39 (fun l:List Rq=>[sl AI l]) OkRqs :=
 Ir bulk_ok Tryz.underlying39 (m:=1) (by kernel_rfl) (fun _=>rfl) oRq
abbrev OkRl(r:Rl):Prop:=r.path.size≤NB∧OkRqs r.reqs
theorem oRl:Op enc w 41 Ag OkRl :=
 (FL bulk_ok Tryz.underlying41 (L:=9) (by kernel_rfl) (Ca rfl (n:=1) (by kernel_rfl) oS (Ca rfl (n:=3) (by kernel_rfl) oVer (Ca rfl (n:=1) (by kernel_rfl) oRqs
  (Ca rfl (n:=1) (by kernel_rfl) oS (Ca rfl (n:=1) (by kernel_rfl) oS (Ca rfl (n:=1) (by kernel_rfl) oS (Ca rfl (n:=1) (by kernel_rfl) oB GR)))))))).to
  (fun p=>(⟨p.1,p.2.1,p.2.2.1,p.2.2.2.1,p.2.2.2.2.1,p.2.2.2.2.2.1,p.2.2.2.2.2.2.1⟩:Rl)) (fun _ h=>⟨rfl,h.1,h.2.2.1⟩)
theorem oRls:Op enc w 22 (fun l:List Rl=>[sl Ag l]) (fun l=>l.length≤NB∧∀r∈l,OkRl r) :=
 Ir bulk_ok Tryz.underlying22 (m:=8) (by kernel_rfl) (fun _=>rfl) oRl
theorem oIfc:Op enc w 132 (fun s:ByteArray=>[vs s,.junk,.junk,.junk,.junk]) (fun _=>True) :=
 (FL bulk_ok Tryz.underlying132 (L:=5) (by kernel_rfl) (Ca rfl (n:=1) (by kernel_rfl) oS (Ca rfl (n:=1) (by kernel_rfl) (Mx Tryz.underlying127) (Ca rfl (n:=1) (by kernel_rfl) (Mx Tryz.underlying128)
  (Ca rfl (n:=1) (by kernel_rfl) (Mx Tryz.underlying129) (Ca rfl (n:=1) (by kernel_rfl) (Mx Tryz.underlying130) GR)))))).to (fun p=>p.1) (fun _ _=>⟨rfl,trivial⟩)
theorem oIfs:Op enc w 23 (fun l:List ByteArray=>[sl (fun s=>[vs s,.junk,.junk,.junk,.junk]) l]) (fun l=>l.length≤NB) :=
 (Ir bulk_ok Tryz.underlying23 (m:=4) (by kernel_rfl) (fun _=>rfl) oIfc).to id (fun _ h=>⟨rfl,h.1⟩)
theorem oIx:Op enc w 25 (fun p:List Rl×List (List AV)=>[sl Ag p.1,.slice .none p.2]) (fun p=>(p.1.length≤NB∧∀r∈p.1,OkRl r)∧p.2.length≤NB∧∀c∈p.2,c.length=5) :=
 (FL bulk_ok Tryz.underlying25 (L:=2) (by kernel_rfl) (Ca rfl (n:=1) (by kernel_rfl) oRls (Ca rfl (n:=1) (by kernel_rfl) oIfs GR))).to
  (fun p=>(p.1,p.2.1.map (fun s=>[vs s,.junk,.junk,.junk,.junk]))) (fun _ h=>⟨rfl,h.1,by rw[A7];exact h.2.1,fun c hc=>by obtain⟨s,_,rfl⟩:=Ak.1 hc;rfl⟩)
theorem oSl:Op enc w 29 Af (fun y=>y.path.size≤NB) :=
 (FL bulk_ok Tryz.underlying29 (L:=4) (by kernel_rfl) (Ca rfl (n:=1) (by kernel_rfl) oS (Ca rfl (n:=3) (by kernel_rfl) oVer GR))).to
  (fun p=>(⟨p.1,p.2.1⟩:Sl)) (fun _ h=>⟨rfl,h.1⟩)
theorem oSls:Op enc w 45 (fun l:List Sl=>[sl Af l]) (fun l=>l.length≤NB∧∀y∈l,y.path.size≤NB) :=
 Ir bulk_ok Tryz.underlying45 (m:=3) (by kernel_rfl) (fun _=>rfl) oSl
theorem few_of{n:Nat}(h:n≤NB):n≤1073741824:=Br h (by decide)
theorem lim_of{x:List Rl}{roots:List Rq}(h:x.length≤NB∧∀r∈x,OkRl r)(k:OkRqs roots):kp x roots where
 ix:=few_of h.1
 rs:=few_of k.1
 rel r hr:=⟨few_of (h.2 r hr).2.1,few_of (h.2 r hr).1,fun q hq=>⟨few_of ((h.2 r hr).2.2 q hq).2,few_of ((h.2 r hr).2.2 q hq).1⟩⟩
 rq q hq:=⟨few_of (k.2 q hq).2,few_of (k.2 q hq).1⟩
theorem lim0_of{x:List Rl}(h:x.length≤NB∧∀r∈x,OkRl r):kp x []:=lim_of h ⟨AL _,fun q hq=>by cases hq⟩
theorem lim43_of{x:List Rl}{ifs:List (List AV)}(h:(x.length≤NB∧∀r∈x,OkRl r)∧ifs.length≤NB∧∀c∈ifs,c.length=5):kq x ifs:=⟨lim0_of h.1,few_of h.2.1,h.2.2⟩
end
theorem ok_agg{P:Program}{W:World}{base:Nat}{t:TypeId}{v:Value}{fs:Array Field}(hu:P.underlying t=some (.struct fs))(h:Value.okWide P W .any base t v):∃cs,v=.agg cs:=by
 unfold Value.okWide at h
 rw[hu]at h
 obtain⟨cs,e,_⟩:=h
 exact⟨cs,e⟩
theorem ok_slice{P:Program}{W:World}{base:Nat}{t e:TypeId}{v:Value}(hu:P.underlying t=some (.slice e))(h:Value.okWide P W .any base t v):v.oneCell'=true:=by
 unfold Value.okWide at h
 rw[hu]at h
 unfold Cell.okWide Cell.ok at h
 rw[hu]at h
 cases v<;>first | rfl | simp at h
theorem ok_int{P:Program}{W:World}{base:Nat}{t:TypeId}{k:IntKind}{v:Value}(hu:P.underlying t=some (.int k))(h:Value.okWide P W .any base t v):v.oneCell'=true:=by
 unfold Value.okWide at h
 rw[hu]at h
 unfold Cell.okWide Cell.ok at h
 rw[hu]at h
 cases v<;>first | rfl | simp at h
theorem int_of_shape{P:Program}{w:World}{g:Nat}{t:TypeId}{k:IntKind}{zero:Array Value}(h:w.ShapedOpen P)(hg:g<P.globals.size)
  (h0:((begin P (fun _ _=>0) default).world.heap[g]?).bind Obj.row?=some (zero,t)) (hz:zero.size=1)
  (hb:P.buildable t=true) (hc:P.cellTypes P.depth t=some [t]) (hu:P.underlying t=some (.int k)):∃p,w.cell? ⟨g,0,none⟩=some (.int k p):=by
 obtain⟨cs,hh,hs,hr⟩:=h.1 g zero t hg h0
 obtain⟨ts,xu,_,GF⟩:=hr hb
 rw[hc]at xu
 cases xu
 have h1:0<cs.size:=by omega
 obtain⟨u,eY,Gl⟩:=GF 0 cs[0] (by simp[h1])
 have:u=t:=by simpa using eY.symm
 subst this
 have Dv:w.cell? ⟨g,0,none⟩=some cs[0]:=by simp[World.cell?,hh,h1]
 rw[Dv]
 unfold Cell.ok at Gl
 rw[hu]at Gl
 cases hv:cs[0]<;>rw[hv]at Gl<;>simp at Gl
 obtain⟨rfl,_⟩:=Gl
 exact⟨_,rfl⟩
theorem maxLen_cell{W:World}(h:W.ShapedOpen Tryz.prog):∃m,W.cell? ⟨0,0,none⟩=some (.int .i64 m) :=
 int_of_shape (t:=3) (zero:=#[.int .i64 0]) h (Ba (by kernel_rfl)) (by kernel_rfl) rfl (by kernel_rfl) (by kernel_rfl) Tryz.underlying3
def Still(W W' : World):Prop:=W'.os=W.os∧W'.output=W.output∧W.heap.size≤W'.heap.size∧∀b,b<W.heap.size→W'.heap[b]?=W.heap[b]?
theorem run_true{f:Nat}{args:List AV}{vals:Array Value}{W:World}(hc:PC f args (vb true))(hM:∃m,W.cell? ⟨0,0,none⟩=some (.int .i64 m))(hs:vals.size=args.length)
  (hr:∀(i:Nat) (av:AV) (x:Value),args[i]?=some av→vals[i]?=some x→BC (ib W) W E9 av x):Calls Tryz.prog f vals W fun e W'=>e=.returned (.bool true)∧Still W W':=by
 refine(hc.2 (ib W) W vals hs (fun i av x q1 q2=>(hr i av x q1 q2).up _) (qk hM (fun _ h=>by cases h))).mono fun e W' ⟨v,r,h',g',e1,e2,e3,e4,_⟩=>?_
 subst e1
 obtain⟨rfl,rfl⟩:=e2
 obtain rfl:=e3.v_eq
 exact⟨rfl,e4.os,e4.output,e4.size,fun b hb=>e4.frame b hb (fun r h=>h.elim)⟩
theorem Still.kept{W W' : World}(h:Still W W')(xB:MemPlace→Prop):W.keptBut W' xB:=by
 refine⟨h.1,h.2.1,fun i hi=>?_⟩
 rw[h.2.2.2 i hi]
 cases hh:W.heap[i]? with
 |none=>rfl
 |some o=>cases o<;>simp
theorem Still.same{W W' : World}(h:Still W W'){p:MemPlace}(hp:p.block<W.heap.size):W.sameAt W' p:=by
 cases p with
 |cell b off =>
  show W'.cell? ⟨b,off,none⟩=W.cell? ⟨b,off,none⟩
  unfold World.cell?
  rw[h.2.2.2 b hp]
 |map b=>exact h.2.2.2 b hp
theorem kids:Kids Tryz.prog (· < Tryz.prog.types.size):=kids_rows (by kernel_rfl) (by kernel_rfl)
theorem full:∀t e,t<Tryz.prog.types.size→Tryz.prog.underlying t=some (.slice e)→0<Tryz.prog.cellsOf e:=slices_full_of Tryz.prog (by kernel_rfl)
theorem carry{H:Type}{enc:TypeId×Value→H}{W W' : World}(h:Still W W'):∀{ts:List TypeId} {vs:List Value} {ds:List (DataW H)} {ps:List MemPlace},DataW.TrodAll enc Tryz.prog W 0 (fun _=>true) true ts vs ds ps→DataW.TrodAll enc Tryz.prog W' 0 (fun _=>true) true ts vs ds ps
 | [],[],[],_,e=>e
 |t::ts,v::vs,d::ds,ps,k=>by
  have Dz:=k.lt
  obtain⟨p,q,⟨n,h1⟩,h2,rfl⟩:=k
  exact⟨p,q,⟨n,DataW.trod_carry n _ _ _ h1 (fun x hx=>h.same (Dz x (Bn _ hx)))⟩,carry h h2,rfl⟩
 | [],[],_::_,_,k=>k.elim
 | [],_::_,_,_,k=>k.elim
 |_::_,[],_,_,k=>k.elim
 |_::_,_::_,[],_,k=>k.elim
theorem post_true{H:Type}{enc:TypeId×Value→H}{W W' : World}{f:Func}{s:ChangeSpec}{args:Array Value}{ds:List (DataW H)}{before:List MemPlace}(Ja:Still W W')(hv:s.vars=[])
  (hW:DataW.Whole enc Tryz.prog f.params.toList s.vars false W args.toList ds [] before) (hr:f.resultTypes=#[4]) (hT:∀t∈f.params.toList,t<Tryz.prog.types.size) (hs:s.fn H ds={ results:=[.lit (.bool true)],args:=ds }) :
  s.post enc Tryz.prog f false true false false W args (.bool true) W':=by
 have wQ:=hW
 obtain⟨p,q,hA,hV,rfl,hz,_⟩:=hW
 rw[hv]at hV
 have hq:q=[]:=hV
 subst hq
 have Dz:=wQ.lt
 have im:s.fn H (ds++[])={ results:=[.lit (.bool true)],args:=ds }:=by rw[BT];exact hs
 refine⟨ds,[],p++[],[],p,[],wQ,?_,?_,?_,Ja.kept _,fun h=>by cases h⟩
 ·rw[im,hr]
  exact⟨[],[],⟨1,by rw[show(Value.bool true).cells.toList=[.bool true]from rfl,DataW.trod_step];unfold DataW.trodStep;rw[Tryz.underlying4]⟩,rfl,rfl⟩
 ·rw[im]
  exact(carry Ja hA).respare kids full hT (fun x hx=>by simpa using Dz x (Bn _ hx))
 ·rw[im,hv];rfl
end Go.Proofs.YtddfphmpfnmknaaGreatDoor.joins
namespace Go.Proofs.YtddfphmpfnmknaaGreatDoor.joins
open Go Go.Eng Go.Proofs Go.ChangeShapes Go.WideShapes Go.ChangeAt Go.RowKit
theorem own:ownKnob Tryz.prog.godebug=none:=by kernel_rfl
def flatD:Nat→DataW Unit→List Value
 |0,_=>[]
 |n+1,.agg l=>l.flatMap (flatD n)
 |_+1,.lit (.int k i)=>[.int k i]
 |_+1,_=>[]
def layIn(d:DataW Unit):Obj→Obj
 |.cells _ t frozen=>.cells (flatD 4 d).toArray t frozen
 |o=>o
noncomputable def laidWorld(os:Os):World :=
 { World.holding Tryz.prog os ⟨#[],#[],[]⟩with heap:=((World.holding Tryz.prog os ⟨#[],#[],[]⟩).heap.modify 1 (layIn Rows.laid_unicode_utf8_first)).modify 2 (layIn Rows.laid_unicode_utf8_acceptRanges) }
abbrev nilV:Value:=.slice none 0 0
theorem arr1{args:Array Value}{a:Value}(h:args.toList=[a]):args=#[a]:=by
 cases args;simp_all
theorem arr2{args:Array Value}{a b:Value}(h:args.toList=[a,b]):args=#[a,b]:=by
 cases args;simp_all
theorem arr3{args:Array Value}{a b c:Value}(h:args.toList=[a,b,c]):args=#[a,b,c]:=by
 cases args;simp_all
theorem arr4{args:Array Value}{a b c d:Value}(h:args.toList=[a,b,c,d]):args=#[a,b,c,d]:=by
 cases args;simp_all
theorem arr5{args:Array Value}{a b c d e:Value}(h:args.toList=[a,b,c,d,e]):args=#[a,b,c,d,e]:=by
 cases args;simp_all
theorem looksOff:false=Tryz.pinned.checked.prog.looks []:=by kernel_rfl
theorem noStand:∀t∈([25,29,39,45,62]:List Nat),Tryz.pinned.checked.prog.wantsStandIn t=false:=by
 intro t ht
 simp only[Av,Lj,or_false]at ht
 rcases ht with rfl | rfl | rfl | rfl | rfl<;>exact(show Tryz.prog.wantsStandIn _=false by kernel_rfl)
end Go.Proofs.YtddfphmpfnmknaaGreatDoor.joins
