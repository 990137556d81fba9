/- Lemmas for the claims of this seat, without a condition: part 31 (V14, V15, J1, J2, V18, V19, V16, S21, S22, S23, S24, S25, S30, S32, S33, S34, S35, S36, S37, V22, V23, V20, V24, V25). -/
import Derived.Test.YtddfphmpfnmknaaGreatDoorFA30
import Derived.Test.YtddfphmpfnmknaaGreatDoorCards
import Derived.Test.YtddfphmpfnmknaaGreatDoorTie
import Derived.ProofKit
import Derived.OpenShut
import Derived.Deep.DeepHandedRow
import Derived.Lib.LaidTab
set_option maxHeartbeats 4000000
namespace Go.Eng
open Go.Proofs
abbrev vy(b c:Int):Ver:=⟨1,b,c⟩
abbrev sy(b c:Int):Sl:=⟨pb,vy b c⟩
abbrev ry(b c:Int)(y:Bool):Rl:=⟨pb,vy b c,[],mt,mt,mt,y⟩
abbrev Rr:List Rl:=[ry 0 0 false,ry 1 0 false,ry 1 2 true,ry 2 0 false]
abbrev sr:List Rl:=[ry 0 0 false,ry 1 0 false,ry 1 2 false,ry 2 0 false]
abbrev tn:List Rl:=[ry 0 0 false,ry 1 0 true,ry 1 2 true,ry 2 0 false]
abbrev il:List Rq:=[⟨pb,[(1000,1000000)]⟩]
abbrev rj:List Mv:=[⟨pb,1000,2000⟩]
abbrev Ys(b c:Int)(y:Bool):List AV:=[vs pb,vi 1,vi b,vi c,.v (.slice none 0 0),vs mt,vs mt,vs mt,vb y]
abbrev iR:List AV:=[.slice .none [Ys 0 0 false,Ys 1 0 false,Ys 1 2 true,Ys 2 0 false],.v (.slice none 0 0)]
theorem RG:Hk (.agg iR) (F5 Rr []) :=
 have h (b c:Int) (y:Bool):Pq (Ys b c y) (Aj (ry b c y)):=⟨.refl _,.refl _,.refl _,.refl _,.nil,.refl _,.refl _,.refl _,.refl _,trivial⟩
 Hk.agg ⟨Hk.slice ⟨h 0 0 false,h 1 0 false,h 1 2 true,h 2 0 false,trivial⟩,.nil,trivial⟩
theorem fc(f:Int→Int→Bool):IL [ry 0 0 (f 0 0),ry 1 0 (f 1 0),ry 1 2 (f 1 2),ry 2 0 (f 2 0)] :=
 have h:HW pb:=by decide
 ⟨show 4≤16 by decide,CY.2 ⟨⟨h,Cy _⟩,CY.2 ⟨⟨h,Cy _⟩,CY.2 ⟨⟨h,Cy _⟩,CY.2 ⟨⟨h,Cy _⟩,Cy _⟩⟩⟩⟩⟩
theorem oy(f:Int→Int→Bool):∀r∈[ry 0 0 (f 0 0),ry 1 0 (f 1 0),ry 1 2 (f 1 2),ry 2 0 (f 2 0)],r.reqs.length≤1000 :=
 CY.2 ⟨AJ _,CY.2 ⟨AJ _,CY.2 ⟨AJ _,CY.2 ⟨AJ _,Cy _⟩⟩⟩⟩
theorem RE(b:Int)(h:Cs (vy b 0)=true):Lk [sy b 0]:=⟨show 1≤1073741824 by decide,CY.2 ⟨h,Cy _⟩,.cons (Cy _) .nil⟩
theorem TY(b c:Int):PC 31 [vi b,vi c] (.agg (Ae (sy b c))):=by
 refine Ps ⟨[],[],[],[],[],[],[],[],[],[],[]⟩ Tryz.func31 rfl (Nz rfl) ?_;refine Yi (Nz rfl) ?_;refine Yi (Nz rfl) ?_;exact .refl _
theorem sa(s:Sl):PC 32 [.agg (Ae s),vb true] (.agg [vs s.path,vi s.ver.a,vi s.ver.b,vi s.ver.c,.v (.slice none 0 0),vs ⟨#[]⟩,vs ⟨#[]⟩,vs ⟨#[]⟩,vb true]):=by
 refine Ps ⟨[2],[],[],[],[],[],[],[],[],[],[]⟩ Tryz.func32 rfl (Nz rfl) ?_;refine Yi (Nz rfl) ?_;refine Yi (Nz rfl) ?_;refine Yi (Nz rfl) ?_;exact .refl _
theorem iV(s:Sl):PC 32 [.agg (Ae s),vb false] (.agg [vs s.path,vi s.ver.a,vi s.ver.b,vi s.ver.c,.v (.slice none 0 0),vs ⟨#[]⟩,vs ⟨#[]⟩,vs ⟨#[]⟩,vb false]):=by
 refine Ps ⟨[2],[],[],[],[],[],[],[],[],[],[]⟩ Tryz.func32 rfl (Nz rfl) ?_;refine Yi (Nz rfl) ?_;refine Yi (Nz rfl) ?_;refine Yi (Nz rfl) ?_;exact .refl _
theorem yk9  : PC 9 [] (vb true):=by
 have hq:∀q∈il,N1 q:=CY.2 ⟨⟨by decide,by decide⟩,Cy _⟩;have hcl:=ta [] (by decide) (Cy _);have fx:IL Rr:=fc fun b c=>b == 1&&c == 2;have fz:IL sr:=fc fun _ _=>false;have rx:∀r∈Rr,r.reqs.length≤1000:=oy fun b c=>b == 1&&c == 2;have fw:IL tn:=fc fun b c=>b == 1;have xF:=(r4 [] (sy 1 0) fx).args (args':=[.agg iR,.agg (Ae (sy 1 0))]) ⟨RG,.refl _,trivial⟩;rw[show Pa Rr (sy 1 0)=sy 2 0 by kernel_rfl,show Me Rr (sy 1 0)=0 by kernel_rfl]at xF;have g14:=r4 [] (sy 1 0) fz;rw[show Pa sr (sy 1 0)=sy 1 2 by kernel_rfl,show Me sr (sy 1 0)=0 by kernel_rfl]at g14;have lJ:=(rZ Rr [] (sy 1 2) (mo [] (sy 1 2) fx rx hcl)).args (args':=[.agg iR,.agg (Ae (sy 1 2))]) ⟨RG,.refl _,trivial⟩;rw[show KE Rr [] (sy 1 2) false=.tup [F5 sr [],vi 0] by rw[WD (show F8 Rr (sy 1 2) false=0 by kernel_rfl)];kernel_rfl]at lJ;have Ny:=rY Rr [] (sy 1 0) (mq [] (sy 1 0) fx rx hcl);have nS:E5 Rr il=[sy 1 0]:=by kernel_rfl
 have uZ:Et Rr il=0:=by kernel_rfl
 have hw:HQ Rr (sy 1 0) true=tn:=by kernel_rfl
 have kj:E5 tn il=[sy 2 0]:=by kernel_rfl
 have dM:Et tn il=0:=by kernel_rfl
 have sE:=o75 [sy 1 0] [sy 2 0] [pb,pb] (RE 1 (by kernel_rfl)) (RE 2 (by kernel_rfl)) (by decide) (by decide) (.refl _) (by decide);rw[gF (t:=[pb,pb]) (RE 1 (by kernel_rfl)) (RE 2 (by kernel_rfl)) (.refl _) (by decide)]at sE;have lK:=(xn Rr [] il (sy 1 0) Ny (te Rr [] il fx.few hq) (te (HQ Rr (sy 1 0) true) _ il (by rw[hw];exact fw.few) hq) (fun _ _ _=>by rw[nS,hw,kj];exact sE)).args (args':=[.agg iR,sl AK il,.agg (Ae (sy 1 0))]) ⟨RG,.refl _,.refl _,trivial⟩;have eE:MP Rr il (sy 1 0)=0:=by
  unfold MP;rw[Ah (fun h=>h (show F8 Rr (sy 1 0) true=0 by kernel_rfl)),Ah (fun h=>h uZ),hw,Ah (fun h=>h dM)]
 have eA:Nr Rr il (sy 1 0)=rj:=by
  unfold Nr;rw[Ao eE,nS,hw,kj];unfold rm;unfold rm;kernel_rfl
 rw[eA,eE]at lK;have hl:CM [sy 1 2]:=by decide
 have xG:=(xk Rr [] [sy 1 2] hl (sb Rr [] _ hl (jC Ua Rr [] fx.few)) (fun z=>zi Rr [] z.path z.ver (c84 Rr [] fx.few) fx.few)).args (args':=[.agg iR,sl Ae [sy 1 2]]) ⟨RG,.refl _,trivial⟩;rw[show TX Rr [sy 1 2]=[sy 1 2] by kernel_rfl,show EW Rr [sy 1 2]=0 by kernel_rfl]at xG;have dK:=o35 rj rj (by decide);rw[Ax rfl]at dK;refine Ps ⟨[3],[],[],[],[],[],[],[],[],[],[4,5,6,7,8,9]⟩ Tryz.func9 rfl (Nz rfl) ?_;refine Xi .pure (Xi _ (Yi (TY 0 0) ?_));refine Xi .pure (Xi _ (Yi (iV (sy 0 0)) ?_));refine Xi .pure (Xi _ (Yi (TY 1 0) ?_));refine Xi .pure (Xi _ (Yi (iV (sy 1 0)) ?_));refine Xi .pure (Xi _ (Yi (TY 1 2) ?_));refine Xi .pure (Xi _ (Yi (sa (sy 1 2)) ?_));refine Xi .pure (Xi _ (Yi (TY 2 0) ?_));refine Xi .pure (Xi _ (Yi (iV (sy 2 0)) ?_));refine Yi (Nz rfl) ?_;refine Xi ⟨[(1,.v (.func (.func 31) #[] #[])),(3,.ref 3 0)],[(3,.ro [.slice .none [[vs pb,vi 1,vi 0,vi 0,.v (.slice none 0 0),vs mt,vs mt,vs mt,vb false],[vs pb,vi 1,vi 1,vi 0,.v (.slice none 0 0),vs mt,vs mt,vs mt,vb false],[vs pb,vi 1,vi 1,vi 2,.v (.slice none 0 0),vs mt,vs mt,vs mt,vb true],[vs pb,vi 1,vi 2,vi 0,.v (.slice none 0 0),vs mt,vs mt,vs mt,vb false]],.v (.slice none 0 0)])],Ab⟩ (Yi ⟨Z2,Z1,Fh,Tv⟩ ?_)
 refine Yi (Nz rfl) ?_;refine Xi _ (Yi (TY 1 0) ?_);refine Xi _ (Yi xF ?_);refine Yi (Nz rfl) ?_;refine Yi (by kernel_rfl) ?_;refine Xi ⟨[(1,.v (.func (.func 31) #[] #[])),(3,.ref 3 0),(4,.ref 4 0),(5,vi 0)],[(3,.ro [.slice .none [[vs pb,vi 1,vi 0,vi 0,.v (.slice none 0 0),vs mt,vs mt,vs mt,vb false],[vs pb,vi 1,vi 1,vi 0,.v (.slice none 0 0),vs mt,vs mt,vs mt,vb false],[vs pb,vi 1,vi 1,vi 2,.v (.slice none 0 0),vs mt,vs mt,vs mt,vb true],[vs pb,vi 1,vi 2,vi 0,.v (.slice none 0 0),vs mt,vs mt,vs mt,vb false]],.v (.slice none 0 0)]),(4,.cells (Ae (sy 2 0)))],Ab⟩ (Yi ⟨Z4,Z2,Fh,Tv⟩ ?_)
 refine Yi (Nz rfl) ?_;refine Xi _ (Yi (TY 1 2) ?_);refine Xi _ (Yi lJ ?_);refine Yi (Nz rfl) ?_;refine Yi (by kernel_rfl) ?_;refine Xi ⟨[(1,.v (.func (.func 31) #[] #[])),(3,.ref 3 0),(4,.ref 4 0),(5,vi 0),(6,.ref 6 0),(7,vi 0)],[(3,.ro [.slice .none [[vs pb,vi 1,vi 0,vi 0,.v (.slice none 0 0),vs mt,vs mt,vs mt,vb false],[vs pb,vi 1,vi 1,vi 0,.v (.slice none 0 0),vs mt,vs mt,vs mt,vb false],[vs pb,vi 1,vi 1,vi 2,.v (.slice none 0 0),vs mt,vs mt,vs mt,vb true],[vs pb,vi 1,vi 2,vi 0,.v (.slice none 0 0),vs mt,vs mt,vs mt,vb false]],.v (.slice none 0 0)]),(4,.cells (Ae (sy 2 0))),(6,.cells [sl Aj sr,.slice .none []])],Ab⟩ (Yi ⟨Z6,Z3,Fh,Tv⟩ ?_)
 refine Yi (Nz rfl) ?_;refine Xi _ (Yi (TY 1 0) ?_);refine Xi _ (Yi g14 ?_);refine Yi (Nz rfl) ?_;refine Yi (by kernel_rfl) ?_;refine Xi ⟨[(1,.v (.func (.func 31) #[] #[])),(3,.ref 3 0),(4,.ref 4 0),(5,vi 0),(7,vi 0),(8,.ref 8 0),(9,vi 0)],[(3,.ro [.slice .none [[vs pb,vi 1,vi 0,vi 0,.v (.slice none 0 0),vs mt,vs mt,vs mt,vb false],[vs pb,vi 1,vi 1,vi 0,.v (.slice none 0 0),vs mt,vs mt,vs mt,vb false],[vs pb,vi 1,vi 1,vi 2,.v (.slice none 0 0),vs mt,vs mt,vs mt,vb true],[vs pb,vi 1,vi 2,vi 0,.v (.slice none 0 0),vs mt,vs mt,vs mt,vb false]],.v (.slice none 0 0)]),(4,.cells (Ae (sy 2 0))),(8,.cells (Ae (sy 1 2)))],Ab⟩ (Yi ⟨Z7,Z3,Fh,Tv⟩ ?_)
 refine Yi (Nz rfl) ?_;refine Xi _ (Yi (TY 1 0) ?_);refine Xi _ (Yi lK ?_);refine Yi (by kernel_rfl) ?_;refine Xi ⟨[(1,.v (.func (.func 31) #[] #[])),(3,.ref 3 0),(4,.ref 4 0),(5,vi 0),(7,vi 0),(8,.ref 8 0),(9,vi 0),(10,sl DV rj),(11,vi 0)],[(3,.ro [.slice .none [[vs pb,vi 1,vi 0,vi 0,.v (.slice none 0 0),vs mt,vs mt,vs mt,vb false],[vs pb,vi 1,vi 1,vi 0,.v (.slice none 0 0),vs mt,vs mt,vs mt,vb false],[vs pb,vi 1,vi 1,vi 2,.v (.slice none 0 0),vs mt,vs mt,vs mt,vb true],[vs pb,vi 1,vi 2,vi 0,.v (.slice none 0 0),vs mt,vs mt,vs mt,vb false]],.v (.slice none 0 0)]),(4,.cells (Ae (sy 2 0))),(8,.cells (Ae (sy 1 2)))],Ab⟩ (Yi ⟨Z9,Z3,Fh,Tv⟩ ?_)
 refine Yi (Nz rfl) ?_;refine Xi _ (Yi (TY 1 2) ?_);refine Xi _ (Yi xG ?_);refine Yi (by kernel_rfl) ?_;refine Xi ⟨[(1,.v (.func (.func 31) #[] #[])),(4,.ref 4 0),(5,vi 0),(7,vi 0),(8,.ref 8 0),(9,vi 0),(10,sl DV rj),(11,vi 0),(12,sl Ae [sy 1 2]),(13,vi 0)],[(4,.cells (Ae (sy 2 0))),(8,.cells (Ae (sy 1 2)))],Ab⟩ (Yi ⟨Z10,Z2,Fh,Tv⟩ ?_)
 refine Yi (fun _=>?_) (fun h=>absurd (by decide) h);refine Yi (Nz rfl) ?_;refine Xi _ (Yi (TY 2 0) ?_);refine Yi (fun h1=>?_) (fun h1=>?_)
 ·have h1:((sy 2 0).path:ByteArray)=(sy 2 0).path∧((sy 2 0).ver.a:Int)=(sy 2 0).ver.a∧((sy 2 0).ver.b:Int)=(sy 2 0).ver.b∧((sy 2 0).ver.c:Int)=(sy 2 0).ver.c∧True:=h1;refine Yi (fun _=>?_) (fun h=>absurd (by decide) h);refine Yi (fun _=>?_) (fun h=>absurd (by decide) h);refine Yi (Nz rfl) ?_;refine Xi _ (Yi (TY 1 2) ?_);refine Yi (fun h2=>?_) (fun h2=>?_)
  ·have h2:((sy 1 2).path:ByteArray)=(sy 1 2).path∧((sy 1 2).ver.a:Int)=(sy 1 2).ver.a∧((sy 1 2).ver.b:Int)=(sy 1 2).ver.b∧((sy 1 2).ver.c:Int)=(sy 1 2).ver.c∧True:=h2;refine Yi (fun _=>?_) (fun h=>absurd (by decide) h);refine Xi _ (Yi dK ?_);refine Yi (fun _=>?_) (fun h=>absurd (by decide) h);refine Yi (fun h3=>?_) (fun h3=>?_)
   ·have h3:(([sy 1 2].map Ae).length:Int)=(1:Int):=h3;refine Yi (by kernel_rfl) ?_;exact .refl _
   have h3:¬((([sy 1 2].map Ae).length:Int)=(1:Int)):=h3;refine Yi (by kernel_rfl) ?_;exact absurd rfl h3
  have h2:¬(((sy 1 2).path:ByteArray)=(sy 1 2).path∧((sy 1 2).ver.a:Int)=(sy 1 2).ver.a∧((sy 1 2).ver.b:Int)=(sy 1 2).ver.b∧((sy 1 2).ver.c:Int)=(sy 1 2).ver.c∧True):=h2;refine Yi (by kernel_rfl) ?_;exact absurd ⟨rfl,rfl,rfl,rfl,trivial⟩ h2
 have h1:¬(((sy 2 0).path:ByteArray)=(sy 2 0).path∧((sy 2 0).ver.a:Int)=(sy 2 0).ver.a∧((sy 2 0).ver.b:Int)=(sy 2 0).ver.b∧((sy 2 0).ver.c:Int)=(sy 2 0).ver.c∧True):=h1;refine Yi (by kernel_rfl) ?_;exact absurd ⟨rfl,rfl,rfl,rfl,trivial⟩ h1
theorem TN{x:List Rl}(h:FI x 16=true):x.length≤16:=by
 unfold FI at h;simp only[Af,As]at h;omega
structure lC(x:List Rl)(ifs:List (List AV)):Prop where
 lim:lB x []
 fi:CM ifs
 si:∀c∈ifs,c.length=5
theorem ZP{x:List Rl}(hs:FI x 16=true):∀r∈x,r.reqs.length≤1000:=fun r hr=>by
 unfold FI at hs;simp only[Af,As,Bp]at hs;have q:=hs.1 r hr;simp only[IJ,Ff,Af,As]at q;omega
theorem xp{x:List Rl}(ifs:List (List AV))(s:Sl)(h:IL x)(hr:∀r∈x,r.reqs.length≤1000)(hf:CM ifs)(hs:∀c∈ifs,c.length=5):PC 11 [F5 x ifs,.agg (Ae s)] (KE x ifs s true)∧PC 12 [F5 x ifs,.agg (Ae s)] (KE x ifs s false) :=
 ⟨rY x ifs s (mq ifs s h hr (ta ifs hf hs)),rZ x ifs s (mo ifs s h hr (ta ifs hf hs))⟩
end Go.Eng
namespace Go.Proofs.YtddfphmpfnmknaaGreatDoor.joins
open Go Go.Eng Go.Proofs Go.ChangeShapes Go.WideShapes Go.ChangeAt Go.RowKit
section
variable {H:Type}{enc:TypeId×Value→H}{w:World}
theorem all_le{d:DataW H}{l:List (DataW H)}(h:d∈l):Rows.uptoBulk d≤Rows.uptoBulkAll l:=by
 induction l with
 |nil=>cases h
 |cons x r ih =>
  simp only[Rows.uptoBulkAll]
  cases Au.1 h with
  |inl e=>subst e;omega
  |inr e=>have:=ih e;omega
theorem one_le(d:DataW H):1≤Rows.uptoBulk d:=by
 cases d with
 |lit l=>cases l<;>simp[Rows.uptoBulk]
 |nil=>simp[Rows.uptoBulk]
 |ptr d=>simp[Rows.uptoBulk]
 |slice lH spare=>simp[Rows.uptoBulk]
 |agg parts=>simp[Rows.uptoBulk]
 |iface t d=>simp[Rows.uptoBulk]
 |map entries=>simp[Rows.uptoBulk]
 |held h=>simp[Rows.uptoBulk]
theorem len_le(l:List (DataW H)):l.length≤Rows.uptoBulkAll l:=by
 induction l with
 |nil=>simp[Rows.uptoBulkAll]
 |cons x r ih=>have:=one_le x;simp only[Rows.uptoBulkAll,Av];omega
theorem bulk_ok:VA (H:=H) Rows.uptoBulk where
 slice es sp:=by
  have h1:=len_le es
  refine⟨by simp only[Rows.uptoBulk];omega,fun d hd=>?_⟩
  have:=all_le hd
  simp only[Rows.uptoBulk];omega
 agg ps d hd:=by
  have:=all_le hd
  simp only[Rows.uptoBulk];omega
 str b:=by simp only[Rows.uptoBulk];omega
theorem app_all(l r:List (DataW H)):Rows.uptoBulkAll (l++r)=Rows.uptoBulkAll l+Rows.uptoBulkAll r:=by
 induction l with
 |nil=>simp[Rows.uptoBulkAll]
 |cons x l ih=>simp only[ID,Rows.uptoBulkAll,ih];omega
abbrev NB:Nat:=1048576
abbrev Op(enc:TypeId×Value→H)(w:World)(t:TypeId){α:Type}(e:α→List AV)(ok:α→Prop):Prop:=JH enc Tryz.prog w Rows.uptoBulk NB t e ok
theorem oI:Op enc w 3 (fun n:Int=>[vi n]) (fun _=>True):=(Vg Tryz.underlying3).to id (fun _ _=>⟨rfl,trivial⟩)
theorem oB:Op enc w 4 (fun b:Bool=>[vb b]) (fun _=>True):=Zw Tryz.underlying4
theorem oS:Op enc w 9 (fun s:ByteArray=>[vs s]) (fun s=>s.size≤NB):=Wv bulk_ok Tryz.underlying9
theorem oVer:Op enc w 27 GE (fun _=>True) :=
 (FV bulk_ok Tryz.underlying27 (L:=3) (by kernel_rfl) (Cc rfl (n:=1) (by kernel_rfl) oI (Cc rfl (n:=1) (by kernel_rfl) oI (Cc rfl (n:=1) (by kernel_rfl) oI G1)))).to
  (fun p=>(⟨p.1,p.2.1,p.2.2.1⟩:Ver)) (fun _ _=>⟨rfl,trivial⟩)
theorem oSpan:Op enc w 67 Aq (fun _=>True) :=
 (FV bulk_ok Tryz.underlying67 (L:=2) (by kernel_rfl) (Cc rfl (n:=1) (by kernel_rfl) oI (Cc rfl (n:=1) (by kernel_rfl) oI G1))).to
  (fun p=>(p.1,p.2.1)) (fun _ _=>⟨rfl,trivial⟩)
theorem oSet:Op enc w 69 (fun l:Bh=>[sl Aq l]) (fun l=>l.length≤NB) :=
 (Iy bulk_ok Tryz.underlying69 (m:=1) (by kernel_rfl) (fun _=>rfl) oSpan).to id (fun _ h=>⟨rfl,h.1⟩)
abbrev OkRq(q:Rq):Prop:=q.path.size≤NB∧q.set.length≤NB
theorem oRq:Op enc w 71 AK OkRq :=
 (FV bulk_ok Tryz.underlying71 (L:=2) (by kernel_rfl) (Cc rfl (n:=1) (by kernel_rfl) oS (Cc rfl (n:=1) (by kernel_rfl) oSet G1))).to
  (fun p=>(⟨p.1,p.2.1⟩:Rq)) (fun _ h=>⟨rfl,h.1,h.2.1⟩)
abbrev OkRqs(l:List Rq):Prop:=l.length≤NB∧∀q∈l,OkRq q
theorem oRqs:Op enc w 39 (fun l:List Rq=>[sl AK l]) OkRqs :=
 Iy bulk_ok Tryz.underlying39 (m:=1) (by kernel_rfl) (fun _=>rfl) oRq
abbrev OkRl(r:Rl):Prop:=r.path.size≤NB∧OkRqs r.reqs
theorem oRl:Op enc w 41 Aj OkRl :=
 (FV bulk_ok Tryz.underlying41 (L:=9) (by kernel_rfl) (Cc rfl (n:=1) (by kernel_rfl) oS (Cc rfl (n:=3) (by kernel_rfl) oVer (Cc rfl (n:=1) (by kernel_rfl) oRqs
  (Cc rfl (n:=1) (by kernel_rfl) oS (Cc rfl (n:=1) (by kernel_rfl) oS (Cc rfl (n:=1) (by kernel_rfl) oS (Cc rfl (n:=1) (by kernel_rfl) oB G1)))))))).to
  (fun p=>(⟨p.1,p.2.1,p.2.2.1,p.2.2.2.1,p.2.2.2.2.1,p.2.2.2.2.2.1,p.2.2.2.2.2.2.1⟩:Rl)) (fun _ h=>⟨rfl,h.1,h.2.2.1⟩)
theorem oRls:Op enc w 22 (fun l:List Rl=>[sl Aj l]) (fun l=>l.length≤NB∧∀r∈l,OkRl r) :=
 Iy bulk_ok Tryz.underlying22 (m:=8) (by kernel_rfl) (fun _=>rfl) oRl
theorem oIfc:Op enc w 132 (fun s:ByteArray=>[vs s,.junk,.junk,.junk,.junk]) (fun _=>True) :=
 (FV bulk_ok Tryz.underlying132 (L:=5) (by kernel_rfl) (Cc rfl (n:=1) (by kernel_rfl) oS (Cc rfl (n:=1) (by kernel_rfl) (MH Tryz.underlying127) (Cc rfl (n:=1) (by kernel_rfl) (MH Tryz.underlying128)
  (Cc rfl (n:=1) (by kernel_rfl) (MH Tryz.underlying129) (Cc rfl (n:=1) (by kernel_rfl) (MH Tryz.underlying130) G1)))))).to (fun p=>p.1) (fun _ _=>⟨rfl,trivial⟩)
theorem oIfs:Op enc w 23 (fun l:List ByteArray=>[sl (fun s=>[vs s,.junk,.junk,.junk,.junk]) l]) (fun l=>l.length≤NB) :=
 (Iy bulk_ok Tryz.underlying23 (m:=4) (by kernel_rfl) (fun _=>rfl) oIfc).to id (fun _ h=>⟨rfl,h.1⟩)
theorem oIx:Op enc w 25 (fun p:List Rl×List (List AV)=>[sl Aj p.1,.slice .none p.2]) (fun p=>(p.1.length≤NB∧∀r∈p.1,OkRl r)∧p.2.length≤NB∧∀c∈p.2,c.length=5) :=
 (FV bulk_ok Tryz.underlying25 (L:=2) (by kernel_rfl) (Cc rfl (n:=1) (by kernel_rfl) oRls (Cc rfl (n:=1) (by kernel_rfl) oIfs G1))).to
  (fun p=>(p.1,p.2.1.map (fun s=>[vs s,.junk,.junk,.junk,.junk]))) (fun _ h=>⟨rfl,h.1,by rw[A6];exact h.2.1,fun c hc=>by obtain⟨s,_,rfl⟩:=Ak.1 hc;rfl⟩)
theorem oSl:Op enc w 29 Ae (fun y=>y.path.size≤NB) :=
 (FV bulk_ok Tryz.underlying29 (L:=4) (by kernel_rfl) (Cc rfl (n:=1) (by kernel_rfl) oS (Cc rfl (n:=3) (by kernel_rfl) oVer G1))).to
  (fun p=>(⟨p.1,p.2.1⟩:Sl)) (fun _ h=>⟨rfl,h.1⟩)
theorem oSls:Op enc w 45 (fun l:List Sl=>[sl Ae l]) (fun l=>l.length≤NB∧∀y∈l,y.path.size≤NB) :=
 Iy bulk_ok Tryz.underlying45 (m:=3) (by kernel_rfl) (fun _=>rfl) oSl
theorem few_of{n:Nat}(h:n≤NB):n≤1073741824:=Br h (by decide)
theorem lim_of{x:List Rl}{roots:List Rq}(h:x.length≤NB∧∀r∈x,OkRl r)(k:OkRqs roots):lB x roots where
 ix:=few_of h.1
 rs:=few_of k.1
 rel r hr:=⟨few_of (h.2 r hr).2.1,few_of (h.2 r hr).1,fun q hq=>⟨few_of ((h.2 r hr).2.2 q hq).2,few_of ((h.2 r hr).2.2 q hq).1⟩⟩
 rq q hq:=⟨few_of (k.2 q hq).2,few_of (k.2 q hq).1⟩
theorem lim0_of{x:List Rl}(h:x.length≤NB∧∀r∈x,OkRl r):lB x []:=lim_of h ⟨AJ _,fun q hq=>by cases hq⟩
theorem lim43_of{x:List Rl}{ifs:List (List AV)}(h:(x.length≤NB∧∀r∈x,OkRl r)∧ifs.length≤NB∧∀c∈ifs,c.length=5):lC x ifs:=⟨lim0_of h.1,few_of h.2.1,h.2.2⟩
end
theorem ok_agg{P:Program}{W:World}{base:Nat}{t:TypeId}{v:Value}{fs:Array Field}(hu:P.underlying t=some (.struct fs))(h:Value.okWide P W .any base t v):∃cs,v=.agg cs:=by
 unfold Value.okWide at h
 rw[hu]at h
 obtain⟨cs,e,_⟩:=h
 exact⟨cs,e⟩
theorem ok_slice{P:Program}{W:World}{base:Nat}{t e:TypeId}{v:Value}(hu:P.underlying t=some (.slice e))(h:Value.okWide P W .any base t v):v.oneCell'=true:=by
 unfold Value.okWide at h
 rw[hu]at h
 unfold Cell.okWide Cell.ok at h
 rw[hu]at h
 cases v<;>first | rfl | simp at h
theorem ok_int{P:Program}{W:World}{base:Nat}{t:TypeId}{k:IntKind}{v:Value}(hu:P.underlying t=some (.int k))(h:Value.okWide P W .any base t v):v.oneCell'=true:=by
 unfold Value.okWide at h
 rw[hu]at h
 unfold Cell.okWide Cell.ok at h
 rw[hu]at h
 cases v<;>first | rfl | simp at h
theorem int_of_shape{P:Program}{w:World}{g:Nat}{t:TypeId}{k:IntKind}{zero:Array Value}(h:w.ShapedOpen P)(hg:g<P.globals.size)
  (h0:((begin P (fun _ _=>0) default).world.heap[g]?).bind Obj.row?=some (zero,t)) (hz:zero.size=1)
  (hb:P.buildable t=true) (hc:P.cellTypes P.depth t=some [t]) (hu:P.underlying t=some (.int k)):∃p,w.cell? ⟨g,0,none⟩=some (.int k p):=by
 obtain⟨cs,hh,hs,hr⟩:=h.1 g zero t hg h0
 obtain⟨ts,yv,_,GP⟩:=hr hb
 rw[hc]at yv
 cases yv
 have h1:0<cs.size:=by omega
 obtain⟨u,fZ,Gw⟩:=GP 0 cs[0] (by simp[h1])
 have:u=t:=by simpa using fZ.symm
 subst this
 have Dw:w.cell? ⟨g,0,none⟩=some cs[0]:=by simp[World.cell?,hh,h1]
 rw[Dw]
 unfold Cell.ok at Gw
 rw[hu]at Gw
 cases hv:cs[0]<;>rw[hv]at Gw<;>simp at Gw
 obtain⟨rfl,_⟩:=Gw
 exact⟨_,rfl⟩
theorem maxLen_cell{W:World}(h:W.ShapedOpen Tryz.prog):∃m,W.cell? ⟨0,0,none⟩=some (.int .i64 m) :=
 int_of_shape (t:=3) (zero:=#[.int .i64 0]) h (A2 (by kernel_rfl)) (by kernel_rfl) rfl (by kernel_rfl) (by kernel_rfl) Tryz.underlying3
def Still(W W' : World):Prop:=W'.os=W.os∧W'.output=W.output∧W.heap.size≤W'.heap.size∧∀b,b<W.heap.size→W'.heap[b]?=W.heap[b]?
theorem run_true{f:Nat}{args:List AV}{vals:Array Value}{W:World}(hc:PC f args (vb true))(hM:∃m,W.cell? ⟨0,0,none⟩=some (.int .i64 m))(hs:vals.size=args.length)
  (hr:∀(i:Nat) (av:AV) (x:Value),args[i]?=some av→vals[i]?=some x→BD (ft W) W Fi av x):Calls Tryz.prog f vals W fun e W'=>e=.returned (.bool true)∧Still W W':=by
 refine(hc.2 (ft W) W vals hs (fun i av x q1 q2=>(hr i av x q1 q2).up _) (rf hM (fun _ h=>by cases h))).mono fun e W' ⟨v,r,h',g',e1,e2,e3,e4,_⟩=>?_
 subst e1
 obtain⟨rfl,rfl⟩:=e2
 obtain rfl:=e3.v_eq
 exact⟨rfl,e4.os,e4.output,e4.size,fun b hb=>e4.frame b hb (fun r h=>h.elim)⟩
theorem Still.kept{W W' : World}(h:Still W W')(yC:MemPlace→Prop):W.keptBut W' yC:=by
 refine⟨h.1,h.2.1,fun i hi=>?_⟩
 rw[h.2.2.2 i hi]
 cases hh:W.heap[i]? with
 |none=>rfl
 |some o=>cases o<;>simp
theorem Still.same{W W' : World}(h:Still W W'){p:MemPlace}(hp:p.block<W.heap.size):W.sameAt W' p:=by
 cases p with
 |cell b off =>
  show W'.cell? ⟨b,off,none⟩=W.cell? ⟨b,off,none⟩
  unfold World.cell?
  rw[h.2.2.2 b hp]
 |map b=>exact h.2.2.2 b hp
theorem kids:Kids Tryz.prog (· < Tryz.prog.types.size):=kids_rows (by kernel_rfl) (by kernel_rfl)
theorem full:∀t e,t<Tryz.prog.types.size→Tryz.prog.underlying t=some (.slice e)→0<Tryz.prog.cellsOf e:=slices_full_of Tryz.prog (by kernel_rfl)
theorem carry{H:Type}{enc:TypeId×Value→H}{W W' : World}(h:Still W W'):∀{ts:List TypeId} {vs:List Value} {ds:List (DataW H)} {ps:List MemPlace},DataW.TrodAll enc Tryz.prog W 0 (fun _=>true) true ts vs ds ps→DataW.TrodAll enc Tryz.prog W' 0 (fun _=>true) true ts vs ds ps
 | [],[],[],_,e=>e
 |t::ts,v::vs,d::ds,ps,k=>by
  have DA:=k.lt
  obtain⟨p,q,⟨n,h1⟩,h2,rfl⟩:=k
  exact⟨p,q,⟨n,DataW.trod_carry n _ _ _ h1 (fun x hx=>h.same (DA x (Bm _ hx)))⟩,carry h h2,rfl⟩
 | [],[],_::_,_,k=>k.elim
 | [],_::_,_,_,k=>k.elim
 |_::_,[],_,_,k=>k.elim
 |_::_,_::_,[],_,k=>k.elim
theorem post_true{H:Type}{enc:TypeId×Value→H}{W W' : World}{f:Func}{s:ChangeSpec}{args:Array Value}{ds:List (DataW H)}{before:List MemPlace}(Jl:Still W W')(hv:s.vars=[])
  (hW:DataW.Whole enc Tryz.prog f.params.toList s.vars false W args.toList ds [] before) (hr:f.resultTypes=#[4]) (hT:∀t∈f.params.toList,t<Tryz.prog.types.size) (hs:s.fn H ds={ results:=[.lit (.bool true)],args:=ds }) :
  s.post enc Tryz.prog f false true false false W args (.bool true) W':=by
 have xP:=hW
 obtain⟨p,q,hA,hV,rfl,hz,_⟩:=hW
 rw[hv]at hV
 have hq:q=[]:=hV
 subst hq
 have DA:=xP.lt
 have kj:s.fn H (ds++[])={ results:=[.lit (.bool true)],args:=ds }:=by rw[BP];exact hs
 refine⟨ds,[],p++[],[],p,[],xP,?_,?_,?_,Jl.kept _,fun h=>by cases h⟩
 ·rw[kj,hr]
  exact⟨[],[],⟨1,by rw[show(Value.bool true).cells.toList=[.bool true]from rfl,DataW.trod_step];unfold DataW.trodStep;rw[Tryz.underlying4]⟩,rfl,rfl⟩
 ·rw[kj]
  exact(carry Jl hA).respare kids full hT (fun x hx=>by simpa using DA x (Bm _ hx))
 ·rw[kj,hv];rfl
end Go.Proofs.YtddfphmpfnmknaaGreatDoor.joins
namespace Go.Proofs.YtddfphmpfnmknaaGreatDoor.joins
open Go Go.Eng Go.Proofs Go.ChangeShapes Go.WideShapes Go.ChangeAt Go.RowKit
theorem own:ownKnob Tryz.prog.godebug=none:=by kernel_rfl
def flatD:Nat→DataW Unit→List Value
 |0,_=>[]
 |n+1,.agg l=>l.flatMap (flatD n)
 |_+1,.lit (.int k i)=>[.int k i]
 |_+1,_=>[]
def layIn(d:DataW Unit):Obj→Obj
 |.cells _ t frozen=>.cells (flatD 4 d).toArray t frozen
 |o=>o
noncomputable def laidWorld(os:Os):World :=
 { World.holding Tryz.prog os ⟨#[],#[],[]⟩with heap:=((World.holding Tryz.prog os ⟨#[],#[],[]⟩).heap.modify 1 (layIn Rows.laid_unicode_utf8_first)).modify 2 (layIn Rows.laid_unicode_utf8_acceptRanges) }
abbrev nilV:Value:=.slice none 0 0
theorem arr1{args:Array Value}{a:Value}(h:args.toList=[a]):args=#[a]:=by
 cases args;simp_all
theorem arr2{args:Array Value}{a b:Value}(h:args.toList=[a,b]):args=#[a,b]:=by
 cases args;simp_all
theorem arr3{args:Array Value}{a b c:Value}(h:args.toList=[a,b,c]):args=#[a,b,c]:=by
 cases args;simp_all
theorem arr4{args:Array Value}{a b c d:Value}(h:args.toList=[a,b,c,d]):args=#[a,b,c,d]:=by
 cases args;simp_all
theorem arr5{args:Array Value}{a b c d e:Value}(h:args.toList=[a,b,c,d,e]):args=#[a,b,c,d,e]:=by
 cases args;simp_all
theorem looksOff:false=Tryz.pinned.checked.prog.looks []:=by kernel_rfl
theorem noStand:∀t∈([25,29,39,45,62]:List Nat),Tryz.pinned.checked.prog.wantsStandIn t=false:=by
 intro t ht
 simp only[Au,Lw,or_false]at ht
 rcases ht with rfl | rfl | rfl | rfl | rfl<;>exact(show Tryz.prog.wantsStandIn _=false by kernel_rfl)
end Go.Proofs.YtddfphmpfnmknaaGreatDoor.joins
namespace Go.Eng
open Go.Proofs
theorem xj(a b:List Sl)(ha:CM a):PC 19 [sl Ae a,sl Ae b] (vb (decide (a=b))):=by
 have uI:a.length≤1073741824:=ha;refine Ps ⟨[],[],[],[],[],[],[],[],[],[],[7,8]⟩ Tryz.func19 rfl (Nz rfl) ?_;refine Yi (fun h1=>?_) (fun h1=>?_)
 ·have h1:((a.map Ae).length:Int)≠((b.map Ae).length:Int):=h1;exact .of_eq (show vb false=vb (decide (a=b)) by rw[Az (fun e=>absurd (Ac (fun z=>((z.map Ae).length:Int)) e) h1)])
 have h1:((a.map Ae).length:Int)=((b.map Ae).length:Int):=A4 h1;have hl:a.length=b.length:=by have q:=h1;rw[Lm,Lm]at q;omega
 refine Xi {q:Nat // q≤a.length∧∀j (hj:j<a.length),j<q→a[j]=b[j]'(hl▸hj)} (Xi (fun q=>⟨[(0,sl Ae a),(1,sl Ae b),(12,vi (a.map Ae).length),(13,vi q.1)],[],Ab⟩) (Xi (fun q=>a.length-q.1) (Yi (Xi ⟨0,AJ _,fun _ _ h=>absurd h (JA _)⟩ ?_) ?_)))
 ·exact⟨Z4,Tv,Fh,Tv⟩
 intro⟨i,i1,i2⟩;have i1:i≤a.length:=i1;have i2:∀j (hj:j<a.length),j<i→a[j]=b[j]'(hl▸hj):=i2;refine Yi (fun h3=>?_) (fun h3=>?_)
 ·have h3:(i:Int)<((a.map Ae).length:Int):=h3;have n3:=LC h3;have qF:i<b.length:=by have q:=h3;rw[Lm]at q;omega
  refine Xi (Ae a[i]) (Yi (Uo n3) (Yi rfl ?_));refine Yi (Nz rfl) ?_;refine Xi (Ae b[i]) (Yi (Uo qF) (Yi rfl ?_));refine Yi (Nz rfl) ?_;refine Yi (fun h4=>?_) (fun h4=>?_)
  ·have h4:(a[i].path:ByteArray)=b[i].path∧(a[i].ver.a:Int)=b[i].ver.a∧(a[i].ver.b:Int)=b[i].ver.b∧(a[i].ver.c:Int)=b[i].ver.c∧True:=h4;refine Yi (by kernel_rfl) ?_;refine Xi ⟨[(0,sl Ae a),(1,sl Ae b),(12,vi (a.map Ae).length),(13,vi i)],[],Ab⟩ (Yi ⟨Z4,Tv,Fh,Tv⟩ ?_)
   refine Yi (Ii i (by omega)) ?_;refine Xi ⟨i+1,n3,fun j hj LZ=>if e:j<i then i2 j hj e else by
     have e:j=i:=by omega
     subst e;exact bh h4⟩ ?_
   exact⟨Dl a.length i (by omega),Z4,Tv,Fh,Tv⟩
  have h4:¬((a[i].path:ByteArray)=b[i].path∧(a[i].ver.a:Int)=b[i].ver.a∧(a[i].ver.b:Int)=b[i].ver.b∧(a[i].ver.c:Int)=b[i].ver.c∧True):=h4;refine Yi (by kernel_rfl) ?_;refine Xi ⟨[],[],Ab⟩ (Yi ⟨Tv,Tv,Fh,Tv⟩ ?_)
  exact .of_eq (show vb false=vb (decide (a=b)) by rw[Az (lE (i:=i) (ha:=n3) (hb:=qF) (mj h4))])
 have h3:¬((i:Int)<((a.map Ae).length:Int)):=h3;have n3:=LB h3;exact .of_eq (show vb true=vb (decide (a=b)) by rw[Ax (aD hl fun j hj=>i2 j hj (by have q:=h3;rw[Lm]at q;omega))])
theorem jL{x:List Rl}(roots:List Rq)(hx:x.length≤16):CM (E5 x roots):=by
 by_cases h:Et x roots=0
 ·have:=(TH h).2.1
  show _≤1073741824;omega
 ·unfold E5;rw[Ah h];exact AJ _
theorem Qc{x:List Rl}{roots:List Rq}(h:(FI x 16&&Ff roots)=true):FI x 16=true:=(Bool.and_eq_true_iff.1 h).1
theorem Yv{x:List Rl}{roots:List Rq}(hx:x.length≤16)(h:Et x roots=0):Lk (E5 x roots):=by
 obtain⟨h1,h2,h3⟩:=TH h;have hv:DT x roots=true:=by
  cases hv:DT x roots with
  |true=>rfl
  |false=>exact absurd h (Yw hv).1
 cases hl:GG x roots (x.length+1) []with
 |nil=>rw[(TJ hv hx).2 hl]at h;cases h
 |cons d l =>
  have lf:=H7 (Eg.nil x) (Hr.nil roots) d (by rw[hl];exact Aa ..);refine⟨by show _≤_;omega,fun s hs=>?_,by rw[(Vl hv hx hl).2];exact lf.ok.sorted⟩;obtain⟨r,hr,rfl⟩:=h1 s hs;exact(Se ((W8.1 h3).2.1 r hr)).val
theorem gv{x:List Rl}{l:List Sl}(h:IL x):IL (Jo x l):=by
 unfold Jo;split
 ·exact⟨by rw[Lg];exact h.len,br h.few⟩
 ·exact⟨AJ _,Cy _⟩
theorem nk{x:List Rl}{roots:List Rq}(h:(FI x 16&&Ff roots)=true):x.length≤16:=TN (Qc h)
theorem Yy{t:List Sl}{i:Nat}{s:Sl}(h:s∈t.take i):s∈t.take (i+1):=by
 obtain⟨j,hj,rfl⟩:=Ca.1 h;rw[AB]at hj;rw[EC];exact Ca.2 ⟨j,by rw[AB];omega,by rw[EC]⟩
theorem me(x:List Rl)(ifs:List (List AV))(roots:List Rq)(n:Int)(t:List Sl)(sm:Bool)(SC:PC 10 [F5 x ifs,sl AK roots] (vb sm))(jQ:sm=true→PC 17 [F5 x ifs,sl AK roots] (.tup [sl Ae t,vi (Et x roots)]))(zy:sm=true→CM t)(K:Prop)(hs:Et x roots=0→K)(hy:sm=true→K→∀(i:Nat) (hi:i<t.length) (L:List Sl),(∀s∈L,s∈t.take i)→PC 11 [F5 (Ra x L) ifs,.agg (Ae t[i])] (.tup [F5 (Ra x (L++[t[i]])) ifs,vi 0]))(hr:sm=true→K→∀L:List Sl,(∀s∈L,s∈t)→PC 26 [F5 (Ra x L) ifs,sl AK roots,sl Ae t] (.tup [sl Ae t,vi 0]))(l7:t.length≤1073741824):PC 8 [.agg (Ic x ifs),sl AK roots,.v (.int .u16 n)] (vb true):=by
 refine Ps ⟨[3],[],[],[],[],[],[],[],[],[],[6,13]⟩ Tryz.func8 rfl (Nz rfl) ?_;refine Xi .pure (Xi _ (Yi yk9 ?_));refine Yi (Nz rfl) ?_;refine Dp (Bt sm) (fun h1=>?_) (fun h1=>?_)
 ·have h1:sm=true:=h1;refine Xi .pure (Xi _ (Yi (cb h1 SC) ?_));refine Yi (Nz rfl) ?_;refine Xi .pure (Xi _ (Yi (jQ h1) ?_));refine Xi ⟨[(1,sl AK roots),(2,.v (.int .u16 n)),(3,.ref 3 0),(7,sl Ae t),(8,vi (Et x roots))],[(3,.ro (Ic x ifs))],Ab⟩ (Yi ⟨Z5,Z1,Fh,Tv⟩ ?_)
  refine Yi (fun h2=>?_) (fun h2=>?_)
  ·have h2:((Et x roots):Int)≠(0:Int):=h2;exact .refl _
  have h2:((Et x roots):Int)=(0:Int):=A4 h2;refine Yi (Nz rfl) ?_;refine Yi (Nz rfl) ?_;refine Xi {q:Nat×List Sl // q.1≤t.length∧∀s∈q.2,s∈t.take q.1} (Xi (fun q=>⟨[(1,sl AK roots),(2,.v (.int .u16 n)),(7,sl Ae t),(9,.ref 9 0),(28,sl Ae t),(29,vi (t.map Ae).length),(30,vi q.1.1)],[(9,.cells [sl Aj (Ra x q.1.2),.slice .none ifs])],Ab⟩) (Xi (fun q=>t.length-q.1.1) (Yi (Xi ⟨(0,[]),AJ _,Cy _⟩ ?_) ?_)))
  ·exact⟨Z7,Z1,Fh,Tv⟩
  intro⟨⟨i,L⟩,i1,i2⟩;have i1:i≤t.length:=i1;have i2:∀s∈L,s∈t.take i:=i2;refine Yi (fun h4=>?_) (fun h4=>?_)
  ·have h4:(i:Int)<((t.map Ae).length:Int):=h4;have n4:=LC h4;refine Xi (Ae t[i]) (Yi (Uo n4) (Yi rfl ?_));refine Yi (Nz rfl) ?_;refine Yi (Nz rfl) ?_;refine Yi ⟨by omega,by omega⟩ ?_;refine Yi (show(0:Int)≤(i % 16:Int) by omega) ?_;refine Yi (fun h5=>?_) (fun h5=>?_)
   ·have h5:((Qz .and .u16 (dv .shr .u16 n (i % 16)) 1):Int)=(0:Int):=h5;refine Yi (Ii i (by omega)) ?_;refine Xi ⟨(i+1,L),n4,fun s hs=>Yy (i2 s hs)⟩ ?_;exact⟨Dl t.length i (by omega),Z7,Z1,Fh,Tv⟩
   have h5:¬(((Qz .and .u16 (dv .shr .u16 n (i % 16)) 1):Int)=(0:Int)):=h5;refine Xi ⟨[(1,sl AK roots),(2,.v (.int .u16 n)),(7,sl Ae t),(9,.ref 9 0),(11,.ref 11 0),(28,sl Ae t),(29,vi (t.map Ae).length),(30,vi i)],[(9,.cells [sl Aj (Ra x L),.slice .none ifs]),(11,.cells (Ae t[i]))],Ab⟩ (Yi ⟨Z8,Z2,Fh,Tv⟩ ?_)
   refine Yi (Nz rfl) ?_;refine Yi (Nz rfl) ?_;refine Xi .pure (Xi _ (Yi (hy h1 (hs h2) i n4 L i2) ?_));refine Yi (Nz rfl) ?_;refine Yi (fun h=>absurd h (by decide)) (fun _=>?_);refine Yi (Ii i (by omega)) ?_;refine Xi ⟨(i+1,L++[t[i]]),n4,fun s hs=>(AU.1 hs).elim (fun h=>Yy (i2 s h)) fun h=>by rw[Am.1 h,ES n4];exact Bd _ (Am.2 rfl)⟩ ?_;exact⟨Dl t.length i (by omega),Z7,Z1,Fh,Tv⟩
  have h4:¬((i:Int)<((t.map Ae).length:Int)):=h4;have n4:=LB h4;refine Yi (Nz rfl) ?_;refine Xi .pure (Xi _ (Yi (hr h1 (hs h2) L fun s hs=>DQ (i2 s hs)) ?_));refine Yi (fun _=>?_) (fun h=>absurd (by decide) h);refine Xi .pure (Xi _ (Yi (cb (Ax rfl) (xj t t (zy h1))) ?_));exact .refl _
 have h1:sm=false:=h1;refine Xi .pure (Xi _ (Yi (cb h1 SC) ?_));exact .refl _
theorem WC{x:List Rl}{roots:List Rq}(hx:x.length≤16)(h:Et x roots=0):∀s∈E5 x roots,∃r∈x,CW r=s∧r.yanked=false:=fun z hz=>by
 have hv:DT x roots=true:=by
  cases hv:DT x roots with
  |true=>rfl
  |false=>exact absurd h (Yw hv).1
 cases hl:GG x roots (x.length+1) []with
 |nil=>rw[(TJ hv hx).2 hl]at h;cases h
 |cons d l =>
  have lf:=H7 (Eg.nil x) (Hr.nil roots) d (by rw[hl];exact Aa ..);rw[(Vl hv hx hl).2,GA]at hz;obtain⟨c,hc,rfl⟩:=Ak.1 hz;exact⟨c.rel,(lf.ok.cand c hc).1,rfl,(lf.ok.cand c hc).2.1⟩
theorem WM{x:List Rl}(h:IL x):∀L:List Sl,IL (Ra x L):=fun L=>by
 induction L generalizing x with
 |nil=>exact h
 |cons s L ih=>exact ih ⟨by rw[Lg];exact h.len,br h.few⟩
theorem YC{x:List Rl}(h:∀r∈x,r.reqs.length≤1000):∀L:List Sl,∀r∈Ra x L,r.reqs.length≤1000:=fun L=>by
 induction L generalizing x with
 |nil=>exact h
 |cons s L ih=>exact ih (jb fun r hr=>⟨h r hr,h r hr⟩)
theorem vW(x:List Rl)(ifs:List (List AV))(roots:List Rq)(n:Int)(hL:lB x roots)(h:lC x ifs):PC 8 [F5 x ifs,sl AK roots,.v (.int .u16 n)] (vb true):=by
 have fw (q:(FI x 16&&Ff roots)=true):IL x:=⟨TN (Qc q),h.lim.x⟩;have hrl (q:(FI x 16&&Ff roots)=true):=ZP (Qc q)
 by_cases hb:(FI x 16&&Ff roots)=true
 ·have s7:=nk hb;have hF:CM (E5 x roots):=jL roots s7;have src (h0:Et x roots=0):=TH h0;have tk (h0:Et x roots=0):∀s∈E5 x roots,∃r∈x,CW r=s∧r.yanked=false:=fun s hs=>WC s7 h0 s hs;refine me x ifs roots n (E5 x roots) _ (hL.c11 ifs) (fun q=>te x ifs roots hL.x hL.rq) (fun _=>hF) (Et x roots=0) id (fun q h0 i hi L hl=>?_) (fun q h0 L hl=>?_) hF
  ·have inc:=(Yv s7 h0).inc;have hn:(E5 x roots)[i]∉L:=fun e=>by
    obtain⟨j,hj,ej⟩:=Ca.1 (hl _ e);rw[AB]at hj;rw[EC]at ej;have q:=(AS.1 inc) j i (by omega) hi (by omega);rw[mf,ej,CT]at q;cases q
   have st:=lz (src h0).2.2 (tk h0 _ (AC hi)) hn;have k:=(xp (x:=Ra x L) ifs (E5 x roots)[i] (WM (fw q) L) (YC (hrl q) L) h.fi h.si).1;unfold KE at k
   rwa [st.1,st.2]at k
  ·have kp:=iY (src h0).2.2 (tk h0) (Zh (Yv s7 h0).inc) hl;have k:=xm (Ra x L) ifs roots (E5 x roots) (xl ifs (E5 x roots) hF (WM (fw q) L) (YC (hrl q) L) (ta ifs h.fi h.si)) (te _ _ roots (gv (WM (fw q) L)).few hL.rq);have e1:ZH (Ra x L) roots (E5 x roots)=E5 x roots:=by unfold ZH;rw[Ah (fun c=>c kp.1),kp.2]
   have e2:ZI (Ra x L) roots (E5 x roots)=0:=by unfold ZI;rw[Ah (fun c=>c kp.1),kp.2];exact h0
   rwa [e1,e2]at k
 ·exact me x ifs roots n [] _ (hL.c11 ifs) (fun q=>absurd q hb) (fun q=>absurd q hb) True (fun _=>trivial) (fun q=>absurd q hb) (fun q=>absurd q hb) (AJ _)
end Go.Eng
