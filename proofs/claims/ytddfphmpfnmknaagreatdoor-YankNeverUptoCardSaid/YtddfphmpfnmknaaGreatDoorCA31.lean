/- Lemmas for the claims of this seat, without a condition: part 31 (V14, V15, J1, J2, V16). -/
import Derived.Test.YtddfphmpfnmknaaGreatDoorCA30
import Derived.Test.YtddfphmpfnmknaaGreatDoorCards
import Derived.Test.YtddfphmpfnmknaaGreatDoorTie
import Derived.ProofKit
import Derived.OpenShut
import Derived.Deep.DeepHandedRow
import Derived.Lib.LaidTab
set_option maxHeartbeats 4000000
namespace Go.Eng
open Go.Proofs
abbrev vy(b c:Int):Ver:=⟨1,b,c⟩
abbrev sy(b c:Int):Sl:=⟨pb,vy b c⟩
abbrev ry(b c:Int)(y:Bool):Rl:=⟨pb,vy b c,[],mt,mt,mt,y⟩
abbrev Ri:List Rl:=[ry 0 0 false,ry 1 0 false,ry 1 2 true,ry 2 0 false]
abbrev sc:List Rl:=[ry 0 0 false,ry 1 0 false,ry 1 2 false,ry 2 0 false]
abbrev ta:List Rl:=[ry 0 0 false,ry 1 0 true,ry 1 2 true,ry 2 0 false]
abbrev ia:List Rq:=[⟨pb,[(1000,1000000)]⟩]
abbrev rf:List Mv:=[⟨pb,1000,2000⟩]
abbrev Ym(b c:Int)(y:Bool):List AV:=[vs pb,vi 1,vi b,vi c,.v (.slice none 0 0),vs mt,vs mt,vs mt,vb y]
abbrev iL:List AV:=[.slice .none [Ym 0 0 false,Ym 1 0 false,Ym 1 2 true,Ym 2 0 false],.v (.slice none 0 0)]
theorem RB:Hl (.agg iL) (Hi Ri []) :=
 have h (b c:Int) (y:Bool):Pn (Ym b c y) (Ak (ry b c y)):=⟨.refl _,.refl _,.refl _,.refl _,.nil,.refl _,.refl _,.refl _,.refl _,trivial⟩
 Hl.agg ⟨Hl.slice ⟨h 0 0 false,h 1 0 false,h 1 2 true,h 2 0 false,trivial⟩,.nil,trivial⟩
theorem eU(f:Int→Int→Bool):Ki [ry 0 0 (f 0 0),ry 1 0 (f 1 0),ry 1 2 (f 1 2),ry 2 0 (f 2 0)] :=
 have h:HP pb:=by decide
 ⟨show 4≤16 by decide,CV.2 ⟨⟨h,CP _⟩,CV.2 ⟨⟨h,CP _⟩,CV.2 ⟨⟨h,CP _⟩,CV.2 ⟨⟨h,CP _⟩,CP _⟩⟩⟩⟩⟩
theorem oh(f:Int→Int→Bool):∀r∈[ry 0 0 (f 0 0),ry 1 0 (f 1 0),ry 1 2 (f 1 2),ry 2 0 (f 2 0)],r.reqs.length≤1000 :=
 CV.2 ⟨AL _,CV.2 ⟨AL _,CV.2 ⟨AL _,CV.2 ⟨AL _,CP _⟩⟩⟩⟩
theorem Ry(b:Int)(h:Cr (vy b 0)=true):LL [sy b 0]:=⟨show 1≤1073741824 by decide,CV.2 ⟨h,CP _⟩,.cons (CP _) .nil⟩
theorem TR(b c:Int):PC 31 [vi b,vi c] (.agg (Ae (sy b c))):=by
 refine Ps ⟨[],[],[],[],[],[],[],[],[],[],[]⟩ Tryz.func31 rfl (Nz rfl) ?_;refine Yi (Nz rfl) ?_;refine Yi (Nz rfl) ?_;exact .refl _
theorem r6(s:Sl):PC 32 [.agg (Ae s),vb true] (.agg [vs s.path,vi s.ver.a,vi s.ver.b,vi s.ver.c,.v (.slice none 0 0),vs ⟨#[]⟩,vs ⟨#[]⟩,vs ⟨#[]⟩,vb true]):=by
 refine Ps ⟨[2],[],[],[],[],[],[],[],[],[],[]⟩ Tryz.func32 rfl (Nz rfl) ?_;refine Yi (Nz rfl) ?_;refine Yi (Nz rfl) ?_;refine Yi (Nz rfl) ?_;exact .refl _
theorem iN(s:Sl):PC 32 [.agg (Ae s),vb false] (.agg [vs s.path,vi s.ver.a,vi s.ver.b,vi s.ver.c,.v (.slice none 0 0),vs ⟨#[]⟩,vs ⟨#[]⟩,vs ⟨#[]⟩,vb false]):=by
 refine Ps ⟨[2],[],[],[],[],[],[],[],[],[],[]⟩ Tryz.func32 rfl (Nz rfl) ?_;refine Yi (Nz rfl) ?_;refine Yi (Nz rfl) ?_;refine Yi (Nz rfl) ?_;exact .refl _
theorem yk9  : PC 9 [] (vb true):=by
 have hq:∀q∈ia,N2 q:=CV.2 ⟨⟨by decide,by decide⟩,CP _⟩;have hcl:=vS [] (by decide) (CP _);have fx:Ki Ri:=eU fun b c=>b == 1&&c == 2;have fz:Ki sc:=eU fun _ _=>false;have rx:∀r∈Ri,r.reqs.length≤1000:=oh fun b c=>b == 1&&c == 2;have fw:Ki ta:=eU fun b c=>b == 1;have xt:=(rY [] (sy 1 0) fx).args (args':=[.agg iL,.agg (Ae (sy 1 0))]) ⟨RB,.refl _,trivial⟩;rw[show OZ Ri (sy 1 0)=sy 2 0 by kernel_rfl,show Mj Ri (sy 1 0)=0 by kernel_rfl]at xt;have g14:=rY [] (sy 1 0) fz;rw[show OZ sc (sy 1 0)=sy 1 2 by kernel_rfl,show Mj sc (sy 1 0)=0 by kernel_rfl]at g14;have lx:=(rX Ri [] (sy 1 2) (l7 [] (sy 1 2) fx rx hcl)).args (args':=[.agg iL,.agg (Ae (sy 1 2))]) ⟨RB,.refl _,trivial⟩;rw[show KJ Ri [] (sy 1 2) false=.tup [Hi sc [],vi 0] by rw[Wy (show FV Ri (sy 1 2) false=0 by kernel_rfl)];kernel_rfl]at lx;have J4:=rW Ri [] (sy 1 0) (l8 [] (sy 1 0) fx rx hcl);have nJ:DS Ri ia=[sy 1 0]:=by kernel_rfl
 have uO:Dx Ri ia=0:=by kernel_rfl
 have hw:En Ri (sy 1 0) true=ta:=by kernel_rfl
 have jX:DS ta ia=[sy 2 0]:=by kernel_rfl
 have dH:Dx ta ia=0:=by kernel_rfl
 have sr:=o75 [sy 1 0] [sy 2 0] [pb,pb] (Ry 1 (by kernel_rfl)) (Ry 2 (by kernel_rfl)) (by decide) (by decide) (.refl _) (by decide);rw[gv (t:=[pb,pb]) (Ry 1 (by kernel_rfl)) (Ry 2 (by kernel_rfl)) (.refl _) (by decide)]at sr;have ly:=(xb Ri [] ia (sy 1 0) J4 (sY Ri [] ia fx.few hq) (sY (En Ri (sy 1 0) true) _ ia (by rw[hw];exact fw.few) hq) (fun _ _ _=>by rw[nJ,hw,jX];exact sr)).args (args':=[.agg iL,sl AK ia,.agg (Ae (sy 1 0))]) ⟨RB,.refl _,.refl _,trivial⟩;have eE:MS Ri ia (sy 1 0)=0:=by
  unfold MS;rw[Ah (fun h=>h (show FV Ri (sy 1 0) true=0 by kernel_rfl)),Ah (fun h=>h uO),hw,Ah (fun h=>h dH)]
 have eA:Nu Ri ia (sy 1 0)=rf:=by
  unfold Nu;rw[Ao eE,nJ,hw,jX];unfold rm;unfold rm;kernel_rfl
 rw[eA,eE]at ly;have hl:CO [sy 1 2]:=by decide
 have xu:=(xa Ri [] [sy 1 2] hl (xc Ri [] _ hl (lr VK Ri [] fx.few)) (fun z=>y0 Ri [] z.path z.ver (c84 Ri [] fx.few) fx.few)).args (args':=[.agg iL,sl Ae [sy 1 2]]) ⟨RB,.refl _,trivial⟩;rw[show TQ Ri [sy 1 2]=[sy 1 2] by kernel_rfl,show JO Ri [sy 1 2]=0 by kernel_rfl]at xu;have dF:=o35 rf rf (by decide);rw[AA rfl]at dF;refine Ps ⟨[3],[],[],[],[],[],[],[],[],[],[4,5,6,7,8,9]⟩ Tryz.func9 rfl (Nz rfl) ?_;refine Xi .pure (Xi _ (Yi (TR 0 0) ?_));refine Xi .pure (Xi _ (Yi (iN (sy 0 0)) ?_));refine Xi .pure (Xi _ (Yi (TR 1 0) ?_));refine Xi .pure (Xi _ (Yi (iN (sy 1 0)) ?_));refine Xi .pure (Xi _ (Yi (TR 1 2) ?_));refine Xi .pure (Xi _ (Yi (r6 (sy 1 2)) ?_));refine Xi .pure (Xi _ (Yi (TR 2 0) ?_));refine Xi .pure (Xi _ (Yi (iN (sy 2 0)) ?_));refine Yi (Nz rfl) ?_;refine Xi ⟨[(1,.v (.func (.func 31) #[] #[])),(3,.ref 3 0)],[(3,.ro [.slice .none [[vs pb,vi 1,vi 0,vi 0,.v (.slice none 0 0),vs mt,vs mt,vs mt,vb false],[vs pb,vi 1,vi 1,vi 0,.v (.slice none 0 0),vs mt,vs mt,vs mt,vb false],[vs pb,vi 1,vi 1,vi 2,.v (.slice none 0 0),vs mt,vs mt,vs mt,vb true],[vs pb,vi 1,vi 2,vi 0,.v (.slice none 0 0),vs mt,vs mt,vs mt,vb false]],.v (.slice none 0 0)])],Aa⟩ (Yi ⟨Z2,Z1,Fh,Tv⟩ ?_)
 refine Yi (Nz rfl) ?_;refine Xi _ (Yi (TR 1 0) ?_);refine Xi _ (Yi xt ?_);refine Yi (Nz rfl) ?_;refine Yi (by kernel_rfl) ?_;refine Xi ⟨[(1,.v (.func (.func 31) #[] #[])),(3,.ref 3 0),(4,.ref 4 0),(5,vi 0)],[(3,.ro [.slice .none [[vs pb,vi 1,vi 0,vi 0,.v (.slice none 0 0),vs mt,vs mt,vs mt,vb false],[vs pb,vi 1,vi 1,vi 0,.v (.slice none 0 0),vs mt,vs mt,vs mt,vb false],[vs pb,vi 1,vi 1,vi 2,.v (.slice none 0 0),vs mt,vs mt,vs mt,vb true],[vs pb,vi 1,vi 2,vi 0,.v (.slice none 0 0),vs mt,vs mt,vs mt,vb false]],.v (.slice none 0 0)]),(4,.cells (Ae (sy 2 0)))],Aa⟩ (Yi ⟨Z4,Z2,Fh,Tv⟩ ?_)
 refine Yi (Nz rfl) ?_;refine Xi _ (Yi (TR 1 2) ?_);refine Xi _ (Yi lx ?_);refine Yi (Nz rfl) ?_;refine Yi (by kernel_rfl) ?_;refine Xi ⟨[(1,.v (.func (.func 31) #[] #[])),(3,.ref 3 0),(4,.ref 4 0),(5,vi 0),(6,.ref 6 0),(7,vi 0)],[(3,.ro [.slice .none [[vs pb,vi 1,vi 0,vi 0,.v (.slice none 0 0),vs mt,vs mt,vs mt,vb false],[vs pb,vi 1,vi 1,vi 0,.v (.slice none 0 0),vs mt,vs mt,vs mt,vb false],[vs pb,vi 1,vi 1,vi 2,.v (.slice none 0 0),vs mt,vs mt,vs mt,vb true],[vs pb,vi 1,vi 2,vi 0,.v (.slice none 0 0),vs mt,vs mt,vs mt,vb false]],.v (.slice none 0 0)]),(4,.cells (Ae (sy 2 0))),(6,.cells [sl Ak sc,.slice .none []])],Aa⟩ (Yi ⟨Z6,Z3,Fh,Tv⟩ ?_)
 refine Yi (Nz rfl) ?_;refine Xi _ (Yi (TR 1 0) ?_);refine Xi _ (Yi g14 ?_);refine Yi (Nz rfl) ?_;refine Yi (by kernel_rfl) ?_;refine Xi ⟨[(1,.v (.func (.func 31) #[] #[])),(3,.ref 3 0),(4,.ref 4 0),(5,vi 0),(7,vi 0),(8,.ref 8 0),(9,vi 0)],[(3,.ro [.slice .none [[vs pb,vi 1,vi 0,vi 0,.v (.slice none 0 0),vs mt,vs mt,vs mt,vb false],[vs pb,vi 1,vi 1,vi 0,.v (.slice none 0 0),vs mt,vs mt,vs mt,vb false],[vs pb,vi 1,vi 1,vi 2,.v (.slice none 0 0),vs mt,vs mt,vs mt,vb true],[vs pb,vi 1,vi 2,vi 0,.v (.slice none 0 0),vs mt,vs mt,vs mt,vb false]],.v (.slice none 0 0)]),(4,.cells (Ae (sy 2 0))),(8,.cells (Ae (sy 1 2)))],Aa⟩ (Yi ⟨Z7,Z3,Fh,Tv⟩ ?_)
 refine Yi (Nz rfl) ?_;refine Xi _ (Yi (TR 1 0) ?_);refine Xi _ (Yi ly ?_);refine Yi (by kernel_rfl) ?_;refine Xi ⟨[(1,.v (.func (.func 31) #[] #[])),(3,.ref 3 0),(4,.ref 4 0),(5,vi 0),(7,vi 0),(8,.ref 8 0),(9,vi 0),(10,sl DW rf),(11,vi 0)],[(3,.ro [.slice .none [[vs pb,vi 1,vi 0,vi 0,.v (.slice none 0 0),vs mt,vs mt,vs mt,vb false],[vs pb,vi 1,vi 1,vi 0,.v (.slice none 0 0),vs mt,vs mt,vs mt,vb false],[vs pb,vi 1,vi 1,vi 2,.v (.slice none 0 0),vs mt,vs mt,vs mt,vb true],[vs pb,vi 1,vi 2,vi 0,.v (.slice none 0 0),vs mt,vs mt,vs mt,vb false]],.v (.slice none 0 0)]),(4,.cells (Ae (sy 2 0))),(8,.cells (Ae (sy 1 2)))],Aa⟩ (Yi ⟨Z9,Z3,Fh,Tv⟩ ?_)
 refine Yi (Nz rfl) ?_;refine Xi _ (Yi (TR 1 2) ?_);refine Xi _ (Yi xu ?_);refine Yi (by kernel_rfl) ?_;refine Xi ⟨[(1,.v (.func (.func 31) #[] #[])),(4,.ref 4 0),(5,vi 0),(7,vi 0),(8,.ref 8 0),(9,vi 0),(10,sl DW rf),(11,vi 0),(12,sl Ae [sy 1 2]),(13,vi 0)],[(4,.cells (Ae (sy 2 0))),(8,.cells (Ae (sy 1 2)))],Aa⟩ (Yi ⟨Z10,Z2,Fh,Tv⟩ ?_)
 refine Yi (fun _=>?_) (fun h=>absurd (by decide) h);refine Yi (Nz rfl) ?_;refine Xi _ (Yi (TR 2 0) ?_);refine Yi (fun h1=>?_) (fun h1=>?_)
 ·have h1:((sy 2 0).path:ByteArray)=(sy 2 0).path∧((sy 2 0).ver.a:Int)=(sy 2 0).ver.a∧((sy 2 0).ver.b:Int)=(sy 2 0).ver.b∧((sy 2 0).ver.c:Int)=(sy 2 0).ver.c∧True:=h1;refine Yi (fun _=>?_) (fun h=>absurd (by decide) h);refine Yi (fun _=>?_) (fun h=>absurd (by decide) h);refine Yi (Nz rfl) ?_;refine Xi _ (Yi (TR 1 2) ?_);refine Yi (fun h2=>?_) (fun h2=>?_)
  ·have h2:((sy 1 2).path:ByteArray)=(sy 1 2).path∧((sy 1 2).ver.a:Int)=(sy 1 2).ver.a∧((sy 1 2).ver.b:Int)=(sy 1 2).ver.b∧((sy 1 2).ver.c:Int)=(sy 1 2).ver.c∧True:=h2;refine Yi (fun _=>?_) (fun h=>absurd (by decide) h);refine Xi _ (Yi dF ?_);refine Yi (fun _=>?_) (fun h=>absurd (by decide) h);refine Yi (fun h3=>?_) (fun h3=>?_)
   ·have h3:(([sy 1 2].map Ae).length:Int)=(1:Int):=h3;refine Yi (by kernel_rfl) ?_;exact .refl _
   have h3:¬((([sy 1 2].map Ae).length:Int)=(1:Int)):=h3;refine Yi (by kernel_rfl) ?_;exact absurd rfl h3
  have h2:¬(((sy 1 2).path:ByteArray)=(sy 1 2).path∧((sy 1 2).ver.a:Int)=(sy 1 2).ver.a∧((sy 1 2).ver.b:Int)=(sy 1 2).ver.b∧((sy 1 2).ver.c:Int)=(sy 1 2).ver.c∧True):=h2;refine Yi (by kernel_rfl) ?_;exact absurd ⟨rfl,rfl,rfl,rfl,trivial⟩ h2
 have h1:¬(((sy 2 0).path:ByteArray)=(sy 2 0).path∧((sy 2 0).ver.a:Int)=(sy 2 0).ver.a∧((sy 2 0).ver.b:Int)=(sy 2 0).ver.b∧((sy 2 0).ver.c:Int)=(sy 2 0).ver.c∧True):=h1;refine Yi (by kernel_rfl) ?_;exact absurd ⟨rfl,rfl,rfl,rfl,trivial⟩ h1
theorem ZF{x:List Rl}(h:Gn x 16=true):x.length≤16:=by
 unfold Gn at h;simp only[Af,As]at h;omega
structure ll(x:List Rl)(ifs:List (List AV)):Prop where
 lim:lk x []
 fi:CO ifs
 si:∀c∈ifs,c.length=5
theorem ZG{x:List Rl}(hs:Gn x 16=true):∀r∈x,r.reqs.length≤1000:=fun r hr=>by
 unfold Gn at hs;simp only[Af,As,Bk]at hs;have q:=hs.1 r hr;simp only[IG,F7,Af,As]at q;omega
theorem aR{x:List Rl}{s:Sl}{y:Bool}(h:Ki x):Ki (En x s y):=by
 unfold En;split
 ·exact⟨by rw[Jt];exact h.len,li h.few⟩
 ·exact⟨AL _,CP _⟩
theorem xd{x:List Rl}(ifs:List (List AV))(s:Sl)(h:Ki x)(hr:∀r∈x,r.reqs.length≤1000)(hf:CO ifs)(hs:∀c∈ifs,c.length=5):PC 11 [Hi x ifs,.agg (Ae s)] (KJ x ifs s true)∧PC 12 [Hi x ifs,.agg (Ae s)] (KJ x ifs s false) :=
 ⟨rW x ifs s (l8 ifs s h hr (vS ifs hf hs)),rX x ifs s (l7 ifs s h hr (vS ifs hf hs))⟩
end Go.Eng
namespace Go.Proofs.YtddfphmpfnmknaaGreatDoor.joins
open Go Go.Eng Go.Proofs Go.ChangeShapes Go.WideShapes Go.ChangeAt Go.RowKit
section
variable {H:Type}{enc:TypeId×Value→H}{w:World}
theorem all_le{d:DataW H}{l:List (DataW H)}(h:d∈l):Rows.uptoBulk d≤Rows.uptoBulkAll l:=by
 induction l with
 |nil=>cases h
 |cons x r ih =>
  simp only[Rows.uptoBulkAll]
  cases Av.1 h with
  |inl e=>subst e;omega
  |inr e=>have:=ih e;omega
theorem one_le(d:DataW H):1≤Rows.uptoBulk d:=by
 cases d with
 |lit l=>cases l<;>simp[Rows.uptoBulk]
 |nil=>simp[Rows.uptoBulk]
 |ptr d=>simp[Rows.uptoBulk]
 |slice lu spare=>simp[Rows.uptoBulk]
 |agg parts=>simp[Rows.uptoBulk]
 |iface t d=>simp[Rows.uptoBulk]
 |map entries=>simp[Rows.uptoBulk]
 |held h=>simp[Rows.uptoBulk]
theorem len_le(l:List (DataW H)):l.length≤Rows.uptoBulkAll l:=by
 induction l with
 |nil=>simp[Rows.uptoBulkAll]
 |cons x r ih=>have:=one_le x;simp only[Rows.uptoBulkAll,Au];omega
theorem bulk_ok:Vu (H:=H) Rows.uptoBulk where
 slice es sp:=by
  have h1:=len_le es
  refine⟨by simp only[Rows.uptoBulk];omega,fun d hd=>?_⟩
  have:=all_le hd
  simp only[Rows.uptoBulk];omega
 agg ps d hd:=by
  have:=all_le hd
  simp only[Rows.uptoBulk];omega
 str b:=by simp only[Rows.uptoBulk];omega
theorem app_all(l r:List (DataW H)):Rows.uptoBulkAll (l++r)=Rows.uptoBulkAll l+Rows.uptoBulkAll r:=by
 induction l with
 |nil=>simp[Rows.uptoBulkAll]
 |cons x l ih=>simp only[IA,Rows.uptoBulkAll,ih];omega
abbrev NB:Nat:=1048576
abbrev Op(enc:TypeId×Value→H)(w:World)(t:TypeId){α:Type}(e:α→List AV)(ok:α→Prop):Prop:=JE enc Tryz.prog w Rows.uptoBulk NB t e ok
theorem oI:Op enc w 3 (fun n:Int=>[vi n]) (fun _=>True):=(cP Tryz.underlying3).to id (fun _ _=>⟨rfl,trivial⟩)
theorem oB:Op enc w 4 (fun b:Bool=>[vb b]) (fun _=>True):=Zn Tryz.underlying4
theorem oS:Op enc w 9 (fun s:ByteArray=>[vs s]) (fun s=>s.size≤NB):=Wq bulk_ok Tryz.underlying9
theorem oVer:Op enc w 27 GC (fun _=>True) :=
 (FU bulk_ok Tryz.underlying27 (L:=3) (by kernel_rfl) (Cc rfl (n:=1) (by kernel_rfl) oI (Cc rfl (n:=1) (by kernel_rfl) oI (Cc rfl (n:=1) (by kernel_rfl) oI GX)))).to
  (fun p=>(⟨p.1,p.2.1,p.2.2.1⟩:Ver)) (fun _ _=>⟨rfl,trivial⟩)
theorem oSpan:Op enc w 67 Aq (fun _=>True) :=
 (FU bulk_ok Tryz.underlying67 (L:=2) (by kernel_rfl) (Cc rfl (n:=1) (by kernel_rfl) oI (Cc rfl (n:=1) (by kernel_rfl) oI GX))).to
  (fun p=>(p.1,p.2.1)) (fun _ _=>⟨rfl,trivial⟩)
theorem oSet:Op enc w 69 (fun l:Bg=>[sl Aq l]) (fun l=>l.length≤NB) :=
 (Iv bulk_ok Tryz.underlying69 (m:=1) (by kernel_rfl) (fun _=>rfl) oSpan).to id (fun _ h=>⟨rfl,h.1⟩)
abbrev OkRq(q:Rq):Prop:=q.path.size≤NB∧q.set.length≤NB
theorem oRq:Op enc w 71 AK OkRq :=
 (FU bulk_ok Tryz.underlying71 (L:=2) (by kernel_rfl) (Cc rfl (n:=1) (by kernel_rfl) oS (Cc rfl (n:=1) (by kernel_rfl) oSet GX))).to
  (fun p=>(⟨p.1,p.2.1⟩:Rq)) (fun _ h=>⟨rfl,h.1,h.2.1⟩)
abbrev OkRqs(l:List Rq):Prop:=l.length≤NB∧∀q∈l,OkRq q
theorem oRqs:Op enc w 39 (fun l:List Rq=>[sl AK l]) OkRqs :=
 Iv bulk_ok Tryz.underlying39 (m:=1) (by kernel_rfl) (fun _=>rfl) oRq
abbrev OkRl(r:Rl):Prop:=r.path.size≤NB∧OkRqs r.reqs
theorem oRl:Op enc w 41 Ak OkRl :=
 (FU bulk_ok Tryz.underlying41 (L:=9) (by kernel_rfl) (Cc rfl (n:=1) (by kernel_rfl) oS (Cc rfl (n:=3) (by kernel_rfl) oVer (Cc rfl (n:=1) (by kernel_rfl) oRqs
  (Cc rfl (n:=1) (by kernel_rfl) oS (Cc rfl (n:=1) (by kernel_rfl) oS (Cc rfl (n:=1) (by kernel_rfl) oS (Cc rfl (n:=1) (by kernel_rfl) oB GX)))))))).to
  (fun p=>(⟨p.1,p.2.1,p.2.2.1,p.2.2.2.1,p.2.2.2.2.1,p.2.2.2.2.2.1,p.2.2.2.2.2.2.1⟩:Rl)) (fun _ h=>⟨rfl,h.1,h.2.2.1⟩)
theorem oRls:Op enc w 22 (fun l:List Rl=>[sl Ak l]) (fun l=>l.length≤NB∧∀r∈l,OkRl r) :=
 Iv bulk_ok Tryz.underlying22 (m:=8) (by kernel_rfl) (fun _=>rfl) oRl
theorem oIfc:Op enc w 132 (fun s:ByteArray=>[vs s,.junk,.junk,.junk,.junk]) (fun _=>True) :=
 (FU bulk_ok Tryz.underlying132 (L:=5) (by kernel_rfl) (Cc rfl (n:=1) (by kernel_rfl) oS (Cc rfl (n:=1) (by kernel_rfl) (ML Tryz.underlying127) (Cc rfl (n:=1) (by kernel_rfl) (ML Tryz.underlying128)
  (Cc rfl (n:=1) (by kernel_rfl) (ML Tryz.underlying129) (Cc rfl (n:=1) (by kernel_rfl) (ML Tryz.underlying130) GX)))))).to (fun p=>p.1) (fun _ _=>⟨rfl,trivial⟩)
theorem oIfs:Op enc w 23 (fun l:List ByteArray=>[sl (fun s=>[vs s,.junk,.junk,.junk,.junk]) l]) (fun l=>l.length≤NB) :=
 (Iv bulk_ok Tryz.underlying23 (m:=4) (by kernel_rfl) (fun _=>rfl) oIfc).to id (fun _ h=>⟨rfl,h.1⟩)
theorem oIx:Op enc w 25 (fun p:List Rl×List (List AV)=>[sl Ak p.1,.slice .none p.2]) (fun p=>(p.1.length≤NB∧∀r∈p.1,OkRl r)∧p.2.length≤NB∧∀c∈p.2,c.length=5) :=
 (FU bulk_ok Tryz.underlying25 (L:=2) (by kernel_rfl) (Cc rfl (n:=1) (by kernel_rfl) oRls (Cc rfl (n:=1) (by kernel_rfl) oIfs GX))).to
  (fun p=>(p.1,p.2.1.map (fun s=>[vs s,.junk,.junk,.junk,.junk]))) (fun _ h=>⟨rfl,h.1,by rw[A4];exact h.2.1,fun c hc=>by obtain⟨s,_,rfl⟩:=Aj.1 hc;rfl⟩)
theorem oSl:Op enc w 29 Ae (fun y=>y.path.size≤NB) :=
 (FU bulk_ok Tryz.underlying29 (L:=4) (by kernel_rfl) (Cc rfl (n:=1) (by kernel_rfl) oS (Cc rfl (n:=3) (by kernel_rfl) oVer GX))).to
  (fun p=>(⟨p.1,p.2.1⟩:Sl)) (fun _ h=>⟨rfl,h.1⟩)
theorem oSls:Op enc w 45 (fun l:List Sl=>[sl Ae l]) (fun l=>l.length≤NB∧∀y∈l,y.path.size≤NB) :=
 Iv bulk_ok Tryz.underlying45 (m:=3) (by kernel_rfl) (fun _=>rfl) oSl
theorem few_of{n:Nat}(h:n≤NB):n≤1073741824:=Br h (by decide)
theorem lim_of{x:List Rl}{roots:List Rq}(h:x.length≤NB∧∀r∈x,OkRl r)(k:OkRqs roots):lk x roots where
 ix:=few_of h.1
 rs:=few_of k.1
 rel r hr:=⟨few_of (h.2 r hr).2.1,few_of (h.2 r hr).1,fun q hq=>⟨few_of ((h.2 r hr).2.2 q hq).2,few_of ((h.2 r hr).2.2 q hq).1⟩⟩
 rq q hq:=⟨few_of (k.2 q hq).2,few_of (k.2 q hq).1⟩
theorem lim0_of{x:List Rl}(h:x.length≤NB∧∀r∈x,OkRl r):lk x []:=lim_of h ⟨AL _,fun q hq=>by cases hq⟩
theorem lim43_of{x:List Rl}{ifs:List (List AV)}(h:(x.length≤NB∧∀r∈x,OkRl r)∧ifs.length≤NB∧∀c∈ifs,c.length=5):ll x ifs:=⟨lim0_of h.1,few_of h.2.1,h.2.2⟩
end
theorem ok_agg{P:Program}{W:World}{base:Nat}{t:TypeId}{v:Value}{fs:Array Field}(hu:P.underlying t=some (.struct fs))(h:Value.okWide P W .any base t v):∃cs,v=.agg cs:=by
 unfold Value.okWide at h
 rw[hu]at h
 obtain⟨cs,e,_⟩:=h
 exact⟨cs,e⟩
theorem ok_slice{P:Program}{W:World}{base:Nat}{t e:TypeId}{v:Value}(hu:P.underlying t=some (.slice e))(h:Value.okWide P W .any base t v):v.oneCell'=true:=by
 unfold Value.okWide at h
 rw[hu]at h
 unfold Cell.okWide Cell.ok at h
 rw[hu]at h
 cases v<;>first | rfl | simp at h
theorem ok_int{P:Program}{W:World}{base:Nat}{t:TypeId}{k:IntKind}{v:Value}(hu:P.underlying t=some (.int k))(h:Value.okWide P W .any base t v):v.oneCell'=true:=by
 unfold Value.okWide at h
 rw[hu]at h
 unfold Cell.okWide Cell.ok at h
 rw[hu]at h
 cases v<;>first | rfl | simp at h
theorem int_of_shape{P:Program}{w:World}{g:Nat}{t:TypeId}{k:IntKind}{zero:Array Value}(h:w.ShapedOpen P)(hg:g<P.globals.size)
  (h0:((begin P (fun _ _=>0) default).world.heap[g]?).bind Obj.row?=some (zero,t)) (hz:zero.size=1)
  (hb:P.buildable t=true) (hc:P.cellTypes P.depth t=some [t]) (hu:P.underlying t=some (.int k)):∃p,w.cell? ⟨g,0,none⟩=some (.int k p):=by
 obtain⟨cs,hh,hs,hr⟩:=h.1 g zero t hg h0
 obtain⟨ts,yg,_,GM⟩:=hr hb
 rw[hc]at yg
 cases yg
 have h1:0<cs.size:=by omega
 obtain⟨u,fR,Gv⟩:=GM 0 cs[0] (by simp[h1])
 have:u=t:=by simpa using fR.symm
 subst this
 have Du:w.cell? ⟨g,0,none⟩=some cs[0]:=by simp[World.cell?,hh,h1]
 rw[Du]
 unfold Cell.ok at Gv
 rw[hu]at Gv
 cases hv:cs[0]<;>rw[hv]at Gv<;>simp at Gv
 obtain⟨rfl,_⟩:=Gv
 exact⟨_,rfl⟩
theorem maxLen_cell{W:World}(h:W.ShapedOpen Tryz.prog):∃m,W.cell? ⟨0,0,none⟩=some (.int .i64 m) :=
 int_of_shape (t:=3) (zero:=#[.int .i64 0]) h (Bv (by kernel_rfl)) (by kernel_rfl) rfl (by kernel_rfl) (by kernel_rfl) Tryz.underlying3
def Still(W W' : World):Prop:=W'.os=W.os∧W'.output=W.output∧W.heap.size≤W'.heap.size∧∀b,b<W.heap.size→W'.heap[b]?=W.heap[b]?
theorem run_true{f:Nat}{args:List AV}{vals:Array Value}{W:World}(hc:PC f args (vb true))(hM:∃m,W.cell? ⟨0,0,none⟩=some (.int .i64 m))(hs:vals.size=args.length)
  (hr:∀(i:Nat) (av:AV) (x:Value),args[i]?=some av→vals[i]?=some x→BD (fj W) W Fg av x):Calls Tryz.prog f vals W fun e W'=>e=.returned (.bool true)∧Still W W':=by
 refine(hc.2 (fj W) W vals hs (fun i av x q1 q2=>(hr i av x q1 q2).up _) (ra hM (fun _ h=>by cases h))).mono fun e W' ⟨v,r,h',g',e1,e2,e3,e4,_⟩=>?_
 subst e1
 obtain⟨rfl,rfl⟩:=e2
 obtain rfl:=e3.v_eq
 exact⟨rfl,e4.os,e4.output,e4.size,fun b hb=>e4.frame b hb (fun r h=>h.elim)⟩
theorem Still.kept{W W' : World}(h:Still W W')(yq:MemPlace→Prop):W.keptBut W' yq:=by
 refine⟨h.1,h.2.1,fun i hi=>?_⟩
 rw[h.2.2.2 i hi]
 cases hh:W.heap[i]? with
 |none=>rfl
 |some o=>cases o<;>simp
theorem Still.same{W W' : World}(h:Still W W'){p:MemPlace}(hp:p.block<W.heap.size):W.sameAt W' p:=by
 cases p with
 |cell b off =>
  show W'.cell? ⟨b,off,none⟩=W.cell? ⟨b,off,none⟩
  unfold World.cell?
  rw[h.2.2.2 b hp]
 |map b=>exact h.2.2.2 b hp
theorem kids:Kids Tryz.prog (· < Tryz.prog.types.size):=kids_rows (by kernel_rfl) (by kernel_rfl)
theorem full:∀t e,t<Tryz.prog.types.size→Tryz.prog.underlying t=some (.slice e)→0<Tryz.prog.cellsOf e:=slices_full_of Tryz.prog (by kernel_rfl)
theorem carry{H:Type}{enc:TypeId×Value→H}{W W' : World}(h:Still W W'):∀{ts:List TypeId} {vs:List Value} {ds:List (DataW H)} {ps:List MemPlace},DataW.TrodAll enc Tryz.prog W 0 (fun _=>true) true ts vs ds ps→DataW.TrodAll enc Tryz.prog W' 0 (fun _=>true) true ts vs ds ps
 | [],[],[],_,e=>e
 |t::ts,v::vs,d::ds,ps,k=>by
  have Dz:=k.lt
  obtain⟨p,q,⟨n,h1⟩,h2,rfl⟩:=k
  exact⟨p,q,⟨n,DataW.trod_carry n _ _ _ h1 (fun x hx=>h.same (Dz x (Bn _ hx)))⟩,carry h h2,rfl⟩
 | [],[],_::_,_,k=>k.elim
 | [],_::_,_,_,k=>k.elim
 |_::_,[],_,_,k=>k.elim
 |_::_,_::_,[],_,k=>k.elim
theorem post_true{H:Type}{enc:TypeId×Value→H}{W W' : World}{f:Func}{s:ChangeSpec}{args:Array Value}{ds:List (DataW H)}{before:List MemPlace}(Jf:Still W W')(hv:s.vars=[])
  (hW:DataW.Whole enc Tryz.prog f.params.toList s.vars false W args.toList ds [] before) (hr:f.resultTypes=#[4]) (hT:∀t∈f.params.toList,t<Tryz.prog.types.size) (hs:s.fn H ds={ results:=[.lit (.bool true)],args:=ds }) :
  s.post enc Tryz.prog f false true false false W args (.bool true) W':=by
 have xE:=hW
 obtain⟨p,q,hA,hV,rfl,hz,_⟩:=hW
 rw[hv]at hV
 have hq:q=[]:=hV
 subst hq
 have Dz:=xE.lt
 have jX:s.fn H (ds++[])={ results:=[.lit (.bool true)],args:=ds }:=by rw[BV];exact hs
 refine⟨ds,[],p++[],[],p,[],xE,?_,?_,?_,Jf.kept _,fun h=>by cases h⟩
 ·rw[jX,hr]
  exact⟨[],[],⟨1,by rw[show(Value.bool true).cells.toList=[.bool true]from rfl,DataW.trod_step];unfold DataW.trodStep;rw[Tryz.underlying4]⟩,rfl,rfl⟩
 ·rw[jX]
  exact(carry Jf hA).respare kids full hT (fun x hx=>by simpa using Dz x (Bn _ hx))
 ·rw[jX,hv];rfl
end Go.Proofs.YtddfphmpfnmknaaGreatDoor.joins
namespace Go.Proofs.YtddfphmpfnmknaaGreatDoor.joins
open Go Go.Eng Go.Proofs Go.ChangeShapes Go.WideShapes Go.ChangeAt Go.RowKit
theorem own:ownKnob Tryz.prog.godebug=none:=by kernel_rfl
def flatD:Nat→DataW Unit→List Value
 |0,_=>[]
 |n+1,.agg l=>l.flatMap (flatD n)
 |_+1,.lit (.int k i)=>[.int k i]
 |_+1,_=>[]
def layIn(d:DataW Unit):Obj→Obj
 |.cells _ t frozen=>.cells (flatD 4 d).toArray t frozen
 |o=>o
noncomputable def laidWorld(os:Os):World :=
 { World.holding Tryz.prog os ⟨#[],#[],[]⟩with heap:=((World.holding Tryz.prog os ⟨#[],#[],[]⟩).heap.modify 1 (layIn Rows.laid_unicode_utf8_first)).modify 2 (layIn Rows.laid_unicode_utf8_acceptRanges) }
abbrev nilV:Value:=.slice none 0 0
theorem arr1{args:Array Value}{a:Value}(h:args.toList=[a]):args=#[a]:=by
 cases args;simp_all
theorem arr2{args:Array Value}{a b:Value}(h:args.toList=[a,b]):args=#[a,b]:=by
 cases args;simp_all
theorem arr3{args:Array Value}{a b c:Value}(h:args.toList=[a,b,c]):args=#[a,b,c]:=by
 cases args;simp_all
theorem arr4{args:Array Value}{a b c d:Value}(h:args.toList=[a,b,c,d]):args=#[a,b,c,d]:=by
 cases args;simp_all
theorem arr5{args:Array Value}{a b c d e:Value}(h:args.toList=[a,b,c,d,e]):args=#[a,b,c,d,e]:=by
 cases args;simp_all
theorem looksOff:false=Tryz.pinned.checked.prog.looks []:=by kernel_rfl
theorem noStand:∀t∈([25,29,39,45,62]:List Nat),Tryz.pinned.checked.prog.wantsStandIn t=false:=by
 intro t ht
 simp only[Av,LA,or_false]at ht
 rcases ht with rfl | rfl | rfl | rfl | rfl<;>exact(show Tryz.prog.wantsStandIn _=false by kernel_rfl)
end Go.Proofs.YtddfphmpfnmknaaGreatDoor.joins
namespace Go.Eng
open Go.Proofs
theorem rV(a b:List Sl)(ha:CO a):PC 19 [sl Ae a,sl Ae b] (vb (decide (a=b))):=by
 have ux:a.length≤1073741824:=ha;refine Ps ⟨[],[],[],[],[],[],[],[],[],[],[7,8]⟩ Tryz.func19 rfl (Nz rfl) ?_;refine Yi (fun h1=>?_) (fun h1=>?_)
 ·have h1:((a.map Ae).length:Int)≠((b.map Ae).length:Int):=h1;exact .of_eq (show vb false=vb (decide (a=b)) by rw[Ay (fun e=>absurd (Ac (fun z=>((z.map Ae).length:Int)) e) h1)])
 have h1:((a.map Ae).length:Int)=((b.map Ae).length:Int):=AW h1;have hl:a.length=b.length:=by have q:=h1;rw[Lm,Lm]at q;omega
 refine Xi {q:Nat // q≤a.length∧∀j (hj:j<a.length),j<q→a[j]=b[j]'(hl▸hj)} (Xi (fun q=>⟨[(0,sl Ae a),(1,sl Ae b),(12,vi (a.map Ae).length),(13,vi q.1)],[],Aa⟩) (Xi (fun q=>a.length-q.1) (Yi (Xi ⟨0,AL _,fun _ _ h=>absurd h (Ju _)⟩ ?_) ?_)))
 ·exact⟨Z4,Tv,Fh,Tv⟩
 intro⟨i,i1,i2⟩;have i1:i≤a.length:=i1;have i2:∀j (hj:j<a.length),j<i→a[j]=b[j]'(hl▸hj):=i2;refine Yi (fun h3=>?_) (fun h3=>?_)
 ·have h3:(i:Int)<((a.map Ae).length:Int):=h3;have n3:=Ma h3;have qz:i<b.length:=by have q:=h3;rw[Lm]at q;omega
  refine Xi (Ae a[i]) (Yi (UW n3) (Yi rfl ?_));refine Yi (Nz rfl) ?_;refine Xi (Ae b[i]) (Yi (UW qz) (Yi rfl ?_));refine Yi (Nz rfl) ?_;refine Yi (fun h4=>?_) (fun h4=>?_)
  ·have h4:(a[i].path:ByteArray)=b[i].path∧(a[i].ver.a:Int)=b[i].ver.a∧(a[i].ver.b:Int)=b[i].ver.b∧(a[i].ver.c:Int)=b[i].ver.c∧True:=h4;refine Yi (by kernel_rfl) ?_;refine Xi ⟨[(0,sl Ae a),(1,sl Ae b),(12,vi (a.map Ae).length),(13,vi i)],[],Aa⟩ (Yi ⟨Z4,Tv,Fh,Tv⟩ ?_)
   refine Yi (Ii i (by omega)) ?_;refine Xi ⟨i+1,n3,fun j hj L3=>if e:j<i then i2 j hj e else by
     have e:j=i:=by omega
     subst e;exact aT h4⟩ ?_
   exact⟨Dl a.length i (by omega),Z4,Tv,Fh,Tv⟩
  have h4:¬((a[i].path:ByteArray)=b[i].path∧(a[i].ver.a:Int)=b[i].ver.a∧(a[i].ver.b:Int)=b[i].ver.b∧(a[i].ver.c:Int)=b[i].ver.c∧True):=h4;refine Yi (by kernel_rfl) ?_;refine Xi ⟨[],[],Aa⟩ (Yi ⟨Tv,Tv,Fh,Tv⟩ ?_)
  exact .of_eq (show vb false=vb (decide (a=b)) by rw[Ay (lp (i:=i) (ha:=n3) (hb:=qz) (lZ h4))])
 have h3:¬((i:Int)<((a.map Ae).length:Int)):=h3;have n3:=L9 h3;exact .of_eq (show vb true=vb (decide (a=b)) by rw[AA (au hl fun j hj=>i2 j hj (by have q:=h3;rw[Lm]at q;omega))])
structure ZK(x:List Rl)(roots:List Rq)(s:Sl):Prop where
 out:FV x s true=0→s∉DS (En x s true) roots
 bad:FV x s true=0→Dx x roots=17→Dx (En x s true) roots=17
 same:FV x s true=0→Dx x roots=0→s∉DS x roots→Dx (En x s true) roots=0∧DS (En x s true) roots=DS x roots
theorem gC{x:List Rl}(roots:List Rq)(s:Sl)(hx:x.length≤16):ZK x roots s where
 out h hs:=by
  rw[Rz h]at hs
  have:=cG (p:=JI s) hx s hs
  simp at this
 bad h h1:=by rw[Rz h];exact gz hx h1
 same h h1 h2:=by
  rw[Rz h];exact Zj hx h1 fun z hz=>Ay fun e=>h2 (e▸hz)
theorem rd(x:List Rl)(ifs:List (List AV))(roots:List Rq)(s:Sl)(sm:Bool)(hN:sm=true→ZK x roots s)(Sy:PC 10 [Hi x ifs,sl AK roots] (vb sm))(J4:sm=true→PC 11 [Hi x ifs,.agg (Ae s)] (KJ x ifs s true))(m5:sm=true→PC 17 [Hi x ifs,sl AK roots] (.tup [sl Ae (DS x roots),vi (Dx x roots)]))(m6:sm=true→PC 17 [Hi (En x s true) (if FV x s true=0 then ifs else []),sl AK roots] (.tup [sl Ae (DS (En x s true) roots),vi (Dx (En x s true) roots)]))(oU:sm=true→CO (DS x roots))(bV:sm=true→CO (DS (En x s true) roots)):PC 5 [.agg (Ic x ifs),sl AK roots,.agg (Ae s)] (vb true):=by
 refine Ps ⟨[3,5,7],[],[],[],[],[],[],[],[],[],[4,5,7,8,10,11,12]⟩ Tryz.func5 rfl (Nz rfl) ?_;refine Xi .pure (Xi _ (Yi yk9 ?_));refine Yi (Nz rfl) ?_;refine Dd (Bt sm) (fun h1=>?_) (fun h1=>?_)
 ·have h1:sm=true:=h1;refine Xi .pure (Xi _ (Yi (cb h1 Sy) ?_));refine Yi (fun h2=>?_) (fun h2=>?_)
  ·have h2:(100:Int)<(s.path.size:Int):=h2;refine Xi ⟨[],[],Aa⟩ (Yi ⟨Tv,Tv,Fh,Tv⟩ ?_)
   exact .refl _
  have h2:¬((100:Int)<(s.path.size:Int)):=h2;refine Xi ⟨[(1,sl AK roots),(3,.ref 3 0),(5,.ref 5 0)],[(3,.ro (Ic x ifs)),(5,.ro (Ae s))],Aa⟩ (Yi ⟨Z3,Z2,Fh,Tv⟩ ?_)
  refine Yi (Nz rfl) ?_;refine Yi (Nz rfl) ?_;refine Xi .pure (Xi _ (Yi (J4 h1) ?_));refine Yi (Nz rfl) ?_;refine Yi (fun h4=>?_) (fun h4=>?_)
  ·have h4:((FV x s true):Int)≠(0:Int):=h4;refine Xi ⟨[],[],Aa⟩ (Yi ⟨Tv,Tv,Fh,Tv⟩ ?_)
   exact .refl _
  have h4:((FV x s true):Int)=(0:Int):=AW h4;refine Xi ⟨[(1,sl AK roots),(3,.ref 3 0),(5,.ref 5 0),(7,.ref 7 0)],[(3,.ro (Ic x ifs)),(5,.ro (Ae s)),(7,.ro [sl Ak (En x s true),.slice .none (if FV x s true=0 then ifs else [])])],Aa⟩ (Yi ⟨Z4,Z3,Fh,Tv⟩ ?_)
  refine Yi (Nz rfl) ?_;refine Xi .pure (Xi _ (Yi (m5 h1) ?_));refine Yi (Nz rfl) ?_;refine Xi .pure (Xi _ (Yi (m6 h1) ?_));refine Xi ⟨[(5,.ref 5 0),(8,vi (Dx x roots)),(9,sl Ae (DS x roots)),(10,sl Ae (DS (En x s true) roots)),(11,vi (Dx (En x s true) roots))],[(5,.ro (Ae s))],Aa⟩ (Yi ⟨Z5,Z1,Fh,Tv⟩ ?_)
  refine Yi (Nz rfl) ?_;refine Xi .pure (Xi _ (Yi (cb (Ay ((hN h1).out h4)) (rp (DS (En x s true) roots) s (bV h1))) ?_));refine Yi (fun h6=>?_) (fun h6=>?_)
  ·have h6:((Dx x roots):Int)=(17:Int):=h6;refine Yi (fun h7=>?_) (fun h7=>?_)
   ·have h7:((Dx (En x s true) roots):Int)≠(17:Int):=h7;refine Xi ⟨[],[],Aa⟩ (Yi ⟨Tv,Tv,Fh,Tv⟩ ?_)
    exact absurd ((hN h1).bad h4 h6) h7
   have h7:((Dx (En x s true) roots):Int)=(17:Int):=AW h7;refine Xi ⟨[(5,.ref 5 0),(8,vi (Dx x roots)),(9,sl Ae (DS x roots)),(10,sl Ae (DS (En x s true) roots)),(11,vi (Dx (En x s true) roots))],[(5,.ro (Ae s))],Aa⟩ (Yi ⟨Z5,Z1,Fh,Tv⟩ ?_)
   refine Yi (fun h9=>?_) (fun h9=>?_)
   ·have h9:((Dx x roots):Int)≠(0:Int):=h9;exact .refl _
   have h9:((Dx x roots):Int)=(0:Int):=AW h9;refine Yi (Nz rfl) ?_;refine Dd (Bt (decide (s∈DS x roots))) (fun J4=>?_) (fun J4=>?_)
   ·have J4:(decide (s∈DS x roots))=true:=J4;refine Xi .pure (Xi _ (Yi (cb J4 (rp (DS x roots) s (oU h1))) ?_));exact .refl _
   have J4:(decide (s∈DS x roots))=false:=J4;refine Xi .pure (Xi _ (Yi (cb J4 (rp (DS x roots) s (oU h1))) ?_));refine Yi (fun WH=>?_) (fun WH=>?_)
   ·have WH:((Dx (En x s true) roots):Int)=(0:Int):=WH;refine Xi .pure (Xi _ (Yi (cb (AA ((hN h1).same h4 h9 (Hh J4)).2.symm) (rV (DS x roots) (DS (En x s true) roots) (oU h1))) ?_));exact .refl _
   have WH:¬(((Dx (En x s true) roots):Int)=(0:Int)):=WH;exact absurd ((hN h1).same h4 h9 (Hh J4)).1 WH
  have h6:¬(((Dx x roots):Int)=(17:Int)):=h6;refine Xi ⟨[(5,.ref 5 0),(8,vi (Dx x roots)),(9,sl Ae (DS x roots)),(10,sl Ae (DS (En x s true) roots)),(11,vi (Dx (En x s true) roots))],[(5,.ro (Ae s))],Aa⟩ (Yi ⟨Z5,Z1,Fh,Tv⟩ ?_)
  refine Yi (fun mZ=>?_) (fun mZ=>?_)
  ·have mZ:((Dx x roots):Int)≠(0:Int):=mZ;exact .refl _
  have mZ:((Dx x roots):Int)=(0:Int):=AW mZ;refine Yi (Nz rfl) ?_;refine Dd (Bt (decide (s∈DS x roots))) (fun jE=>?_) (fun jE=>?_)
  ·have jE:(decide (s∈DS x roots))=true:=jE;refine Xi .pure (Xi _ (Yi (cb jE (rp (DS x roots) s (oU h1))) ?_));exact .refl _
  have jE:(decide (s∈DS x roots))=false:=jE;refine Xi .pure (Xi _ (Yi (cb jE (rp (DS x roots) s (oU h1))) ?_));refine Yi (fun dE=>?_) (fun dE=>?_)
  ·have dE:((Dx (En x s true) roots):Int)=(0:Int):=dE;refine Xi .pure (Xi _ (Yi (cb (AA ((hN h1).same h4 mZ (Hh jE)).2.symm) (rV (DS x roots) (DS (En x s true) roots) (oU h1))) ?_));exact .refl _
  have dE:¬(((Dx (En x s true) roots):Int)=(0:Int)):=dE;exact absurd ((hN h1).same h4 mZ (Hh jE)).1 dE
 have h1:sm=false:=h1;refine Xi .pure (Xi _ (Yi (cb h1 Sy) ?_));refine Xi ⟨[],[],Aa⟩ (Yi ⟨Tv,Tv,Fh,Tv⟩ ?_)
 exact .refl _
theorem ZX{x:List Rl}(roots:List Rq)(hx:x.length≤16):CO (DS x roots):=by
 by_cases h:Dx x roots=0
 ·have:=(im h).2.1
  show _≤1073741824;omega
 ·unfold DS;rw[Ah h];exact AL _
theorem Vi{x:List Rl}{roots:List Rq}(h:(Gn x 16&&F7 roots)=true):Gn x 16=true:=(Bool.and_eq_true_iff.1 h).1
theorem vM(x:List Rl)(ifs:List (List AV))(roots:List Rq)(s:Sl)(hL:lk x roots)(h:ll x ifs):PC 5 [Hi x ifs,sl AK roots,.agg (Ae s)] (vb true):=by
 have fw (q:(Gn x 16&&F7 roots)=true):Ki x:=⟨ZF (Vi q),h.lim.x⟩
 exact rd x ifs roots s _ (fun q=>gC roots s (fw q).len) (hL.c11 ifs) (fun q=>(xd ifs s (fw q) (ZG (Vi q)) h.fi h.si).1) (fun _=>sY x ifs roots hL.x hL.rq)
  (fun q=>sY _ _ roots (aR (fw q)).few hL.rq) (fun q=>ZX roots (fw q).len) fun q=>ZX roots (aR (fw q)).len
end Go.Eng
