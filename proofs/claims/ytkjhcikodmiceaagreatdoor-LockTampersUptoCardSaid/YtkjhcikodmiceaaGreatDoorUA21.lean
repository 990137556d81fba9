/- Lemmas 21. -/
import Derived.Test.YtkjhcikodmiceaaGreatDoorUA20
import Derived.Test.YtkjhcikodmiceaaGreatDoorUA04
namespace Go.Eng
open Go.Proofs
variable {α:Type}{f:α->List AV}{l O:List α}{roots:List Rq}{args:List AV}{i n:Nat}(s:AS)(k:Nat)
structure UQ(x:List Rl)(roots:List Rq):Prop where
 ix:Cr x
 rs:Cr roots
 rel:∀r∈x,Cr r.reqs/\Ir r
 rq:∀q∈roots,KL q
theorem UQ.x{x:List Rl}{roots:List Rq}(h:UQ x roots):∀r∈x,Ir r:=fun r hr=>(h.rel r hr).2
theorem UQ.c84{x:List Rl}{roots:List Rq}(h:UQ x roots)(ifs:List (List AV)):dX x ifs:=Go.Eng.c84 x ifs h.x
theorem T7{x:List Rl}(h:(Er x 16&&CE roots)=true):roots.length<=20:=by
 grind [CE]
theorem Pp{a:An}(h:XS a=true):a.sel.length<=16/\a.skips.length<=100/\a.infs.length<=400:=by
 grind [XS]
theorem UQ.c45{x:List Rl}{roots:List Rq}(h:UQ x roots)(ifs:List (List AV))(hf:(Er x 16&&CE roots)=true)(s:List Sl)(hs:s.length<=1000000):qb x ifs roots s:=
 Go.Eng.c45 x ifs roots s (h.c84 ifs) h.x (by grind [T7]) (fun q hq=>(h.rq q hq).1) hs
theorem UQ.c21{x:List Rl}{roots:List Rq}(h:UQ x roots)(ifs:List (List AV))(hf:(Er x 16&&CE roots)=true)(a:An)(ha:XS a=true):PC 49 [IP x ifs,sl Ac roots,.agg (IS a)] (vi (Fe x roots a)):=
 Go.Eng.c21 x ifs roots a (h.c84 ifs) (h.c45 ifs hf a.sel (by grind [Pp])) h.x h.rq (by grind [Pp]) (by have:=(Pp ha).2.1;omega)
theorem UQ.c11{x:List Rl}{roots:List Rq}(h:UQ x roots)(ifs:List (List AV)):PC 10 [IP x ifs,sl Ac roots] (vb (Er x 16&&CE roots)):=
 Go.Eng.c11 x ifs roots h.ix (fun r hr=>(h.rel r hr).1) h.rs
theorem TL{n:Nat}:∀{l:List (List AV)},(∀c∈l,c.length=n)->BJ n l
 | [],_=>trivial
 |c::_,h=>⟨h c (Ad ..),TL fun d hd=>h d (Af _ hd)⟩
abbrev iK:List (List AV):=((s.map Aj).take (((s.map Aj).length:Nat):Int).toNat).drop ((k:Nat):Int).toNat
abbrev gm:List (List AV):=((s.map Aj).take ((k:Nat):Int).toNat).drop ((0:Int)).toNat
theorem mo(x:Int×Int)(k:Nat)(hk:k<=s.length)(h:s.length<=1073741824):BJ 2 ([Aj x]++iK s k)/\(gm s k).length=((k:Nat):Int).toNat-((0:Int)).toNat/\((gm s k).length+([Aj x]++iK s k).length)*16<=140737488355328/\(gm s k).length+([Aj x]++iK s k).length<=9223372036854775807:=by
 grind [TL]
def ae(p:ByteArray)(r:Rl):Bool:=decide (r.path=p)&&!r.yanked
def ta(r:Rl):Int×Int:=(plc r.ver,plc r.ver+1)
theorem bG{x:List Rl}{p:ByteArray}(h:AC x=0):Br x p=canon ((x.filter (ae p)).map ta):=by
 unfold Br Kg;rw[AO (not_not_intro h),List.filter_filter]
 congr 3
 grind [ae]
theorem Uv(o:Option α):(∃x,o=some x)\/o=none:=by
 cases o<;>simp_all
theorem AW.to2{P:Program}{f:Nat}{h0:Nat->HO}{r0:AV}{H0:Nat->HO}{Q' : AV->(Nat->HO)->Prop}(h:AW P f args h0 fun r h'=>r=r0/\h'=H0)(k:Q' r0 H0):AW P f args h0 Q':=
 h.mono fun r h' q=>⟨r,.refl _,by rw[q.1,q.2];exact k⟩
theorem cb{f:Nat}{b x:Bool}(h:b=x)(hc:PC f args (vb b)):PC f args (vb x):=h▸hc
theorem Jb(h:(i:Int)<((l.map f).length:Int)):i<l.length:=by rw[Lm]at h;omega
theorem FS(h:¬(i:Int)<((l.map f).length:Int)):¬i<l.length:=by rw[Lm]at h;omega
theorem N0(h:i<l.length):(0:Int)<=(i:Int)/\(l.map f)[((i:Nat):Int).toNat]?=some (f l[i]):=⟨Int.natCast_nonneg _,by rw[FI,BC,Ge h];rfl⟩
theorem X2{z:Nat}{x:List AV}(hx:x.length=n)(h:O.length<=2147483647)(hz:z<=65536) :
  BJ n [x]/\(O.map f).length=O.length/\((O.map f).length+([x]:List (List AV)).length)*z<=140737488355328/\(O.map f).length+([x]:List (List AV)).length<=9223372036854775807:=by
 refine⟨⟨hx,trivial⟩,Lm _,?_,?_⟩<;>rw[Lm]<;>simp only[Dp,FD]
 .have:=Nat.mul_le_mul (show O.length+(0+1)<=2147483648 by omega) hz
  omega
 .omega
theorem tkA{x:α}{r:Nat}:AV.slice (.id r n) (O.map f++[f x])=.slice (.id r n) ((O++[x]).map f):=by rw[Bm];rfl
theorem hkA{x:α}{y:List AV}:HO.tok n ((O.map f).length+([y]:List (List AV)).length)=.tok n (O++[x]).length:=by rw[Au,Lm];rfl
abbrev I9(n:Int):List AV:=[vi n]
abbrev If(b:Bool):List AV:=[vb b]
structure Clo(l:List Rl)(roots:List Rq)(Cl:List ByteArray):Prop where
 root:∀q∈roots,q.path∈Cl
 req:∀r∈l,r.path∈Cl->∀q∈r.reqs,q.path∈Cl
theorem OZ{l:List Rl}:∀{n:Nat} {t:List Rq} {d:List ByteArray},t.length+Lw d l+1<=n->(∀p∈d,∀q∈Ep l p,q.path∈d\/∃u∈t,u.path=q.path) ->
  (∀p∈d,p∈EB l n t d)/\(∀u∈t,u.path∈EB l n t d)/\∀p∈EB l n t d,∀q∈Ep l p,q.path∈EB l n t d
 |0,_,_,h,_=>by omega
 |n+1,[],d,_,hc=>by
  grind [EB]
 |n+1,q::t,d,h,hc=>by
  simp only[Dp]at h;cases hq:d.any (fun p=>decide (p=q.path))with
  |true=>
   have e:EB l (n+1) (q::t) d=EB l n t d:=by show(if _ then _ else _)=_;simp_all
   rw[e];have hm:=Nq.1 hq;obtain⟨i1,i2,i3⟩:=OZ (l:=l) (n:=n) (t:=t) (d:=d) ch (fun p hp u hu=>by
    rcases hc p hp u hu with h | ⟨v,hv,ev⟩
    .exact .inl h
    .rcases AA.1 hv with hv | hv
     .exact .inl (by rw[<-ev,hv];exact hm)
     .exact .inr ⟨v,hv,ev⟩)
   exact⟨i1,fun u hu=>(AA.1 hu).elim (fun eu=>by rw[eu];exact i1 _ hm) (i2 u),i3⟩
  |false=>
   have e:EB l (n+1) (q::t) d=EB l n (t++Ep l q.path) (d++[q.path]):=by show(if _ then _ else _)=_;grind
   rw[e];have hp:=Pf d q.path hq l;obtain⟨i1,i2,i3⟩:=OZ (l:=l) (n:=n) (t:=t++Ep l q.path) (d:=d++[q.path]) (by rw[Au];omega) (fun p hp u hu=>by
    rcases Bc.1 hp with hp | hp
    .rcases hc p hp u hu with h | ⟨v,hv,ev⟩
     .exact .inl (Bj _ h)
     .rcases AA.1 hv with hv | hv
      .exact .inl (by rw[<-ev,hv];simp)
      .exact .inr ⟨v,Bj _ hv,ev⟩
    .rw[AB.1 hp]at hu;exact .inr ⟨u,BP _ hu,rfl⟩)
   exact⟨fun p hp=>i1 p (Bj _ hp),fun u hu=>(AA.1 hu).elim (fun eu=>by rw[eu];exact i1 _ B0) (fun hu=>i2 u (Bj _ hu)),i3⟩
abbrev gW(l:List Rl)(roots:List Rq):List ByteArray:=EB l (Gq l roots) roots []
theorem Zv{l:List Rl}(hn:(l.map (·.path)).Nodup){r:Rl}(hr:r∈l):Ep l r.path=r.reqs:=by unfold Ep;rw[Jv hn hr]
theorem cX{l:List Rl}(hn:(l.map (·.path)).Nodup):Clo l roots (gW l roots):=by
 obtain⟨_,h2,h3⟩:=OZ (l:=l) (n:=Gq l roots) (t:=roots) (d:=[]) (by grind [SB,Gq]) (fun p hp=>by cases hp);exact⟨h2,fun r hr hp q hq=>h3 _ hp q (by grind [Zv])⟩
end Go.Eng
