/- Lemmas 3. -/
import Derived.Test.YtpgfieopnnkpfaaGreatDoorQA02
import Derived.Lib.ItoaLen
import Derived.Lib.LastIndexLaws
import Derived.Lib.IndexMore
import Derived.Lib.AtoiAll
namespace Go.Eng
variable {m n:Int}(d:List (List Tm))(x:List Rl)(sel:List Sl)(roots:List Rq)(skips:List Sk)(a:An)(p:ByteArray)
abbrev bT:ByteArray:=(⟨#[115,107,105,112]⟩:ByteArray)
abbrev Q7:ByteArray:=(⟨#[115,101,108,101,99,116]⟩:ByteArray)
abbrev QJ:ByteArray:=(⟨#[115,107,105,112,32]⟩:ByteArray)
abbrev KX:ByteArray:=(⟨#[115,101,108,101,99,116,32]⟩:ByteArray)
abbrev RE:ByteArray:=⟨#[58]⟩
abbrev bQ:ByteArray:=⟨#[58,32]⟩
def Dj(v:Ver):ByteArray:=if Bo v then TM v.a v.b v.c else gW []
def ke(i:Int):ByteArray:=BD (d.getD i.toNat [])
def Nh(s:Sk):ByteArray:=Bk BE [bT,p,Pk p s.place++RE,ke d s.inf]
def QN(s:Sk):ByteArray:=QJ++s.path++BE++XF s.path s.place++bQ++ke d s.inf
def Ue(v:Ver):ByteArray:=Bk BE [Q7,p,Dj v]
def Zj(y:Sl):ByteArray:=KX++y.path++BE++XF y.path (place y.ver)
def Jg:List ByteArray:=
 (skips.filter fun s=>decide (s.path=p)).map (Nh d p)++[Ue p ((A3 sel p).getD Lk).ver]
def QG:List ByteArray:=
 (skips.filter fun s=>decide (s.path=p)).map (QN d)++(sel.filter fun s=>decide (s.path=p)).map Zj
def Rz(vN:List ByteArray×Int)(part:List (List Tm)->List Sl->List Sk->ByteArray->List ByteArray)(x:List Rl)(roots:List Rq)(a:An):List ByteArray×Int:=
 if CW x roots a≠0 then([],CW x roots a)else if a.found=false then vN
 else((Bw x roots a.sel).1.flatMap (part (Ax x roots a.infs).1 a.sel a.skips),0)
def KA:List ByteArray×Int:=Rz (FH x roots a.infs ((a.infs.length:Int)-1)) Jg x roots a
def TT:List ByteArray×Int:=Rz (HC x roots a.infs ((a.infs.length:Int)-1)) QG x roots a
def mn(s:Sk):Prop:=(0<=s.place/\s.place<1000000)/\∃t,Di d s.inf=some t
theorem JQ{d:List (List Tm)}{v:TO}:∀{x:List Rl} {k k' : List Sk},DP d v x k=(k',true)->∃u,k=u++k'/\∀s∈u,s.path=v.rel.path/\mn d s
 | [],k,k',h=>by cases h<;>simp_all
 |o::x,k,k',h=>by
  unfold DP at h;split at h
  .exact JQ h
  .split at h
   .exact JQ h
   .split at h
    .cases h
    .rename_i y k2;split at h
     .cases h
     .rename_i hy;simp only[Gp,J3,JC,not_or,Decidable.not_not]at hy;split at h
      .cases h
      .rename_i t ht;split at h
       .obtain⟨u,hu,hs⟩:=JQ h;refine⟨y::u,by simp_all,fun s fe=>?_⟩;rcases AN.1 fe with rfl | fe
        .refine⟨hy.1,?_,t,ht⟩;rw[hy.2];exact PS o.ver
        simp_all
       simp_all
theorem H7{x:List Rl}{d:List (List Tm)}:∀{vs:List TO} {k k' : List Sk},vs.foldl (BT x d) (true,k)=(true,k')->∃u,k=u++k'/\∀s∈u,(∃v∈vs,s.path=v.rel.path)/\mn d s
 | [],k,k',h=>by simp_all
 |v::vs,k,k',h=>by
  rw[DX]at h;have hf:∀(vs:List TO) (k:List Sk),(vs.foldl (BT x d) (false,k)).1=false:=fun vs=>by
   induction vs<;>grind [BT]
  cases e:DP d v x k with
  |mk k1 b1=>
   have IC:BT x d (true,k) v=(b1&&!v.rel.yanked,k1):=by grind [BT]
   rw[IC]at h;cases hb:(b1&&!v.rel.yanked)with
   |false=>grind
   |true=>
    rw[hb]at h;rw[Au]at hb;obtain⟨u,hu,hs⟩:=H7 h<;>grind [JQ]
theorem lN:bT++BE=QJ:=JU (by simp_all)
theorem Zv:Q7++BE=KX:=JU (by simp_all)
theorem pf:RE++BE=bQ:=JU (by simp_all)
theorem oZ{d:List (List Tm)}{p:ByteArray}{s:Sk}(hp:s.path=p)(h:mn d s):Nh d p s=QN d s:=by
 subst hp;unfold Nh QN;rw[CF,CF,D2,im h.1,<-lN,<-pf]
 grind [Df]
theorem gc{v:Ver}(h:Bo v=true):plc v=place v:=by grind [plc]
theorem r5{y:Sl}(hv:Bo y.ver=true)(hm:A8 y.path=some y.ver.a):Ue y.path y.ver=Zj y:=by
 have hp:=PS y.ver;rw[gc hv]at hp;unfold Ue Zj Dj;rw[AE hv,CF,D2,<-im hp,<-Zv]
 grind [Pk,Lt,Ft,place,Bo,okPart,Df]
theorem Qp:∀{s:List Sl} {y:Sl},(s.map (·.path)).Nodup->y∈s->(s.filter fun z=>decide (z.path=y.path))=[y]
 |z::s,y,hn,hy=>by
  rw[BU,Gq]at hn;rcases AN.1 hy with rfl | hy'
  .simp_all
  .rw[GT (by
    grind)]
   exact Qp hn.2 hy'
theorem p8:KA x roots a=TT x roots a:=by
 unfold KA TT Rz
 by_cases h:CW x roots a≠0
 .simp_all
 .rw[Aw h,Aw h]
  by_cases hf:a.found=false
  .grind [YI]
  .rw[Aw hf,Aw hf];obtain⟨h0,h1 | ⟨h1,⟨l,hR⟩,h2,h3⟩⟩:=Ms (Decidable.not_not.1 h)
   .simp_all
   .have T2:(visits x roots a.sel).2=true:=hR.sol0.visits;have Cm:=FK T2;have aG:(Bw x roots a.sel).1=(visits x roots a.sel).1.map fun v=>v.rel.path:=by
     unfold Bw;split
     .rename_i hc;rcases hc with hc | hc | hc
      .exact absurd hR.sol0.ix hc
      .exact absurd (DN h0).2.1 hc
      .rw[hR.sol0.inc]at hc;cases hc
     .rfl
    obtain⟨u,hu,hs⟩:=H7 h3;rw[BC]at hu;refine Aa (·,(0:Int)) ?_;rw[aG,List.flatMap_map,List.flatMap_map];refine Aa List.flatten (Cd fun v hv=>?_);obtain⟨hm,gR⟩:=Cm.mem v hv;have hk:=Cs gR;have GH:=(D0 hR.sol0.ix).1 v.rel hk.2.1;unfold Jg QG;have jU:=hR.sol0.inc;have e1:A3 a.sel v.rel.path=some (Cn v.rel):=LG jU hm;have e2:(a.sel.filter fun s=>decide (s.path=v.rel.path))=[Cn v.rel]:=Qp (y:=Cn v.rel) (aP (Jb jU).1) hm;rw[e1,e2,CB,List.map_singleton];refine congr (Aa HAppend.hAppend ?_) ?_
    .grind [List.map_congr_left,oZ]
    .exact Aa (fun z=>[z]) (r5 (y:=Cn v.rel) GH.val GH.maj)
theorem AY(a b:ByteArray):(a++b).size=a.size+b.size:=ByteArray.size_append
theorem XK(l:List UInt8):(gW l).size=l.length:=by simp[ByteArray.size]
theorem FV(h0:-9223372036854775808<=n)(h1:n<=9223372036854775807):(Gm n).size<=21:=by
 unfold Gm;rw[XK];exact Go.Lib.itoa_length_le n h0 h1
theorem El(sep:ByteArray)(B:Nat):∀(l:List ByteArray),(∀x∈l,x.size<=B)->(Bk sep l).size<=l.length*(B+sep.size)
 | [],_=>by simp[UW,XK]
 | [x],h=>by rw[Kg];have:=h x (A9.2 rfl);simp;omega
 |x::y::r,h=>by
  rw[CF,AY,AY];have h1:=El sep B (y::r) (fun z hz=>h z (At _ hz));have h2:=h x (Ai ..);simp only[Av]at h1⊢;rw[JA (r.length+1) 1];omega
theorem MO{a b c:Int}(ha:-1000000000<=a/\a<=1000000000)(hb:-1000000000<=b/\b<=1000000000)(hc:-1000000000<=c/\c<=1000000000):(TM a b c).size<=65:=by
 unfold TM;simp only[AY]
 have:=FV (n:=a) aa0 aa0
 have:=FV (n:=b) aa0 aa0
 have:=FV (n:=c) aa0 aa0
 have:RF.size=1:=rfl
 omega
theorem I0{p:Int}(hm:0<=m/\m<=999)(hp:0<=p/\p<=1000000):(Lt m p).size<=65:=MO aa0 aa0 aa0
theorem H3{x:Int×Int}(hm:0<=m/\m<=999)(h1:0<=x.1/\x.1<=1000000)(h2:0<=x.2/\x.2<=1000000):(Dn m x).size<=132:=by
 have:=I0 hm h1
 have:=I0 hm h2
 have e1:pp.size=1:=rfl;have e2:bR.size=2:=rfl;unfold Dn
 repeat' split
 all_goals (try simp only[AY])
 all_goals omega
theorem ZS:∀{l:AF} {lo:Int},D7 lo l->0<=lo->∀x∈l,(0<=x.1/\x.1<=1000000)/\(0<=x.2/\x.2<=1000000):=by
 intro l
 induction l with
 |nil=>intro lo _ _ x hx;cases hx
 |cons y l ih=>
  intro lo h h0 x hx;obtain⟨h1,h2,h3,h4⟩:=h;rcases AN.1 hx with rfl | hx
  .omega
  .exact ih h4 aa0 x hx
theorem Mq{s:AF}(h:EY s):∀x∈s,(0<=x.1/\x.1<=1000000)/\(0<=x.2/\x.2<=1000000):=ZS h (Cg 0)
theorem Vp(hm:0<=m/\m<=999)(s:AF):(MZ m s).size<=135000004:=by
 unfold MZ;split
 .show(4:Nat)<=_;omega
 .have h:=El GD 132 ((canon s).map (Dn m)) (fun x hx=>by
   obtain⟨y,hy,rfl⟩:=Ay.1 hx
   have:=Mq (Bc s) y hy
   exact H3 hm this.1 this.2)
  have hl:=CK (Bc s);rw[Bv]at h;have e:GD.size=3:=rfl;rw[e]at h;omega
theorem lS{p:List UInt8}(h:Fz p=some n):0<=n/\n<=999:=by
 have dg:∀{c:UInt8},BZ c=true->48<=(c.toNat:Int)/\(c.toNat:Int)<=57:=fun {c} h=>by
  unfold BZ at h;simp only[Au,Bg,UInt8.le_iff_toNat_le]at h;have h1:(48:UInt8).toNat=48:=rfl;have h2:(57:UInt8).toNat=57:=rfl;omega
 unfold Fz at h;split at h
 .rename_i c r;split at h
  .split at h
   .cases h
   .rename_i hb;simp only[Gp,not_or,Bg,Bool.not_eq_true,Bool.not_eq_false']at hb;obtain⟨⟨⟨_,h3⟩,_⟩,h4⟩:=hb;have h4:r.all BZ=true:=by simpa using h4
    rw[BI]at h4;cases h
    match r,h3,h4 with
    | [],_,_=>decide
    | [a],_,h4=>have:=dg (h4 a aa1);simp only[Dy,DX,List.foldl_nil];omega
    | [a,b],_,h4=>have:=dg (h4 a aa1);have:=dg (h4 b aa1);simp only[Dy,DX,List.foldl_nil];omega
    | [a,b,c],_,h4=>have:=dg (h4 a aa1);have:=dg (h4 b aa1);have:=dg (h4 c aa1);simp only[Dy,DX,List.foldl_nil];omega
    |_::_::_::_::_,h3,_=>simp at h3
  .cases h
 .cases h
theorem HY:0<=Ft p/\Ft p<=999:=by
 unfold Ft A8 NJ;cases e:Fz ((Ci 47 p.data.toList).getLastD [])with
 |none=>simp
 |some n=>
  have:=lS e
  dsimp only;split
  .simp
  .split
   .exact this
   .simp
theorem Jm{t:Tm}(h:t.path.size<=1048576):(CZ t).size<=140000000:=by
 unfold CZ MY;simp only[AY]
 have:=Vp (HY t.path) (if t.absent then BJ t.set else t.set)
 have e:BE.size=1:=rfl;omega
def Q1(s:ByteArray):Bool:=decide (s.data.toList.take p.data.toList.length=p.data.toList)
theorem Zb(r:ByteArray):Q1 p (p++r)=true:=by
 unfold Q1;simp
def Gk(paths:List ByteArray):List ByteArray->Nat->Nat->Option (Nat×Nat)
 | [],i,k=>some (i,k)
 |s::r,i,k=>match paths[i]? with
  |none=>none
  |some p=>if Q1 (QJ++p++BE) s then Gk paths r i (k+1)else if Q1 (KX++p++BE) s then Gk paths r (i+1) k else none
theorem O5(paths:List ByteArray)(s:ByteArray)(r:List ByteArray)(i k:Nat):Gk paths (s::r) i k=match paths[i]? with
  |none=>none
  |some p=>if Q1 (QJ++p++BE) s then Gk paths r i (k+1)else if Q1 (KX++p++BE) s then Gk paths r (i+1) k else none:=rfl
theorem JR(paths:List ByteArray):∀(a b:List ByteArray) (i k:Nat),Gk paths (a++b) i k=match Gk paths a i k with | none=>none | some (i',k')=>Gk paths b i' k'
 | [],_,_,_=>rfl
 |s::a,b,i,k=>by
  rw[D8,O5,O5];cases paths[i]? with
  |none=>rfl
  |some p=>
   dsimp only
   by_cases h1:Q1 (QJ++p++BE) s=true
   .rw[AE h1,AE h1];exact JR paths a b i (k+1)
   .rw[Aw h1,Aw h1]
    by_cases h2:Q1 (KX++p++BE) s=true
    .rw[AE h2,AE h2];exact JR paths a b (i+1) k
    simp_all
theorem gv(s:Sk):Q1 (QJ++p++BE) (Nh d p s)=true:=by
 have:Nh d p s=QJ++p++BE++(Pk p s.place++RE++BE++ke d s.inf):=by
  grind [Nh,CF,D2,lN,Df]
 grind [Zb]
theorem lB(v:Ver):Q1 (KX++p++BE) (Ue p v)=true:=by
 have:Ue p v=KX++p++BE++Dj v:=by
  grind [Ue,CF,D2,Zv,Df]
 grind [Zb]
theorem oR(q:ByteArray)(v:Ver):Q1 (QJ++q++BE) (Ue p v)=false:=by
 grind [Ue,CF,Q1,ByteArray.toList_data_append]
theorem bn(paths:List ByteArray){p:ByteArray}{i k:Nat}(hp:paths[i]?=some p) :
  Gk paths (Jg d sel skips p) i k=some (i+1,k+(skips.filter fun s=>decide (s.path=p)).length):=by
 unfold Jg;rw[JR];have h1:∀(l:List Sk) (k:Nat),Gk paths (l.map (Nh d p)) i k=some (i,k+l.length):=fun l=>by
  induction l<;>grind [Gk,gv]
 grind [Gk,oR,lB]
theorem QH(d:List (List Tm))(sel:List Sl)(skips:List Sk)(paths:List ByteArray):∀(n k:Nat),n<=paths.length ->
  Gk paths ((paths.take n).flatMap (Jg d sel skips)) 0 k=some (n,k+((paths.take n).map fun p=>(skips.filter fun s=>decide (s.path=p)).length).sum)
 |0,k,_=>rfl
 |n+1,k,h=>by
  rw[Jl mt (by omega:n<paths.length),List.flatMap_append,JR,QH d sel skips paths n k aa0,List.flatMap_singleton]
  grind [bn]
theorem Se:∀(l:List Sk) (f:Sk->Bool),l.length=(l.filter f).length+(l.filter fun s=>!f s).length
 | [],_=>rfl
 |s::l,f=>by
  have:=Se l f
  grind
theorem QR:∀(paths:List ByteArray) (skips:List Sk),paths.Nodup->(∀s∈skips,s.path∈paths) ->
  (paths.map fun p=>(skips.filter fun s=>decide (s.path=p)).length).sum=skips.length
 | [],skips,_,h=>by
  cases skips<;>grind [List.mem_cons_self]
 |p::ps,skips,hn,h=>by
  rw[Gq]at hn;have ih:=QR ps (skips.filter fun s=>!decide (s.path=p)) hn.2 fun s hs=>by
   grind
  rw[BU,List.sum_cons];have e:(ps.map fun q=>(skips.filter fun s=>decide (s.path=q)).length)=ps.map fun q=>((skips.filter fun s=>!decide (s.path=p)).filter fun s=>decide (s.path=q)).length:=by
   refine Cd fun q hq=>?_;rw[List.filter_filter]
   grind
  grind [Se]
theorem fP:(Jg d sel skips p).length=(skips.filter fun s=>decide (s.path=p)).length+1:=by
 grind [Jg]
theorem Zs{x:List Rl}{roots:List Rq}{a:An}(h:CW x roots a=0)(hf:a.found=true) :
  (KA x roots a).2=0/\(KA x roots a).1.length=a.skips.length+a.sel.length/\(Bw x roots a.sel).1.length=a.sel.length /\
   Gk (Bw x roots a.sel).1 (KA x roots a).1 0 0=some ((Bw x roots a.sel).1.length,a.skips.length):=by
 obtain⟨h0,h1 | ⟨h1,⟨l,hR⟩,h2,h3⟩⟩:=Ms h
 .simp_all
 .have T2:(visits x roots a.sel).2=true:=hR.sol0.visits;have Cm:=FK T2;have aG:(Bw x roots a.sel).1=(visits x roots a.sel).1.map fun v=>v.rel.path:=by
   unfold Bw;split
   .rename_i hc;rcases hc with hc | hc | hc
    .exact absurd hR.sol0.ix hc
    .exact absurd (DN h0).2.1 hc
    .rw[hR.sol0.inc]at hc;cases hc
   .rfl
  obtain⟨u,hu,hs⟩:=H7 h3;rw[BC]at hu;subst hu;have hA:KA x roots a=((Bw x roots a.sel).1.flatMap (Jg (Ax x roots a.infs).1 a.sel a.skips),0):=by
   grind [KA,Rz]
  have l7:(Bw x roots a.sel).1.Nodup:=by
   rw[aG]
   have:=Cm.nodup
   rw[Uj,Cf]at this;exact this
  have aM:=QR _ _ l7 (fun s fe=>by
   obtain⟨⟨v,hv,e⟩,_⟩:=hs s fe<;>grind)
  have Cy:(Bw x roots a.sel).1.length=a.sel.length:=by rw[aG,Bv];exact hR.sol0.all.2
  rw[hA];refine⟨rfl,?_,Cy,?_⟩
  .dsimp only;rw[List.length_flatMap]
   have:((Bw x roots a.sel).1.map fun p=>(Jg (Ax x roots a.infs).1 a.sel a.skips p).length)=(Bw x roots a.sel).1.map fun p=>(a.skips.filter fun s=>decide (s.path=p)).length+1:=
    Cd fun p _=>fP _ _ _ p
   rw[this];have h5:∀(l:List ByteArray) (f:ByteArray->Nat),(l.map fun p=>f p+1).sum=(l.map f).sum+l.length:=fun l f=>by
    induction l<;>grind
   grind
  grind [QH,List.take_length]
def Stop(r:List UInt8):Prop:=r=[]\/∃c t,r=32::c::t/\c≠124
def wt(t:Tm):AF:=if t.absent then BJ t.set else t.set
end Go.Eng
namespace Go.Eng
open Go.Lib (lastIndex index cut occAt atoiAll parseUint10 parseMag decDigits)
end Go.Eng
namespace Go.Eng
-- no parenthesis in the text of an incompatibility
end Go.Eng
namespace Go.Eng
open Go.Lib (lastIndex)
end Go.Eng
namespace Go.Eng
variable {s:List UInt8}{x:List Rl}{roots:List Rq}
abbrev nh:ByteArray:=(⟨#[51,46,32,97,47,118,49,32,49,46,48,46,48,32,105,115,32,110,101,101,100,101,100,32,40,102,114,111,109,32,49,32,97,110,100,32,50,41]⟩:ByteArray)
abbrev nl:ByteArray:=(⟨#[52,46,32,97,47,118,49,32,49,46,48,46,48,32,110,101,101,100,115,32,98,47,118,49,32,49,46,50,46,48,46,46,32,40,98,121,32,97,47,118,49,32,49,46,48,46,48,41]⟩:ByteArray)
abbrev np:ByteArray:=(⟨#[54,46,32,97,47,118,49,32,49,46,48,46,48,32,105,115,32,105,109,112,111,115,115,105,98,108,101,32,40,102,114,111,109,32,52,32,97,110,100,32,53,41]⟩:ByteArray)
abbrev nq:ByteArray:=(⟨#[55,46,32,116,104,105,115,32,105,115,32,105,109,112,111,115,115,105,98,108,101,32,40,102,114,111,109,32,51,32,97,110,100,32,54,41]⟩:ByteArray)
def bP:Bool:=
 decide ((FH Oq Gb IA 6).2=0)&&decide ((FH Oq Gb IA 6).1.length=7)&&decide ((FH Oq Gb IA 6).1[2]?=some nh)&&decide ((FH Oq Gb IA 6).1[3]?=some nl) &&
 decide ((FH Oq Gb IA 6).1[5]?=some np)&&decide ((FH Oq Gb IA 6).1[6]?=some nq)&&decide (Dv IA 5=[3,4,5])&&decide ((De IA 2).length=3)
theorem VU:bP=true:=by decide +kernel
theorem WX{d:List (List Tm)}{m:Nat}(h:d.length=m+1):DW d=decide (d.getD m []=[]):=by
 unfold DW;rw[List.getLast?_eq_getElem?,h,Nat.add_sub_cancel,Bq];cases e:d[m]? with
 |none=>rw[List.getElem?_eq_none_iff]at e;omega
 |some t=>cases t<;>rfl
theorem YA{l:List Nf}(h:(Ax x roots l).2=0){t:Nat}(ht:t<l.length) :
  ∃m,(De l t).length=m+1/\(Ax x roots (De l t)).2=0/\(Ax x roots (De l t)).1.length=m+1/\(Ax x roots (De l t)).1.getD m []=(Ax x roots l).1.getD t [] /\
   (Dv (De l t) m).length=m+1/\De (De l t) m=De l t/\(Ff x roots (De l t)=0↔(Ax x roots l).1.getD t []=[]):=by
 obtain⟨h1,h2,h3,h4⟩:=DN h;have hD:=JD h4 ht;obtain⟨m,f1,f2,f3,f4,f5,f6⟩:=TL h4 ht;have HB:(De l t).length<=65536:=by
  obtain⟨u,hu,hU⟩:=IN h4 ht
  have:=(KN ht hu).1
  have h5:(Dv l t).length<=u.length:=by
   rw[hU];unfold HS;exact AL (Ca _ _) (by rw[Es];omega)
  omega
 have hP:=RT h1 h2 HB hD;refine⟨m,f2,by rw[hP],by rw[hP];exact f4,by rw[hP];exact f3,by rw[f5,Es],f6,?_⟩;unfold Ff;rw[hP];dsimp only;rw[Aw aa2,WX f4,f3]
 by_cases e:(Ax x roots l).1.getD t []=[]
 .rw[AE (by rw[e];decide)];exact⟨fun _=>e,fun _=>rfl⟩
 .rw[Aw (by rw[AU e];decide)];exact⟨fun h=>absurd h aa2,fun h=>absurd h e⟩
theorem Um{a:An}(h:CW x roots a=0)(hf:a.found=true) :
  (Ax x roots a.infs).2=0/\(∀s∈a.skips,mn (Ax x roots a.infs).1 s)/\(Bw x roots a.sel).2=0/\∀p∈(Bw x roots a.sel).1,p∈x.map (·.path)/\∃y,A3 a.sel p=some y:=by
 obtain⟨h0,h1 | ⟨h1,⟨l,hR⟩,h2,h3⟩⟩:=Ms h
 .rw[h1.1]at hf;cases hf
 .have T2:(visits x roots a.sel).2=true:=hR.sol0.visits;have Cm:=FK T2;have aG:Bw x roots a.sel=((visits x roots a.sel).1.map fun v=>v.rel.path,0):=by
   unfold Bw;split
   .rename_i hc;rcases hc with hc | hc | hc
    .exact absurd hR.sol0.ix hc
    .exact absurd (DN h0).2.1 hc
    .rw[hR.sol0.inc]at hc;cases hc
   .first | rfl | rw[AE T2]
  obtain⟨u,hu,hs⟩:=H7 h3;rw[BC]at hu;refine⟨h0,fun s fe=>(hs s (hu▸fe)).2,by rw[aG],fun p hp=>?_⟩;rw[aG]at hp;obtain⟨v,hv,rfl⟩:=Ay.1 hp;obtain⟨hm,gR⟩:=Cm.mem v hv;exact⟨Ay.2 ⟨v.rel,(Cs gR).2.1,rfl⟩,Cn v.rel,LG hR.sol0.inc hm⟩
def rH:List (List UInt8):=[[97,110,100],[97,110,121],[97,115],[98,111,111,108],[100,101,112,114,101,99,97,116,101,100],[101,108,115,101],[101,120,112,111,114,116],[102,97,108,115,101],[102,110],[102,111,108,100],[102,114,111,109],[105,102],[105,109,112,111,114,116],[105,110],[105,110,116],[108,101,110,103,116,104],[108,101,116],[108,105,115,116],[109,97,116,99,104],[109,111,100,117,108,101],[110,111,110,101],[110,111,116],[111,114],[116,101,120,116],[116,104,101,110],[116,114,117,101],[116,121,112,101],[117,115,101]]
theorem ft:aV=32::rH.flatMap (fun w=>w++[32]):=by decide +kernel
theorem rI:∀w∈rH,∀c∈w,c≠32:=by decide +kernel
theorem Vg:∀(s w r:List UInt8),(∀c∈s,c≠32)->(∀c∈w,c≠32)->OZ (s++[32]) (w++32::r)=decide (w=s)
 | [],[],r,_,_=>by simp[OZ]
 | [],b::w,r,_,hw=>by
  grind [OZ]
 |a::s,[],r,hs,_=>by
  grind [OZ]
 |a::s,b::w,r,hs,hw=>by
  have ih:=Vg s w r (fun c hc=>hs c (At _ hc)) (fun c hc=>hw c (At _ hc))
  grind [OZ]
theorem Yq(x:List UInt8):∀(w r:List UInt8),(∀c∈w,c≠32)->md (32::x) (w++r)=md (32::x) r
 | [],_,_=>rfl
 |b::w,r,h=>by
  have hb:=h b (Ai ..);rw[D8,md,Yq x w r (fun c hc=>h c (At _ hc))]
  grind [OZ]
theorem UU(s:List UInt8)(hs:∀c∈s,c≠32):∀ws:List (List UInt8),(∀w∈ws,∀c∈w,c≠32)->md (32::(s++[32])) (32::ws.flatMap (fun w=>w++[32]))=ws.any (fun w=>decide (w=s))
 | [],_=>by
  cases s<;>grind [md,OZ]
 |w::ws,h=>by
  have hw:=h w (Ai ..);have ih:=UU s hs ws (fun v hv=>h v (At _ hv))
  grind [md,OZ,Vg,Yq]
theorem pj(h:s.all Fu=true):∀c∈s,c≠32:=fun c hc e=>by
 have:=BI.1 h c hc
 rw[e]at this;exact absurd this aa2
theorem aU(h:s.all Fu=true):T6 s=rH.any (fun w=>decide (w=s)):=by
 unfold T6;rw[ft,UU s (pj h) rH rI]
end Go.Eng
