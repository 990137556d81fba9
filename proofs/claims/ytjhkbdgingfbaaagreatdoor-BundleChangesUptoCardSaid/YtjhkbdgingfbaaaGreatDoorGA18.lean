/- Lemmas 18. -/
import Derived.Test.YtjhkbdgingfbaaaGreatDoorGA17
set_option maxHeartbeats 4000000
namespace Go.Eng
open Go.Proofs
variable {α:Type}{j:Nat}{n m:Int}{A:Bz}(a:Ver)(p:ByteArray)(c:UInt8)(l:List Sl)(s:Bz)(v:Ver)(x:Int×Int)(b:Ver)(i k:Nat)
abbrev TP(l:List UInt8):List ByteArray:=(BC 47 l).map bs
def Qm:List (List UInt8)->UInt8->List (List UInt8)
 | [],_=>[]
 | [x],b=>[x++[b]]
 |x::l,b=>x::Qm l b
theorem Ie(s:List UInt8):BC c s≠[]:=by
 cases s with
 |nil=>rw[BC];exact IG _ _
 |cons b r=>
  rw[BC];split
  .exact IG _ _
  .split<;>exact IG _ _
theorem OO(c:UInt8):∀s:List UInt8,BC c (s++[c])=BC c s++[[]]
 | []=>by simp[BC]
 |b::r=>by
  rw[De,BC,OO c r,BC]
  by_cases e:b=c
  .rw[Av e,Av e];rfl
  .rw[Aj e,Aj e];cases h:BC c r with
   |nil=>exact absurd h (Ie c r)
   |cons x l=>rfl
theorem Oy(x:List UInt8){l:List (List UInt8)}(b:UInt8)(h:l≠[]):Qm (x::l) b=x::Qm l b:=by
 cases l with
 |nil=>exact absurd rfl h
 |cons y l=>rfl
theorem ME(c b:UInt8)(hb:b≠c):∀s:List UInt8,BC c (s++[b])=Qm (BC c s) b
 | []=>by simp[BC,hb,Qm]
 |a::r=>by
  rw[De,BC,ME c b hb r,BC]
  by_cases e:a=c
  .rw[Av e,Av e,Oy _ _ (Ie c r)]
  .rw[Aj e,Aj e];cases h:BC c r with
   |nil=>exact absurd h (Ie c r)
   |cons x l=>
    cases l with
    |nil=>rfl
    |cons y l=>rfl
theorem Qn(b:UInt8):∀(l:List (List UInt8)) (x:List UInt8),l[l.length-1]?=some x->l.set (l.length-1) (x++[b])=Qm l b
 | [],_,h=>by cases h
 | [y],x,h=>by
  have h:some y=some x:=h;rw[Bv h];rfl
 |y::z::l,x,h=>by
  have h:(z::l)[(z::l).length-1]?=some x:=h;rw[Oy y b (IG _ _),<-Qn b (z::l) x h];rfl
theorem ON(s:List UInt8):(BC c s).length<=s.length+1:=by
 induction s with
 |nil=>rw[BC];exact Ad _
 |cons b r ih=>
  rw[BC,Am];split
  .rw[Am];omega
  .split
   .simp
   .rename_i x l e;rw[e,Am]at ih;rw[Am];omega
abbrev kY:VN:=⟨[],[],[(5,1)],[],[],[],[],[],[],[(36,3)],[4]⟩
theorem ZZ{l:List UInt8}{c:UInt8}(hc:c≠47){x:ByteArray}(h:(TP l)[(TP l).length-1]?=some x):(TP l).set ((TP l).length-1) (x++bs [c])=TP (l++[c]):=by
 have h2:=h;rw[Ap,Lm]at h;obtain⟨y,hy,e⟩:=Ay.1 h;subst e;show _=(BC 47 (l++[c])).map bs;rw[ME 47 c hc l,<-Qn c (BC 47 l) y hy,DX,Lm]
 congr 1
theorem mX(s:ByteArray)(hs:CT s):PC 207 [vs s] (sl encS (TP s.data.toList)):=by
 unfold CT at hs;have Dm:s.size=s.data.toList.length:=by simp
 refine Ps kY Tryz.func207 rfl (Nz rfl) (Xi {p:Nat×List ByteArray // p.1<=s.data.toList.length/\p.2=TP (s.data.toList.take p.1)} (Xi (fun p=>⟨[(0,vs s),(3,.msl 5 p.1.2.length),(4,vi p.1.1)],[(5,.arr 1 (p.1.2.map encS))],Ao⟩) (Xi (fun p=>s.data.toList.length-p.1.1) (Yi (Xi ⟨(0,[bs []]),Ar _,rfl⟩ ?_) ?_))))
 .exact⟨Z3,Z1,Fh,Tv⟩
 intro⟨⟨i,A⟩,h1,hA⟩;have hA:A=TP (s.data.toList.take i):=hA;have dX:A.length<=i+1:=by
  have:=ON 47 (s.data.toList.take i)
  rw[Al]at this;rw[hA,Lm];omega
 have bg:0<A.length:=by
  rw[hA,Lm];exact GG.2 (Ie 47 _)
 refine Yi (fun h=>?_) (fun h=>?_)
 .have h:(i:Int)<(s.size:Nat):=h;have h:i<s.data.toList.length:=by omega
  have MP:(0:Int)<=i/\s.data[((i:Nat):Int).toNat]?=some s.data.toList[i]:=⟨by omega,by rw[A1];exact Jo s i h⟩;have bj:s.data.toList.take (i+1)=s.data.toList.take i++[s.data.toList[i]]:=by rw[A2,Ge h];rfl
  refine Xi s.data.toList[i] (Yi MP (Yi (fun h2=>?_) (fun h2=>?_)))
  .have h2:s.data.toList[i]=47:=EH.1 (by show s.data.toList[i].toNat=47;omega);have Hd:Cn 1 [[vs (bs [])]]/\(A.map encS).length=A.length/\((A.map encS).length+[[vs (bs [])]].length)*16<=140737488355328/\(A.map encS).length+[[vs (bs [])]].length<=9223372036854775807:=
    ⟨⟨rfl,trivial⟩,by rw[Lm],by rw[Lm,AI];omega,by rw[Lm,AI];omega⟩
   refine Yi Hd (Xi ⟨[(0,vs s),(3,.msl 5 (A++[bs []]).length),(4,vi i)],[(5,.arr 1 ((A++[bs []]).map encS))],Ao⟩ (Yi ?_ ?_))
   .have e1:AV.msl 5 ((A.map encS).length+[[vs (bs [])]].length)=.msl 5 (A++[bs []]).length:=by simp
    have e2:HO.arr 1 (A.map encS++[[vs (bs [])]])=.arr 1 ((A++[bs []]).map encS):=by rw[AK];rfl
    exact⟨⟨Zr,⟨e1,rfl⟩,Zr,Tv⟩,⟨⟨e2,rfl⟩,Tv⟩,Fh,Tv⟩
   refine Yi (Ii i sP) ?_;have eA:A++[bs []]=TP (s.data.toList.take (i+1)):=by
    rw[hA,bj,h2];show _=(BC 47 _).map bs;rw[OO,AK];rfl
   refine Xi ⟨(i+1,A++[bs []]),by omega,eA⟩ ?_;exact⟨Dl s.data.toList.length i sP,Z3,Z1,Fh,Tv⟩
  have h2:¬(s.data.toList[i].toNat:Int)=47:=h2;have h2:s.data.toList[i]≠47:=fun e=>h2 (by rw[e];rfl);have dS:AE ((A.length:Int)-1):=by unfold AE;omega
  have Dc:A.length-1<A.length:=by omega
  have hn:((A.length:Int)-1).toNat=A.length-1:=by omega
  have hg:A[A.length-1]?=some A[A.length-1]:=Ge Dc;have oe:CT A[A.length-1]:=by
   have co:∀x∈A,x∈TP (s.data.toList.take i):=fun x hx=>hA▸hx;obtain⟨y,hy,e⟩:=AA.1 (co _ (Af Dc));have h5:=Iw 47 _ y hy;rw[Al]at h5;unfold CT;rw[<-e,show(bs y).size=y.length from rfl];omega
  have Up:((A[A.length-1].size+(⟨[s.data.toList[i]].toArray⟩:ByteArray).size:Nat):Int)<=9223372036854775807:=by
   unfold CT at oe
   have:(⟨[s.data.toList[i]].toArray⟩:ByteArray).size=1:=rfl
   omega
  refine Yi dS (Yi dS (Yi (show(0:Int)<=(A.length:Int)-1/\(A.length:Int)-1<(A.length:Int) by omega) (Yi (by rw[Lm]) ?_)));have iI:(A.map encS)[((A.length:Int)-1).toNat]?=some (encS A[A.length-1]):=by rw[hn];exact CQ hg
  refine Xi (encS A[A.length-1]) (Yi iI (Xi s.data.toList[i] (Yi MP (Xi [s.data.toList[i]] (Yi rfl (Yi Up (Yi (show(0:Int)<=(A.length:Int)-1/\(A.length:Int)-1<(A.length:Int) by omega) (Yi (by rw[Lm]) ?_))))))));refine Xi (encS A[A.length-1]) (Yi iI (yN (Yi sT (BF (show ∃B,B=A.set (A.length-1) (A[A.length-1]++bs [s.data.toList[i]])from⟨_,rfl⟩) (fun B hB=>?_)))));have dP:B.length=A.length:=by rw[hB,Bg]
  have e2:HO.arr 1 ((A.map encS).set ((A.length:Int)-1).toNat [vs (A[A.length-1]++⟨[s.data.toList[i]].toArray⟩)])=.arr 1 (B.map encS):=by rw[hn,hB,DX];rfl
  refine cU [(0,vs s),(3,.msl 5 B.length),(4,vi i)] [(5,.arr 1 (B.map encS))] ⟨Zr,⟨Aa (AV.msl 5) dP.symm,rfl⟩,Zr,Tv⟩ ⟨⟨e2,rfl⟩,Tv⟩ (Yi (Ii i sP) ?_);have eB:B=TP (s.data.toList.take (i+1)):=by
   rw[bj,hB];subst hA;exact ZZ h2 hg
  refine Xi ⟨(i+1,B),by omega,eB⟩ ?_;exact⟨Dl s.data.toList.length i sP,Z3,Z1,Fh,Tv⟩
 .have h:¬(i:Int)<(s.size:Nat):=h;refine Yi (by rw[Lm]) ?_;exact .of_eq (Aa (sl encS) (show A=TP s.data.toList by rw[hA,As sP]))
theorem TH{s:List UInt8}(h:EC s=some n):0<=n:=by
 cases s with
 |nil=>unfold EC at h;cases h
 |cons c r=>
  have h:(if c=118 then(if(r.isEmpty||decide (3<r.length)||(decide (1<r.length)&&decide (r.headD 0=48))||!r.all BT)=true then none else some (Da r))else none)=some n:=h
  by_cases hc:c=118
  .rw[Av hc]at h
   by_cases hb:(r.isEmpty||decide (3<r.length)||(decide (1<r.length)&&decide (r.headD 0=48))||!r.all BT)=true
   .rw[Av hb]at h;cases h
   .rw[Aj hb]at h;have ha:r.all BT=true:=by
     cases hr:r.all BT
     .rw[hr]at hb;simp at hb
     .rfl
    rw[<-Bv h]
    suffices hh:∀i,i<=r.length->0<=Da (r.take i) by
     have:=hh r.length (Ad _)
     rwa [DS]at this
    intro i
    induction i with
    |zero=>intro _;exact CR _
    |succ i ih=>
     intro hi;have hd:=GQ (AJ.1 ha _ (Af (show i<r.length by omega)))
     have:=ih sP
     rw[H3 r i sP];omega
  .rw[Aj hc]at h;cases h
theorem ZY{l:List UInt8}{x:ByteArray}(h:(TP l)[(TP l).length-1]?=some x):(BC 47 l).getLastD []=x.data.toList:=by
 rw[Lm,Ap,<-List.getLast?_eq_getElem?]at h;obtain⟨y,hy,e⟩:=Ay.1 h;rw[List.getLastD_eq_getLast?,hy,<-e];rfl
theorem jA(hp:CT p):PC 156 [vs p] (LY (AU p)):=by
 have Dm:p.size=p.data.toList.length:=by simp
 have hc:=mX p hp;unfold CT at hp;obtain⟨A,hA⟩:∃A,A=TP p.data.toList:=⟨_,rfl⟩;rw[<-hA]at hc;have nJ:A.length=(BC 47 p.data.toList).length:=by rw[hA,Lm]
 have dX:=ON 47 p.data.toList;have bg:0<A.length:=by rw[nJ];exact GG.2 (Ie 47 _)
 have kq:∀x∈A,x.data.toList.length<4611686018427387904:=fun x hx=>by
  obtain⟨y,hy,e⟩:=AA.1 (hA▸hx:x∈TP p.data.toList);have h5:=Iw 47 _ y hy;rw[<-e];show y.length<_;omega
 have EM:(BC 47 p.data.toList).all Fa=A.all fun x=>Fa x.data.toList:=by rw[hA,List.all_map];rfl
 have Dc:A.length-1<A.length:=by omega
 have hg:A[A.length-1]?=some A[A.length-1]:=Ge Dc;have SA:(BC 47 p.data.toList).getLastD []=A[A.length-1].data.toList:=by
  subst hA;exact ZY hg
 have em:AU p=match EC A[A.length-1].data.toList with
  |none=>none
  |some n=>if(decide (64<p.data.toList.length)||decide (A.length<2))=true then none else if(A.all fun x=>Fa x.data.toList)=true then some n else none:=by
  unfold AU Kr;rw[SA,EM,<-nJ];cases EC A[A.length-1].data.toList with
  |none=>rfl
  |some n=>rfl
 clear EM SA
 have hv:=mZ A[A.length-1] (kq _ (Af Dc));obtain⟨o,ho⟩:∃o,o=EC A[A.length-1].data.toList:=⟨_,rfl⟩;rw[<-ho]at hv em;have hz:∀n,o=some n->0<=n:=fun n e=>by
  rw[e]at ho;exact TH ho.symm
 refine Ps (F0 [4,9,10]) Tryz.func156 rfl (Nz rfl) (Yi (fun h=>?_) (fun h=>?_))
 .exact .of_eq (Aa LY (show(none:Option Int)=AU p by rw[em,Ah (by omega:64<p.data.toList.length)];cases o<;>rfl))
 have d1:decide (64<p.data.toList.length)=false:=Ae sP;refine Xi .pure (Xi _ (Yi (hc) (cU [(4,sl encS A)] [] Z1 Tv (Xi {i:Nat // i<=A.length/\∀j (hj:j<A.length),j<i->Fa (A[j]).data.toList=true} (Xi (fun i=>⟨[(4,sl encS A),(5,vi i.1)],[],Ao⟩) (Xi (fun i=>A.length-i.1) (Yi (Xi ⟨0,Ar _,fun j _ h=>by omega⟩ ?_) ?_)))))))
 .exact⟨Z2,Tv,Fh,Tv⟩
 intro⟨i,i1,i2⟩;refine Yi (fun h2=>?_) (fun h2=>?_)
 .have h2:i<A.length:=by simpa using h2
  have hg:A[i]?=some A[i]:=Ge h2;refine Xi (encS A[i]) (Yi (Yi (Nn i) (by simp[hg])) (Yi rfl ?_));have hn:=mY A[i] (kq _ (Af h2));refine Bn (Bt (Fa A[i].data.toList)).symm (fun e1=>?_) (fun e1=>?_)
  .rw[e1]at hn;refine Xi .pure (Xi _ (Yi (hn) ?_));have e2:(A.all fun x=>Fa x.data.toList)=false:=by
    rw[A8];intro hh
    have:=AJ.1 hh _ (Af h2)
    rw[e1]at this;cases this
   exact .of_eq (Aa LY (show(none:Option Int)=AU p by
    rw[em,e2];cases o with
    |none=>rfl
    |some n=>cases (decide (64<p.data.toList.length)||decide (A.length<2))<;>rfl))
  rw[e1]at hn;refine Xi .pure (Xi _ (Yi (hn) (Yi (Ii i sP) (Xi ⟨i+1,by omega,fun j hj Gn=>?_⟩ ?_))))
  .rcases Be j i with z | z
   .exact i2 j hj z
   .have:j=i:=by omega
    subst this;exact e1
  .exact⟨Dl A.length i sP,Z2,Tv,Fh,Tv⟩
 have h2:¬i<A.length:=by simpa using h2
 have e2:(A.all fun x=>Fa x.data.toList)=true:=AJ.2 fun x hx=>by
  obtain⟨j,hj,rfl⟩:=BB hx;exact i2 j hj sP
 have em:AU p=match(generalizing:=false) o with
  |none=>none
  |some n=>if decide (A.length<2)=true then none else some n:=by
  rw[em,e2,d1];cases o<;>rfl
 refine cU [(4,sl encS A)] [] Z1 Tv ?_
 have Wv:(((A.map encS).length:Int)-1).toNat=A.length-1:=by rw[Lm];omega
 refine Yi (by show AE (((A.map encS).length:Int)-1);rw[Lm];unfold AE;omega) ?_;refine Xi (encS A[A.length-1]) (Yi (Yi (by show(0:Int)<=((A.map encS).length:Int)-1;rw[Lm];omega) (by rw[Wv];exact CQ hg)) (Yi rfl ?_));refine Xi .pure (Xi _ (Yi (hv) ?_));refine BF (show ∃z:Int,Pp o=vi z/\(z<0↔o=none)/\∀n,o=some n->z=n by
  cases o with
  |none=>exact⟨-1,rfl,⟨fun _=>rfl,fun _=>by decide⟩,fun n h=>by cases h⟩
  |some n=>exact⟨n,rfl,⟨fun h=>absurd (hz n rfl) sP,fun h=>by cases h⟩,fun m h=>by cases h;rfl⟩) (fun z iP=>?_)
 refine cU [(4,sl encS A),(6,vi z)] [] ⟨Zr,⟨iP.1,rfl⟩,Tv⟩ Tv (Yi (fun h3=>?_) (fun h3=>?_))
 .rw[Lm]at h3;exact .of_eq (Aa LY (show(none:Option Int)=AU p by rw[em,Ah (by omega:A.length<2)];cases o<;>rfl))
 rw[Lm]at h3;refine Yi (fun h4=>?_) (fun h4=>?_)
 .exact .of_eq (Aa LY (show(none:Option Int)=AU p by rw[em,iP.2.1.1 h4]))
 refine BF (show ∃n,o=some n by
  cases o with
  |none=>exact absurd (iP.2.1.2 rfl) h4
  |some n=>exact⟨n,rfl⟩) (fun n hn=>?_)
 exact .of_eq (show AV.tup [vi z,vi 0]=LY (AU p) by rw[em,hn,iP.2.2 n hn,Ae (by omega:¬A.length<2)];rfl)
theorem mU(hp:CT p):PC 155 [vs p] (vb (AU p).isSome):=by
 have hc:=jA p hp;cases h:AU p with
 |none=>
  rw[h]at hc;refine Ps Dj Tryz.func155 rfl (Nz rfl) (Xi .pure (Xi _ (Yi (hc) (Yi ?_ ?_))))
  .intro h;exact absurd (show(4:Int)=0 from h) sR
  .intro _;exact .refl _
 |some n=>
  rw[h]at hc;refine Ps Dj Tryz.func155 rfl (Nz rfl) (Xi .pure (Xi _ (Yi (hc) (Yi ?_ ?_))))
  .intro _;exact .refl _
  .intro h;exact absurd rfl h
theorem c80(s:List Sl)(hs:CC s):PC 45 [sl Ag s] (vb (Bw s)):=by
 unfold CC at hs;refine Ps Dj Tryz.func45 rfl (Nz rfl) ?_;refine Xi {i:Nat // 1<=i/\(s=[]\/i<=s.length)/\Bw s=(match s[i-1]? with | none=>true | some y=>HR (some y.path) (s.drop i))} (Xi (fun i=>⟨[(0,sl Ag s),(3,vi i.1)],[],Ao⟩) (Xi (fun i=>s.length-i.1) (Yi (Xi ⟨1,Ad _,by cases s with | nil=>exact .inl rfl | cons _ _=>exact .inr sS,by cases s<;>rfl⟩ ?_) ?_)))
 .exact⟨Z2,Tv,Fh,Tv⟩
 intro⟨i,h1,h2,h3⟩;refine Yi ?_ ?_
 .intro h;have h:i<s.length:=by simpa using h
  have hg:s[i]?=some s[i]:=Ge h;have h' : i-1<s.length:=by omega
  have Pe : s[i-1]?=some s[i-1]:=Ge h';have e1:((i:Int)-1).toNat=i-1:=by omega
  have SG:Bw s=(FC s[i-1].path s[i].path&&HR (some s[i].path) (s.drop (i+1))):=by
   rw[h3,Pe]
   have:=SL s (i-1) sP
   simp only[show i-1+1=i by omega,show i-1+2=i+1 by omega]at this;exact this
  refine Xi (Ag s[i]) (Yi (Yi (Nn i) (by simp[hg])) (Yi rfl ?_));refine Yi (by show AE ((i:Int)-1);unfold AE;omega) (Xi (Ag s[i-1]) (Yi (Yi (by show(0:Int)<=(i:Int)-1;omega) (by show(s.map Ag)[((i:Int)-1).toNat]?=_;rw[e1];simp[Pe])) (Yi rfl (Yi ?_ ?_))))
  .intro h4;rw[<-Ed]at h4;refine Yi sT ?_;exact .of_eq (Aa vb (show false=Bw s by rw[SG,h4];rfl))
  .intro h4;rw[<-Ed,Bool.not_eq_false]at h4;refine Yi sT (Yi (Ii i sP) (Xi ⟨i+1,by omega,.inr sP,by rw[SG,h4,show i+1-1=i by omega,hg];rfl⟩ ?_));exact⟨Dl s.length i sP,Z2,Tv,Fh,Tv⟩
 .intro h;have h:¬i<s.length:=by simpa using h
  have fV:Bw s=true:=by
   rcases h2 with h2 | h2
   .rw[h2];rfl
   .have e:i=s.length:=by omega
    rw[h3,e,List.drop_length];cases s[s.length-1]?<;>rfl
  exact .of_eq (Aa vb fV.symm)
abbrev Uz:Int:=match AU p with | none=>-1 | some m=>m
abbrev iZ:Prop:=∀p:ByteArray,CT p->PC 143 [vs p] (vi (Uz p))
abbrev i7:Prop:=∀s:Bz,CC s->PC 198 [sl An s] (sl An (canon s))
theorem cP{r:List UInt8}(h:r.all BT=true):0<=Da r:=by
 have:∀(l:List UInt8) (n:Int),0<=n->(∀c∈l,BT c=true)->0<=l.foldl (fun n c=>10*n+((c.toNat:Int)-48)) n:=by
  intro l
  induction l with
  |nil=>intro n hn _;exact hn
  |cons c l ih=>
   intro n hn hc
   have:=GQ (hc c (Ab ..))
   exact ih _ (show 0<=10*n+((c.toNat:Int)-48) by omega) fun d hd=>hc d (Ai _ hd)
 exact this r 0 (CR _) (fun c hc=>AJ.1 h c hc)
theorem dl{s:List UInt8}(h:EC s=some n):0<=n:=by
 unfold EC at h;split at h
 .split at h
  .split at h
   .cases h
   .rename_i r _ hc;cases h;refine cP ?_;cases hd:r.all BT with
    |true=>rfl
    |false=>rw[hd]at hc;simp at hc
  .cases h
 .cases h
theorem Zz{p:ByteArray}(h:AU p=some m):0<=m:=by
 unfold AU Kr at h;split at h
 .cases h
 .rename_i n e;split at h
  .cases h
  .split at h
   .cases h;exact dl e
   .cases h
theorem Lb:Uz p<0↔(AU p).isNone=true:=by
 unfold Uz;cases h:AU p with
 |none=>simp
 |some m=>have:=Zz h;simp;omega
theorem qK(bZ:iZ)(fG:i7)(l:List Rq)(hs:∀q∈l,bp q):PC 144 [sl BU l] (vi (B8 l)):=by
 refine Ps (F0 []) Tryz.func144 rfl (Nz rfl) (Yi ?_ ?_)
 .intro h;exact .of_eq (Aa vi (show(7:Int)=B8 l by unfold B8;rw[Av (by rw[Lm]at h;omega)]))
 intro h;have hl:l.length<=16:=by rw[Lm]at h;omega
 have LO:B8 l=Dx none l:=by unfold B8;rw[Aj sP]
 refine Xi {i:Nat // i<=l.length/\Dx none l=Dx (GX l i) (l.drop i)} (Xi (fun i=>⟨[(0,sl BU l),(3,vi i.1)],[],Ao⟩) (Xi (fun i=>l.length-i.1) (Yi (Xi ⟨0,Ar _,rfl⟩ ?_) ?_)))
 .exact⟨Z2,Tv,Fh,Tv⟩
 intro⟨i,h1,h2⟩;refine Yi ?_ ?_
 .intro h;have h:i<l.length:=by simpa using h
  have hg:l[i]?=some l[i]:=Ge h;have hd:l.drop i=l[i]::l.drop (i+1):=AG h;have hq:=hs l[i] (Af h);have FD:Dx none l=if E9 (GX l i) l[i]=0 then Dx (some l[i].path) (l.drop (i+1))else E9 (GX l i) l[i]:=by rw[h2,hd];rfl
  have fail:∀e:Int,E9 (GX l i) l[i]=e->e≠0->e=B8 l:=fun e he hz=>by rw[LO,FD,he,Aj hz]
  have bc:GX l (i+1)=some l[i].path:=IV h;refine Xi (BU l[i]) (Yi (Yi (Nn i) (by simp[hg])) (Yi rfl ?_));refine Xi .pure (Xi _ (Yi (bZ l[i].path hq.2) (Yi ?_ ?_)))
  .intro h3;exact .of_eq (Aa vi (fail 4 (by unfold E9;rw[Av ((Lb _).1 h3)]) sR))
  intro h3;have rz:(AU l[i].path).isNone=false:=by
   rw[A8];exact fun e=>h3 ((Lb _).2 e)
  have er:E9 (GX l i) l[i]=if(l[i].set.isEmpty||!decide (l[i].set=canon l[i].set)||(match GX l i with | some b=>!FC b l[i].path | none=>false))=true then 1 else 0:=by unfold E9;rw[rz];rfl
  refine Xi (BU l[i]) (Yi (Yi (Nn i) (by simp[hg])) (Yi rfl ?_));refine Yi ?_ ?_
  .intro h4;have h5:l[i].set.isEmpty=true:=by
    rw[Lm]at h4;rw[List.isEmpty_iff];exact AF sP
   refine Yi sT ?_;exact .of_eq (Aa vi (fail 1 (by rw[er,h5];rfl) sR))
  intro h4;have h5:l[i].set.isEmpty=false:=by
   cases hqs:l[i].set with
   |nil=>rw[hqs]at h4;exact absurd rfl h4
   |cons a b=>rfl
  have he:=c75 l[i].set (canon l[i].set) hq.1;refine Xi (BU l[i]) (Yi (Yi (Nn i) (by simp[hg])) (Yi rfl ?_));refine Xi (BU l[i]) (Yi (Yi (Nn i) (by simp[hg])) (Yi rfl ?_));refine Xi _ (Yi (fG l[i].set hq.1) (Bn (Bt (decide (l[i].set=canon l[i].set))) (fun e=>?_) (fun e=>?_)))
  rotate_left
  .rw[e]at he;refine Xi _ (Yi (he) (Yi sT ?_));exact .of_eq (Aa vi (fail 1 (by rw[er,h5,e];rfl) sR))
  rw[e]at he;refine Xi _ (Yi (he) (Yi sT (Yi ?_ ?_)))
  .intro h6;have h6:(0:Int)<i:=h6;have h7:i-1<l.length:=by omega
   have hb:GX l i=some l[i-1].path:=by
    obtain⟨k,rfl⟩:∃k,i=k+1:=⟨i-1,by omega⟩;exact IV h7
   refine Xi (BU l[i]) (Yi (Yi (Nn i) (by simp[hg])) (Yi rfl ?_));refine Yi (by show AE ((i:Int)-1);unfold AE;omega) (Xi (BU l[i-1]) (Yi (Yi (by show(0:Int)<=(i:Int)-1;omega) (by rw[show((i:Int)-1).toNat=i-1 by omega];exact CQ (Ge h7))) (Yi rfl ?_)));refine Yi ?_ ?_
   .intro h8;refine Yi sT ?_;exact .of_eq (Aa vi (fail 1 (by rw[er,h5,e,hb];show(if(!FC l[i-1].path l[i].path)=true then(1:Int)else 0)=1;rw[Ed,h8];rfl) sR))
   .intro h8;have h8:¬Op.bytesLess l[i-1].path.toList l[i].path.toList=false:=h8;have h8:Op.bytesLess l[i-1].path.toList l[i].path.toList=true:=by simpa using h8
    refine Yi sT (Yi (Ii i sP) (Xi ⟨i+1,by omega,by rw[FD,bc,Av (by rw[er,h5,e,hb];show(if(!FC l[i-1].path l[i].path)=true then(1:Int)else 0)=0;rw[Ed,h8];rfl)]⟩ ?_));exact⟨Dl l.length i sP,Z2,Tv,Fh,Tv⟩
  .intro h6;have h6:¬(0:Int)<i:=h6;have h7:i=0:=by omega
   refine Yi sT (Yi (Ii i sP) (Xi ⟨i+1,by omega,by rw[FD,bc,Av (by rw[er,h5,e];subst h7;rfl)]⟩ ?_));exact⟨Dl l.length i sP,Z2,Tv,Fh,Tv⟩
 .intro h;have h:¬(i:Int)<(l.map BU).length:=h;have h:¬i<l.length:=by simpa using h
  have e:(0:Int)=B8 l:=by rw[LO,h2,Df sP];rfl
  exact .of_eq (Aa vi e)
theorem Ux(hk:k<p.data.toList.length)(h1:p.data.toList[k]=47)(h2:∀j (hj:j<p.data.toList.length),k<j->p.data.toList[j]≠47):Go.Lib.lastIndex p.data.toList [47]=k:=by
 have iL:∀i (hi:i<p.data.toList.length),Go.Lib.occAt p.data.toList [47] i=true↔p.data.toList[i]=47:=fun i hi=>by
  unfold Go.Lib.occAt;rw[AG hi];simp;exact eq_comm
 unfold Go.Lib.lastIndex;rw[Av (by simp only[AI];omega)];rcases Go.Lib.lastOcc_spec p.data.toList [47] (p.data.toList.length - [(47:UInt8)].length+1)with ⟨_,h3⟩ | ⟨j,h3,h4,h5,h6⟩
 .have:=h3 k (by simp only[AI];omega)
  rw[(iL k hk).2 h1]at this;cases this
 .rw[h4];simp only[AI]at h3;have e:j=k:=by
   rcases EK j k with z | z | z
   .have:=h6 k z (by simp only[AI];omega)
    rw[(iL k hk).2 h1]at this;cases this
   .exact z
   .exact absurd ((iL j sP).1 h5) (h2 j sP z)
  rw[e]
theorem Xr{p:ByteArray}(h:AU p=some m):(47:UInt8)∈p.data.toList:=by
 refine Kx 47 _ ?_;unfold AU Kr at h;split at h
 .cases h
 .split at h
  .cases h
  .rename_i hn;simp only[CO,A3]at hn;omega
theorem c171(hp:CT p):PC 95 [vs p] (La Kp p):=by
 have hc:=jA p hp;have hi:=mU p hp;have Dm:p.size=p.data.toList.length:=by simp
 unfold La;cases h:AU p with
 |none=>
  rw[h]at hi;refine Ps Dj Tryz.func95 rfl (Nz rfl) (Xi .pure (Xi _ (Yi (hi) ?_)));exact .refl _
 |some n=>
  have cu:=Xr h;rw[h]at hc hi;unfold CT at hp;refine BF (show ∃q,∃hq:q<p.data.toList.length,p.data.toList[q]=47 from BB cu) (fun q hq=>?_);refine BF hq (fun hq eq=>?_);refine Ps Dj Tryz.func95 rfl (Nz rfl) (Xi .pure (Xi _ (Yi (hi) (Xi .pure (Xi _ (Yi (hc) (Yi (fun h=>absurd rfl h) (fun _=>?_))))))));refine Yi (show AE (((p.size:Nat):Int)-1) by unfold AE;omega) ?_;refine Xi {k:Nat // k<p.data.toList.length/\∀j (hj:j<p.data.toList.length),k<j->p.data.toList[j]≠47} (Xi (fun k=>⟨[(0,vs p),(5,vi n),(7,vi k.1)],[],Ao⟩) (Xi (fun k=>k.1) (Yi (Xi ⟨p.data.toList.length-1,by omega,fun j hj Gn=>by omega⟩ ?_) ?_)))
  .have e1:vi (((p.size:Nat):Int)-1)=vi ((p.data.toList.length-1:Nat):Int):=Aa vi sP;exact⟨⟨Zr,Zr,⟨e1,rfl⟩,Tv⟩,Tv,Fh,Tv⟩
  intro⟨k,k1,k2⟩;have MP:(0:Int)<=k/\p.data[((k:Nat):Int).toNat]?=some p.data.toList[k]:=⟨by omega,by rw[A1];exact Jo p k k1⟩;refine Xi p.data.toList[k] (Yi MP (Yi (fun h2=>?_) (fun h2=>?_)))
  .have h2:p.data.toList[k]≠47:=fun e=>h2 (by rw[e];rfl);have sI:q<=k:=by
    rcases Be k q with z | z
    .exact absurd eq (k2 q hq z)
    .exact z
   have RJ:q≠k:=fun e=>by subst e;exact h2 eq
   refine Yi (show AE ((k:Int)-1) by unfold AE;omega) ?_;have e1:vi ((k:Int)-1)=vi ((k-1:Nat):Int):=Aa vi sP;refine Xi ⟨k-1,by omega,fun j hj Gn=>?_⟩ ?_
   .rcases Be k j with z | z
    .exact k2 j hj z
    .have:j=k:=by omega
     subst this;exact h2
   .exact⟨by show k-1<k;omega,⟨Zr,Zr,⟨e1,rfl⟩,Tv⟩,Tv,Fh,Tv⟩
  .have h2:p.data.toList[k]=47:=EH.1 (by have:=BP.1 h2;show p.data.toList[k].toNat=47;omega);have el:=Ux p k k1 h2 k2;refine Yi ⟨CR _,by show(0:Int)<=k;omega,by show(k:Int)<=p.size;omega⟩ ?_;have e3:p.extract 0 ((k:Nat):Int).toNat=Kp p:=by unfold Kp;rw[el]
   exact .of_eq (show AV.tup [vs (p.extract 0 ((k:Nat):Int).toNat),vi n,vi 0]=_ by rw[e3])
theorem mI(hp:CT p):PC 143 [vs p] (vi (Uz p)):=by
 have hc:=c171 p hp;unfold La at hc;unfold Uz;cases h:AU p with
 |none=>
  rw[h]at hc;refine Ps Dj Tryz.func143 rfl (Nz rfl) (Xi .pure (Xi _ (Yi (hc) (Yi (fun _=>?_) (fun h=>absurd (show(4:Int)≠0 by decide) h)))));exact .refl _
 |some m=>
  rw[h]at hc;refine Ps Dj Tryz.func143 rfl (Nz rfl) (Xi .pure (Xi _ (Yi (hc) (Yi (fun h=>absurd rfl h) (fun _=>?_)))));exact .refl _
theorem bZ:iZ:=mI
abbrev kX:VN:=⟨[],[(3,0)],[(63,2)],[],[],[],[],[],[],[(112,7)],[4,6,10,11,14,16,17,18]⟩
theorem Ib:∀cs∈s.map An,cs.length=2:=fun cs h=>by
 obtain⟨x,_,rfl⟩:=AA.1 h;rfl
theorem HJ{n:Nat}:∀{l:List (List AV)},(∀c∈l,c.length=n)->Cn n l
 | [],_=>trivial
 |c::_,h=>⟨h c (Ab ..),HJ fun d hd=>h d (Ai _ hd)⟩
abbrev Jh:List (List AV):=((s.map An).take (((s.map An).length:Nat):Int).toNat).drop ((k:Nat):Int).toNat
theorem OC:Jh s k=(s.drop k).map An:=by
 unfold Jh;rw[A1,A1,As (Ad _),List.map_drop]
theorem dE(h:s.length<=1073741824):Cn 2 (Jh s k)/\[An x].length=1/\([An x].length+(Jh s k).length)*16<=140737488355328/\[An x].length+(Jh s k).length<=9223372036854775807:=by
 rw[OC];refine⟨HJ (Ib _),rfl,?_,?_⟩<;>rw[Lm,BX,AI]<;>omega
abbrev Mq:List (List AV):=((s.map An).take ((k:Nat):Int).toNat).drop ((0:Int)).toNat
theorem Sw:Mq s k=(s.take k).map An:=by
 unfold Mq;rw[A1,show(0:Int).toNat=0 from rfl,KH,MH]
theorem dF(hk:k<=s.length)(h:s.length<=1073741824):Cn 2 ([An x]++Jh s k)/\(Mq s k).length=((k:Nat):Int).toNat-((0:Int)).toNat/\((Mq s k).length+([An x]++Jh s k).length)*16<=140737488355328/\(Mq s k).length+([An x]++Jh s k).length<=9223372036854775807:=by
 rw[OC,Sw];refine⟨⟨rfl,HJ (Ib _)⟩,?_,?_,?_⟩
 .rw[Lm,Al,A1];show min k s.length=k-0;omega
 .rw[Ac,Lm,Lm,Al,BX,AI];omega
 .rw[Ac,Lm,Lm,Al,BX,AI];omega
theorem kM:Mq s k++([An x]++Jh s k)=(s.take k++([x]++s.drop k)).map An:=by
 rw[OC,Sw,AK,AK];rfl
theorem WI{s:Bz}(h:j<s.length)(hA:A=(Bc (s.take j)).reverse){y:Int×Int}(hy:A[A.length-1]?=some y)(Fc:s[j].1<=y.2):A.set (A.length-1) (y.1,max y.2 s[j].2)=(Bc (s.take (j+1))).reverse:=by
 rw[D4 s j h];cases hr:Bc (s.take j)with
 |nil=>rw[hA,hr]at hy;cases hy
 |cons z t=>
  have eA:A=t.reverse++[z]:=by rw[hA,hr,DA]
  have eL:A.length-1=t.reverse.length:=by rw[eA,Ac,AI];omega
  rw[eL,eA,AL (Ad _),DB]at hy;have ez:z=y:=Bv hy;have e2:G6 (z::t) s[j]=(z.1,max z.2 s[j].2)::t:=by show(if s[j].1<=z.2 then _ else _)=_;rw[Av (ez▸Fc)]
  rw[e2,eL,eA,List.set_append_right _ _ (Ad _),DB,DA,ez];rfl
theorem SO{s:Bz}(h:j<s.length)(hA:A=(Bc (s.take j)).reverse)(hn:∀y,A[A.length-1]?=some y->¬s[j].1<=y.2):A++[s[j]]=(Bc (s.take (j+1))).reverse:=by
 rw[D4 s j h];cases hr:Bc (s.take j)with
 |nil=>rw[hA,hr];rfl
 |cons z t=>
  have eA:A=t.reverse++[z]:=by rw[hA,hr,DA]
  have eL:A.length-1=t.reverse.length:=by rw[eA,Ac,AI];omega
  have:=hn z (by rw[eL,eA,AL (Ad _),DB];rfl)
  have e2:G6 (z::t) s[j]=s[j]::z::t:=by show(if s[j].1<=z.2 then _ else _)=_;rw[Aj this]
  rw[e2,eA,DA,DA]
theorem kR(A:Bz)(k:Nat)(y x:Int×Int):(A.map An).set k [vi y.1,vi (max y.2 x.2)]=(A.set k (y.1,max y.2 x.2)).map An:=by rw[DX]
theorem mJ(l:Bz)(hl:CC l):PC 198 [sl An l] (sl An (canon l)):=by
 refine Ps kX Tryz.func198 rfl (Nz rfl) (Xi {p:Nat×Bz // p.1<=l.length/\p.2.Perm (CA (l.take p.1))/\p.2.Pairwise fun a b=>a.1<=b.1} (Xi (fun p=>⟨[(0,sl An l),(3,sl An p.1.2),(4,vi p.1.1)],[],Ao⟩) (Xi (fun p=>l.length-p.1.1) (Yi (Xi ⟨(0,[]),Ar _,.refl _,.nil⟩ ?_) ?_))))
 .exact⟨Z3,Tv,Fh,Tv⟩
 intro⟨⟨i,s⟩,i1,i2,i3⟩;have XJ:s.length<=i:=by rw[i2.length_eq];exact NC l i
 refine Yi (fun h=>?_) (fun h=>?_)
 .skip
  have h:i<l.length:=by simpa using h
  have hg:l[i]?=some l[i]:=Ge h;refine Xi (An l[i]) (Yi (Yi (Nn i) (by simp[hg])) (Yi rfl ?_));refine Xi (An l[i]) (Yi (Yi (Nn i) (by simp[hg])) (Yi rfl ?_));refine yN (Yi sT (Xi ⟨[(0,sl An l),(3,sl An s),(4,vi i),(5,.ref 5 0)],[(5,.cells (An (DL l[i])))],Ao⟩ (Yi ?_ ?_)))
  .have e0:HO.cells [vi (max 0 l[i].1),vi (min 1000000 l[i].2)]=.cells (An (DL l[i])):=by
    rw[Int.max_comm,Int.min_comm];rfl
   exact⟨Z4,⟨⟨e0,rfl⟩,Tv⟩,Fh,Tv⟩
  refine Yi (fun h3=>?_) (fun h3=>?_)
  .refine cU [(0,sl An l),(3,sl An s),(4,vi i)] [] Z3 Tv (Yi (Ii i sP) ?_);have e:=NA h (show ¬(DL l[i]).1<(DL l[i]).2 by omega);refine Xi ⟨(i+1,s),by omega,by show s.Perm (CA (l.take (i+1)));rw[e];exact i2,i3⟩ ?_;exact⟨Dl l.length i sP,Z3,Tv,Fh,Tv⟩
  have e:=LG h (show(DL l[i]).1<(DL l[i]).2 by omega);refine Xi {k:Nat // k<=s.length/\∀j (hj:j<s.length),k<=j->(DL l[i]).1<s[j].1} (Xi (fun k=>⟨[(0,sl An l),(3,sl An s),(4,vi i),(5,.ref 5 0),(6,vi k.1)],[(5,.cells (An (DL l[i])))],Ao⟩) (Xi (fun k=>k.1) (Yi (Xi ⟨s.length,Ad _,fun j hj Gn=>by omega⟩ ?_) ?_)))
  .have e1:vi ((s.map An).length:Int)=vi (s.length:Int):=by rw[Lm]
   exact⟨⟨Zr,Zr,Zr,Zr,⟨e1,rfl⟩,Tv⟩,Z1,Fh,Tv⟩
  intro⟨k,k1,k2⟩;refine Yi (fun h4=>?_) (fun h4=>?_)
  .have h4:(0:Int)<k:=h4;refine Yi (show AE ((k:Int)-1) by unfold AE;omega) ?_;have hk:k-1<s.length:=by omega
   have hg:s[k-1]?=some s[k-1]:=Ge hk;have hn:((k:Int)-1).toNat=k-1:=by omega
   refine Xi (An s[k-1]) (Yi (Yi (by show(0:Int)<=(k:Int)-1;omega) (by rw[hn];exact CQ hg)) (Yi rfl ?_));refine Yi (fun h5=>?_) (fun h5=>?_)
   .refine Yi sT (Yi (show AE ((k:Int)-1) by unfold AE;omega) ?_);have e1:vi ((k:Int)-1)=vi ((k-1:Nat):Int):=Aa vi sP;refine Xi ⟨k-1,by omega,fun j hj Gn=>?_⟩ ?_
    .rcases Be j k with z | z
     .have:j=k-1:=by omega
      subst this;exact h5
     .exact k2 j hj z
    .exact⟨by show k-1<k;omega,⟨Zr,Zr,Zr,Zr,⟨e1,rfl⟩,Tv⟩,Z1,Fh,Tv⟩
   have Gp:k=0\/∃h:k-1<s.length,s[k-1].1<=(DL l[i]).1:=.inr ⟨hk,by omega⟩;refine Yi sT (cU [(0,sl An l),(3,sl An s),(4,vi i),(5,.ref 5 0),(6,vi k)] [(5,.cells (An (DL l[i])))] Z5 Z1 (Yi (show(0:Int)<=0/\(0:Int)<=k/\(k:Int)=k/\(k:Int)<=((s.map An).length:Nat) by rw[Lm];omega) (Yi (Ib s) (yN (Yi (show(0:Int)<=k/\(k:Int)<=((s.map An).length:Nat)/\(((s.map An).length:Nat):Int)<=((s.map An).length:Nat) by rw[Lm];omega) (Yi (Ib s) ?_))))));refine Yi (dE s (DL l[i]) k sP) (Yi (dF s (DL l[i]) k k1 sP) (Yi sT (BF (show ∃t,t=s.take k++([DL l[i]]++s.drop k)from⟨_,rfl⟩) (fun t ht=>?_))));refine Xi ⟨[(0,sl An l),(3,sl An t),(4,vi i)],[],Ao⟩ (Yi ?_ ?_)
   .have e3:AV.slice .none (Mq s k++([An (DL l[i])]++Jh s k))=sl An t:=by rw[ht];exact Aa (AV.slice .none) (kM s (DL l[i]) k)
    exact⟨⟨Zr,⟨e3,rfl⟩,Zr,Tv⟩,Tv,Fh,Tv⟩
   refine Yi (Ii i sP) (Xi ⟨(i+1,t),by omega,by show t.Perm (CA (l.take (i+1)));rw[e,ht];exact SM s _ k i2,by show t.Pairwise _;rw[ht];exact N9 s _ k i3 k2 Gp⟩ ?_);exact⟨Dl l.length i sP,Z3,Tv,Fh,Tv⟩
  .have h4:¬(0:Int)<k:=h4;have Gp:k=0\/∃h:k-1<s.length,s[k-1].1<=(DL l[i]).1:=.inl sP;refine Yi sT (cU [(0,sl An l),(3,sl An s),(4,vi i),(5,.ref 5 0),(6,vi k)] [(5,.cells (An (DL l[i])))] Z5 Z1 (Yi (show(0:Int)<=0/\(0:Int)<=k/\(k:Int)=k/\(k:Int)<=((s.map An).length:Nat) by rw[Lm];omega) (Yi (Ib s) (yN (Yi (show(0:Int)<=k/\(k:Int)<=((s.map An).length:Nat)/\(((s.map An).length:Nat):Int)<=((s.map An).length:Nat) by rw[Lm];omega) (Yi (Ib s) ?_))))));refine Yi (dE s (DL l[i]) k sP) (Yi (dF s (DL l[i]) k k1 sP) (Yi sT (BF (show ∃t,t=s.take k++([DL l[i]]++s.drop k)from⟨_,rfl⟩) (fun t ht=>?_))));refine Xi ⟨[(0,sl An l),(3,sl An t),(4,vi i)],[],Ao⟩ (Yi ?_ ?_)
   .have e3:AV.slice .none (Mq s k++([An (DL l[i])]++Jh s k))=sl An t:=by rw[ht];exact Aa (AV.slice .none) (kM s (DL l[i]) k)
    exact⟨⟨Zr,⟨e3,rfl⟩,Zr,Tv⟩,Tv,Fh,Tv⟩
   refine Yi (Ii i sP) (Xi ⟨(i+1,t),by omega,by show t.Perm (CA (l.take (i+1)));rw[e,ht];exact SM s _ k i2,by show t.Pairwise _;rw[ht];exact N9 s _ k i3 k2 Gp⟩ ?_);exact⟨Dl l.length i sP,Z3,Tv,Fh,Tv⟩
 .skip
  have h:¬i<l.length:=by simpa using h
  have fin:(Bc s).reverse=canon l:=IA (by rw[As sP]at i2;exact i2) i3;refine cU [(3,sl An s)] [] Z1 Tv (Xi {p:Nat×Bz // p.1<=s.length/\p.2=(Bc (s.take p.1)).reverse} (Xi (fun p=>⟨[(3,sl An s),(7,.msl 63 p.1.2.length),(8,vi p.1.1)],[(63,EX p.1.2)],Ao⟩) (Xi (fun p=>s.length-p.1.1) (Yi (Xi ⟨(0,[]),Ar _,rfl⟩ ?_) ?_))))
  .exact⟨Z3,Z1,Fh,Tv⟩
  intro⟨⟨j,A⟩,j1,hA⟩;have j1:j<=s.length:=j1;have hA:A=(Bc (s.take j)).reverse:=hA;have nJ:A.length<=j:=by rw[hA,Ck];exact(Ks s j j1).1
  refine Yi (fun h2=>?_) (fun h2=>?_)
  .have h2:(j:Int)<((s.map An).length:Int):=h2;have h2:j<s.length:=by simpa using h2
   have pX:s[j]?=some s[j]:=Ge h2;refine cU [(3,sl An s),(7,.msl 63 A.length),(8,vi j),(9,vi A.length)] [(63,EX A)] Z4 Z1 (Yi (fun h3=>?_) (fun h3=>?_))
   .have h3:(0:Int)<A.length:=h3;have dS:AE ((A.length:Int)-1):=by unfold AE;omega
    have hn:((A.length:Int)-1).toNat=A.length-1:=by omega
    have Wv:(0:Int)<=(A.length:Int)-1/\(A.length:Int)-1<(A.length:Int):=by omega
    have Dc:A.length-1<A.length:=by omega
    have hg:A[A.length-1]?=some A[A.length-1]:=Ge Dc;have iI:(A.map An)[((A.length:Int)-1).toNat]?=some (An A[A.length-1]):=by rw[hn];exact CQ hg
    have fY:A.length=(A.map An).length:=by rw[Lm]
    have kF:(0:Int)<=j/\(s.map An)[((j:Nat):Int).toNat]?=some (An s[j]):=⟨by omega,by rw[A1];exact CQ pX⟩;refine Xi (An s[j]) (Yi kF (Yi rfl (Yi dS (Yi Wv (Yi fY (Xi (An A[A.length-1]) (Yi iI (Yi (fun h4=>?_) (fun h4=>?_)))))))))
    .have h4:s[j].1<=A[A.length-1].2:=h4;refine Yi sT (cU [(3,sl An s),(7,.msl 63 A.length),(8,vi j),(9,vi A.length)] [(63,EX A)] Z4 Z1 (Yi dS (Yi dS (Yi Wv (Yi fY (Xi (An A[A.length-1]) (Yi iI (Xi (An s[j]) (Yi kF (Yi rfl (Yi Wv (Yi fY (Xi (An A[A.length-1]) (Yi iI (yN (Yi sT (BF (show ∃B,B=A.set (A.length-1) (A[A.length-1].1,max A[A.length-1].2 s[j].2)from⟨_,rfl⟩) (fun B hB=>?_))))))))))))))))));have e2:HO.arr 2 ((A.map An).set ((A.length:Int)-1).toNat [vi A[A.length-1].1,vi (max A[A.length-1].2 s[j].2)])=EX B:=by rw[hn,hB];exact Aa (HO.arr 2) (kR A _ _ _)
     have e1:AV.msl 63 A.length=.msl 63 B.length:=by rw[hB,Bg]
     refine cU [(3,sl An s),(7,.msl 63 B.length),(8,vi j)] [(63,EX B)] ⟨Zr,⟨e1,rfl⟩,Zr,Tv⟩ ⟨⟨e2,rfl⟩,Tv⟩ (Yi (Ii j sP) (Xi ⟨(j+1,B),by omega,by rw[hB];exact WI h2 hA hg h4⟩ ?_));exact⟨Dl s.length j sP,Z3,Z1,Fh,Tv⟩
    have h4:¬s[j].1<=A[A.length-1].2:=h4;have ke:A++[s[j]]=(Bc (s.take (j+1))).reverse:=SO h2 hA fun y hy=>by
     rw[hg]at hy;rw[<-Bv hy];exact h4
    refine Yi sT (cU [(3,sl An s),(7,.msl 63 A.length),(8,vi j),(9,vi A.length)] [(63,EX A)] Z4 Z1 (Xi (An s[j]) (Yi kF (Yi rfl (yN ?_)))));have Hd:Cn 2 [An s[j]]/\(A.map An).length=A.length/\((A.map An).length+[An s[j]].length)*16<=140737488355328/\(A.map An).length+[An s[j]].length<=9223372036854775807:=
     ⟨⟨rfl,trivial⟩,by rw[Lm],by rw[Lm,AI];omega,by rw[Lm,AI];omega⟩
    refine Yi Hd (BF (show ∃B,B=A++[s[j]]from⟨_,rfl⟩) (fun B hB=>?_));have e1:AV.msl 63 ((A.map An).length+[An s[j]].length)=.msl 63 B.length:=by rw[hB];simp
    have e2:HO.arr 2 (A.map An++[An s[j]])=EX B:=by rw[hB];simp
    refine cU [(3,sl An s),(7,.msl 63 B.length),(8,vi j)] [(63,EX B)] ⟨Zr,⟨e1,rfl⟩,Zr,Tv⟩ ⟨⟨e2,rfl⟩,Tv⟩ (Yi (Ii j sP) (Xi ⟨(j+1,B),by omega,by rw[hB];exact ke⟩ ?_));exact⟨Dl s.length j sP,Z3,Z1,Fh,Tv⟩
   .have h3:¬(0:Int)<A.length:=h3;have kF:(0:Int)<=j/\(s.map An)[((j:Nat):Int).toNat]?=some (An s[j]):=⟨by omega,by rw[A1];exact CQ pX⟩;have ke:A++[s[j]]=(Bc (s.take (j+1))).reverse:=SO h2 hA fun y hy=>by
     rw[AF (by omega:A.length=0)]at hy;cases hy
    refine Yi sT (cU [(3,sl An s),(7,.msl 63 A.length),(8,vi j),(9,vi A.length)] [(63,EX A)] Z4 Z1 (Xi (An s[j]) (Yi kF (Yi rfl (yN ?_)))));have Hd:Cn 2 [An s[j]]/\(A.map An).length=A.length/\((A.map An).length+[An s[j]].length)*16<=140737488355328/\(A.map An).length+[An s[j]].length<=9223372036854775807:=
     ⟨⟨rfl,trivial⟩,by rw[Lm],by rw[Lm,AI];omega,by rw[Lm,AI];omega⟩
    refine Yi Hd (BF (show ∃B,B=A++[s[j]]from⟨_,rfl⟩) (fun B hB=>?_));have e1:AV.msl 63 ((A.map An).length+[An s[j]].length)=.msl 63 B.length:=by rw[hB];simp
    have e2:HO.arr 2 (A.map An++[An s[j]])=EX B:=by rw[hB];simp
    refine cU [(3,sl An s),(7,.msl 63 B.length),(8,vi j)] [(63,EX B)] ⟨Zr,⟨e1,rfl⟩,Zr,Tv⟩ ⟨⟨e2,rfl⟩,Tv⟩ (Yi (Ii j sP) (Xi ⟨(j+1,B),by omega,by rw[hB];exact ke⟩ ?_));exact⟨Dl s.length j sP,Z3,Z1,Fh,Tv⟩
  .have h2:¬(j:Int)<((s.map An).length:Int):=h2;have h2:¬j<s.length:=by simpa using h2
   refine Yi (by rw[Lm]) ?_;exact .of_eq (Aa (sl An) (show A=canon l by rw[hA,As sP];exact fin))
theorem fG:i7:=mJ
theorem fe(s:ByteArray):PC 145 [vs s] (vb (CU s)):=by
 refine Ps Dj Tryz.func145 rfl (Nz rfl) (Yi (fun h=>?_) (fun h=>?_))
 .exact .of_eq (Aa vb (show true=CU s by unfold CU;rw[Ah (by omega:s.size=0)];rfl))
 refine Yi (fun h2=>?_) (fun h2=>?_)
 .exact .of_eq (Aa vb (show true=CU s by unfold CU;rw[Ah (by omega:s.size=32),OX]))
 exact .of_eq (Aa vb (show false=CU s by unfold CU;rw[Ae (by omega:¬s.size=0),Ae (by omega:¬s.size=32)];rfl))
def Jc:Nat->Int
 |0=>v.a
 |1=>v.b
 |_=>v.c
abbrev UO:List (List AV):=[[vi v.a],[vi v.b],[vi v.c]]
theorem Lu(h:i<3):(UO v)[((i:Nat):Int).toNat]?=some [vi (Jc v i)]:=by
 rw[A1]
 match i,h with
 |0,_=>rfl
 |1,_=>rfl
 |2,_=>rfl
theorem Yz(hi:i<3)(h:∀j,j<i->Jc a j=Jc b j)(hl:Jc a i<Jc b i):GL a b=-1:=by
 match i,hi,h,hl with
 |0,_,h,hl=>
  have hl:a.a<b.a:=hl;unfold GL cmpI;simp[hl]
 |1,_,h,hl=>
  have hl:a.b<b.b:=hl;have h0:a.a=b.a:=h 0 sP;unfold GL cmpI;simp[hl,h0]
 |2,_,h,hl=>
  have hl:a.c<b.c:=hl;have h0:a.a=b.a:=h 0 sP;have h1:a.b=b.b:=h 1 sP;unfold GL cmpI;simp[hl,h0,h1]
theorem Yy(hi:i<3)(h:∀j,j<i->Jc a j=Jc b j)(hl:Jc b i<Jc a i):GL a b=1:=by
 match i,hi,h,hl with
 |0,_,h,hl=>
  have hl:b.a<a.a:=hl;have hn:¬a.a<b.a:=by omega
  unfold GL cmpI;simp[hl,hn]
 |1,_,h,hl=>
  have hl:b.b<a.b:=hl;have hn:¬a.b<b.b:=by omega
  have h0:a.a=b.a:=h 0 sP;unfold GL cmpI;simp[hl,hn,h0]
 |2,_,h,hl=>
  have hl:b.c<a.c:=hl;have hn:¬a.c<b.c:=by omega
  have h0:a.a=b.a:=h 0 sP;have h1:a.b=b.b:=h 1 sP;unfold GL cmpI;simp[hl,hn,h0,h1]
theorem Yx(h:∀j,j<3->Jc a j=Jc b j):GL a b=0:=by
 have h0:a.a=b.a:=h 0 sP;have h1:a.b=b.b:=h 1 sP;have h2:a.c=b.c:=h 2 sP;unfold GL cmpI;simp[h0,h1,h2]
theorem mQ:PC 146 [.agg (Dy a),.agg (Dy b)] (vi (GL a b)):=by
 refine Ps (F0 []) Tryz.func146 rfl (Nz rfl) (Xi {i:Nat // i<=3/\∀j,j<i->Jc a j=Jc b j} (Xi (fun i=>⟨[(5,.slice (.id 14 1) (UO a)),(6,.slice (.id 21 1) (UO b)),(7,vi i.1)],[(14,.tok 1 3),(21,.tok 1 3)],Ao⟩) (Xi (fun i=>3-i.1) (Yi (Xi ⟨0,Ar _,fun j h=>by omega⟩ ?_) ?_))))
 .exact⟨Z3,Z2,Fh,Tv⟩
 intro⟨i,i1,i2⟩;refine Yi (fun h=>?_) (fun h=>?_)
 .have h:(i:Int)<3:=h;have h:i<3:=by omega
  refine Xi [vi (Jc a i)] (Yi (Yi (Nn i) (Lu a i h)) (Yi rfl (Xi [vi (Jc b i)] (Yi (Yi (Nn i) (Lu b i h)) (Yi rfl (Yi (fun h2=>?_) (fun h2=>?_)))))))
  .refine Yi sT ?_;exact .of_eq (Aa vi (Yz a b i h i2 h2).symm)
  refine Yi sT (Xi [vi (Jc a i)] (Yi (Yi (Nn i) (Lu a i h)) (Yi rfl (Xi [vi (Jc b i)] (Yi (Yi (Nn i) (Lu b i h)) (Yi rfl (Yi (fun h3=>?_) (fun h3=>?_))))))))
  .refine Yi sT ?_;exact .of_eq (Aa vi (Yy a b i h i2 h3).symm)
  refine Yi sT (Yi (Ii i sP) (Xi ⟨i+1,by omega,fun j hj=>?_⟩ ?_))
  .rcases Be j i with z | z
   .exact i2 j z
   .have:j=i:=by omega
    subst this;omega
  exact⟨Dl 3 i sP,Z3,Z2,Fh,Tv⟩
 .have h:¬(i:Int)<3:=h;exact .of_eq (Aa vi (Yx a b fun j hj=>i2 j sP).symm)
theorem mH(a b:Rl):PC 85 [.agg (Bb a),.agg (Bb b)] (vi (GK a b)):=by
 have hc:=mQ a.ver b.ver;refine Ps Dj Tryz.func85 rfl (Nz rfl) (Yi (fun h=>?_) (fun h=>?_))
 .exact .of_eq (Aa vi (show(-1:Int)=GK a b by unfold GK II;rw[Av (show FC a.path b.path=true by rw[Ed];exact h)];rfl))
 refine Yi (fun h2=>?_) (fun h2=>?_)
 .exact .of_eq (Aa vi (show(1:Int)=GK a b by unfold GK II;rw[Aj (show ¬FC a.path b.path=true by rw[Ed];exact h),Av (show FC b.path a.path=true by rw[Ed];exact h2)];rfl))
 refine Yi (Nz rfl) (yN (Xi .pure (Xi _ (Yi (hc) ?_))));exact .of_eq (Aa vi (show GL a.ver b.ver=GK a b by unfold GK II;rw[Aj (show ¬FC a.path b.path=true by rw[Ed];exact h),Aj (show ¬FC b.path a.path=true by rw[Ed];exact h2)];rfl))
def gA(s:Sl):Int:=Hw (fun y=>decide (s=y)) l 0
theorem aB{a b:Sl}(h:a.path=b.path/\a.ver.a=b.ver.a/\a.ver.b=b.ver.b/\a.ver.c=b.ver.c/\True):a=b:=by
 obtain⟨p,⟨x,y,z⟩⟩:=a;obtain⟨p',⟨x',y',z'⟩⟩:=b;obtain⟨h1,h2,h3,h4,_⟩:=h;cases h1;cases h2;cases h3;cases h4;rfl
theorem ly{a b:Sl}(h:¬(a.path=b.path/\a.ver.a=b.ver.a/\a.ver.b=b.ver.b/\a.ver.c=b.ver.c/\True)):a≠b:=fun e=>h (by subst e;exact⟨rfl,rfl,rfl,rfl,trivial⟩)
theorem Vk(s:Sl):(0<=gA l s)↔s∈l:=by
 have:=Jt (p:=fun y=>decide (s=y)) l 0 (CR 0)
 unfold gA;have h2:(0<=Hw (fun y=>decide (s=y)) l 0)↔(l.any fun y=>decide (s=y))=true:=by rw[<-this,A3]
 rw[h2,Br];constructor
 .rintro⟨y,hy,e⟩;simp only[A3]at e;subst e;exact hy
 .intro h;exact⟨s,h,by simp⟩
theorem rX(s:Sl)(hl:CC l):PC 70 [sl Ag l,.agg (Ag s)] (vi (gA l s)):=by
 refine Ps (pC [3] []) Tryz.func70 rfl (Nz rfl) (Xi {q:Nat // q<=l.length/\∀j (hj:j<l.length),j<q->s≠l[j]} (Xi (fun q=>⟨[(0,sl Ag l),(3,.ref 3 0),(7,vi (l.map Ag).length),(8,vi q.1)],[(3,.ro (Ag s))],Ao⟩) (Xi (fun q=>l.length-q.1) (Yi (Xi ⟨0,Ar _,fun _ _ h=>absurd h (Dr _)⟩ ?_) ?_))))
 .exact⟨Z4,Z1,Fh,Tv⟩
 intro⟨i,i1,i2⟩;refine Yi (fun h1=>?_) (fun h1=>?_)
 .have h1:(i:Int)<((l.map Ag).length:Int):=h1;have n1:=FL h1;refine yN (Xi (Ag l[i]) (Yi (GR n1) (Yi rfl (yN (Yi (fun h2=>?_) (fun h2=>?_))))))
  .refine Yi sT ?_;exact .of_eq (show vi i=vi (gA l s) by unfold gA;rw[Ip n1 (fun j hj Gn=>Ae (i2 j hj Gn)) (Ah (aB h2)),Gr])
  have h2:¬((s.path:ByteArray)=l[i].path/\(s.ver.a:Int)=l[i].ver.a/\(s.ver.b:Int)=l[i].ver.b/\(s.ver.c:Int)=l[i].ver.c/\True):=h2;refine Yi sT (Yi (Ii i sP) ?_);refine Xi ⟨i+1,n1,fun j hj Gn=>if e:j<i then i2 j hj e else by
    have e:j=i:=by omega
    subst e;exact ly h2⟩ ?_
  exact⟨Dl l.length i sP,Z4,Z1,Fh,Tv⟩
 have h1:¬((i:Int)<((l.map Ag).length:Int)):=h1;have n1:=DC h1;exact .of_eq (show vi (-1)=vi (gA l s) by unfold gA;rw[FJ (p:=fun y=>decide (s=y)) fun j hj=>Ae (i2 j hj (by have q:=h1;rw[Lm]at q;omega))])
theorem iU(s:Sl)(hl:CC l):PC 30 [sl Ag l,.agg (Ag s)] (vb (decide (s∈l))):=by
 refine Ps (pC [3] []) Tryz.func30 rfl (Nz rfl) (yN (Xi .pure (Xi _ (Yi (rX l s hl) (Yi (fun h1=>?_) (fun h1=>?_))))))
 .exact .of_eq (show vb true=vb (decide (s∈l)) by rw[Ah ((Vk l s).1 h1)])
 exact .of_eq (show vb false=vb (decide (s∈l)) by rw[Ae (fun h=>h1 ((Vk l s).2 h))])
theorem mG(r:Rl)(hr:KF r):PC 84 [.agg (Bb r)] (vi (CG r)):=by
 have h1:=bZ r.path hr.1;have h2:=c168 r.ver;have h3:=qK bZ fG r.reqs hr.2;have h4:=fe r.arch;have h5:=fe r.ifc;have h6:=fe r.cert;obtain⟨N,hN⟩:∃N,N=CG r:=⟨_,rfl⟩;rw[<-hN];refine Ps Dj Tryz.func84 rfl (Nz rfl) (Xi .pure (Xi _ (Yi (h1) (Yi (fun h=>?_) (fun h=>?_)))))
 .exact .of_eq (Aa vi (show(4:Int)=N by
   have e:=(Lb r.path).1 h;rw[hN];unfold CG;cases hp:AU r.path with
   |none=>rfl
   |some m=>rw[hp]at e;cases e))
 refine BF (show ∃m,AU r.path=some m by
  cases hp:AU r.path with
  |none=>exact absurd ((Lb r.path).2 (by rw[hp];rfl)) h
  |some m=>exact⟨m,rfl⟩) (fun m hp=>?_)
 have em:Uz r.path=m:=by unfold Uz;rw[hp]
 have hN:N=if !Cy r.ver||!decide (r.ver.a=m)then 2 else if B8 r.reqs≠0 then B8 r.reqs else if CU r.arch&&CU r.ifc&&CU r.cert then 0 else 1:=by
  rw[hN];unfold CG;rw[hp]
 refine yN (Bn (Bt (Cy r.ver)).symm (fun e=>?_) (fun e=>?_))
 .rw[e]at h2;refine Xi .pure (Xi _ (Yi (h2) ?_));exact .of_eq (Aa vi (show(2:Int)=N by rw[hN,e];rfl))
 rw[e]at h2;refine Xi .pure (Xi _ (Yi (h2) (Yi (fun h7=>?_) (fun h7=>?_))))
 .exact .of_eq (Aa vi (show(2:Int)=N by rw[hN,e,Ae (by rw[<-em];exact h7)];rfl))
 have hN:N=if B8 r.reqs≠0 then B8 r.reqs else if CU r.arch&&CU r.ifc&&CU r.cert then 0 else 1:=by
  rw[hN,e,Ah (by rw[<-em];exact BP.1 h7)];rfl
 refine Xi .pure (Xi _ (Yi (h3) (Yi (fun h8=>?_) (fun h8=>?_))))
 .exact .of_eq (Aa vi (show B8 r.reqs=N by rw[hN,Av h8]))
 have hN:N=if CU r.arch&&CU r.ifc&&CU r.cert then 0 else 1:=by rw[hN,Aj h8]
 refine Bn (Bt (CU r.arch)).symm (fun e1=>?_) (fun e1=>?_)
 .rw[e1]at h4;refine Xi .pure (Xi _ (Yi (h4) ?_));exact .of_eq (Aa vi (show(1:Int)=N by rw[hN,e1];rfl))
 rw[e1]at h4;refine Xi .pure (Xi _ (Yi (h4) (Bn (Bt (CU r.ifc)).symm (fun e2=>?_) (fun e2=>?_))))
 .rw[e2]at h5;refine Xi .pure (Xi _ (Yi (h5) ?_));exact .of_eq (Aa vi (show(1:Int)=N by rw[hN,e1,e2];rfl))
 rw[e2]at h5;refine Xi .pure (Xi _ (Yi (h5) (Bn (Bt (CU r.cert)).symm (fun e3=>?_) (fun e3=>?_))))
 .rw[e3]at h6;refine Xi .pure (Xi _ (Yi (h6) ?_));exact .of_eq (Aa vi (show(1:Int)=N by rw[hN,e1,e2,e3];rfl))
 rw[e3]at h6;refine Xi .pure (Xi _ (Yi (h6) ?_));exact .of_eq (Aa vi (show(0:Int)=N by rw[hN,e1,e2,e3];rfl))
theorem Se{a b:Rl}(h:Ej a=Ej b):GK a b=0:=by
 obtain⟨h1,h2,h3,h4⟩:=PX h;unfold GK II GL cmpI;rw[h1,h2,h3,h4,Dw];simp
theorem nh(x:List Rl)(ifs:List (List AV))(hs:∀r∈x,KF r):PC 44 [WG x ifs] (vi (BA x)):=by
 refine Ps (F0 []) Tryz.func44 rfl (Nz rfl) (BF (show ∃N,N=BA x from⟨_,rfl⟩) (fun N hN=>?_));refine Yi (fun h=>?_) (fun h=>?_)
 .exact .of_eq (Aa vi (show(7:Int)=BA x by unfold BA;rw[Av (by rw[Lm]at h;omega)]))
 have hl:x.length<=256:=by rw[Lm]at h;omega
 have LO:BA x=Cf none x:=by unfold BA;rw[Aj sP]
 refine Xi {i:Nat // i<=x.length/\Cf none x=Cf (QS x i) (x.drop i)} (Xi (fun i=>⟨[(3,sl Bb x),(4,vi i.1)],[],Ao⟩) (Xi (fun i=>x.length-i.1) (Yi (Xi ⟨0,Ar _,rfl⟩ ?_) ?_)))
 .exact⟨Z2,Tv,Fh,Tv⟩
 intro⟨i,h1,h2⟩;refine Yi (fun h=>?_) (fun h=>?_)
 .skip
  have h:i<x.length:=by simpa using h
  have hg:x[i]?=some x[i]:=Ge h;have hd:x.drop i=x[i]::x.drop (i+1):=AG h;have hc:=mG x[i] (hs x[i] (Af h));have FD:Cf none x=if CG x[i]≠0 then CG x[i]else match QS x i with
   |none=>Cf (some x[i]) (x.drop (i+1))
   |some b=>if Ej b=Ej x[i]then 5 else if 0<GK b x[i]then 1 else Cf (some x[i]) (x.drop (i+1)):=by rw[h2,hd];rfl
  have SC:QS x (i+1)=some x[i]:=Ge h;refine Xi (Bb x[i]) (Yi (Yi (Nn i) (by simp[hg])) (Yi rfl ?_));refine yN (Xi .pure (Xi _ (Yi (hc) (Yi (fun h3=>?_) (fun h3=>?_)))))
  .exact .of_eq (Aa vi (show CG x[i]=BA x by rw[LO,FD,Av h3]))
  rw[Aj h3]at FD;refine Yi (fun h4=>?_) (fun h4=>?_)
  .have h4:(0:Int)<i:=h4;have hk:i-1<x.length:=by omega
   have PR:x[i-1]?=some x[i-1]:=Ge hk;have hn:((i:Int)-1).toNat=i-1:=by omega
   have hb:QS x i=some x[i-1]:=by
    cases i with
    |zero=>omega
    |succ k=>exact PR
   rw[hb]at FD;have FD:Cf none x=if Ej x[i-1]=Ej x[i]then 5 else if 0<GK x[i-1] x[i]then 1 else Cf (some x[i]) (x.drop (i+1)):=FD
   have j0:=mH x[i-1] x[i];have MP:(0:Int)<=(i:Int)-1/\(x.map Bb)[((i:Int)-1).toNat]?=some (Bb x[i-1]):=⟨by omega,by rw[hn];exact CQ PR⟩;refine Yi (show AE ((i:Int)-1) by unfold AE;omega) (Xi (Bb x[i-1]) (Yi MP (Yi rfl (yN (Xi (Bb x[i]) (Yi (Yi (Nn i) (by simp[hg])) (Yi rfl ?_)))))));refine yN (Xi _ (Yi (j0) (Yi (fun h5=>?_) (fun h5=>?_))))
   .have h5:GK x[i-1] x[i]=0:=h5;refine Yi sT ?_;exact .of_eq (Aa vi (show(5:Int)=BA x by rw[LO,FD,Av (PJ h5)]))
   have h5:¬GK x[i-1] x[i]=0:=h5;refine Yi sT (Yi (fun _=>?_) (fun h9=>absurd h4 h9));refine Yi (show AE ((i:Int)-1) by unfold AE;omega) (Xi (Bb x[i-1]) (Yi MP (Yi rfl (yN (Xi (Bb x[i]) (Yi (Yi (Nn i) (by simp[hg])) (Yi rfl ?_)))))));refine yN (Xi _ (Yi (j0) (Yi (fun h6=>?_) (fun h6=>?_))))
   .have h6:0<GK x[i-1] x[i]:=h6;refine Yi sT ?_;exact .of_eq (Aa vi (show(1:Int)=BA x by rw[LO,FD,Aj (fun e=>h5 (Se e)),Av h6]))
   have h6:¬0<GK x[i-1] x[i]:=h6;refine Yi sT (Yi (Ii i sP) (Xi ⟨i+1,by omega,by rw[FD,Aj (fun e=>h5 (Se e)),Aj h6,SC]⟩ ?_));exact⟨Dl x.length i sP,Z2,Tv,Fh,Tv⟩
  have h4:¬(0:Int)<i:=h4;have hb:QS x i=none:=by
   rw[show i=0 by omega]
  rw[hb]at FD;have FD:Cf none x=Cf (some x[i]) (x.drop (i+1)):=FD;refine Yi sT (Yi (fun h9=>absurd h9 h4) (fun _=>?_));refine Yi sT (Yi (Ii i sP) (Xi ⟨i+1,by omega,by rw[FD,SC]⟩ ?_));exact⟨Dl x.length i sP,Z2,Tv,Fh,Tv⟩
 .skip
  have h:¬(i:Int)<(x.map Bb).length:=h;have h:¬i<x.length:=by simpa using h
  have e:(0:Int)=BA x:=by rw[LO,h2,Df sP];rfl
  exact .of_eq (Aa vi e)
abbrev kept(p:α->Bool)(l:List α):List α:=l.filter fun x=>!p x
theorem Hi(p:α->Bool)(l:List α):(kept p l).length<=l.length:=DP _ _
theorem LV{p:α->Bool}{l:List α}(h:j<l.length):kept p (l.take (j+1))=kept p (l.take j)++(if p l[j]=true then []else [l[j]]):=by
 unfold kept;rw[A2,Fw,Ge h];cases e:p l[j]<;>simp[e]
theorem LW{p:α->Bool}{l:List α}(h:∀j (hj:j<l.length),p l[j]=false):kept p l=l:=by
 rw[List.filter_eq_self];intro x hx;obtain⟨j,hj,rfl⟩:=A9.1 hx;rw[h j hj];rfl
theorem Oc{p:α->Bool}{l:List α}{i:Nat}(hi:i<l.length)(h:∀j (hj:j<l.length),j<i->p l[j]=false)(hp:p l[i]=true):kept p (l.take (i+1))=l.take i:=by
 rw[LV hi,Av hp,BR,LW];intro j hj;rw[FY];rw[Al]at hj;exact h j sP sP
theorem Ut(p:α->Bool)(l:List α):(Hw p l 0=-1/\∀j (hj:j<l.length),p l[j]=false)\/∃i,∃hi:i<l.length,Hw p l 0=(i:Int)/\p l[i]=true/\∀j (hj:j<l.length),j<i->p l[j]=false:=by
 by_cases h:∃i,∃hi:i<l.length,p l[i]=true
 .obtain⟨i,hm⟩:=d5 h;obtain⟨⟨hi,hp⟩,hl⟩:=hm;have hl:∀j (hj:j<l.length),j<i->p l[j]=false:=fun j hj Gn=>by
   cases e:p l[j]with
   |false=>rfl
   |true=>exact absurd ⟨hj,e⟩ (hl j Gn)
  exact .inr ⟨i,hi,by rw[Ip hi (fun j hj Gn=>hl j hj Gn) hp,Gr],hp,hl⟩
 .have hl:∀j (hj:j<l.length),p l[j]=false:=fun j hj=>by
   cases e:p l[j]with
   |false=>rfl
   |true=>exact absurd ⟨j,hj,e⟩ h
  exact .inl ⟨by rw[FJ fun j hj=>hl j hj],hl⟩
theorem aA{a b:Sl}:(a.path=b.path/\a.ver.a=b.ver.a/\a.ver.b=b.ver.b/\a.ver.c=b.ver.c/\True)↔a=b:=⟨aB,fun e=>by subst e;exact⟨rfl,rfl,rfl,rfl,trivial⟩⟩
theorem qn(ifs:List (List AV))(hl:CC ifs)(hs:∀c∈ifs,c.length=5):PC 48 [.slice .none ifs] (.slice .none ifs):=by
 refine Ps Dj Tryz.func48 rfl (Nz rfl) ?_;have Hd:Cn 5 ifs/\([]:List (List AV)).length=0/\(([]:List (List AV)).length+ifs.length)*112<=140737488355328/\([]:List (List AV)).length+ifs.length<=9223372036854775807:=by
  refine⟨HJ hs,rfl,?_,?_⟩<;>simp only[Aw]<;>unfold CC at hl<;>omega
 refine Yi ?_ ?_
 .intro _;exact Yi Hd (.refl _)
 .intro h;refine Yi ?_ ?_
  .show D7 nzA (.slice .none ifs);rw[h];exact .nil
  .exact Yi Hd (.refl _)
end Go.Eng
