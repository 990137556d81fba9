/- Lemmas 21. -/
import Derived.Test.YtjhkbdgingfbaaaGreatDoorGA20
import Derived.Lib.IndexMore
import Derived.Lib.IndexBytes
import Derived.Lib.AppendStr
import Derived.Lib.Builder
import Derived.Lib.UnsafeStr
import Derived.RegionTactic
set_option maxHeartbeats 4000000
namespace Go.Eng
open Go.Proofs
variable {z:UInt8}{l:List Cp}{i:Nat}(c:Cp)
structure Lk where
 path:ByteArray
 ver:Ver
 arch:ByteArray
 ifc:ByteArray
 deriving DecidableEq
abbrev CZ(k:Lk):List AV:=[vs k.path,vi k.ver.a,vi k.ver.b,vi k.ver.c,vs k.arch,vs k.ifc]
abbrev EG:Lk:=⟨c.path,c.ver,Bu c.bytes,⟨#[]⟩⟩
abbrev TZ:ByteArray:=⟨#[32]⟩
abbrev IH:ByteArray:=⟨#[10]⟩
abbrev aP:List ByteArray:=[c.path,Gm c.ver.a c.ver.b c.ver.c,GZ (Bu c.bytes)]
def MT:ByteArray:=Et TZ (aP c)
def EB:List Cp->ByteArray
 | []=>⟨#[]⟩
 |c::l=>(MT c++IH)++EB l
theorem Vx{p:ByteArray}(h:(AU p).isSome=true)(hz:z=32\/z=10):z∉p.data.toList:=by
 unfold AU Kr at h;split at h
 .cases h
 .split at h
  .cases h
  .rename_i h1;split at h
   .rename_i h2;intro hc;rcases Ix 47 _ _ hc with e | ⟨g,g1,g2⟩
    .rcases hz with hz | hz<;>subst hz<;>exact absurd e sR
    .have:=AJ.1 h2 g g1
     unfold Fa at this;rw[Ak]at this
     have:=AJ.1 this.2 z g2
     rcases hz with hz | hz<;>subst hz<;>revert this<;>decide
   .cases h
theorem U2:∀n,n<16->48<=(Bl LK n).toNat:=by decide +kernel
theorem Vg{D:List UInt8}(hz:z.toNat<48):z∉Fz D:=fun hm=>by
 obtain⟨c,_,hc⟩:=List.mem_flatMap.1 hm;have hl:=c.toNat_lt;rcases AS.1 hc with e | e
 .have:=U2 (c.toNat / 16) sP
  rw[e]at hz;have hz:(Bl LK (c.toNat / 16)).toNat<48:=hz;omega
 .have:=U2 (c.toNat % 16) sP
  rw[Bh.1 e]at hz;have hz:(Bl LK (c.toNat % 16)).toNat<48:=hz;omega
theorem LB{s:Sl}(h:DT s=false):(AU s.path).isSome=true/\Cy s.ver=true:=by
 unfold DT at h;split at h
 .cases h
 .rename_i m e;rw[Bool.or_eq_false_iff,Bool.not_eq_false']at h;exact⟨by rw[e];rfl,h.1⟩
theorem Of:(MT c).data.toList=c.path.data.toList++32::((Gm c.ver.a c.ver.b c.ver.c).data.toList++32::Fz (Bu c.bytes).data.toList):=by
 unfold MT;rw[Iq,LU];simp only[PF,GZ];rfl
theorem WL{c:Cp}(h:DT (A6 c)=false):BC 32 (MT c).data.toList=(aP c).map (·.data.toList):=by
 obtain⟨h1,h2⟩:=LB h;rw[Of,OM (Vx h1 (.inl rfl)),OM (VI h2 sR),UL (Vg sR)];simp[GZ]
theorem gI{c:Cp}(h:DT (A6 c)=false):(10:UInt8)∉(MT c).data.toList:=by
 obtain⟨h1,h2⟩:=LB h;rw[Of];intro hm;rcases By.1 hm with hm | hm
 .exact Vx h1 (.inr rfl) hm
 .rcases AS.1 hm with hm | hm
  .exact absurd hm sR
  .rcases By.1 hm with hm | hm
   .exact VI h2 sR hm
   .rcases AS.1 hm with hm | hm
    .exact absurd hm sR
    .exact Vg sR hm
theorem Og{c:Cp}(h:DT (A6 c)=false):(MT c).size<=c.path.size+131:=by
 have q:=Ft (v:=c.ver) (LB h).2;have h1:=Mg (a:=c.ver.a) (b:=c.ver.b) (c:=c.ver.c) sP sP sP;have e:(MT c).size=(MT c).data.toList.length:=rfl;rw[e,Of];simp only[Ac,Am,NX];have e1:c.path.data.toList.length=c.path.size:=rfl;have e2:(Gm c.ver.a c.ver.b c.ver.c).data.toList.length=(Gm c.ver.a c.ver.b c.ver.c).size:=rfl;have e3:(Bu c.bytes).data.toList.length=32:=L9 _;omega
theorem Lf:∀{l:List Cp},(∀c∈l,DT (A6 c)=false/\c.path.size<=100)->(EB l).size<=232*l.length
 | [],_=>Ad _
 |c::l,h=>by
  have h1:=Og (h c (Ab ..)).1;have h2:=(h c (Ab ..)).2;have h3:=Lf (l:=l) fun d hd=>h d (Ai _ hd);show((MT c++IH)++EB l).size<=_;rw[AR,AR,Am];have e:IH.size=1:=rfl;omega
theorem bN{b:List UInt8}{a:List UInt8}(h:z∉a):Go.Lib.cut (a++z::b) [z]=(a,b,true):=by
 have hi:Go.Lib.index (a++z::b) [z]=(a.length:Int):=by
  rw[Go.Lib.index_one]
  induction a with
  |nil=>show Go.Lib.indexByte (z::b) z=0;rw[Go.Lib.indexByte];simp
  |cons x a ih=>
   have hx:(x == z)=false:=by rw[GJ];exact fun e=>h (by rw[e];exact Ab ..)
   show Go.Lib.indexByte (x::(a++z::b)) z=_;rw[Go.Lib.indexByte,hx,ih fun hm=>h (Ai _ hm)];have e:((a.length:Int) == -1)=false:=by rw[GJ];omega
   simp only[Cg,FK,e];rw[Am];omega
 unfold Go.Lib.cut;rw[hi,Av sP,A1,DF,List.drop_append]
 .simp
 .rfl
theorem eW{c:Cp}(hc:DT (A6 c)=false)(r:List Cp)(hs:(EB (c::r)).size<4294967281):PC 65 [vs (EB (c::r)),vs IH] (.tup [vs (MT c),vs (EB r),vb true]):=by
 have q:=jh (EB (c::r)) IH hs;have e:(EB (c::r)).data.toList=(MT c).data.toList++10::(EB r).data.toList:=by
  show((MT c++IH)++EB r).data.toList=_;simp only[PF,B2];rfl
 have e2:Go.Lib.cut (EB (c::r)).data.toList IH.data.toList=((MT c).data.toList,(EB r).data.toList,true):=by
  rw[e];exact bN (gI hc)
 rw[e2]at q;exact q
theorem X0(ps:List ByteArray)(rH:((ps.map encStr).length:Int)=(3:Int))(h0:ps[0]?=some c.path)(h1:ps[1]?=some (Gm c.ver.a c.ver.b c.ver.c))(h2:ps[2]?=some (GZ (Bu c.bytes)))(Zf:PC 104 [vs (MT c),vs TZ] (sl encStr ps))(hv:Cy c.ver=true):PC 66 [vs (MT c)] (.tup [.agg (CZ (EG c)),vb true]):=by
 refine Ps Dj Tryz.func66 rfl (Nz rfl) (Xi .pure (Xi _ (Yi Zf (Yi (fun hf=>absurd rH hf) (fun _=>?_)))));refine Xi (encStr (Gm c.ver.a c.ver.b c.ver.c)) (Yi (Yi sR (CQ h1)) (Yi rfl (Xi .pure (Xi _ (Yi (Yj c.ver hv) (yN (Xi (encStr (GZ (Bu c.bytes))) (Yi (Yi sR (CQ h2)) (Yi rfl (Xi .pure (Xi _ (Yi (Ya (Bu c.bytes) (L9 _)) (Xi (encStr c.path) (Yi (Yi sR (CQ h0)) (Yi rfl (yN (Yi (fun _=>?_) (fun h=>absurd sR h))))))))))))))))));refine Yi (fun _=>?_) (fun h=>absurd sR h);refine yN (Yi sT (yN ?_));exact .refl _
theorem bz(hc:DT (A6 c)=false)(hp:c.path.size<=1000000):PC 66 [vs (MT c)] (.tup [.agg (CZ (EG c)),vb true]):=
 X0 c (aP c) rfl rfl rfl rfl (UX (MT c) 32 (aP c) (by unfold CT;have:=Og hc;omega) (WL hc)) (LB hc).2
theorem ZE(h:EB (l.drop i)=⟨#[]⟩):l.length<=i:=by
 rcases Be i l.length with hi | hi
 .rw[AG hi]at h;have h:((MT l[i]++IH)++EB (l.drop (i+1)))=⟨#[]⟩:=h;have q:=Aa ByteArray.size h;rw[AR,AR]at q;have e:IH.size=1:=rfl;have e2:(⟨#[]⟩:ByteArray).size=0:=rfl;omega
 .exact hi
theorem ZF(h:¬EB (l.drop i)=⟨#[]⟩):i<l.length:=by
 rcases Be i l.length with hi | hi
 .exact hi
 .rw[Fv hi]at h;exact absurd rfl h
theorem Tb(l:List Cp):∀i,(EB (l.drop i)).size<=(EB l).size
 |0=>Ad _
 |i+1=>by
  refine AP ?_ (Tb l i);rcases Be i l.length with hi | hi
  .rw[AG hi];show _<=((MT l[i]++IH)++EB (l.drop (i+1))).size;rw[AR];omega
  .rw[Fv sP,Fv hi];exact Ad _
theorem T1(l:List Cp)(hl:l.length<=1000)(JL:∀c∈l,DT (A6 c)=false/\c.path.size<=1000000)(hr:Eh (l.map A6)=true)(hs:(EB l).size<=65536):PC 26 [vs (EB l)] (.tup [sl CZ (l.map EG),vi 0]):=by
 refine Ps (pT [] [(4,6),(5,4)] [13]) Tryz.func26 rfl (Nz rfl) (Yi (fun h1=>?_) (fun h1=>?_))
 .have h1:(65536:Int)<((EB l).size:Int):=h1;exact absurd h1 sP
 have h1:¬((65536:Int)<((EB l).size:Int)):=h1;refine Xi {q:Nat // q<=l.length} (Xi (fun q=>⟨[(0,vs (EB (l.drop q.1))),(4,.slice (.id 4 6) (((l.take q.1).map EG).map CZ)),(5,.slice (.id 5 4) (((l.take q.1).map A6).map Ag))],[(4,.tok 6 (((l.take q.1).map EG).map CZ).length),(5,.tok 4 (((l.take q.1).map A6).map Ag).length)],Ao⟩) (Xi (fun q=>l.length-q.1) (Yi (Xi ⟨0,Ar _⟩ ?_) ?_)))
 .exact⟨Z3,Z2,Fh,Tv⟩
 intro⟨i,i1⟩;have i1:i<=l.length:=i1;have dT:=ZB EG CZ l i;have Y6:=ZB A6 Ag l i;refine Yi (fun h3=>?_) (fun h3=>?_)
 .have h3:((EB (l.drop i)):ByteArray)≠⟨#[]⟩:=h3;have hi:i<l.length:=ZF h3;refine Xi .pure (Xi _ (Yi (show PC 65 [vs (EB (l.drop i)),vs IH] (.tup [vs (MT l[i]),vs (EB (l.drop (i+1))),vb true])from by rw[AG hi];exact eW (JL _ (Af hi)).1 _ (by rw[<-AG hi];have:=Tb l i;omega)) ?_));refine Xi .pure (Xi _ (Yi (bz l[i] (JL _ (Af hi)).1 (JL _ (Af hi)).2) (yN (Yi (fun h4=>?_) (fun h4=>?_)))))
  .have h4:((((l.take i).map EG).map CZ).length:Int)=(1024:Int):=h4;exact absurd h4 sP
  have h4:¬(((((l.take i).map EG).map CZ).length:Int)=(1024:Int)):=h4;refine yN ?_;have b5:Cn 6 [(CZ (EG l[i]))]/\(((l.take i).map EG).map CZ).length=(((l.take i).map EG).map CZ).length/\((((l.take i).map EG).map CZ).length+([(CZ (EG l[i]))]:List (List AV)).length)*72<=140737488355328/\(((l.take i).map EG).map CZ).length+([(CZ (EG l[i]))]:List (List AV)).length<=9223372036854775807:=⟨⟨rfl,trivial⟩,rfl,(by simp only[Lm,Am,Aw,Al];omega),(by simp only[Lm,Am,Aw,Al];omega)⟩;refine Yi b5 (yN ?_);have b6:Cn 4 [[vs (EG l[i]).path,vi (EG l[i]).ver.a,vi (EG l[i]).ver.b,vi (EG l[i]).ver.c]]/\(((l.take i).map A6).map Ag).length=(((l.take i).map A6).map Ag).length/\((((l.take i).map A6).map Ag).length+([[vs (EG l[i]).path,vi (EG l[i]).ver.a,vi (EG l[i]).ver.b,vi (EG l[i]).ver.c]]:List (List AV)).length)*40<=140737488355328/\(((l.take i).map A6).map Ag).length+([[vs (EG l[i]).path,vi (EG l[i]).ver.a,vi (EG l[i]).ver.b,vi (EG l[i]).ver.c]]:List (List AV)).length<=9223372036854775807:=⟨⟨rfl,trivial⟩,rfl,(by simp only[Lm,Am,Aw,Al];omega),(by simp only[Lm,Am,Aw,Al];omega)⟩;refine Yi b6 ?_;have e4:=ZC EG CZ hi;have e5:=ZC A6 Ag hi;refine Xi ⟨i+1,hi⟩ ?_;exact⟨Dl l.length i sP,⟨Zr,⟨(Aa (AV.slice (.id 4 6)) e4),rfl⟩,⟨(Aa (AV.slice (.id 5 4)) e5),rfl⟩,Tv⟩,⟨⟨(show HO.tok 6 ((((l.take i).map EG).map CZ).length+([(CZ (EG l[i]))]:List (List AV)).length)=.tok 6 (((l.take (i+1)).map EG).map CZ).length from Aa (HO.tok 6) (Ac.symm.trans (Aa List.length e4))),rfl⟩,⟨(show HO.tok 4 ((((l.take i).map A6).map Ag).length+([[vs (EG l[i]).path,vi (EG l[i]).ver.a,vi (EG l[i]).ver.b,vi (EG l[i]).ver.c]]:List (List AV)).length)=.tok 4 (((l.take (i+1)).map A6).map Ag).length from Aa (HO.tok 4) (Ac.symm.trans (Aa List.length e5))),rfl⟩,Tv⟩,Fh,Tv⟩
 have h3:((EB (l.drop i)):ByteArray)=⟨#[]⟩:=Ax h3;have et:l.take i=l:=As (ZE h3);refine cU [(4,.slice (.id 4 6) ((l.map EG).map CZ)),(5,.slice (.id 5 4) ((l.map A6).map Ag))] [(4,.tok 6 ((l.map EG).map CZ).length),(5,.tok 4 ((l.map A6).map Ag).length)] ⟨⟨(Aa (fun z:List Cp=>AV.slice (.id 4 6) ((z.map EG).map CZ)) et),rfl⟩,⟨(Aa (fun z:List Cp=>AV.slice (.id 5 4) ((z.map A6).map Ag)) et),rfl⟩,Tv⟩ ⟨⟨(Aa (fun z:List Cp=>HO.tok 6 ((z.map EG).map CZ).length) et),rfl⟩,⟨(Aa (fun z:List Cp=>HO.tok 4 ((z.map A6).map Ag).length) et),rfl⟩,Tv⟩ (Xi .pure (Xi _ (Yi (cb hr (QR (l.map A6) (I0 (by unfold CC;omega)) (fun s q=>by obtain⟨c,q1,rfl⟩:=AA.1 q;have:=(JL c q1).2;unfold CT;show c.path.size<=_;omega))) ?_)));exact .refl _
end Go.Eng
namespace Go.Eng
/-! The three comparisons. -/
abbrev RM(a b:Sl):Prop:=FC a.path b.path=true
/-! Pins. -/
/-! What the reference makes of a list. -/
theorem GU{α:Type}{l:List α}{i:Nat}(h:i<l.length):l.take (i+1)=l.take i++[l[i]]:=List.take_succ_eq_append_getElem h
end Go.Eng
namespace Go.Eng
open Go.Proofs
variable {Cs:List AV}{fF:Nat}{s:Sl}(m:List Cp)(c:Cp)
abbrev RI:Value×AV:=(Fp (A6 c),vs (Bu c.bytes))
theorem PW{a b:Sl}(h:Fp a=Fp b):a=b:=by
 simp only[Fp,Value.agg.injEq,Array.mk.injEq,Ea,Value.string.injEq,Value.int.injEq,true_and,and_true]at h;exact aB ⟨h.1,h.2.1,h.2.2.1,h.2.2.2,trivial⟩
theorem fB{m:List Cp}(h:(m.map A6).Pairwise RM){i:Nat}(hi:i<m.length):FN ((m.take i).map RI) (Fp (A6 m[i])) (vs (Bu m[i].bytes))=(m.take (i+1)).map RI:=by
 rw[P0]
 .rw[A2,Ge hi,Option.toList_some,AK];rfl
 .intro b hb;obtain⟨t,ht,e⟩:=AA.1 hb;obtain⟨j,hj,rfl⟩:=A9.1 ht;rw[FY]at e;rw[Al]at hj;have q:=(A5.1 h) j i (by rw[Lm];omega) (by rw[Lm];exact hi) sP;rw[BD,BD]at q;have e2:m[j].path=m[i].path:=by
   have e1:=Aa Prod.fst e;exact Aa Sl.path (PW e1)
  have q:FC m[j].path m[i].path=true:=q;rw[e2,Dw]at q;cases q
def XG(s:Sl):ByteArray:=match m.find? (fun c=>decide (A6 c=s))with
 |some c=>Bu c.bytes
 |none=>⟨#[]⟩
theorem KV{m:List Cp}{a:AV}(hp:(m.map A6).Pairwise RM)(h:(Fp s,a)∈m.map RI):a=vs (XG m s):=by
 obtain⟨c,hc,e⟩:=AA.1 h;have e1:A6 c=s:=PW (Aa Prod.fst e);have e2:vs (Bu c.bytes)=a:=Aa Prod.snd e;unfold XG;cases hf:m.find? (fun c=>decide (A6 c=s))with
 |none=>exact absurd e1 (FA (by simpa using List.find?_eq_none.1 hf c hc))
 |some d=>
  have h1:A6 d=s:=AZ (Pt (p:=fun c=>decide (A6 c=s)) hf);have hd:=GA hf;obtain⟨i,hi,rfl⟩:=A9.1 hc;obtain⟨j,hj,rfl⟩:=A9.1 hd;have TN:i=j:=by
   rcases EK i j with h | h | h
   .have q:=(A5.1 hp) i j (by rw[Lm];exact hi) (by rw[Lm];exact hj) h;rw[BD,BD,e1,h1,RM,Dw]at q;cases q
   .exact h
   .have q:=(A5.1 hp) j i (by rw[Lm];exact hj) (by rw[Lm];exact hi) h;rw[BD,BD,e1,h1,RM,Dw]at q;cases q
  subst TN;exact e2.symm
theorem YI{m:List Cp}(h:∀a,(Fp s,a)∉m.map RI):XG m s=⟨#[]⟩:=by
 unfold XG;cases hf:m.find? (fun c=>decide (A6 c=s))with
 |none=>rfl
 |some d=>
  have h1:A6 d=s:=AZ (Pt (p:=fun c=>decide (A6 c=s)) hf);exact absurd (AA.2 ⟨d,GA hf,by rw[<-h1]⟩) (h (vs (Bu d.bytes)))
abbrev RF:Bool:=!decide (XG m (A6 c)=Bu c.bytes)
def Lx(l m:List Cp):Int:=
 if CD l≠0 then CD l else if m.any (fun c=>!decide (A6 c∈l.map A6))=true then 6 else if m.length<l.length then 5 else if l.any (RF m)=true then 9 else 0
theorem jp(hp:(m.map A6).Pairwise RM)(hb:c.bytes.size<=100000000):PC 63 [.agg (Aq c),.cptr [.cmap OI (m.map RI)]] (vb (RF m c)):=by
 refine Ps Dj Tryz.func63 rfl (Nz rfl) (yN (Xi _ (Yi (Yg c) (Bn (Classical.em (∃a,(Fp (A6 c),a)∈(m.map RI))) (fun h1=>?_) (fun h1=>?_)))))
 .refine BF h1 (fun a ha=>?_);have ea:=KV hp ha;subst ea;refine Or.inl (Xi (vs (XG m (A6 c))) (Yi (Yi ha (fun b hb=>KV hp hb)) ?_));refine Xi _ (Yi (IU c.bytes hb) (Yi (fun h3=>?_) (fun h3=>?_)))
  .have h3:((XG m (A6 c)):ByteArray)≠(Bu c.bytes):=h3;refine Yi sT ?_;exact D7.of_eq (show vb true=vb (RF m c) by rw[RF,Ae h3];rfl)
  have h3:((XG m (A6 c)):ByteArray)=(Bu c.bytes):=Ax h3;refine Yi sT ?_;exact D7.of_eq (show vb false=vb (RF m c) by rw[RF,Ah h3];rfl)
 have MR:∀a,(Fp (A6 c),a)∉(m.map RI):=fun a ha=>h1 ⟨a,ha⟩;have eg:=YI MR;refine Or.inr (Yi MR ?_);refine Xi _ (Yi (IU c.bytes hb) (Yi (fun h7=>?_) (fun h7=>?_)))
 .have h7:(⟨#[]⟩:ByteArray)≠(Bu c.bytes):=h7;refine Yi sT ?_;exact D7.of_eq (show vb true=vb (RF m c) by rw[RF,eg,Ae h7];rfl)
 have h7:(⟨#[]⟩:ByteArray)=(Bu c.bytes):=Ax h7;refine Yi sT ?_;exact D7.of_eq (show vb false=vb (RF m c) by rw[RF,eg,Ah h7];rfl)
theorem po(hs:DY Cs)(l:List (Cp))(p:Cp->Bool)(hF:∀x∈l,PC fF ([.agg (Aq x)]++Cs) (vb (p x)))(hl:l.length<9223372036854775807) :
  PC 102 [sl Aq l,.clo fF Cs] (vi (Hw p l 0)):=by
 refine Ps Dj Tryz.func102 rfl (Nz rfl) (Xi {i:Nat // i<=l.length/\∀j (hj:j<l.length),j<i->p l[j]=false} (Xi (fun i=>⟨[(0,sl Aq l),(1,.clo fF Cs),(7,vi (l.map Aq).length),(8,vi i.1)],[],Ao⟩) (Xi (fun i=>l.length-i.1) (Yi (Xi ⟨0,by simp⟩ ?_) ?_))))
 .exact⟨⟨Zr,⟨rfl,hs.ids _⟩,Zr,Zr,Tv⟩,Tv,Fh,Tv⟩
 .intro⟨i,h1,h2⟩;refine Yi ?_ ?_
  .intro h;have h:(i:Int)<(l.map Aq).length:=h;have h:i<l.length:=by simpa using h
   have hg:l[i]?=some l[i]:=Ge h;refine Xi (Aq l[i]) (Yi (Yi (Nn i) (by simp[hg])) (Yi rfl (yN ?_)));have Du:∀h,PC fF ([.agg (Aq l[i])]++Cs.map (str0 h)) (vb (p l[i])):=fun h=>by rw[hs.map];exact hF l[i] (Af _)
   cases hp:p l[i]with
   |true=>
    rw[hp]at Du;refine Xi .pure (Xi (vb true) (Yi (Du _) ?_));rw[Ip h (fun j hj Gn=>h2 j hj Gn) hp,Gr];exact .refl _
   |false=>
    rw[hp]at Du;refine Xi .pure (Xi (vb false) (Yi (Du _) (Yi (Ii i sP) (Xi ⟨i+1,by omega,fun j hj Gn=>?_⟩ ?_))))
    .by_cases e:j=i
     .subst e;exact hp
     .exact h2 j hj sP
    .exact⟨Dl l.length i sP,⟨Zr,⟨rfl,hs.ids _⟩,Zr,Zr,Tv⟩,Tv,Fh,Tv⟩
  .intro h;have h:¬(i:Int)<(l.map Aq).length:=h;have h:¬i<l.length:=by simpa using h
   rw[FJ fun j hj=>h2 j hj sP];exact .refl _
theorem qv(hs:DY Cs)(l:List (Cp))(p:Cp->Bool)(hF:∀x∈l,PC fF ([.agg (Aq x)]++Cs) (vb (p x)))(hl:CC l) :
  PC 62 [sl Aq l,.clo fF Cs] (vb (l.any p)):=by
 refine Ps Dj Tryz.func62 rfl (Nz rfl) ?_;have hi:=po hs l p hF (by unfold CC at hl;omega);have Du:∀h,PC 102 [sl Aq l,.clo fF (Cs.map (str0 h))] (vi (Hw p l 0)):=fun h=>by rw[hs.map];exact hi
 refine Xi .pure (Xi _ (Yi (Du _) ?_));have ha:=Jt (p:=p) l 0 (CR 0);refine Yi ?_ ?_
 .intro h;have h:(0:Int)<=Hw p l 0:=h;rw[<-ha,Ah h];exact .refl _
 .intro h;have h:¬(0:Int)<=Hw p l 0:=h;rw[<-ha,Ae h];exact .refl _
theorem LA(l m:List Cp)(s:ByteArray)(hl:CC l)(ry:CC m)(hp:∀c∈l,CT c.path)(hb:∀c∈l,c.bytes.size<=100000000)(oD:(m.map A6).Pairwise RM)(hr:PC 26 [vs s] (.tup [sl CZ (m.map EG),vi 0])):PC 25 [sl Aq l,vs s] (vi (Lx l m)):=by
 have oo:m.length<=1073741824:=ry;refine Ps ⟨[],[],[],[(54,[28]),(55,[9])],[],[],[],[],[],[],[17]⟩ Tryz.func25 rfl (Nz rfl) (Xi .pure (Xi _ (Yi hr (Yi (fun h=>absurd h sR) (fun _=>?_)))));refine Xi .pure (Xi _ (Yi (GI l hl hp) (Yi (fun h1=>?_) (fun h1=>?_))))
 .have h1:((CD l):Int)≠(0:Int):=h1;exact D7.of_eq (show vi (CD l)=vi (Lx l m) by rw[Lx,Av h1])
 have h1:((CD l):Int)=(0:Int):=Ax h1;refine Xi .pure (Xi _ (Yi (QQ l hl) (yN (Xi {q:Nat // q<=m.length/\∀j (hj:j<m.length),j<q->A6 m[j]∈l.map A6} (Xi (fun q=>⟨[(0,sl Aq l),(8,sl Ag (l.map A6)),(9,.ref 9 0),(29,sl CZ (m.map EG)),(30,vi ((m.map EG).map CZ).length),(31,vi q.1)],[(9,.cells [.mref 28]),(28,.map OI ((m.take q.1).map RI))],Ao⟩) (Xi (fun q=>m.length-q.1) (Yi (Xi ⟨0,Ar _,fun _ _ h=>absurd h (Dr _)⟩ ?_) ?_)))))))
 .exact⟨Z6,Z2,Fh,Tv⟩
 intro⟨i,i1,i2⟩;have i1:i<=m.length:=i1;have i2:∀j (hj:j<m.length),j<i->A6 m[j]∈l.map A6:=i2;refine Yi (fun h3=>?_) (fun h3=>?_)
 .have h3:(i:Int)<(((m.map EG).map CZ).length:Int):=h3;have n3:=FL h3;have aZ:i<m.length:=by have q:=n3;rw[Lm]at q;exact q
  refine Xi (CZ (EG m[i])) (Yi (Yi (Nn i) (CQ (show(m.map EG)[i]?=some (EG m[i]) by rw[Ap,Ge aZ];rfl))) (Yi rfl ?_));refine yN (yN (yN (yN (yN (yN (Bn (Bt (decide (A6 m[i]∈l.map A6))) (fun h4=>?_) (fun h4=>?_)))))))
  .have h4:(decide (A6 m[i]∈l.map A6))=true:=h4;refine Xi .pure (Xi _ (Yi (cb h4 (iU (l.map A6) (A6 m[i]) (I0 hl))) (Yi (Ii i sP) (Xi ⟨i+1,aZ,fun j hj gg=>by rcases Be j i with g4 | g4;exact i2 j hj g4;have e:j=i:=sP;subst e;exact AZ h4⟩ ?_))));exact⟨Dl m.length i sP,Z6,⟨Zr,⟨(show HO.map OI (FN ((m.take i).map RI) (Fp (A6 m[i])) (vs (EG m[i]).arch))=.map OI ((m.take (i+1)).map RI)from Aa (HO.map OI) (fB oD aZ)),rfl⟩,Tv⟩,Fh,Tv⟩
  have h4:(decide (A6 m[i]∈l.map A6))=false:=h4;refine Xi .pure (Xi _ (Yi (cb h4 (iU (l.map A6) (A6 m[i]) (I0 hl))) ?_));exact D7.of_eq (show vi 6=vi (Lx l m) by rw[Lx,Aj (fun c=>c h1),Av (Br.2 ⟨m[i],Af _,by rw[h4];rfl⟩)])
 have h3:¬((i:Int)<(((m.map EG).map CZ).length:Int)):=h3;have n3:=DC h3;have ei:m.take i=m:=As (by have q:=DC h3;rw[Lm]at q;omega);have i3:∀j (hj:j<m.length),A6 m[j]∈l.map A6:=fun j hj=>i2 j hj (by have q:=DC h3;rw[Lm]at q;omega);refine cU [(0,sl Aq l),(8,sl Ag (l.map A6)),(9,.ref 9 0)] [(9,.cells [.mref 28]),(28,.map OI (m.map RI))] Z3 ⟨Zr,⟨(Aa (fun z:List Cp=>HO.map OI (z.map RI)) ei),rfl⟩,Tv⟩ (Yi (fun h7=>?_) (fun h7=>?_))
 .have h7:((m.map RI).length:Int)<(((l.map A6).map Ag).length:Int):=h7;have n7:=FL h7;have MR:¬m.any (fun c=>!decide (A6 c∈l.map A6))=true:=fun h=>by
   obtain⟨c,hc,q⟩:=Br.1 h;obtain⟨j,hj,rfl⟩:=A9.1 hc;rw[Ah (i3 j hj)]at q;cases q
  exact D7.of_eq (show vi 5=vi (Lx l m) by rw[Lx,Aj (fun c=>c h1),Aj MR,Av (by have q:=h7;rw[Lm,Lm,Lm]at q;omega)])
 have h7:¬(((m.map RI).length:Int)<(((l.map A6).map Ag).length:Int)):=h7;have n7:=DC h7;refine Bn (Bt (l.any (RF m))) (fun h9=>?_) (fun h9=>?_)
 .have h9:(l.any (RF m))=true:=h9;refine Xi .pure (Xi _ (Yi (cb h9 (qv (fF:=63) (DY.ptr [.cmap OI (m.map RI)]) l (RF m) (fun c hc=>jp m c oD (hb c hc)) hl)) ?_));have MR:¬m.any (fun c=>!decide (A6 c∈l.map A6))=true:=fun h=>by
   obtain⟨c,hc,q⟩:=Br.1 h;obtain⟨j,hj,rfl⟩:=A9.1 hc;rw[Ah (i3 j hj)]at q;cases q
  exact D7.of_eq (show vi 9=vi (Lx l m) by rw[Lx,Aj (fun c=>c h1),Aj MR,Aj (by have q:=h7;rw[Lm,Lm,Lm]at q;omega),Av h9])
 have h9:(l.any (RF m))=false:=h9;refine Xi .pure (Xi _ (Yi (cb h9 (qv (fF:=63) (DY.ptr [.cmap OI (m.map RI)]) l (RF m) (fun c hc=>jp m c oD (hb c hc)) hl)) ?_));have MR:¬m.any (fun c=>!decide (A6 c∈l.map A6))=true:=fun h=>by
  obtain⟨c,hc,q⟩:=Br.1 h;obtain⟨j,hj,rfl⟩:=A9.1 hc;rw[Ah (i3 j hj)]at q;cases q
 exact D7.of_eq (show vi 0=vi (Lx l m) by rw[Lx,Aj (fun c=>c h1),Aj MR,Aj (by have q:=h7;rw[Lm,Lm,Lm]at q;omega),Aj (by rw[h9];decide)])
end Go.Eng
namespace Go.Eng
open Go.Proofs Go.RowKit Go.Shelf
variable {Cl:Array Value}{U:Nat->Prop}{P:Program}{g:Gh}{g1 cap:Nat}(b:Nat)(p:Value)(bs:List UInt8)(v:Value)(s:ByteArray)(w:World)
theorem RX(t u ty e:TypeId)(i:TypeInfo)(ht:P.underlying t=some (.slice e))(hu:P.underlying u=some .string)(hi:P.info? e=some i)(hz:i.zero=some (.int .u8 0))(SE:i.size=1)(jW:i.bytes=1)(v:Value)(n:Nat)(xs:List Value)(G1:w.ownsRow 0 e 1 v n xs)(s:ByteArray)(hb:n+s.size<=140737488355328) :
  ∃v' w',(Builtin.append_ #[t,u] ty #[v,.string s]).run P w=.ok v' w'/\w'.ownsRow 0 e 1 v' (n+s.size) (xs++Lib.strCells s)/\w.grownBy w' v.ownBlock/\(v'.ownBlock=v.ownBlock\/v'.ownBlock=some w.heap.size/\∀k,k<w.heap.size->w'.heap[k]?=w.heap[k]?)/\(s.size=0->v'=v):=by
 obtain⟨v',w',hr,h2,h3,h4⟩:=Lib.run_append_own_string w 0 t u ty e i ht hu hi hz SE jW v n xs G1 s (by unfold maxLen;omega) hb (Ar _);refine⟨v',w',hr,h2,h3,?_⟩;rcases G1.2 with ⟨rfl,rfl⟩ | ⟨g,cap,Cl,rfl,sB,hg,rD,j0,Vd,K8⟩
 .by_cases hm:s.size=0
  .have e:=h4.2 ⟨rfl,hm⟩;subst e;exact⟨.inl rfl,fun _=>rfl⟩
  .have Pf:=run_append_nil_string (P:=P) w t u ty e i (.int .u8 0) ht hu hi hz s sP sP (by rw[jW];omega);rw[hr]at Pf
   injection Pf with e1 e2
   exact⟨.inr ⟨by rw[e1];rfl,fun k hk=>h3.block k hk (by simp[Value.ownBlock])⟩,fun h=>absurd h hm⟩
 .have rd : Cl.size=cap:=by simpa using Vd
  by_cases Gj:n+s.size<=cap
  .have Pf:=Lib.run_append_room_string (P:=P) w t u ty e i ht hu hi SE g n cap Cl hg s Gj sP;rw[hr]at Pf
   injection Pf with e1 e2
   exact⟨.inl (by rw[e1];rfl),fun h=>by rw[e1,h];rfl⟩
  .have IB:∀j u,xs[j]?=some u->w.cell? ((⟨g,0,none⟩:Addr).add j)=some u:=G1.cells (g:=g) rfl;have dZ:xs.length=n:=by simpa using G1.1
   have Pf:=Lib.run_append_grow_string (P:=P) w t u ty e i (.int .u8 0) ht hu hi hz ⟨g,0,none⟩ n cap xs (by rw[SE];simpa using dZ) IB s sP sP (by rw[jW];exact Go.growslice_fits sP sP);rw[hr]at Pf
   injection Pf with e1 e2
   exact⟨.inr ⟨by rw[e1];rfl,fun k hk=>by rw[e2];exact heap_alloc_old w.drew _ hk⟩,fun h=>absurd sP Gj⟩
theorem KB{w:World}{ops:Array Oper}{rest:List Oper}{o:Oper}{a:Act}{Q:Exit->Act->World->Prop}(rl:o.guard=none)(sl x:Operand)(t u:TypeId)(ho:o.op=.call { callee:=.builtin .append,args:=#[sl,x],argTypes:=#[t,u] })(e:TypeId)(i:TypeInfo)(ht:P.underlying t=some (.slice e))(hu:P.underlying u=some .string)(hi:P.info? e=some i)(hz:i.zero=some (.int .u8 0))(SE:i.size=1)(jW:i.bytes=1)(v:Value)(n:Nat)(xs:List Value)(hs:a.eval sl=v)(G1:w.ownsRow 0 e 1 v n xs)(s:ByteArray)(hx:a.eval x=.string s)(hb:n+s.size<=140737488355328)(h:∀v' w',w'.ownsRow 0 e 1 v' (n+s.size) (xs++Lib.strCells s)->w.grownBy w' v.ownBlock->(v'.ownBlock=v.ownBlock\/v'.ownBlock=some w.heap.size/\∀k,k<w.heap.size->w'.heap[k]?=w.heap[k]?)->Hid (s.size=0->v'=v)->wpList P ops Q rest (a.put o.dst v') w'):wpList P ops Q (o::rest) a w:=by
 refine wpList_plain rl fun K hK=>?_;obtain⟨v',w',hr,h2,h3,h4,h5⟩:=RX (P:=P) w t u o.type e i ht hu hi hz SE jW v n xs G1 s hb;unfold Oper.wp execOp;simp only[ho,resolve,invoke,builtin,Sem.run_bind,Sem.run_pure,Result.andThen_ok,List.map_toArray,Bq,EJ,hs,hx,hr];exact hK _ _ (h v' w' h2 h3 h4 h5)
theorem Zs:Lays.n240 Tryz.prog Tryz.layJoin_ren:={ Tryz.layJoin with }
theorem bH(hb:w.heap[b]?=some (.cells #[p,v] 104 (0,0)))(hp:p=.pointer none\/p=.pointer (some ⟨b,0,none⟩)) :
  Calls Tryz.prog 98 #[.pointer (some ⟨b,0,none⟩)] w fun e w'=>e=.returned (.tuple #[])/\w'.heap[b]?=some (.cells #[.pointer (some ⟨b,0,none⟩),v] 104 (0,0))/\(w'.os=w.os/\w'.tape=w.tape/\w'.output=w.output)/\w'.heap.size=w.heap.size/\∀k,k≠b->w'.heap[k]?=w.heap[k]?:=by
 rcases hp with rfl | rfl
 .have q:=Any.Builder_copyCheck_fresh Zs Tryz.layJoinX.toX72 b w (by rw[Lib.cell_of_heap hb];rfl) (by simp[World.shape?,hb];rfl) (Lib.frozen_of_heap hb 0);refine q.mono ?_
  rintro e w' ⟨rfl,rfl⟩
  refine⟨rfl,?_,⟨rfl,rfl,rfl⟩,by simp[World.setCell],fun k hk=>?_⟩
  .simp[World.setCell,Array.getElem?_modify,hb]
  .simp[World.setCell,Array.getElem?_modify,Ne.symm hk]
 .have q:=Any.Builder_copyCheck_used Zs Tryz.layJoinX.toX72 b w (by rw[Lib.cell_of_heap hb];rfl);refine q.mono ?_
  rintro e w' ⟨rfl,rfl⟩
  exact⟨rfl,hb,⟨rfl,rfl,rfl⟩,rfl,fun k _=>rfl⟩
set_option maxRecDepth 100000 in
theorem du(n:Nat)(xs:List Value)(s:ByteArray)(w:World)(hb:w.heap[b]?=some (.cells #[p,v] 104 (0,0)))(hp:p=.pointer none\/p=.pointer (some ⟨b,0,none⟩))(G1:w.ownsRow 0 5 1 v n xs)(Dn:v.ownBlock≠some b)(BQ:n+s.size<=140737488355328) :
  Calls Tryz.prog 57 #[.pointer (some ⟨b,0,none⟩),.string s] w fun e w'=>e=.returned (.tuple #[.int .i64 s.size,.nilIface])/\∃v',w'.heap[b]?=some (.cells #[.pointer (some ⟨b,0,none⟩),v'] 104 (0,0)) /\
   w'.ownsRow 0 5 1 v' (n+s.size) (xs++Lib.strCells s)/\(w'.os=w.os/\w'.tape=w.tape/\w'.output=w.output)/\w.heap.size<=w'.heap.size/\(∀k,k<w.heap.size->k≠b->some k≠v.ownBlock->w'.heap[k]?=w.heap[k]?) /\
   (v'.ownBlock=v.ownBlock\/v'.ownBlock=some w.heap.size/\∀k,k<w.heap.size->k≠b->w'.heap[k]?=w.heap[k]?)/\(s.size=0->v'=v):=by
 obtain⟨i0,hi,cy,rQ,iP⟩:=info_parts (P:=Tryz.prog) (e:=5) (z:=.int .u8 0) (size:=1) (bytes:=1) sT;have Dc:b<w.heap.size:=by
  rcases Be b w.heap.size with h' | h'
  .exact h'
  .simp[Array.getElem?_eq_none h']at hb
 have su:∀args w,(callFunc 98 args).run Tryz.prog w=.ok (.enter 98 args) w:=enters_of Tryz.func98 sT rfl
 go_enter Tryz.func57,Tryz.ntmps57
 go_wp2_with (go_at_fn 98;refine(bH b p v _ hb hp).mono ?_)
 rintro e w1 ⟨rfl,lY,dV,hs1,iJ⟩
 have c0:w1.cell? ⟨b,0,none⟩=some (.pointer (some ⟨b,0,none⟩)):=by rw[Lib.cell_of_heap lY];rfl
 have c1:w1.cell? ⟨b,1,none⟩=some v:=by rw[Lib.cell_of_heap lY];rfl
 have kA:w1.ownsRow 0 5 1 v n xs:=by
  refine⟨G1.1,G1.2.imp id fun⟨g,cap,Cl,h1,h2,h3,h4⟩=>⟨g,cap,Cl,h1,h2,?_,h4⟩⟩;rw[iJ g (fun e=>Dn (by rw[h1,e];rfl))];exact h3
 go_wp2_with (at_builtin;refine KB rfl _ _ 68 9 rfl 5 i0 Tryz.underlying68 Tryz.underlying9 hi cy rQ iP _ _ _ rfl kA s rfl BQ ?_)
 intro v' w2 Ms J3 SD hz;have Wq:w2.heap[b]?=some (.cells #[.pointer (some ⟨b,0,none⟩),v] 104 (0,0)):=by
  rw[J3.block b (by rw[hs1];exact Dc) (fun e=>Dn e.symm)];exact lY
 have d0:w2.cell? ⟨b,0,none⟩=some (.pointer (some ⟨b,0,none⟩)):=by rw[Lib.cell_of_heap Wq];rfl
 have d1:w2.cell? ⟨b,1,none⟩=some v:=by rw[Lib.cell_of_heap Wq];rfl
 have f1:w2.frozen? ⟨b,1,none⟩=false:=Lib.frozen_of_heap Wq 1;obtain⟨ao,n',cap,rfl⟩:∃ao n' cap,v'=.slice ao n' cap:=by
  rcases Ms.2 with ⟨hv,_⟩ | ⟨g,cap,Cl,hv,_⟩
  .exact⟨_,_,_,hv⟩
  .exact⟨_,_,_,hv⟩
 have rR:s.size=0->Value.slice ao n' cap=v:=fun h=>hz (ByteArray.size_eq_zero_iff.1 h)
 clear hz
 go_wp2
 go_ret2
 have Un : (Value.slice ao n' cap).ownBlock≠some b:=by
  rcases SD with e | ⟨e,_⟩
  .rw[e];exact Dn
  .rw[e];intro e;injection e with e;omega
 refine⟨rfl,.slice ao n' cap,?_,?_,⟨?_,?_,?_⟩,?_,fun k hk kh rv=>?_,?_,rR⟩
 .simp[World.setCell,Array.getElem?_modify,Wq]
 .refine⟨Ms.1,Ms.2.imp id fun⟨g,HL,Cl,h1,h2,h3,h4⟩=>⟨g,HL,Cl,h1,h2,?_,h4⟩⟩;have fR:g≠b:=fun e=>Un (by rw[h1,e];rfl);simp[World.setCell,Array.getElem?_modify,Ne.symm fR,h3]
 .exact J3.os.trans dV.1
 .exact J3.tape.trans dV.2.1
 .exact J3.output.trans dV.2.2
 .have:=J3.size
  simp[World.setCell];omega
 .simp[World.setCell,Array.getElem?_modify,Ne.symm kh];rw[J3.block k sP rv,iJ k kh]
 .rcases SD with e | ⟨e,e2⟩
  .exact .inl e
  .refine .inr ⟨e,fun k hk kh=>?_⟩;simp[World.setCell,Array.getElem?_modify,Ne.symm kh];rw[e2 k sP,iJ k kh]
set_option maxRecDepth 100000 in
theorem dh(g cap:Nat)(p:Value)(Cl:Array Value)(l:List UInt8)(w:World)(hb:w.heap[b]?=some (.cells #[p,.slice (some ⟨g,0,none⟩) l.length cap] 104 (0,0)))(hg:w.heap[g]?=some (.cells Cl 5 (0,0)))(h0:l≠[])(rD:l.length<=cap)(j0:cap<=maxLen)(Vd:Cl.size=cap)(Cm:∀(j:Nat) (x:UInt8),l[j]?=some x->Cl[j]?=some (Value.int .u8 x.toNat)) :
  Calls Tryz.prog 61 #[.pointer (some ⟨b,0,none⟩)] w fun e w'=>e=.returned (.string ⟨l.toArray⟩)/\w'=w.drew.freeze ⟨g,0,none⟩ l.length:=by
 have Ww:l.length≠0:=by simpa using h0
 have c1:w.drew.cell? ⟨b,1,none⟩=some (.slice (some ⟨g,0,none⟩) l.length cap):=by
  have:w.drew.heap[b]?=some (.cells #[p,.slice (some ⟨g,0,none⟩) l.length cap] 104 (0,0)):=hb
  rw[Lib.cell_of_heap this];rfl
 have sy:(Builtin.unsafeSliceData_ #[68] 170 #[.slice (some ⟨g,0,none⟩) l.length cap]).run Tryz.prog w.drew=.ok (.pointer (some ⟨g,0,none⟩)) w.drew:=
  Lib.run_unsafeSliceData_row _ _ _ _ _ _ sP
 have sA:(Builtin.unsafeString_ #[170,3] 9 #[.pointer (some ⟨g,0,none⟩),.int .i64 l.length]).run Tryz.prog w.drew=.ok (.string ⟨l.toArray⟩) (w.drew.freeze ⟨g,0,none⟩ l.length):=by
  refine Lib.run_unsafeString_row w.drew 170 3 9 5 Tryz.underlying170 sT g Cl.size (by have Pe : w.drew.heap[g]?=some (.cells Cl 5 (0,0)):=hg;simp[World.shape?,Pe]) l h0 sP (by unfold maxLen at j0;omega) ?_;intro j x hx;rw[Addr.add_lit,Bf];have Pe : w.drew.heap[g]?=some (.cells Cl 5 (0,0)):=hg;rw[Lib.cell_of_heap Pe];exact Cm j x hx
 go_enter Tryz.func61,Tryz.ntmps61
 go_wp2
 go_region
 all_goals (go_wp2;go_ret;exact⟨rfl,rfl⟩)
theorem Xn(g:Gh)(w:World)(U:Nat->Prop):∀(vs:List Value),Bo g w U (.tup (vs.map .v)) (.tuple vs.toArray):=fun vs=>
 .tup _ _ _ sS fun i av x h1 h2=>by
  rw[Ap,Ay]at h1;obtain⟨a,e1,rfl⟩:=h1
  have:vs[i]?=some x:=by simpa using h2
  rw[e1]at this;cases this;exact .v _ _
theorem Xm{w:World}{bs:List UInt8}{n:Nat}(h:Bo g w U (.slice .none (bs.map Bj)) (.slice (some ⟨g1,0,none⟩) n cap)):∀(j:Nat) (x:UInt8),bs[j]?=some x->g.S g1 j/\w.cell? ⟨g1,j,none⟩=some (Value.int .u8 x.toNat):=by
 generalize hes:bs.map Bj=es at h;cases h with
 |snil=>
  intro j x hx
  have:bs=[]:=by simpa using hes
  subst this;simp at hx
 |slice _ _ b off sz cap val hc hl Cm Dd=>
  intro j x hx;have h1:es[j]?=some (Bj x):=by rw[<-hes,Ap,hx];rfl
  have Dm:sz=1:=(hl j _ h1).symm;subst Dm;obtain⟨q1,q2,_⟩:=Cm j _ 0 (.v (.int .u8 x.toNat)) h1 rfl;have q3:=(Dd j _ 0 _ h1 rfl).v_eq;rw[q3]at q2;simp only[Gc,CJ,Bf]at q1 q2;exact⟨q1,q2⟩
theorem T4{bs:List UInt8}(h:∀(j:Nat) (x:UInt8),bs[j]?=some x->Cl[j]?=some (Value.int .u8 x.toNat)):Cl.toList.take bs.length=Lib.byteCells bs:=by
 apply Cc;intro j;unfold Lib.byteCells;rw[Er,Ap]
 by_cases hj:j<bs.length
 .rw[Av hj,Az,At hj,h j _ (At hj)];rfl
 .rw[Aj hj,AN sP];rfl
theorem OP{bs:List UInt8}(h:Cl.toList.take bs.length=Lib.byteCells bs):∀(j:Nat) (x:UInt8),bs[j]?=some x->Cl[j]?=some (Value.int .u8 x.toNat):=fun j x hx=>by
 have hj:j<bs.length:=(Au.1 hx).1;have q:=Aa (fun z=>z[j]?) h;simp only[Er,Av hj,Az]at q;rw[q,Lib.byteCells,Ap,hx];rfl
abbrev MI:AV:=.slice (.id 1001 1) (bs.map Bj)
abbrev Ih:Nat->HO:=AC [(1000,.bld (MI bs)),(1001,.bbf bs.length)] Ao
theorem Yo(cs:List UInt8):AH (AH (Ih bs) 1001 (.bbf cs.length)) 1000 (.bld (MI cs))=Ih cs:=by
 funext i
 by_cases e:i=1000
 .subst e;rw[AM];rfl
 .rw[Bs _ _ _ _ e]
  by_cases e' : i=1001
  .subst e';rw[AM];rfl
  .rw[Bs _ _ _ _ e'];simp[AC,B4 e,B4 e']
theorem Sb{w:World}{bs:List UInt8}{v:Value}(hx:Bo g w U (MI bs) v)(o1:C3 g w U 1001 (.bbf bs.length)) :
  v=g.ρ 1001/\w.ownsRow 0 5 1 v bs.length (Lib.byteCells bs):=by
 obtain⟨t1,l1,Ws⟩:=o1;have WD:v=g.ρ 1001/\Bo g w U (.slice .none (bs.map Bj)) v:=by
  cases hx with
  |tok _ _ _ _ _ h hl hu ht hn hx=>exact⟨hx (by rw[l1,AO]),h⟩
 refine⟨WD.1,by simp[Lib.byteCells],?_⟩;rcases Ws with ⟨h0,e,_⟩ | ⟨g1,cap,Cl,e1,e2,e3,e4,e5,e6,e7⟩
 .exact .inl ⟨WD.1.trans e,h0⟩
 .refine .inr ⟨g1,cap,Cl,WD.1.trans e1,Ar _,e5,e3.2,e4,by rw[e6,Gc],?_⟩;have hr:=WD.2;rw[WD.1,e1]at hr;rw[Gc];refine T4 fun j x hx=>?_;have q:=(Xm hr j x hx).2;rw[Lib.cell_of_heap e5]at q;exact q
theorem de{w:World}{cs:List UInt8}{n:Nat}{E:TypeId}{f:Nat×Nat}(hn:n=cs.length)(hb:w.heap[g1]?=some (.cells Cl E f))(hc:n<=cap)(ht:∀(j:Nat) (x:UInt8),cs[j]?=some x->Cl[j]?=some (Value.int .u8 x.toNat))(hS:∀o,o<cs.length->g.S g1 o):Bo g w U (.slice .none (cs.map Bj)) (.slice (some ⟨g1,0,none⟩) n cap):=by
 subst hn;have hl:(cs.map Bj).length=cs.length:=AO _;rw[<-hl];have key:∀(i:Nat) (c:List AV) (j:Nat) (av:AV),(cs.map Bj)[i]?=some c->c[j]?=some av->∃x,cs[i]?=some x/\j=0/\av=.v (.int .u8 x.toNat):=by
  intro i c j av h1 h2;rw[Ap]at h1;obtain⟨x,q1,rfl⟩:=Ay.1 h1
  match j,h2 with
  |0,h2=>exact⟨x,q1,rfl,(Bv h2).symm⟩
 refine .slice _ _ g1 0 1 cap (fun i _=>.int .u8 ((cs[i]?).getD 0).toNat) (by rw[hl];exact hc) (fun i c h=>?_) (fun i c j av h1 h2=>?_) (fun i c j av h1 h2=>?_)
 .rw[Ap]at h;obtain⟨x,_,rfl⟩:=Ay.1 h;rfl
 .obtain⟨x,q1,rfl,rfl⟩:=key i c j av h1 h2;have hi:i<cs.length:=(Au.1 q1).1;refine⟨by simpa using hS i hi,?_,rfl⟩;rw[Lib.cell_of_heap hb,q1];simpa using ht i x q1
 .obtain⟨x,q1,rfl,rfl⟩:=key i c j av h1 h2;rw[q1];exact .v _ _
theorem mC(BQ:bs.length+s.size<=140737488355328) :
  BL Tryz.prog 57 [.ref 1000 0,vs s] (Ih bs) fun r h'=>r=.tup [vi s.size,.v .nilIface]/\h'=Ih (bs++s.data.toList):=by
 refine⟨Q0 57 Tryz.func57 sT rfl,fun g w us hs hv hI=>?_⟩
 match us,hs,hv with
 | ⟨[v0,v1]⟩,_,hv=>
 have r0:Bo g w (AD (Ih bs)) (.ref 1000 0) v0:=hv 0 _ v0 rfl rfl;have r1:=(hv 1 (vs s) v1 rfl rfl).v_eq;subst r1;obtain⟨t0,b,p,v,w0,ρ0,hb,hp,hx,hS⟩:C3 g w (AD (Ih bs)) 1000 (.bld (MI bs)):=hI.objs 1000;have o1:C3 g w (AD (Ih bs)) 1001 (.bbf bs.length):=hI.objs 1001;obtain⟨WD,G1⟩:=Sb hx o1;obtain⟨t1,l1,Ws⟩:=o1;have WC:v0=.pointer (some ⟨b,0,none⟩):=by
  cases r0 with
  |ref _ _ _ b' hu ht hr=>exact hr.symm.trans ρ0
 subst WC;have SD:∀g1,v.ownBlock=some g1->g.own 1001=some g1/\(∀o,g.S g1 o->o<bs.length)/\∃Cl,w.heap[g1]?=some (.cells Cl 5 (0,0)):=fun g1 e=>by
  rcases Ws with ⟨_,e0,_⟩ | ⟨g2,cap,Cl,e1,e2,_,_,e5,_,e7⟩
  .rw[WD,e0]at e;cases e
  .rw[WD,e1]at e;injection e with e;have e:g2=g1:=e;subst e;exact⟨e2,e7,Cl,e5⟩
 have Ww:(Ih bs 1000).live:=trivial;have dT:(Ih bs 1001).live:=trivial;have Dc:b<w.heap.size:=(hI.loc 1000 b Ww w0).1;have Dn:v.ownBlock≠some b:=fun e=>by
  have:=hI.inj 1000 1001 b Ww dT w0 (SD b e).1
  cases this
 refine(du b p v bs.length _ s w hb hp G1 Dn BQ).mono ?_
 rintro e w' ⟨rfl,v',jU,Ms,⟨dV,l7,ho3⟩,Dm,hk,hvb,hz⟩
 have hN:(bs++s.data.toList).length=bs.length+s.size:=by rw[Ac];rfl
 have Io:Lib.byteCells bs++Lib.strCells s=Lib.byteCells (bs++s.data.toList):=by unfold Lib.byteCells Lib.strCells;rw[AK]
 rw[Io]at Ms
 have Vi : ∀g2,v'.ownBlock=some g2->∃cap Cl,v'=.slice (some ⟨g2,0,none⟩) (bs.length+s.size) cap/\w'.heap[g2]?=some (.cells Cl 5 (0,0))/\bs.length+s.size<=cap/\cap<=maxLen/\Cl.size=cap /\
   ∀(j:Nat) (x:UInt8),(bs++s.data.toList)[j]?=some x->Cl[j]?=some (Value.int .u8 x.toNat):=fun g2 e=>by
  rcases Ms.2 with ⟨e1,_⟩ | ⟨g3,cap,Cl,e1,_,e3,e4,e5,e6,e7⟩
  .rw[e1]at e;cases e
  .rw[e1]at e;injection e with e;have e:g3=g2:=e;subst e;refine⟨cap,Cl,e1,e3,e4,e5,by simpa using e6,OP ?_⟩;rw[hN];simpa using e7
 have Un : v'.ownBlock≠some b:=by
  rcases hvb with e | ⟨e,_⟩
  .rw[e];exact Dn
  .rw[e];intro e;injection e with e;omega
 -- the world in which the buffer alone has turned
 obtain⟨wm,ma⟩:∃wm:World,wm={ w' with heap:=w'.heap.setIfInBounds b (.cells #[p,v] 104 (0,0)) }:=⟨_,rfl⟩;have kp:wm.heap[b]?=some (.cells #[p,v] 104 (0,0)):=by
  subst ma
  have:b<w'.heap.size:=by omega
  simp[this]
 have kr:∀k,k≠b->wm.heap[k]?=w'.heap[k]?:=fun k hk=>by
  subst ma;simp[Ne.symm hk]
 have gb:wm.heap.size=w'.heap.size:=by subst ma;simp
 have iK:wm.os=w'.os/\wm.tape=w'.tape/\wm.output=w'.output:=by subst ma;exact⟨rfl,rfl,rfl⟩
 have Wx:∀g2,v'.ownBlock=some g2->g2<w'.heap.size:=fun g2 e=>by
  obtain⟨cap,Cl,_,h1,_⟩:=Vi g2 e;rcases Be g2 w'.heap.size with h | h
  .exact h
  .rw[Hx h]at h1;cases h1
 have fM:∀g1 o,v.ownBlock=some g1->g.S g1 o->wm.cell? ⟨g1,o,none⟩=w.cell? ⟨g1,o,none⟩:=fun g1 o e hs=>by
  have fR:g1≠b:=fun h=>Dn (by rw[e,h]);rcases hvb with q | ⟨_,q⟩
  .obtain⟨cap,Cl,_,h1,h2,h3,h4,h5⟩:=Vi g1 (q.trans e);have ho:=(SD g1 e).2.1 o hs;have dY:bs[o]?=some bs[o]:=At ho;have TO:(bs++s.data.toList)[o]?=some bs[o]:=by rw[AQ ho];exact dY
   have hw:=G1.cells (g:=g1) e o (.int .u8 bs[o].toNat) (by unfold Lib.byteCells;rw[Ap,dY];rfl);rw[Addr.add_lit,Bf]at hw;rw[hw,Lib.cell_of_heap ((kr g1 fR).trans h1)];exact h5 o _ TO
  .have:wm.heap[g1]?=w.heap[g1]?:=(kr g1 fR).trans (q g1 (hI.loc 1001 g1 dT (SD g1 e).1).1 fR)
   simp only[World.cell?,this]
 obtain⟨S',LN⟩:∃S' : Nat->Nat->Prop,S'=fun b' o=>g.S b' o\/(v'.ownBlock=some b'/\o<bs.length+s.size):=⟨_,rfl⟩
 obtain⟨k1,k2⟩:=hI.upd 1001 (.bbf (bs++s.data.toList).length) v' (bs++s.data.toList).length true v'.ownBlock S' wm v.ownBlock
  ⟨iK.1.trans dV,iK.2.1.trans l7,iK.2.2.trans ho3,by rw[gb];exact Dm⟩
  (fun k iJ Gp=>by
   by_cases e:k=b
   .subst e;exact kp.trans hb.symm
   .rw[kr k e];exact hk k iJ e Gp)
  (fun b0 e=>⟨dT,(SD b0 e).1⟩) (fun _ _ h=>by rw[LN];exact .inl h)
  (fun b0 o h=>by
   rw[LN]at h;rcases h with h | ⟨h,_⟩
   .exact .inl h
   .refine .inr ⟨by rw[gb];exact Wx b0 h,?_⟩;rcases hvb with q | ⟨q,_⟩
    .exact .inr ⟨dT,(SD b0 (q.symm.trans h)).1⟩
    .rw[q]at h;injection h with h;exact .inl sP)
  (fun b0 o e hs=>⟨fM b0 o e hs,fun es ck he=>by
   obtain⟨_,_,Cl,hc⟩:=SD b0 e;rw[hc]at he;cases he⟩)
  (fun b0 _ e=>⟨by rw[gb];exact Wx b0 e,by
   rcases hvb with q | ⟨q,_⟩
   .exact .inl ⟨dT,(SD b0 (q.symm.trans e)).1⟩
   .rw[q]at e;injection e with e;exact .inr sP⟩)
  sS (fun _=>⟨t1.symm,by rw[l1,hN];omega,fun h=>(by rw[t1]at h;cases h),fun h=>(by rw[hz (by rw[l1,hN]at h;omega)];exact WD)⟩)
  (fun _ _=>by
   refine⟨by simp[Gh.upd],by simp[Gh.upd],?_⟩;rcases Ms.2 with ⟨e1,e2⟩ | ⟨g2,cap,Cl,e1,e2⟩
   .exact .inl ⟨by rw[hN];exact e2,by simp[Gh.upd,e1],by simp[Gh.upd,e1,Value.ownBlock]⟩
   .obtain⟨cap,Cl,f1,f2,f3,f4,f5,_⟩:=Vi g2 (by rw[e1];rfl);have fR:g2≠b:=fun h=>Un (by rw[e1,h];rfl);refine .inr ⟨g2,cap,Cl,by simp[Gh.upd,f1,hN],by simp[Gh.upd,f1,Value.ownBlock],⟨?_,by rw[hN];exact f3⟩,f4,(kr g2 fR).trans f2,f5,fun o ho=>?_⟩
    .rw[hN];rcases Nat.eq_zero_or_pos (bs.length+s.size)with h0 | h0
     .exfalso
      have rN:=hz sP;rcases Ws with ⟨_,e0,_⟩ | ⟨_,_,_,_,_,e3,_⟩
      .rw[rN,WD,e0]at e1;cases e1
      .omega
     .exact h0
    .have ho:S' g2 o:=ho;rw[LN]at ho;rcases ho with ho | ⟨_,ho⟩
     .rw[hN];rcases hvb with q | ⟨q,_⟩
      .have:=(SD g2 (q.symm.trans (by rw[e1];rfl))).2.1 o ho;omega
      .have h9:v'.ownBlock=some g2:=by rw[e1];rfl
       rw[q]at h9;injection h9 with h9
       have:=hI.slt _ _ ho;omega
     .rw[hN];exact ho)
 have Y6:(AH (Ih bs) 1001 (.bbf (bs++s.data.toList).length) 1000).live:=trivial
 obtain⟨m1,m2⟩:=k1.upd 1000 (.bld (MI (bs++s.data.toList))) (.pointer (some ⟨b,0,none⟩)) (g.ln 1000) false (some b) S' w' (some b)
  ⟨iK.1.symm,iK.2.1.symm,iK.2.2.symm,by rw[gb];exact Ad _⟩
  (fun k _ h=>(kr k (fun e=>h (by rw[e]))).symm)
  (fun b0 e=>by injection e with e;subst e;exact⟨Y6,by simp[Gh.upd,w0]⟩)
  (fun _ _ h=>h) (fun _ _ h=>.inl h)
  (fun b0 o e h=>by
   injection e with e;subst e
   have h:S' b o:=h;rw[LN]at h;rcases h with h | ⟨h,_⟩
   .exact absurd h (hS o)
   .exact absurd h Un)
  (fun b0 _ e=>by injection e with e;subst e;exact⟨by omega,.inl ⟨Y6,by simp[Gh.upd,w0]⟩⟩)
  sS (fun _=>⟨by simp[Gh.upd,t0],by simp[Gh.upd],fun _=>by simp[Gh.upd,ρ0],fun _=>by simp[Gh.upd,ρ0]⟩)
  (fun _ _=>by
   refine⟨by simp[Gh.upd],b,.pointer (some ⟨b,0,none⟩),v',by simp[Gh.upd],by simp[Gh.upd],jU,.inr rfl,?_,fun o h=>?_⟩
   .refine .tok _ 1001 1 _ _ ?_ (fun c hc=>by obtain⟨x,_,rfl⟩:=AA.1 hc;rfl) ?_ (by simp[Gh.upd]) (by simp[Gh.upd]) (fun _=>by simp[Gh.upd])
    .rcases Ms.2 with ⟨e1,e2⟩ | ⟨g2,cap,Cl,e1,_⟩
     .have e3:bs++s.data.toList=[]:=AF (by rw[hN];exact e2);rw[e3,e1];exact .snil _ _ _
     .obtain⟨cap,Cl,f1,f2,f3,f4,f5,f6⟩:=Vi g2 (by rw[e1];rfl);rw[f1];refine de hN.symm f2 f3 f6 fun o ho=>?_;show S' g2 o;rw[LN];exact .inr ⟨by rw[f1];rfl,by rw[<-hN];exact ho⟩
    .unfold AD;rw[Bs _ _ _ _ sR,AM];simp
   .have h:S' b o:=h;rw[LN]at h;rcases h with h | ⟨h,_⟩
    .exact hS o h
    .exact Un h)
 rw[Yo]at m1 m2;exact⟨_,.tup [vi s.size,.v .nilIface],_,_,rfl,⟨rfl,rfl⟩,Xn _ _ _ [.int .i64 s.size,.nilIface],m1,k2.trans m2⟩
theorem VZ:AH (AH (Ih bs) 1001 .dead) 1000 .dead=AC [(1000,.dead),(1001,.dead)] Ao:=by
 funext i
 by_cases e:i=1000
 .subst e;rw[AM];rfl
 .rw[Bs _ _ _ _ e]
  by_cases e' : i=1001
  .subst e';rw[AM];rfl
  .rw[Bs _ _ _ _ e'];simp[AC,B4 e,B4 e']
theorem jo:BL Tryz.prog 61 [.ref 1000 0] (Ih bs) fun r h'=>r=vs ⟨bs.toArray⟩/\h'=AC [(1000,.dead),(1001,.dead)] Ao:=by
 refine⟨Q0 61 Tryz.func61 sT rfl,fun g w us hs hv hI=>?_⟩
 match us,hs,hv with
 | ⟨[v0]⟩,_,hv=>
 have r0:Bo g w (AD (Ih bs)) (.ref 1000 0) v0:=hv 0 _ v0 rfl rfl;obtain⟨t0,b,p,v,w0,ρ0,hb,hp,hx,hS⟩:C3 g w (AD (Ih bs)) 1000 (.bld (MI bs)):=hI.objs 1000;have o1:C3 g w (AD (Ih bs)) 1001 (.bbf bs.length):=hI.objs 1001;obtain⟨WD,G1⟩:=Sb hx o1;obtain⟨t1,l1,Ws⟩:=o1;have WC:v0=.pointer (some ⟨b,0,none⟩):=by
  cases r0 with
  |ref _ _ _ b' hu ht hr=>exact hr.symm.trans ρ0
 subst WC;have dT:(Ih bs 1001).live:=trivial
 -- what the call Zt
 have fin:∀(w' : World) (aT:Option Nat),(w'.os=w.os/\w'.tape=w.tape/\w'.output=w.output)->w.heap.size<=w'.heap.size->(∀k,k<w.heap.size->some k≠aT->w'.heap[k]?=w.heap[k]?)->(∀b0,aT=some b0->g.own 1001=some b0/\(∀o,w'.cell? ⟨b0,o,none⟩=w.cell? ⟨b0,o,none⟩)/\∃Cl,w.heap[b0]?=some (.cells Cl 5 (0,0))) ->
   ∃v r h' g',Ending.returned (.string ⟨bs.toArray⟩)=.returned v/\(r=vs ⟨bs.toArray⟩/\h'=AC [(1000,.dead),(1001,.dead)] Ao)/\Bo g' w' (AD h') r v/\Do w g (Ih bs) h' g' w'/\Le (Ih bs) g w h' g' w':=by
  intro w' aT ho Dm hk hc
  obtain⟨k1,k2⟩:=hI.upd 1001 .dead (g.ρ 1001) (g.ln 1001) (g.tk 1001) none g.S w' aT ⟨ho.1,ho.2.1,ho.2.2,Dm⟩ hk (fun b0 e=>⟨dT,(hc b0 e).1⟩) (fun _ _ h=>h) (fun _ _ h=>.inl h)
   (fun b0 o e _=>⟨(hc b0 e).2.1 o,fun es ck he=>by obtain⟨_,_,Cl,h⟩:=hc b0 e;rw[h]at he;cases he⟩) (fun b0 h=>h.elim) sS (fun _=>⟨rfl,Ad _,fun _=>rfl,fun _=>rfl⟩) (fun _ _=>trivial)
  obtain⟨m1,m2⟩:=k1.upd 1000 .dead (g.ρ 1000) (g.ln 1000) (g.tk 1000) none g.S w' none ⟨rfl,rfl,rfl,Ad _⟩ (fun _ _ _=>rfl) (fun b0 e=>by cases e) (fun _ _ h=>h) (fun _ _ h=>.inl h)
   (fun b0 o e=>by cases e) (fun b0 h=>h.elim) sS (fun _=>⟨by simp[Gh.upd],by simp[Gh.upd],fun _=>by simp[Gh.upd],fun _=>by simp[Gh.upd]⟩) (fun _ _=>trivial)
  rw[VZ]at m1 m2;exact⟨_,_,_,_,rfl,⟨rfl,rfl⟩,.v _ _,m1,k2.trans m2⟩
 rcases Ws with ⟨h0,e,_⟩ | ⟨g1,cap,Cl,e1,e2,e3,e4,e5,e6,e7⟩
 .have lX:bs=[]:=AF h0;subst lX;rw[WD,e]at hb;refine(Any.Builder_String_nil Tryz.layBStr Tryz.layBStrX w.heap.size b p w hb).mono ?_
  rintro e' w' ⟨rfl,q⟩
  exact fin w' none ⟨q.os,q.tape,q.output⟩ q.size (fun k hk _=>q.block k hk) (fun b0 h=>by cases h)
 .rw[WD,e1]at hb G1;have Dn:bs≠[]:=fun h=>by rw[h]at e3;exact absurd e3.1 sR
  have bj:Cl.toList.take bs.length=Lib.byteCells bs:=by
   rcases G1.2 with ⟨h,_⟩ | ⟨g3,qN,qO,f1,_,f3,_,_,_,f7⟩
   .cases h
   .injection f1 with f1 _ f2
    injection f1 with f1
    have f1:g1=g3:=by injection f1
    subst f1;rw[e5]at f3
    injection f3 with f3
    injection f3 with f3
    rw[<-f3,Gc]at f7;exact f7
  refine(dh b g1 cap p Cl bs w hb e5 Dn e3.2 e4 e6 (OP bj)).mono ?_
  rintro e' w' ⟨rfl,rfl⟩
  have dR:∀k,k≠g1->(w.drew.freeze ⟨g1,0,none⟩ bs.length).heap[k]?=w.heap[k]?:=fun k hk=>by
   unfold World.freeze;split
   .rfl
   .simp[Array.getElem?_modify,Ne.symm hk];rfl
  have fP:∀o,(w.drew.freeze ⟨g1,0,none⟩ bs.length).cell? ⟨g1,o,none⟩=w.cell? ⟨g1,o,none⟩:=fun o=>by
   have hd:w.drew.heap[g1]?=some (.cells Cl 5 (0,0)):=e5;unfold World.freeze;split
   .rfl
   .simp[World.cell?,Array.getElem?_modify,hd,e5]
  refine fin _ (some g1) ⟨?_,?_,?_⟩ ?_ (fun k _ h=>dR k (fun e=>h (by rw[e]))) (fun b0 h=>by injection h with h;subst h;exact⟨e2,fP,Cl,e5⟩)
  .unfold World.freeze;split<;>rfl
  .unfold World.freeze;split<;>rfl
  .unfold World.freeze;split<;>rfl
  .unfold World.freeze;split
   .exact Ad _
   .show w.heap.size<=(w.heap.modify _ _).size;rw[Array.size_modify];exact Ad _
end Go.Eng
namespace Go.Eng
open Go.Proofs
variable {l:List Cp}
theorem eY(bs:List UInt8)(ps:List ByteArray)(kB:ps.length<=1073741824)(hj:PV TZ ps<=281474976710656)(Dm:(Et TZ ps).size<=1000000000)(hb:bs.length<=1000000000):BL Tryz.prog 56 [sl encStr ps,.ref 1000 0] (AC [(1000,.bld (MI bs)),(1001,.bbf bs.length)] Ao) fun r h'=>r=.tup []/\h'=Ih (bs++(Et TZ ps++IH).data.toList):=by
 refine DK (Wd Dj) [(1000,1000),(1001,1001)] rfl DZ hm rfl Tryz.func56 sT rfl (Nz rfl) sT rfl (Xi .pure (Xi _ (Yi (Yb ps TZ kB hj) (Yi (show(((Et TZ ps).size+IH.size:Nat):Int)<=9223372036854775807 by have e:IH.size=1:=rfl;omega) ?_))));refine Xi (.gen [(1000,1000),(1001,1001)] 0) (Yi rfl (BL.to2 (mC bs (Et TZ ps++IH) (by rw[AR];have e:IH.size=1:=rfl;omega)) ?_));exact Xi _ (Yi (.refl _) Zr)
theorem Vq:∀(a b:List Cp),EB (a++b)=EB a++EB b
 | [],b=>by show EB b=(⟨#[]⟩:ByteArray)++EB b;exact DW sS
 |c::a,b=>by
  show(MT c++IH)++EB (a++b)=((MT c++IH)++EB a)++EB b;rw[Vq a b];exact(Hy).symm
theorem Tc{i:Nat}(h:i<l.length):(EB (l.take i)).data.toList++(Et TZ (aP l[i])++IH).data.toList=(EB (l.take (i+1))).data.toList:=by
 rw[A2,Ge h,Vq,PF];show _=_++(((MT l[i]++IH)++EB [])).data.toList;rw[PF (MT l[i]++IH)];show _=_++(_++([]:List UInt8));rw[BR];rfl
def cN(l:List Cp):AV:=if CD l=0 then .tup [vs (EB l),vi 0]else .tup [vs ⟨#[]⟩,vi (CD l)]
theorem LH(h:CD l=0):Eh (l.map A6)=true/\l.length<=1024:=by
 unfold CD at h;split at h
 .cases h
 .split at h
  .rename_i h1 h2;exact⟨h2,by omega⟩
  .cases h
theorem GT{l:List Sl}(h:Eh l=true):Bw l=true/\∀s∈l,DT s=false:=by
 unfold Eh at h;rw[Ak,CE,HD]at h;exact⟨h.1,fun s hs=>by simpa using h.2 s hs⟩
theorem Jr(h:CD l=0):∀c∈l,DT (A6 c)=false:=fun _ hc=>(GT (LH h).1).2 _ (JS hc)
theorem Yd(l:List Cp)(hl:CC l)(hp:∀c∈l,c.path.size<=100)(hb:∀c∈l,c.bytes.size<=100000000)(oq:CD l=0->∀i,(EB (l.take i)).data.toList.length<=1000000000):PC 24 [sl Aq l] (cN l):=by
 refine Ps ⟨[],[],[],[],[],[],[],[],[(38,5)],[],[]⟩ Tryz.func24 rfl (Nz rfl) (Xi .pure (Xi _ (Yi (GI l hl (fun c hc=>AP (hp c hc) sR)) (Yi (fun h1=>?_) (fun h1=>?_)))))
 .have h1:((CD l):Int)≠(0:Int):=h1;exact D7.of_eq (show AV.tup [vs ⟨#[]⟩,vi (CD l)]=cN l by rw[cN,Aj h1])
 have h1:((CD l):Int)=(0:Int):=Ax h1;have KD:CD l=0:=h1;have kp:=oq KD;have fL:=Jr KD;have p7:∀{i:Nat} (hi:i<l.length),(Et TZ (aP l[i])).size<=1000000000:=fun {i} hi=>by have q:=Og (fL _ (Af hi));have:=hp _ (Af hi);unfold MT at q;omega
 have ke:∀{i:Nat} (hi:i<l.length),PV TZ (aP l[i])<=281474976710656:=fun hi=>by have q:=p7 hi;show(Et TZ _).size<=_;omega
 refine Xi {q:Nat // q<=l.length} (Xi (fun q=>⟨[(5,.ref 5 0),(6,.clo 56 [.ref 5 0]),(17,sl Aq l),(18,vi (l.map Aq).length),(19,vi q.1)],[(5,.bld (MI ((EB (l.take q.1)).data.toList))),(1001,.bbf ((EB (l.take q.1)).data.toList).length)],Ao⟩) (Xi (fun q=>l.length-q.1) (Yi (Xi ⟨0,Ar _⟩ ?_) ?_)))
 .exact⟨Z5,Z2,Fh,Tv⟩
 intro⟨i,i1⟩;have i1:i<=l.length:=i1;refine Yi (fun h3=>?_) (fun h3=>?_)
 .have h3:(i:Int)<((l.map Aq).length:Int):=h3;have n3:=FL h3;have hi:i<l.length:=n3;have nT:=kp i;refine Xi (Aq l[i]) (Yi (GR n3) (Yi rfl (yN (yN (yN (Xi .pure (Xi _ (Yi (show PC 59 [.agg (Dy l[i].ver)] (.tup [vs (Gm l[i].ver.a l[i].ver.b l[i].ver.c),vi 0])from by have q:=jj l[i].ver;rw[lz,XC,XB,Av (LB (fL _ (Af hi))).2,Av (LB (fL _ (Af hi))).2]at q;exact q) ?_))))))));refine Xi _ (Yi (IU l[i].bytes (hb _ (Af hi))) (Xi _ (Yi (jk (Bu l[i].bytes) (by rw[L9];decide)) ?_)));refine Xi [(5,1000),(1001,1001)] (Xi [(1000,.bld (MI ((EB (l.take i)).data.toList))),(1001,.bbf ((EB (l.take i)).data.toList).length)] (Xi [(1000,.bld (MI (((EB (l.take i)).data.toList)++(Et TZ (aP l[i])++IH).data.toList))),(1001,.bbf (((EB (l.take i)).data.toList)++(Et TZ (aP l[i])++IH).data.toList).length)] (Xi [sl encStr (aP l[i]),.ref 1000 0] (Xi (.tup []:AV) (Yi (fun h2 hh=>Yi ((congr (Aa (fun(o o2:HO)=>AC [(1000,o.ren (B5 [(5,1000),(1001,1001)]) h2),(1001,o2.ren (B5 [(5,1000),(1001,1001)]) h2)] Ao) (show h2 5=.bld (MI ((EB (l.take i)).data.toList))from hh 5 sR)) (show h2 1001=.bbf ((EB (l.take i)).data.toList).length from hh 1001 sR)).trans rfl) rfl) (Yi sT (Yi (eY ((EB (l.take i)).data.toList) (aP l[i]) (show 3<=1073741824 by decide) (ke hi) (p7 hi) nT) (Yi sT (Yi (Ii i sP) (Xi ⟨i+1,n3⟩ ?_))))))))));exact⟨Dl l.length i sP,Z5,⟨⟨(Aa (fun z=>HO.bld (MI z)) (Tc hi)),rfl⟩,⟨(Aa (fun z:List UInt8=>HO.bbf z.length) (Tc hi)),rfl⟩,Tv⟩,Fh,Tv⟩
 have h3:¬((i:Int)<((l.map Aq).length:Int)):=h3;have n3:=DC h3;refine Xi (.gen [(5,1000),(1001,1001)] 0) (Yi rfl (BL.to2 (jo ((EB (l.take i)).data.toList)) ?_));exact D7.of_eq (show AV.tup [vs (EB (l.take i)),vi 0]=cN l by rw[cN,Av KD,As (BI (DC h3))])
end Go.Eng
