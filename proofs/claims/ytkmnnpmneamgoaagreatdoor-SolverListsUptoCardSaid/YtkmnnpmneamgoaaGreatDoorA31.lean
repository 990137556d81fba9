/- Lemmas for the claims of this seat, without a condition: part 31 (S32, S33, S34). -/
import Derived.Test.YtkmnnpmneamgoaaGreatDoorA30
namespace Go.Eng
open Go.Proofs
theorem MW(s:List Sl):∀cs∈s.map Ah,cs.length=4:=fun cs h=>by
 obtain⟨x,_,rfl⟩:=Aq.1 h;rfl
abbrev Qg(s:List Sl)(k:Nat):List (List AV):=((s.map Ah).take (((s.map Ah).length:Nat):Int).toNat).drop ((k:Nat):Int).toNat
abbrev jy(s:List Sl)(k:Nat):List (List AV):=((s.map Ah).take ((k:Nat):Int).toNat).drop ((0:Int)).toNat
theorem WF(s:List Sl)(k:Nat):Qg s k=(s.drop k).map Ah:=by
 unfold Qg;rw[A6,A6,Az (Ao _),List.map_drop]
theorem gm(s:List Sl)(k:Nat):jy s k=(s.take k).map Ah:=by
 unfold jy;rw[A6,show(0:Int).toNat=0 from rfl,Ko,Rg]
theorem qc(s:List Sl)(x:Sl)(k:Nat)(h:s.length≤1073741824):B1 4 (Qg s k)∧[Ah x].length=1∧([Ah x].length+(Qg s k).length)*40≤140737488355328∧[Ah x].length+(Qg s k).length≤9223372036854775807:=by
 rw[WF];refine⟨Kw (MW _),rfl,?_,?_⟩<;>rw[Lm,B6,AC]<;>omega
theorem qd(s:List Sl)(x:Sl)(k:Nat)(hk:k≤s.length)(h:s.length≤1073741824):B1 4 ([Ah x]++Qg s k)∧(jy s k).length=((k:Nat):Int).toNat-((0:Int)).toNat∧((jy s k).length+([Ah x]++Qg s k).length)*40≤140737488355328∧(jy s k).length+([Ah x]++Qg s k).length≤9223372036854775807:=by
 rw[WF,gm];refine⟨⟨rfl,Kw (MW _)⟩,?_,?_,?_⟩
 ·rw[Lm,AK,A6];show min k s.length=k-0;omega
 ·rw[Ad,Lm,Lm,AK,B6,AC];omega
 ·rw[Ad,Lm,Lm,AK,B6,AC];omega
theorem r6(s:List Sl)(x:Sl)(k:Nat):jy s k++([Ah x]++Qg s k)=(s.take k++([x]++s.drop k)).map Ah:=by
 rw[WF,gm,AA,AA];rfl
theorem XU{s:List Sl}{x:Sl}{k:Nat}(hs:Po s)(hn:∀y∈s,y.path≠x.path)(h1:∀j (hj:j<s.length),k≤j→EH x.path s[j].path=true)(h2:k=0∨∃h:k-1<s.length,EH x.path s[k-1].path=false)(hk:k≤s.length) :
  Po (s.take k++([x]++s.drop k)):=by
 have T4 : s.Pairwise fun a b=>EH a.path b.path=true:=hs;have ht:∀y∈s.take k,EH y.path x.path=true:=fun y hy=>by
  obtain⟨j,hj,rfl⟩:=CE.1 hy;rw[HY];rw[AK]at hj;have hjs:j<s.length:=by omega
  rcases h2 with h | ⟨h,hb⟩
  ·omega
  ·have Dz:EH s[k-1].path x.path=true:=by
    cases e:EH s[k-1].path x.path with
    |true=>rfl
    |false=>exact absurd (IV e hb) (hn _ (Aj h))
   rcases BV j (k-1)with z | z
   ·exact Ej ((Bl.1 T4) j (k-1) hjs h z) Dz
   ·have:j=k-1:=by omega
    subst this;exact Dz
 have hd:∀y∈s.drop k,EH x.path y.path=true:=fun y hy=>by
  obtain⟨j,hj,rfl⟩:=CE.1 hy;rw[B6]at hj;rw[List.getElem_drop];exact h1 _ (by omega) (by omega)
 show(s.take k++([x]++s.drop k)).Pairwise _;rw[List.pairwise_append];refine⟨T4.sublist (List.take_sublist _ _),?_,fun a ha b hb=>?_⟩
 ·rw[HT,Db];exact⟨hd,T4.sublist (List.drop_sublist _ _)⟩
 ·rw[HT]at hb;rcases AF.1 hb with rfl | hb
  ·exact ht a ha
  ·exact Ej (ht a ha) (hd b hb)
theorem U7(s:List Sl)(x:Sl)(k:Nat):(s.take k++([x]++s.drop k)).Perm (x::s):=by
 have:=List.perm_middle (a:=x) (l₁:=s.take k) (l₂:=s.drop k)
 rw[Ee]at this;exact this
def L4(r:Rl)(l:List Sl):Bool:=r.reqs.any fun q=>l.any fun y=>decide (y.path=q.path)&&!has q.set (place y.ver)
theorem mE{l s:List Sl}{i:Nat}(hn:(l.map (·.path)).Nodup)(hp:s.Perm (l.take i))(hi:i<l.length):∀y∈s,y.path≠l[i].path:=fun y hy e=>by
 obtain⟨j,hj,rfl⟩:=CE.1 (hp.mem_iff.1 hy);rw[HY]at e;rw[AK]at hj
 have:=(Bl.1 hn) j i (by rw[Lm];omega) (by rw[Lm];exact hi) (by omega)
 rw[LM,LM]at this;exact this e
set_option maxHeartbeats 4000000 in
theorem zR(l:List Sl)(hl:CK l)(hn:(l.map (·.path)).Nodup):PC 74 [sl Ah l] (sl Ah (Dm l)):=by
 have hl:l.length≤1073741824:=hl;refine Ps ⟨[],[(3,0)],[],[],[],[],[],[],[],[],[4,7]⟩ Tryz.func74 rfl (Nz rfl) ?_;refine Xi {q:Nat×List Sl // q.1≤l.length∧q.2.Perm (l.take q.1)∧Po q.2} (Xi (fun q=>⟨[(0,sl Ah l),(3,sl Ah q.1.2),(4,vi q.1.1)],[],Aa⟩) (Xi (fun q=>l.length-q.1.1) (Yi (Xi ⟨(0,[]),AL _,.refl _,.nil⟩ ?_) ?_)))
 ·exact⟨Z3,Tv,Fh,Tv⟩
 intro⟨⟨i,s⟩,i1,i2,i3⟩;have i1:i≤l.length:=i1;have i2:s.Perm (l.take i):=i2;have i3:Po s:=i3;have T5:s.length≤l.length:=by have q:=i2.length_eq;rw[AK]at q;omega
 refine Yi (fun h1=>?_) (fun h1=>?_)
 ·have h1:(i:Int)<((l.map Ah).length:Int):=h1;have n1:i<l.length:=by have q:=h1;rw[Lm]at q;omega
  have g1:l[i]?=some l[i]:=Ge n1;refine Xi {q:Nat // q≤s.length∧∀j (hj:j<s.length),q≤j→EH l[i].path s[j].path=true} (Xi (fun q=>⟨[(0,sl Ah l),(3,sl Ah s),(4,vi i),(5,vi q.1)],[],Aa⟩) (Xi (fun q=>q.1) (Yi (Xi ⟨s.length,Ao _,fun j hj IA=>by omega⟩ ?_) ?_)))
  ·exact⟨⟨Zr,Zr,Zr,⟨(show vi ((s.map Ah).length:Int)=vi (s.length:Int) by rw[Lm]),rfl⟩,Tv⟩,Tv,Fh,Tv⟩
  intro⟨k,k1,k2⟩;have k1:k≤s.length:=k1;have k2:∀j (hj:j<s.length),k≤j→EH l[i].path s[j].path=true:=k2;refine Yi (fun h2=>?_) (fun h2=>?_)
  ·have h2:(0:Int)<(k:Int):=h2;refine Yi (by show Bf ((k:Int)-(1:Int));unfold Bf;omega) ?_;have pB:k-1<s.length:=by omega
   refine Xi (Ah (s[k-1])) (Yi (Yi (show(0:Int)≤(k:Int)-1 by omega) (by rw[show((k:Int)-1).toNat=k-1 by omega];exact B5 (Ge pB))) (Yi rfl ?_));refine Xi (Ah l[i]) (Yi (Yi (Nn i) (B5 (Ge n1))) (Yi rfl ?_));refine Yi (fun h3=>?_) (fun h3=>?_)
   ·have h3:EH l[i].path (s[k-1]).path=true:=(Fi _ _).trans h3;refine Yi (by kernel_rfl) ?_;refine Xi ⟨[(0,sl Ah l),(3,sl Ah s),(4,vi i),(5,vi k)],[],Aa⟩ (Yi ⟨Z4,Tv,Fh,Tv⟩ ?_)
    refine Yi (by show Bf ((k:Int)-(1:Int));unfold Bf;omega) ?_;refine Xi ⟨k-1,by omega,fun j hj IA=>by
      rcases BV j k with z | z
      ·have e:j=k-1:=by omega
       subst e;exact h3
      ·exact k2 j hj z⟩ ?_
    exact⟨by show(k-1:Nat)<k;omega,⟨Zr,Zr,Zr,⟨(show vi ((k:Int)-1)=vi ((k-1:Nat):Int)from Ac vi (by omega)),rfl⟩,Tv⟩,Tv,Fh,Tv⟩
   have h3:EH l[i].path (s[k-1]).path=false:=(Fi _ _).trans (AH.2 h3);have Ia:k=0∨∃h:k-1<s.length,EH l[i].path s[k-1].path=false:=.inr ⟨pB,h3⟩;refine Yi (by kernel_rfl) ?_;refine Yi (show(0:Int)≤0∧(0:Int)≤k∧(k:Int)=k∧(k:Int)≤((s.map Ah).length:Nat) by rw[Lm];omega) (Yi (MW s) ?_);refine Xi (Ah l[i]) (Yi (Yi (Nn i) (B5 (Ge n1))) (Yi rfl ?_));refine Yi (Nz rfl) ?_;refine Yi (show(0:Int)≤k∧(k:Int)≤((s.map Ah).length:Nat)∧(((s.map Ah).length:Nat):Int)≤((s.map Ah).length:Nat) by rw[Lm];omega) (Yi (MW s) ?_);refine Yi (qc s l[i] k (by omega)) ?_;refine Yi (qd s l[i] k k1 (by omega)) ?_;refine Yi (by kernel_rfl) ?_;refine Xi ⟨[(0,sl Ah l),(3,.slice .none (jy s k++([Ah l[i]]++Qg s k))),(4,vi i)],[],Aa⟩ (Yi ⟨Z3,Tv,Fh,Tv⟩ ?_)
   refine Yi (Ii i (by omega)) ?_;have mw:l.take (i+1)=l.take i++[l[i]]:=DL n1;have aO:∀y∈s,y.path≠l[i].path:=mE hn i2 n1;refine Xi ⟨(i+1,s.take k++([l[i]]++s.drop k)),n1,by show(s.take k++([l[i]]++s.drop k)).Perm (l.take (i+1));rw[mw];exact(U7 s _ k).trans ((i2.cons _).trans (Od _ _).symm),XU i3 aO k2 Ia k1⟩ ?_;exact⟨Dl l.length i (by omega),⟨Zr,⟨(show AV.slice .none (jy s k++([Ah l[i]]++Qg s k))=sl Ah (s.take k++([l[i]]++s.drop k))from Ac (AV.slice .none) (r6 s l[i] k)),rfl⟩,Zr,Tv⟩,Tv,Fh,Tv⟩
  have h2:¬((0:Int)<(k:Int)):=h2;have Ia:k=0∨∃h:k-1<s.length,EH l[i].path s[k-1].path=false:=.inl (by omega);refine Yi (by kernel_rfl) ?_;refine Yi (show(0:Int)≤0∧(0:Int)≤k∧(k:Int)=k∧(k:Int)≤((s.map Ah).length:Nat) by rw[Lm];omega) (Yi (MW s) ?_);refine Xi (Ah l[i]) (Yi (Yi (Nn i) (B5 (Ge n1))) (Yi rfl ?_));refine Yi (Nz rfl) ?_;refine Yi (show(0:Int)≤k∧(k:Int)≤((s.map Ah).length:Nat)∧(((s.map Ah).length:Nat):Int)≤((s.map Ah).length:Nat) by rw[Lm];omega) (Yi (MW s) ?_);refine Yi (qc s l[i] k (by omega)) ?_;refine Yi (qd s l[i] k k1 (by omega)) ?_;refine Yi (by kernel_rfl) ?_;refine Xi ⟨[(0,sl Ah l),(3,.slice .none (jy s k++([Ah l[i]]++Qg s k))),(4,vi i)],[],Aa⟩ (Yi ⟨Z3,Tv,Fh,Tv⟩ ?_)
  refine Yi (Ii i (by omega)) ?_;have mw:l.take (i+1)=l.take i++[l[i]]:=DL n1;have aO:∀y∈s,y.path≠l[i].path:=mE hn i2 n1;refine Xi ⟨(i+1,s.take k++([l[i]]++s.drop k)),n1,by show(s.take k++([l[i]]++s.drop k)).Perm (l.take (i+1));rw[mw];exact(U7 s _ k).trans ((i2.cons _).trans (Od _ _).symm),XU i3 aO k2 Ia k1⟩ ?_;exact⟨Dl l.length i (by omega),⟨Zr,⟨(show AV.slice .none (jy s k++([Ah l[i]]++Qg s k))=sl Ah (s.take k++([l[i]]++s.drop k))from Ac (AV.slice .none) (r6 s l[i] k)),rfl⟩,Zr,Tv⟩,Tv,Fh,Tv⟩
 have h1:¬((i:Int)<((l.map Ah).length:Int)):=h1;have n1:¬i<l.length:=by have q:=h1;rw[Lm]at q;omega
 have hi:l.take i=l:=Az (by have q:=h1;rw[Lm]at q;omega);exact .of_eq (Ac (fun z=>sl Ah z) (Nx i3 (MX hn) fun y=>by rw[Hl,i2.mem_iff,hi]))
def Ts(q:Rq)(y:Sl):Bool:=decide (y.path=q.path)&&!has q.set (place y.ver)
def hZ(l:List Sl)(q:Rq):Bool:=l.any (Ts q)
theorem la{l:List Sl}{l0:List Sl}{y:Sl}(h:l=l0++[y]):(0:Int)≤((l.map Ah).length:Int)-1∧(l.map Ah)[(((l.map Ah).length:Int)-1).toNat]?=some (Ah y):=by
 subst h;rw[Lm,Ad,AC];refine⟨by omega,?_⟩;rw[show(((l0.length+1:Nat):Int)-1).toNat=l0.length by omega,AA,AR (by rw[Lm];exact Ao _),Lm,Ff];rfl
set_option maxHeartbeats 4000000 in
theorem yo(x:List Rl)(ifs:List (List AV))(l l0:List Sl)(y:Sl)(r:Rl)(hx:∀r∈x,Gf r)(QO:CK x)(hl:l.length≤100000)(hly:l=l0++[y])(hr:FL x ⟨y.path,y.ver⟩=some r)(hv:∀y∈l,CH y.ver=true)(hq:∀q∈r.reqs,CK q.set)(hrl:r.reqs.length≤100000) :
  PC 77 [Mm x ifs,sl Ah l] (vb (L4 r l)):=by
 have tq:(l.map Ah).length=l.length:=Lm _;have qH:=yE x ifs y.path y.ver hx QO;rw[hr]at qH;refine Ps ⟨[2],[],[],[],[],[],[],[],[],[],[2,3,8,10]⟩ Tryz.func77 rfl (Nz rfl) ?_;refine Yi (by show Bf (((l.map Ah).length:Int)-(1:Int));unfold Bf;omega) ?_;refine Xi (Ah y) (Yi (la hly) (Yi rfl ?_));refine Yi (Nz rfl) ?_;refine Yi (Nz rfl) ?_;refine Xi ⟨[(1,sl Ah l),(2,.ref 2 0),(5,.ref 5 0)],[(2,.ro (Ic x ifs)),(5,.cells (Ah y))],Aa⟩ (Yi ⟨Z3,Z2,Fh,Tv⟩ ?_)
 refine Yi (Nz rfl) ?_;refine Yi (Nz rfl) ?_;refine Xi .pure (Xi _ (Yi qH ?_));refine Yi (Nz rfl) ?_;refine Xi ⟨[(1,sl Ah l),(6,.ref 6 0)],[(6,.cells (AY r))],Aa⟩ (Yi ⟨Z2,Z1,Fh,Tv⟩ ?_)
 refine Xi {q:Nat // q≤r.reqs.length∧∀j (hj:j<r.reqs.length),j<q→hZ l r.reqs[j]=false} (Xi (fun q=>⟨[(1,sl Ah l),(6,.ref 6 0),(8,vi q.1)],[(6,.cells (AY r))],Aa⟩) (Xi (fun q=>r.reqs.length-q.1) (Yi (Xi ⟨0,AL _,fun _ _ h=>absurd h (M0 _)⟩ ?_) ?_)))
 ·exact⟨Z3,Z1,Fh,Tv⟩
 intro⟨i,i1,i2⟩;have i1:i≤r.reqs.length:=i1;have i2:∀j (hj:j<r.reqs.length),j<i→hZ l r.reqs[j]=false:=i2;refine Yi (fun h1=>?_) (fun h1=>?_)
 ·have h1:(i:Int)<((r.reqs.map Ap).length:Int):=h1;have n1:i<r.reqs.length:=by have q:=h1;rw[Lm]at q;omega
  have g1:r.reqs[i]?=some r.reqs[i]:=Ge n1;refine Xi {q:Nat // q≤l.length∧∀j (hj:j<l.length),j<q→Ts r.reqs[i] l[j]=false} (Xi (fun q=>⟨[(1,sl Ah l),(6,.ref 6 0),(8,vi i),(9,vi q.1)],[(6,.cells (AY r))],Aa⟩) (Xi (fun q=>l.length-q.1) (Yi (Xi ⟨0,AL _,fun _ _ h=>absurd h (M0 _)⟩ ?_) ?_)))
  ·exact⟨Z4,Z1,Fh,Tv⟩
  intro⟨k,k1,k2⟩;have k1:k≤l.length:=k1;have k2:∀j (hj:j<l.length),j<k→Ts r.reqs[i] l[j]=false:=k2;refine Yi (fun h2=>?_) (fun h2=>?_)
  ·have h2:(k:Int)<((l.map Ah).length:Int):=h2;have n2:k<l.length:=by have q:=h2;rw[Lm]at q;omega
   have g2:l[k]?=some l[k]:=Ge n2;refine Xi (Ah l[k]) (Yi (Yi (Nn k) (B5 g2)) (Yi rfl ?_));refine Xi (Ap r.reqs[i]) (Yi (Yi (Nn i) (B5 g1)) (Yi rfl ?_));refine Yi (fun h3=>?_) (fun h3=>?_)
   ·have h3:(l[k].path:ByteArray)=r.reqs[i].path:=h3;refine Xi (Ap r.reqs[i]) (Yi (Yi (Nn i) (B5 g1)) (Yi rfl ?_));refine Xi (Ah l[k]) (Yi (Yi (Nn k) (B5 g2)) (Yi rfl ?_));refine Yi (Nz rfl) ?_;refine Xi _ (Yi (td l[k].ver (hv _ (Aj n2))) ?_);refine BG (Bt (has r.reqs[i].set (place l[k].ver))) (fun h4=>?_) (fun h4=>?_)
    ·have h4:(has r.reqs[i].set (place l[k].ver))=true:=h4;have gg:=(jX r.reqs[i].set (place l[k].ver) (hq _ (Aj n1)));rw[show(has r.reqs[i].set (place l[k].ver))=true from h4]at gg;refine Xi _ (Yi gg ?_);refine Yi (by kernel_rfl) ?_;refine Xi ⟨[(1,sl Ah l),(6,.ref 6 0),(8,vi i),(9,vi k)],[(6,.cells (AY r))],Aa⟩ (Yi ⟨Z4,Z1,Fh,Tv⟩ ?_)
     refine Yi (Ii k (by omega)) ?_;have rI:Ts r.reqs[i] l[k]=false:=by unfold Ts;rw[Av h3,h4];rfl
     refine Xi ⟨k+1,n2,fun j hj IA=>if e:j<k then k2 j hj e else by
       have e:j=k:=by omega
       subst e;exact rI⟩ ?_
     exact⟨Dl l.length k (by omega),Z4,Z1,Fh,Tv⟩
    have h4:(has r.reqs[i].set (place l[k].ver))=false:=h4;have rf:=(jX r.reqs[i].set (place l[k].ver) (hq _ (Aj n1)));rw[show(has r.reqs[i].set (place l[k].ver))=false from h4]at rf;refine Xi _ (Yi rf ?_);refine Yi (by kernel_rfl) ?_;refine Xi ⟨[],[],Aa⟩ (Yi ⟨Tv,Tv,Fh,Tv⟩ ?_)
    exact .of_eq (Ac vb (show true=L4 r l from(A3.2 ⟨r.reqs[i],Aj n1,A3.2 ⟨l[k],Aj n2,by rw[Av h3,h4];rfl⟩⟩).symm))
   have h3:¬(l[k].path:ByteArray)=r.reqs[i].path:=h3;refine Yi (by kernel_rfl) ?_;refine Xi ⟨[(1,sl Ah l),(6,.ref 6 0),(8,vi i),(9,vi k)],[(6,.cells (AY r))],Aa⟩ (Yi ⟨Z4,Z1,Fh,Tv⟩ ?_)
   refine Yi (Ii k (by omega)) ?_;have rI:Ts r.reqs[i] l[k]=false:=by unfold Ts;rw[At h3];rfl
   refine Xi ⟨k+1,n2,fun j hj IA=>if e:j<k then k2 j hj e else by
     have e:j=k:=by omega
     subst e;exact rI⟩ ?_
   exact⟨Dl l.length k (by omega),Z4,Z1,Fh,Tv⟩
  have h2:¬((k:Int)<((l.map Ah).length:Int)):=h2;have n2:¬k<l.length:=by have q:=h2;rw[Lm]at q;omega
  refine Yi (Ii i (by omega)) ?_;refine Xi ⟨i+1,n1,fun j hj IA=>if e:j<i then i2 j hj e else by
    have e:j=i:=by omega
    subst e;exact CL.2 fun y hy=>by
     obtain⟨m,hm,rfl⟩:=CE.1 hy;rw[k2 m hm (by have q:=h2;rw[Lm]at q;omega)];decide⟩ ?_
  exact⟨Dl r.reqs.length i (by omega),Z3,Z1,Fh,Tv⟩
 have h1:¬((i:Int)<((r.reqs.map Ap).length:Int)):=h1;have n1:¬i<r.reqs.length:=by have q:=h1;rw[Lm]at q;omega
 have hcf:L4 r l=false:=CL.2 fun q hq=>by
  obtain⟨m,hm,rfl⟩:=CE.1 hq;show ¬hZ l r.reqs[m]=true;rw[i2 m hm (by have q:=h1;rw[Lm]at q;omega)];decide
 exact .of_eq (Ac vb hcf.symm)
end Go.Eng

namespace Go.Eng
open Go.Proofs
def tk(F:List (List Sl))(L:List (List Cd))(m:Nat):List (List Sl):=F++(LV L).take (m-F.length)
theorem jk(F:List (List Sl))(m:Nat):tk F [] m=F:=by unfold tk;simp
theorem ah{F:List (List Sl)}{L M:List (List Cd)}{m:Nat}(h:(tk F L m).length<m):tk F (L++M) m=tk (tk F L m) M m:=by
 have hl:(LV L).length≤m-F.length:=by
  unfold tk at h;rw[Ad,AK]at h;omega
 have e:tk F L m=F++LV L:=by unfold tk;rw[Az hl]
 rw[e];unfold tk;rw[show LV (L++M)=LV L++LV M from AA,List.take_append,Az hl,Ad,BU,Nat.sub_sub]
theorem bo{F:List (List Sl)}{L M:List (List Cd)}{m:Nat}(h:m≤(tk F L m).length)(hF:F.length≤m):tk F (L++M) m=tk F L m:=by
 unfold tk at h⊢;rw[Ad,AK]at h;rw[show LV (L++M)=LV L++LV M from AA,D8 (by omega)]
def LH(x:List Rl)(roots:List Rq)(n:Nat)(dec:List Cd)(N:List Nd)(p:ByteArray)(r:Rl):List (List Cd):=if r.path=p∧r.yanked=false then Ro x roots n dec N ⟨plc r.ver,r⟩else []
def VE(f:Rl→List (List Cd))(x:List Rl)(i:Nat):List (List Cd):=((x.take i).map f).flatten
theorem YB(f:Rl→List (List Cd))(x:List Rl):VE f x 0=[]:=rfl
theorem Pi{f:Rl→List (List Cd)}{x:List Rl}{i:Nat}(h:i<x.length):VE f x (i+1)=VE f x i++f x[i]:=by
 unfold VE;rw[DL h,AA,Cc];simp
theorem IL{f:Rl→List (List Cd)}{x:List Rl}{i:Nat}(h:i<x.length)(hf:f x[i]=[]):VE f x (i+1)=VE f x i:=by rw[Pi h,hf,CY]
theorem VF(f:Rl→List (List Cd))(x:List Rl)(i:Nat):VE f x x.length=VE f x i++((x.drop i).map f).flatten:=by
 unfold VE;rw[Do,←Cc,←AA,Ee]
theorem YY{α:Type}(x:List Rl)(p:ByteArray)(g:Cd→List α):((BH x p).map g).flatten=(x.map fun r=>if r.path=p∧r.yanked=false then g ⟨plc r.ver,r⟩else []).flatten:=by
 induction x with
 |nil=>rfl
 |cons r x ih =>
  unfold BH at ih⊢
  by_cases h:r.path=p∧r.yanked=false
  ·rw[JL (by simp[h.1,h.2]),AN,AN,Bq,ih,AN,Bq,AB h]
  ·rw[JK (by simpa using h),ih,AN,Bq,Ar h];rfl
theorem Zy{x:List Rl}{roots:List Rq}{n:Nat}{dec:List Cd}{n0:Nd}{l:List Nd}(h:(EO roots dec).2=n0::l) :
  BS x roots (n+1) dec=VE (LH x roots n dec (n0::l) (EO roots dec).1) x x.length:=by
 unfold BS VE;rw[h,Do];exact YY x _ _
theorem RZ{α:Type}{f g:α→Bool}:∀{l:List α},(∀a∈l,f a=g a)→l.any f=l.any g
 | [],_=>rfl
 |a::l,h=>by rw[BW,BW,h a (Ab ..),RZ fun b hb=>h b (Ai _ hb)]
section
variable {x:List Rl}{roots:List Rq}{dec:List Cd}
theorem Tt(hx:A7 x=0)(hd:DY x dec):EB x roots (Am dec)=DD roots dec:=by
 unfold EB DD
 congr 2
 rw[BX];refine Ba fun c hc=>?_;have h:=I8 hx (hd.cand c hc).1;show Hb x (M4 c)=c.rel.reqs;unfold Hb;rw[show M4 c=Fz c.rel from rfl,h]
theorem Oy{p:ByteArray}{N:List Nd}(hN:jM roots dec p N)(k:Int):Gw (DD roots dec) p k=false↔∀n∈N,has n.rq.set k=true:=by
 unfold Gw;rw[CL,←Jf];constructor
 ·intro h n hn;obtain⟨h1,h2⟩:=(hN.mem n).1 hn
  have:=h n.rq (Aq.2 ⟨n,h1,rfl⟩)
  rw[Av h2]at this;simpa using this
 ·intro h q hq;obtain⟨n,h1,rfl⟩:=Aq.1 hq
  by_cases h2:n.rq.path=p
  ·rw[h n ((hN.mem n).2 ⟨h1,h2⟩)];simp
  ·rw[At h2];simp
theorem Sm(hx:A7 x=0){c:Cd}(hd:DY x (dec++[c])):L4 c.rel (Am (dec++[c]))=(Co dec c).isSome:=by
 have mo:∀d∈dec++[c],d.place=place d.rel.ver:=fun d h=>by
  have h1:=hd.cand d h;rw[h1.2.2,((CN hx).1 _ h1.1).plc]
 have hm:∀n:Nd,Tq (dec++[c]) n=(Am (dec++[c])).any fun y=>decide (y.path=n.rq.path)&&!has n.rq.set (place y.ver):=fun n=>by
  unfold Tq;rw[List.any_map];exact RZ fun d h=>by
   show _=(decide (d.rel.path=n.rq.path)&&!has n.rq.set (place d.rel.ver));rw[mo d h]
 unfold Co;rw[List.isSome_find?];unfold L4 O5;have key:∀(l:List Rq) (i:Nat),((Lo (fun q i=>(⟨q,c.rel.path,c.place,i⟩:Nd)) i l).any (Tq (dec++[c])))=l.any fun q=>(Am (dec++[c])).any fun y=>decide (y.path=q.path)&&!has q.set (place y.ver):=fun l=>by
  induction l with
  |nil=>intro i;rfl
  |cons q l ih =>
   intro i;unfold Lo;rw[BW,BW,ih,hm]
 exact(key _ _).symm
end
end Go.Eng

namespace Go.Eng
open Go.Proofs
def BT(x:List Rl)(ifs:List (List AV))(roots:List Rq)(n:Nat)(dec:List Cd):Prop:=∀(F:List (List Sl)) (m:Nat),F.length<m→m≤1024 →
 Bo Tryz.prog 32 [Mm x ifs,sl Ap roots,sl Ah (Am dec),.slice (.id 1000 1) (F.map Bs),vi (m:Nat)] (Af [(1000,.tok 1 F.length)] Aa) fun r h' =>
  r=.slice (.id 1000 1) ((tk F (BS x roots n dec) m).map Bs)∧h'=Af [(1000,.tok 1 (tk F (BS x roots n dec) m).length)] Aa
def RN(o:List (List Sl))(r:AV)(h' : Nat→HO):Prop:=match o with
 | []=>r=.v (.slice none 0 0)∧h'=Af [] Aa
 |y::ys=>r=.slice (.id 2000 1) ((y::ys).map Bs)∧h'=Af [(2000,.tok 1 (y::ys).length)] Aa
def BN(x:List Rl)(ifs:List (List AV))(roots:List Rq)(n:Nat)(dec:List Cd):Prop:=∀(m:Nat),0<m→m≤1024 →
 Bo Tryz.prog 32 [Mm x ifs,sl Ap roots,sl Ah (Am dec),.v (.slice none 0 0),vi (m:Nat)] (Af [] Aa) (RN (tk [] (BS x roots n dec) m))
structure tT(x:List Rl)(ifs:List (List AV))(roots:List Rq)(n:Nat)(dec:List Cd)(p:ByteArray)(n0:Nd)(l:List Nd):Prop where
 hE0:A7 x=0
 hx:∀r∈x,Gf r
 hxf:CK x
 hr:∀q∈roots,H4 q
 hrn:roots.length≤1000
 hdl:dec.length≤1000
 hv:∀r∈x,CH r.ver=true
 hplc:∀r∈x,plc r.ver=place r.ver
 hrl:∀r∈x,r.reqs.length≤100000
 hneeds:EB x roots (Am dec)=DD roots dec
 hNx:jM roots dec p (n0::l)
 hDec:∀c∈BH x p,DY x (dec++[c])
 hval:∀c∈BH x p,∀y∈Am (dec++[c]),CH y.ver=true
 ihT:∀c∈BH x p,BT x ifs roots n (dec++[c])
 ihN:∀c∈BH x p,BN x ifs roots n (dec++[c])
theorem Ws{x:List Rl}{roots:List Rq}{n:Nat}{dec:List Cd}{N:List Nd}{p:ByteArray}{r:Rl}(hN:jM roots dec p N)(hp:plc r.ver=place r.ver)(h:Gw (DD roots dec) p (place r.ver)=true):LH x roots n dec N p r=[]:=by
 unfold LH;split
 ·unfold Ro;rw[Ar];intro hc;have q:=(Oy hN (place r.ver)).2 fun m hm=>by have z:=(GL.1 hc).1 m hm;rw[←hp];exact z
  rw[h]at q;cases q
 ·rfl
theorem gW{x:List Rl}{roots:List Rq}{n:Nat}{dec:List Cd}{N:List Nd}{p:ByteArray}{r:Rl}(h:(Co dec ⟨plc r.ver,r⟩).isSome=true):LH x roots n dec N p r=[]:=by
 unfold LH;split
 ·unfold Ro;rw[Ar];intro hc;rw[(GL.1 hc).2]at h;cases h
 ·rfl
theorem MN{dec:List Cd}{r:Rl}{p:ByteArray}(h:r.path=p):(Am dec).map Ah++[[vs p,vi r.ver.a,vi r.ver.b,vi r.ver.c]]=(Am (dec++[(⟨plc r.ver,r⟩:Cd)])).map Ah:=by
 subst h;unfold Am;rw[AA,AA];rfl
theorem ZH{α:Type}(o:List α):o=[]∨∃y ys,o=y::ys:=by cases o with | nil=>exact .inl rfl | cons y ys=>exact .inr ⟨y,ys,rfl⟩
set_option maxHeartbeats 8000000 in
theorem yd(x:List Rl)(ifs:List (List AV))(roots:List Rq)(n:Nat)(dec:List Cd)(p:ByteArray)(n0:Nd)(l:List Nd)(m:Nat)(F:List (List Sl))(hF:F.length<m)(hL:tT x ifs roots n dec p n0 l)(SV:BS x roots (n+1) dec=VE (LH x roots n dec (n0::l) p) x x.length)(PL:m≤1024) :
  Bo Tryz.prog 32 [.agg (Ic x ifs),sl Ap roots,sl Ah (Am dec),.slice (.id 1000 1) (F.map Bs),vi (m:Nat)] (Af [(1000,.tok 1 F.length)] Aa) (fun r h'=>r=.slice (.id 1000 1) ((tk F (BS x roots (n+1) dec) m).map Bs)∧h'=Af [(1000,.tok 1 (tk F (BS x roots (n+1) dec) m).length)] Aa):=by
 obtain⟨hE0,hx,hxf,hr,hrn,hdl,hv,hplc,hrl,hneeds,hNx,hDec,hval,ihT,ihN⟩:=hL;have wZ:x.length≤1073741824:=hxf;have PL:m≤1024:=PL;have Lj:=tb x ifs roots (Am dec) hx hxf (by omega) (by rw[Lm];omega);rw[hneeds]at Lj;unfold O0 at Lj;rw[hNx.next]at Lj
 have Zh:∀(q:ByteArray) (k:Int),PC 75 [Mm x ifs,sl Ap roots,sl Ah (Am dec),vs q,vi k] (vb (Gw (DD roots dec) q k)):=fun q k=>by
  have:=qk x ifs roots (Am dec) q k hx hxf (fun q hq=>(hr q hq).1) (by omega) (by rw[Lm];omega)
  rw[hneeds]at this;exact this
 refine CF (MG ⟨[5,14],[],[],[],[],[],[],[],[],[],[2,4,6,7,8,9,10,11]⟩) [(1000,1000)] rfl CG hm rfl Tryz.func32 (by kernel_rfl) rfl (Nz rfl) (by kernel_rfl) rfl ?_;refine Yi (Nz rfl) ?_;refine Xi .pure (Xi _ (Yi Lj ?_));refine Xi ⟨[(1,sl Ap roots),(2,sl Ah (Am dec)),(3,.slice (.id 1000 1) (F.map Bs)),(4,vi (m:Nat)),(5,.ref 5 0),(11,vs p),(12,vb true)],[(5,.ro (Ic x ifs)),(1000,.tok 1 F.length)],Aa⟩ (Yi ⟨Z7,Z2,Fh,As (by kernel_rfl)⟩ ?_)
 refine Xi ⟨[(1,sl Ap roots),(2,sl Ah (Am dec)),(3,.slice (.id 1000 1) (F.map Bs)),(4,vi (m:Nat)),(5,.ref 5 0),(11,vs p)],[(5,.ro (Ic x ifs)),(1000,.tok 1 F.length)],Aa⟩ (Yi ⟨Z6,Z2,Fh,As (by kernel_rfl)⟩ ?_)
 refine Xi {q:Nat×List (List Sl) // q.1≤x.length∧q.2=tk F (VE (LH x roots n dec (n0::l) p) x q.1) m} (Xi (fun q=>⟨[(1,sl Ap roots),(2,sl Ah (Am dec)),(3,.slice (.id 1000 1) (q.1.2.map Bs)),(4,vi (m:Nat)),(5,.ref 5 0),(11,vs p),(13,vi q.1.1)],[(5,.ro (Ic x ifs)),(1000,.tok 1 q.1.2.length)],Aa⟩) (Xi (fun q=>x.length-q.1.1) (Yi (Xi ⟨(0,F),AL _,by rw[YB,jk]⟩ ?_) ?_)))
 ·exact⟨Z7,Z2,Fh,As (by kernel_rfl)⟩
 intro⟨⟨i,o⟩,i1,i2⟩;have i1:i≤x.length:=i1;have i2:o=tk F (VE (LH x roots n dec (n0::l) p) x i) m:=i2;refine Yi (fun h1=>?_) (fun h1=>?_)
 ·have h1:(i:Int)<((x.map AY).length:Int):=h1;have n1:i<x.length:=by have q:=h1;rw[Lm]at q;omega
  have g1:x[i]?=some x[i]:=Ge n1;refine Yi (fun h2=>?_) (fun h2=>?_)
  ·have h2:((o.map Bs).length:Int)<((m:Nat):Int):=h2;have rL:o.length<m:=by have q:=h2;rw[Lm]at q;omega
   refine Xi ⟨[(1,sl Ap roots),(2,sl Ah (Am dec)),(3,.slice (.id 1000 1) (o.map Bs)),(4,vi (m:Nat)),(5,.ref 5 0),(11,vs p),(13,vi i)],[(5,.ro (Ic x ifs)),(1000,.tok 1 o.length)],Aa⟩ (Yi ⟨Z7,Z2,Fh,As (by kernel_rfl)⟩ ?_)
   refine Xi (AY x[i]) (Yi (Yi (Nn i) (B5 g1)) (Yi rfl ?_));refine Yi (Nz rfl) ?_;refine Yi (Nz rfl) ?_;refine Xi ⟨[(1,sl Ap roots),(2,sl Ah (Am dec)),(3,.slice (.id 1000 1) (o.map Bs)),(4,vi (m:Nat)),(5,.ref 5 0),(11,vs p),(13,vi i),(14,.ref 14 0)],[(5,.ro (Ic x ifs)),(14,.ro (AY x[i])),(1000,.tok 1 o.length)],Aa⟩ (Yi ⟨Z8,Z3,Fh,As (by kernel_rfl)⟩ ?_)
   refine Yi (fun h4=>?_) (fun h4=>?_)
   ·have h4:(x[i].path:ByteArray)≠p:=h4;refine Yi (by kernel_rfl) ?_;refine Xi ⟨[(1,sl Ap roots),(2,sl Ah (Am dec)),(3,.slice (.id 1000 1) (o.map Bs)),(4,vi (m:Nat)),(5,.ref 5 0),(11,vs p),(13,vi i)],[(5,.ro (Ic x ifs)),(1000,.tok 1 o.length)],Aa⟩ (Yi ⟨Z7,Z2,Fh,As (by kernel_rfl)⟩ ?_)
    refine Yi (Ii i (by omega)) ?_;have Jc:(LH x roots n dec (n0::l) p) x[i]=[]:=by unfold LH;rw[Ar (fun h=>h4 h.1)]
    refine Xi ⟨(i+1,o),n1,by rw[i2,IL n1 Jc]⟩ ?_;exact⟨Dl x.length i (by omega),Z7,Z2,Fh,As (by kernel_rfl)⟩
   have h4:(x[i].path:ByteArray)=p:=Cs h4;refine Yi (fun h6=>?_) (fun h6=>?_)
   ·have h6:x[i].yanked=true:=h6;refine Yi (by kernel_rfl) ?_;refine Xi ⟨[(1,sl Ap roots),(2,sl Ah (Am dec)),(3,.slice (.id 1000 1) (o.map Bs)),(4,vi (m:Nat)),(5,.ref 5 0),(11,vs p),(13,vi i)],[(5,.ro (Ic x ifs)),(1000,.tok 1 o.length)],Aa⟩ (Yi ⟨Z7,Z2,Fh,As (by kernel_rfl)⟩ ?_)
    refine Yi (Ii i (by omega)) ?_;have Jc:(LH x roots n dec (n0::l) p) x[i]=[]:=by unfold LH;rw[Ar (fun h=>by rw[h6]at h;cases h.2)]
    refine Xi ⟨(i+1,o),n1,by rw[i2,IL n1 Jc]⟩ ?_;exact⟨Dl x.length i (by omega),Z7,Z2,Fh,As (by kernel_rfl)⟩
   have h6:x[i].yanked=false:=h6;refine Yi (Nz rfl) ?_;refine Yi (Nz rfl) ?_;refine Xi _ (Yi (td x[i].ver (hv _ (Aj n1))) ?_);refine BG (Bt (Gw (DD roots dec) p (place x[i].ver))) (fun h8=>?_) (fun h8=>?_)
   ·have h8:(Gw (DD roots dec) p (place x[i].ver))=true:=h8;have yW:=(Zh p (place x[i].ver));rw[show(Gw (DD roots dec) p (place x[i].ver))=true from h8]at yW;refine Xi _ (Yi yW ?_);refine Yi (by kernel_rfl) ?_;refine Xi ⟨[(1,sl Ap roots),(2,sl Ah (Am dec)),(3,.slice (.id 1000 1) (o.map Bs)),(4,vi (m:Nat)),(5,.ref 5 0),(11,vs p),(13,vi i)],[(5,.ro (Ic x ifs)),(1000,.tok 1 o.length)],Aa⟩ (Yi ⟨Z7,Z2,Fh,As (by kernel_rfl)⟩ ?_)
    refine Yi (Ii i (by omega)) ?_;have Jc:(LH x roots n dec (n0::l) p) x[i]=[]:=Ws hNx (hplc _ (Aj n1)) h8;refine Xi ⟨(i+1,o),n1,by rw[i2,IL n1 Jc]⟩ ?_;exact⟨Dl x.length i (by omega),Z7,Z2,Fh,As (by kernel_rfl)⟩
   have h8:(Gw (DD roots dec) p (place x[i].ver))=false:=h8;have qT:=(Zh p (place x[i].ver));rw[show(Gw (DD roots dec) p (place x[i].ver))=false from h8]at qT;refine Xi _ (Yi qT ?_);refine Yi (by kernel_rfl) ?_;refine Xi ⟨[(1,sl Ap roots),(2,sl Ah (Am dec)),(3,.slice (.id 1000 1) (o.map Bs)),(4,vi (m:Nat)),(5,.ref 5 0),(11,vs p),(13,vi i),(14,.ref 14 0)],[(5,.ro (Ic x ifs)),(14,.ro (AY x[i])),(1000,.tok 1 o.length)],Aa⟩ (Yi ⟨Z8,Z3,Fh,As (by kernel_rfl)⟩ ?_)
   have pj:B1 4 ((Am dec).map Ah)∧([]:List (List AV)).length=0∧(([]:List (List AV)).length+((Am dec).map Ah).length)*40≤140737488355328∧([]:List (List AV)).length+((Am dec).map Ah).length≤9223372036854775807:=⟨(DQ (enc:=Ah) (n:=4) (fun _=>rfl) (Am dec)),(by first | (simp;done) | (rw[Lm];assumption)),(by simp only[Lm,Al];omega),(by simp only[Lm,Al];omega)⟩
   refine Yi pj ?_;refine Yi (Nz rfl) ?_;have t7:B1 4 [[vs p,vi x[i].ver.a,vi x[i].ver.b,vi x[i].ver.c]]∧(([]++((Am dec).map Ah)):List (List AV)).length=(([]:List (List AV)).length+((Am dec).map Ah).length)∧((([]++((Am dec).map Ah)):List (List AV)).length+([[vs p,vi x[i].ver.a,vi x[i].ver.b,vi x[i].ver.c]]:List (List AV)).length)*40≤140737488355328∧(([]++((Am dec).map Ah)):List (List AV)).length+([[vs p,vi x[i].ver.a,vi x[i].ver.b,vi x[i].ver.c]]:List (List AV)).length≤9223372036854775807:=⟨⟨rfl,trivial⟩,(by first | (simp;done) | (rw[Lm];assumption)),(by simp only[Lm,Ad,Ak,Al];omega),(by simp only[Lm,Ad,Ak,Al];omega)⟩
   refine Yi t7 ?_;refine Yi (by kernel_rfl) ?_;have Rk:x[i].path=p:=h4;have Xx:(⟨plc x[i].ver,x[i]⟩:Cd)∈BH x p:=G7.2 ⟨x[i],Aj n1,Rk,h6,rfl⟩;have hD:=hDec (⟨plc x[i].ver,x[i]⟩:Cd) Xx;refine Xi ⟨[(1,sl Ap roots),(2,sl Ah (Am dec)),(3,.slice (.id 1000 1) (o.map Bs)),(4,vi (m:Nat)),(5,.ref 5 0),(11,vs p),(13,vi i),(15,.slice (.id 66 4) ((Am (dec++[(⟨plc x[i].ver,x[i]⟩:Cd)])).map Ah))],[(5,.ro (Ic x ifs)),(66,.tok 4 ((Am (dec++[(⟨plc x[i].ver,x[i]⟩:Cd)])).map Ah).length),(1000,.tok 1 o.length)],Aa⟩ (Yi ⟨⟨Zr,Zr,Zr,Zr,Zr,Zr,Zr,⟨(show(.slice (.id 66 4) (([]++((Am dec).map Ah))++[[vs p,vi x[i].ver.a,vi x[i].ver.b,vi x[i].ver.c]]):AV)=.slice (.id 66 4) ((Am (dec++[(⟨plc x[i].ver,x[i]⟩:Cd)])).map Ah)from Ac (AV.slice (.id 66 4)) (MN Rk)),rfl⟩,Tv⟩,⟨Zr,⟨(show(.tok 4 ((([]++((Am dec).map Ah)):List (List AV)).length+([[vs p,vi x[i].ver.a,vi x[i].ver.b,vi x[i].ver.c]]:List (List AV)).length):HO)=.tok 4 ((Am (dec++[(⟨plc x[i].ver,x[i]⟩:Cd)])).map Ah).length by rw[←MN (dec:=dec) Rk];simp),rfl⟩,Zr,Tv⟩,Fh,As (by kernel_rfl)⟩ ?_)
   refine Yi (Nz rfl) ?_;have SP:=yo x ifs (Am (dec++[(⟨plc x[i].ver,x[i]⟩:Cd)])) (Am dec) (M4 (⟨plc x[i].ver,x[i]⟩:Cd)) x[i] hx hxf (by rw[Lm,Ad,AC];omega) (by unfold Am;rw[AA];rfl) (I8 hE0 (Aj n1)) (fun y hy=>hval (⟨plc x[i].ver,x[i]⟩:Cd) Xx y hy) (fun q hq=>((hx _ (Aj n1)).2 q hq).1) (hrl _ (Aj n1));have hcl:L4 x[i] (Am (dec++[(⟨plc x[i].ver,x[i]⟩:Cd)]))=(Co dec (⟨plc x[i].ver,x[i]⟩:Cd)).isSome:=Sm hE0 hD;rw[hcl]at SP;refine BG (Bt (Co dec (⟨plc x[i].ver,x[i]⟩:Cd)).isSome) (fun Xu=>?_) (fun Xu=>?_)
   ·have Xu:(Co dec (⟨plc x[i].ver,x[i]⟩:Cd)).isSome=true:=Xu;have Xv:=SP;rw[show(Co dec (⟨plc x[i].ver,x[i]⟩:Cd)).isSome=true from Xu]at Xv;refine Xi .pure (Xi _ (Yi Xv ?_));refine Xi ⟨[(1,sl Ap roots),(2,sl Ah (Am dec)),(3,.slice (.id 1000 1) (o.map Bs)),(4,vi (m:Nat)),(5,.ref 5 0),(11,vs p),(13,vi i)],[(5,.ro (Ic x ifs)),(1000,.tok 1 o.length)],Aa⟩ (Yi ⟨Z7,Z2,Fh,As (by kernel_rfl)⟩ ?_)
    refine Yi (Ii i (by omega)) ?_;have Jc:(LH x roots n dec (n0::l) p) x[i]=[]:=gW Xu;refine Xi ⟨(i+1,o),n1,by rw[i2,IL n1 Jc]⟩ ?_;exact⟨Dl x.length i (by omega),Z7,Z2,Fh,As (by kernel_rfl)⟩
   have Xu:(Co dec (⟨plc x[i].ver,x[i]⟩:Cd)).isSome=false:=Xu;have qV:=SP;rw[show(Co dec (⟨plc x[i].ver,x[i]⟩:Cd)).isSome=false from Xu]at qV;refine Xi .pure (Xi _ (Yi qV ?_));refine Xi ⟨[(1,sl Ap roots),(2,sl Ah (Am dec)),(3,.slice (.id 1000 1) (o.map Bs)),(4,vi (m:Nat)),(5,.ref 5 0),(11,vs p),(13,vi i),(15,.slice (.id 66 4) ((Am (dec++[(⟨plc x[i].ver,x[i]⟩:Cd)])).map Ah))],[(5,.ro (Ic x ifs)),(66,.tok 4 ((Am (dec++[(⟨plc x[i].ver,x[i]⟩:Cd)])).map Ah).length),(1000,.tok 1 o.length)],Aa⟩ (Yi ⟨Z8,Z3,Fh,As (by kernel_rfl)⟩ ?_)
   refine Yi (Nz rfl) ?_;have FO:Vk dec (n0::l) (⟨plc x[i].ver,x[i]⟩:Cd)=true:=GL.2 ⟨fun m hm=>by have q:=(Oy hNx (place x[i].ver)).1 h8 m hm;rw[←hplc _ (Aj n1)]at q;exact q,by have q:=Xu;simpa using q⟩;have Jc:(LH x roots n dec (n0::l) p) x[i]=(BS x roots n (dec++[(⟨plc x[i].ver,x[i]⟩:Cd)])):=by unfold LH Ro;rw[AB ⟨Rk,h6⟩,AB FO]
   have SW:=ihT (⟨plc x[i].ver,x[i]⟩:Cd) Xx o m rL PL;refine Xi (.gen [(1000,1000)] 0) (Yi rfl (Bo.imp SW ?_));intro v18 g18 zD;have xm:=zD.1;have xn:=zD.2;subst xm;subst xn;refine Xi ⟨[(1,sl Ap roots),(2,sl Ah (Am dec)),(3,.slice (.id 1000 1) ((tk o (BS x roots n (dec++[(⟨plc x[i].ver,x[i]⟩:Cd)])) m).map Bs)),(4,vi (m:Nat)),(5,.ref 5 0),(11,vs p),(13,vi i)],[(5,.ro (Ic x ifs)),(1000,.tok 1 (tk o (BS x roots n (dec++[(⟨plc x[i].ver,x[i]⟩:Cd)])) m).length)],Aa⟩ (Yi ⟨Z7,Z2,Fh,As (by kernel_rfl)⟩ ?_)
   refine Yi (Ii i (by omega)) ?_;refine Xi ⟨(i+1,(tk o (BS x roots n (dec++[(⟨plc x[i].ver,x[i]⟩:Cd)])) m)),n1,by rw[Pi n1,Jc,ah (by rw[←i2];exact rL),←i2]⟩ ?_;exact⟨Dl x.length i (by omega),Z7,Z2,Fh,As (by kernel_rfl)⟩
  have h2:¬(((o.map Bs).length:Int)<((m:Nat):Int)):=h2;have eo:o=tk F (BS x roots (n+1) dec) m:=by
   rw[i2,SV,VF _ x i,bo (by rw[←i2];have q:=h2;rw[Lm]at q;omega) (by omega)]
  rw[←eo];exact Xi _ (Yi (.refl _) Zr)
 have h1:¬((i:Int)<((x.map AY).length:Int)):=h1;have n1:¬i<x.length:=by have q:=h1;rw[Lm]at q;omega
 have eo:o=tk F (BS x roots (n+1) dec) m:=by
  rw[i2,SV,show i=x.length by have q:=h1;rw[Lm]at q;omega]
 rw[←eo];exact Xi _ (Yi (.refl _) Zr)
end Go.Eng
