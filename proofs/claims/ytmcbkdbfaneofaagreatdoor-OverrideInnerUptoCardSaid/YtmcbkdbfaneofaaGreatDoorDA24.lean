/- Lemmas for the claims of this seat, without a condition: part 24 (O6, O7, O8). -/
import Derived.Test.YtmcbkdbfaneofaaGreatDoorDA23
set_option maxHeartbeats 4000000
namespace Go.Eng
open Go.Proofs
abbrev kept{α:Type}(p:α→Bool)(l:List α):List α:=l.filter fun x=>!p x
theorem JK{α:Type}(p:α→Bool)(l:List α):(kept p l).length≤l.length:=BE _ _
theorem Ku{α:Type}{p:α→Bool}{l:List α}{j:Nat}(h:j<l.length):kept p (l.take (j+1))=kept p (l.take j)++(if p l[j]=true then []else [l[j]]):=by
 unfold kept;rw[Bu,Ej,Ge h];cases e:p l[j]<;>simp[e]
theorem Kv{α:Type}{p:α→Bool}{l:List α}(h:∀j (hj:j<l.length),p l[j]=false):kept p l=l:=by
 rw[List.filter_eq_self];intro x hx;obtain⟨j,hj,rfl⟩:=Dz.1 hx;rw[h j hj];rfl
theorem K3{α:Type}{p:α→Bool}{l:List α}{i:Nat}(hi:i<l.length)(h:∀j (hj:j<l.length),j<i→p l[j]=false)(hp:p l[i]=true):kept p (l.take (i+1))=l.take i:=by
 rw[Ku hi,Az hp,B3,Kv];intro j hj;rw[Kc];rw[AJ]at hj;exact h j (by omega) (by omega)
theorem Nt{α:Type}(p:α→Bool)(l:List α):(Hy p l 0=-1∧∀j (hj:j<l.length),p l[j]=false)∨∃i,∃hi:i<l.length,Hy p l 0=(i:Int)∧p l[i]=true∧∀j (hj:j<l.length),j<i→p l[j]=false:=by
 by_cases h:∃i,∃hi:i<l.length,p l[i]=true
 ·obtain⟨i,hm⟩:=lP h;obtain⟨⟨hi,hp⟩,hl⟩:=hm;have hl:∀j (hj:j<l.length),j<i→p l[j]=false:=fun j hj HL=>by
   cases e:p l[j]with
   |false=>rfl
   |true=>exact absurd ⟨hj,e⟩ (hl j HL)
  exact .inr ⟨i,hi,by rw[IB hi (fun j hj HL=>hl j hj HL) hp,EE],hp,hl⟩
 ·have hl:∀j (hj:j<l.length),p l[j]=false:=fun j hj=>by
   cases e:p l[j]with
   |false=>rfl
   |true=>exact absurd ⟨j,hj,e⟩ h
  exact .inl ⟨by rw[FU fun j hj=>hl j hj],hl⟩
theorem qX{fF:Nat}{cs:List AV}(l:List Rl)(p:Rl→Bool)(hF:∀x∈l,PC fF [.agg (Ah x),.cptr cs] (vb (p x)))(hl:Cn l):Be Tryz.prog 44 [.msl 1000 l.length,.clo fF [.cptr cs]] (Aj [(1000,.arr 9 (l.map Ah))] Ab) fun r h'=>r=vi (Hy p l 0)∧h'=Aj [(1000,HO.arr 9 (l.map Ah))] Ab:=by
 have hl:l.length≤1073741824:=hl;refine Cm (Mo ⟨[],[],[],[],[],[],[],[],[],[],[]⟩) [(1000,1000)] rfl CL hm rfl Tryz.func44 (by kernel_rfl) rfl (Nz rfl) (by kernel_rfl) rfl ?_;refine Xi {q:Nat // q≤l.length∧∀j (hj:j<l.length),j<q→p l[j]=false} (Xi (fun q=>⟨[(0,.msl 1000 l.length),(1,.clo fF [.cptr cs]),(7,vi l.length),(8,vi q.1)],[(1000,.arr 9 (l.map Ah))],Ab⟩) (Xi (fun q=>l.length-q.1) (Yi (Xi ⟨0,AM _,fun _ _ h=>absurd h (Du _)⟩ ?_) ?_)))
 ·exact⟨Z4,Z1,Fh,Ax (by kernel_rfl)⟩
 intro⟨i,i1,i2⟩;have i1:i≤l.length:=i1;have i2:∀j (hj:j<l.length),j<i→p l[j]=false:=i2;refine Yi (fun h1=>?_) (fun h1=>?_)
 ·have h1:(i:Int)<(l.length:Int):=h1;have n1:i<l.length:=by omega
  have g1:l[i]?=some l[i]:=Ge n1;refine Yi (by show(0:Int)≤i∧(i:Int)<(l.length:Nat);omega) ?_;refine Yi (show l.length=(l.map Ah).length by rw[Lm]) (Xi (Ah l[i]) (Yi (Cg g1) ?_));refine Yi (Nz rfl) ?_;refine BN (Bt (p l[i])) (fun h2=>?_) (fun h2=>?_)
  ·have h2:(p l[i])=true:=h2;refine Xi .pure (Xi _ (Yi (cb h2 (hF l[i] (Ao n1))) ?_));exact Xi _ (Yi (.refl _) ⟨show vi i=vi (Hy p l 0) by rw[IB n1 (fun j hj HL=>i2 j hj HL) h2,EE],rfl⟩)
  have h2:(p l[i])=false:=h2;refine Xi .pure (Xi _ (Yi (cb h2 (hF l[i] (Ao n1))) ?_));refine Yi (Ii i (by omega)) ?_;refine Xi ⟨i+1,n1,fun j hj HL=>if e:j<i then i2 j hj e else by
    have e:j=i:=by omega
    subst e;exact h2⟩ ?_
  exact⟨Dl l.length i (by omega),Z4,Z1,Fh,Ax (by kernel_rfl)⟩
 have h1:¬((i:Int)<(l.length:Int)):=h1;have n1:¬i<l.length:=by omega
 exact Xi _ (Yi (.refl _) ⟨show vi (-1)=vi (Hy p l 0) by rw[FU fun j hj=>i2 j hj (by omega)],rfl⟩)
theorem ve{fF:Nat}{cs:List AV}(l:List Rl)(p:Rl→Bool)(ix:Be Tryz.prog 44 [.msl 1000 l.length,.clo fF [.cptr cs]] (Aj [(1000,.arr 9 (l.map Ah))] Ab) fun r h'=>r=vi (-1)∧h'=Aj [(1000,HO.arr 9 (l.map Ah))] Ab)(FS:∀j (hj:j<l.length),p l[j]=false):Be Tryz.prog 40 [.msl 1000 l.length,.clo fF [.cptr cs]] (Aj [(1000,.arr 9 (l.map Ah))] Ab) fun r h'=>r=.msl 2000 (kept p l).length∧h'=Aj [(1000,.dead),(2000,.arr 9 ((kept p l).map Ah))] Ab:=by
 refine Cm (Mo ⟨[],[],[],[],[],[],[],[],[],[(200003,41000)],[3,6,9]⟩) [(1000,1000),(41,2000)] rfl CL hm rfl Tryz.func40 (by kernel_rfl) rfl (Nz rfl) (by kernel_rfl) rfl ?_;refine Xi (.gen [(1000,1000)] 0) (Yi rfl (Be.to2 (ix) ?_));refine Yi (fun _=>?_) (fun h=>absurd (by decide) h);refine Yi (show l.length=(l.map Ah).length by rw[Lm]) ?_;refine Xi ⟨[(0,.msl 41 l.length)],[(41,.arr 9 (l.map Ah)),(1000,.dead)],Ab⟩ (Yi ⟨Z1,Z2,Fh,Ax (by kernel_rfl)⟩ ?_)
 exact Xi _ (Yi (.refl _) ⟨show AV.msl 2000 l.length=.msl 2000 (kept p l).length by rw[Kv FS],show Aj [(1000,HO.dead),(2000,.arr 9 (l.map Ah))] Ab=Aj [(1000,.dead),(2000,.arr 9 ((kept p l).map Ah))] Ab by rw[Kv FS]⟩)
theorem vf{fF:Nat}{cs:List AV}(l:List Rl)(p:Rl→Bool)(hF:∀x∈l,PC fF [.agg (Ah x),.cptr cs] (vb (p x)))(hl:Cn l)(i0:Nat)(fq:i0<l.length)(fB:p l[i0]=true)(hb:∀j (hj:j<l.length),j<i0→p l[j]=false)(ix:Be Tryz.prog 44 [.msl 1000 l.length,.clo fF [.cptr cs]] (Aj [(1000,.arr 9 (l.map Ah))] Ab) fun r h'=>r=vi (i0:Nat)∧h'=Aj [(1000,HO.arr 9 (l.map Ah))] Ab):Be Tryz.prog 40 [.msl 1000 l.length,.clo fF [.cptr cs]] (Aj [(1000,.arr 9 (l.map Ah))] Ab) fun r h'=>r=.msl 2000 (kept p l).length∧h'=Aj [(1000,.dead),(2000,.arr 9 ((kept p l).map Ah))] Ab:=by
 have hl:l.length≤1073741824:=hl;refine Cm (Mo ⟨[],[(41,9)],[],[],[],[],[],[],[],[],[6,9]⟩) [(1000,1000),(41,2000)] rfl CL hm rfl Tryz.func40 (by kernel_rfl) rfl (Nz rfl) (by kernel_rfl) rfl ?_;refine Xi (.gen [(1000,1000)] 0) (Yi rfl (Be.to2 (ix) ?_));refine Yi (fun h2=>?_) (fun h2=>?_)
 ·have h2:(i0:Int)=((-1):Int):=h2;exact absurd h2 (by omega)
 have h2:¬((i0:Int)=((-1):Int)):=h2;refine Yi (Ii i0 (by omega)) ?_;refine Xi {q:Nat×Nat×List Rl // i0<q.1∧q.1≤l.length∧q.2.1=(kept p (l.take q.1)).length∧q.2.2.length=l.length∧q.2.2.take q.2.1=kept p (l.take q.1)∧q.2.2.drop q.1=l.drop q.1} (Xi (fun q=>⟨[(0,.msl 1000 l.length),(1,.clo fF [.cptr cs]),(5,vi q.1.2.1),(6,vi q.1.1)],[(1000,.arr 9 (q.1.2.2.map Ah))],Ab⟩) (Xi (fun q=>l.length-q.1.1) (Yi (Xi ⟨(i0+1,i0,l),GN _,fq,by show i0=(kept p (l.take (i0+1))).length;rw[K3 fq hb fB,AJ];omega,rfl,by show l.take i0=kept p (l.take (i0+1));rw[K3 fq hb fB],rfl⟩ ?_) ?_)))
 ·exact⟨Z4,Z1,Fh,Ax (by kernel_rfl)⟩
 intro⟨⟨j,i,N⟩,k0,k1,k2,k3,k4,k5⟩;have k0:i0<j:=k0;have k1:j≤l.length:=k1;have k2:i=(kept p (l.take j)).length:=k2;have k3:N.length=l.length:=k3;have k4:N.take i=kept p (l.take j):=k4;have k5:N.drop j=l.drop j:=k5;have k6:i≤j:=by rw[k2];exact A5 (JK _ _) (by rw[AJ];omega)
 refine Yi (fun h3=>?_) (fun h3=>?_)
 ·have h3:(j:Int)<(l.length:Int):=h3;have n3:j<l.length:=by omega
  have g3:l[j]?=some l[j]:=Ge n3;have nj:j<N.length:=by omega
  have gj:N[j]?=some N[j]:=Ge nj;refine Yi (by show(0:Int)≤j∧(j:Int)<(l.length:Nat);omega) ?_;refine Yi (show l.length=(N.map Ah).length by rw[Lm];exact k3.symm) (Xi (Ah N[j]) (Yi (Cg gj) ?_));refine Yi (Nz rfl) ?_;refine Yi (Nz rfl) ?_;refine Yi (Nz rfl) ?_;refine BN (Bt (p N[j])) (fun h4=>?_) (fun h4=>?_)
  ·have h4:(p N[j])=true:=h4;refine Xi .pure (Xi _ (Yi (cb h4 (hF N[j] (by have q:N[j]=l[j]:=(by have q:=Ac (fun z=>z[0]?) k5;simp only[BR,DB]at q;rw[Ge nj,Ge n3]at q;exact BM q);rw[q];exact Ao _))) ?_));refine Xi ⟨[(0,.msl 1000 l.length),(1,.clo fF [.cptr cs]),(5,vi i),(6,vi j)],[(1000,.arr 9 (N.map Ah))],Ab⟩ (Yi ⟨Z4,Z1,Fh,Ax (by kernel_rfl)⟩ ?_)
   refine Yi (Ii j (by omega)) ?_;have eN:N[j]=l[j]:=by have q:=Ac (fun z=>z[0]?) k5;simp only[BR,DB]at q;rw[Ge nj,Ge n3]at q;exact BM q
   have kn:kept p (l.take (j+1))=kept p (l.take j):=by rw[Ku n3,Az (by rw[←eN];exact h4),B3]
   refine Xi ⟨(j+1,i,N),Qm k0,n3,by rw[kn];exact k2,k3,by rw[kn];exact k4,by show N.drop (j+1)=l.drop (j+1);rw[←D5,←D5,k5]⟩ ?_;exact⟨Dl l.length j (by omega),Z4,Z1,Fh,Ax (by kernel_rfl)⟩
  have h4:(p N[j])=false:=h4;have ni:i<N.length:=by omega
  have gi:N[i]?=some N[i]:=Ge ni;refine Xi .pure (Xi _ (Yi (cb h4 (hF N[j] (by have q:N[j]=l[j]:=(by have q:=Ac (fun z=>z[0]?) k5;simp only[BR,DB]at q;rw[Ge nj,Ge n3]at q;exact BM q);rw[q];exact Ao _))) ?_));refine Xi ⟨[(0,.msl 1000 l.length),(1,.clo fF [.cptr cs]),(5,vi i),(6,vi j),(7,.ref 7 0)],[(7,.cells (Ah N[j])),(1000,.arr 9 (N.map Ah))],Ab⟩ (Yi ⟨Z5,Z2,Fh,Ax (by kernel_rfl)⟩ ?_)
  refine Yi (Nz rfl) ?_;refine Yi (by show(0:Int)≤i∧(i:Int)<(l.length:Nat);omega) ?_;refine Yi (show l.length=(N.map Ah).length by rw[Lm];exact k3.symm) (Xi (Ah N[i]) (Yi (Cg gi) (Yi (Nz rfl) ?_)));refine Yi (Ii i (by omega)) ?_;refine Xi ⟨[(0,.msl 1000 l.length),(1,.clo fF [.cptr cs]),(5,vi (i+1)),(6,vi j)],[(1000,.arr 9 ((N.map Ah).set i [vs N[j].path,vi N[j].ver.a,vi N[j].ver.b,vi N[j].ver.c,sl AN N[j].reqs,vs N[j].arch,vs N[j].ifc,vs N[j].cert,vb N[j].yanked]))],Ab⟩ (Yi ⟨Z4,Z1,Fh,Ax (by kernel_rfl)⟩ ?_)
  refine Yi (Ii j (by omega)) ?_;have eN:N[j]=l[j]:=by have q:=Ac (fun z=>z[0]?) k5;simp only[BR,DB]at q;rw[Ge nj,Ge n3]at q;exact BM q
  have kn:kept p (l.take (j+1))=kept p (l.take j)++[l[j]]:=by rw[Ku n3,Al (by rw[←eN,h4];decide)]
  have ki:i<N.length:=by omega
  refine Xi ⟨(j+1,i+1,N.set i N[j]),Qm k0,n3,by show i+1=(kept p (l.take (j+1))).length;rw[kn,Ad,←k2];rfl,by show(N.set i N[j]).length=_;rw[CR];exact k3,by show(N.set i N[j]).take (i+1)=kept p (l.take (j+1));rw[kn,Bu,List.take_set_of_le (Ak _),k4,TT ki,eN];rfl,by show(N.set i N[j]).drop (j+1)=l.drop (j+1);rw[List.drop_set_of_lt (by omega),←D5,←D5,k5]⟩ ?_;exact⟨Dl l.length j (by omega),Z4,⟨⟨(show HO.arr 9 ((N.map Ah).set i (Ah N[j]))=.arr 9 ((N.set i N[j]).map Ah) by rw[Nb]),rfl⟩,Tv⟩,Fh,Ax (by kernel_rfl)⟩
 have h3:¬((j:Int)<(l.length:Int)):=h3;have n3:¬j<l.length:=by omega
 refine Yi (show l.length=(N.map Ah).length∧(0:Int)≤i∧(i:Int)≤((N.map Ah).length:Nat)from⟨by rw[Lm];exact k3.symm,by omega,by rw[Lm];omega⟩) ?_;refine Yi (show l.length=(((N.map Ah).take i++List.replicate ((N.map Ah).length-i) [vs ⟨#[]⟩,vi 0,vi 0,vi 0,.v (.slice none 0 0),vs ⟨#[]⟩,vs ⟨#[]⟩,vs ⟨#[]⟩,vb false]):List (List AV)).length∧(0:Int)≤i∧(i:Int)≤((((N.map Ah).take i++List.replicate ((N.map Ah).length-i) [vs ⟨#[]⟩,vi 0,vi 0,vi 0,.v (.slice none 0 0),vs ⟨#[]⟩,vs ⟨#[]⟩,vs ⟨#[]⟩,vb false]):List (List AV)).length:Nat)from⟨by rw[Ad,AJ,Cq,Lm];omega,by omega,by rw[Ad,AJ,Cq,Lm];omega⟩) ?_;have ej:j=l.length:=by omega
 have e1:kept p l=kept p (l.take j):=by rw[ej,Dv]
 have e2:i=(kept p l).length:=by rw[e1];exact k2
 have e3:((N.map Ah).take i++List.replicate ((N.map Ah).length-i) [vs ⟨#[]⟩,vi 0,vi 0,vi 0,.v (.slice none 0 0),vs ⟨#[]⟩,vs ⟨#[]⟩,vs ⟨#[]⟩,vb false]).take i=(kept p l).map Ah:=by
  rw[DZ (by rw[AJ,Lm];omega),Kf,Nat.min_self,←QS,k4,e1]
 exact Xi _ (Yi (.refl _) ⟨show AV.msl 2000 i=.msl 2000 (kept p l).length from Ac (AV.msl 2000) e2,show Aj [(1000,HO.dead),(2000,.arr 9 (((N.map Ah).take i++List.replicate ((N.map Ah).length-i) [vs ⟨#[]⟩,vi 0,vi 0,vi 0,.v (.slice none 0 0),vs ⟨#[]⟩,vs ⟨#[]⟩,vs ⟨#[]⟩,vb false]).take i))] Ab=_ from Ac (fun z=>Aj [(1000,HO.dead),(2000,.arr 9 z)] Ab) e3⟩)
theorem xT{fF:Nat}{cs:List AV}(l:List Rl)(p:Rl→Bool)(hF:∀x∈l,PC fF [.agg (Ah x),.cptr cs] (vb (p x)))(hl:Cn l):Be Tryz.prog 40 [.msl 1000 l.length,.clo fF [.cptr cs]] (Aj [(1000,.arr 9 (l.map Ah))] Ab) fun r h'=>r=.msl 2000 (kept p l).length∧h'=Aj [(1000,.dead),(2000,.arr 9 ((kept p l).map Ah))] Ab:=by
 have ix:=qX l p hF hl;rcases Nt p l with ⟨e,h⟩ | ⟨i,hi,e,hp,hb⟩
 ·rw[e]at ix;exact ve l p ix h
 ·rw[e]at ix;exact vf l p hF hl i hi hp hb ix
theorem vo{fF:Nat}{cs:List AV}(l:List Sl)(p:Sl→Bool)(hF:∀x∈l,PC fF [.agg (Ae x),.cptr cs] (vb (p x)))(hl:Cn l):Be Tryz.prog 70 [.msl 1000 l.length,.clo fF [.cptr cs]] (Aj [(1000,.arr 4 (l.map Ae))] Ab) fun r h'=>r=vi (Hy p l 0)∧h'=Aj [(1000,HO.arr 4 (l.map Ae))] Ab:=by
 have hl:l.length≤1073741824:=hl;refine Cm (Mo ⟨[],[],[],[],[],[],[],[],[],[],[]⟩) [(1000,1000)] rfl CL hm rfl Tryz.func70 (by kernel_rfl) rfl (Nz rfl) (by kernel_rfl) rfl ?_;refine Xi {q:Nat // q≤l.length∧∀j (hj:j<l.length),j<q→p l[j]=false} (Xi (fun q=>⟨[(0,.msl 1000 l.length),(1,.clo fF [.cptr cs]),(7,vi l.length),(8,vi q.1)],[(1000,.arr 4 (l.map Ae))],Ab⟩) (Xi (fun q=>l.length-q.1) (Yi (Xi ⟨0,AM _,fun _ _ h=>absurd h (Du _)⟩ ?_) ?_)))
 ·exact⟨Z4,Z1,Fh,Ax (by kernel_rfl)⟩
 intro⟨i,i1,i2⟩;have i1:i≤l.length:=i1;have i2:∀j (hj:j<l.length),j<i→p l[j]=false:=i2;refine Yi (fun h1=>?_) (fun h1=>?_)
 ·have h1:(i:Int)<(l.length:Int):=h1;have n1:i<l.length:=by omega
  have g1:l[i]?=some l[i]:=Ge n1;refine Yi (by show(0:Int)≤i∧(i:Int)<(l.length:Nat);omega) ?_;refine Yi (show l.length=(l.map Ae).length by rw[Lm]) (Xi (Ae l[i]) (Yi (Cg g1) ?_));refine Yi (Nz rfl) ?_;refine BN (Bt (p l[i])) (fun h2=>?_) (fun h2=>?_)
  ·have h2:(p l[i])=true:=h2;refine Xi .pure (Xi _ (Yi (cb h2 (hF l[i] (Ao n1))) ?_));exact Xi _ (Yi (.refl _) ⟨show vi i=vi (Hy p l 0) by rw[IB n1 (fun j hj HL=>i2 j hj HL) h2,EE],rfl⟩)
  have h2:(p l[i])=false:=h2;refine Xi .pure (Xi _ (Yi (cb h2 (hF l[i] (Ao n1))) ?_));refine Yi (Ii i (by omega)) ?_;refine Xi ⟨i+1,n1,fun j hj HL=>if e:j<i then i2 j hj e else by
    have e:j=i:=by omega
    subst e;exact h2⟩ ?_
  exact⟨Dl l.length i (by omega),Z4,Z1,Fh,Ax (by kernel_rfl)⟩
 have h1:¬((i:Int)<(l.length:Int)):=h1;have n1:¬i<l.length:=by omega
 exact Xi _ (Yi (.refl _) ⟨show vi (-1)=vi (Hy p l 0) by rw[FU fun j hj=>i2 j hj (by omega)],rfl⟩)
theorem vt{fF:Nat}{cs:List AV}(l:List Sl)(p:Sl→Bool)(ix:Be Tryz.prog 70 [.msl 1000 l.length,.clo fF [.cptr cs]] (Aj [(1000,.arr 4 (l.map Ae))] Ab) fun r h'=>r=vi (-1)∧h'=Aj [(1000,HO.arr 4 (l.map Ae))] Ab)(FS:∀j (hj:j<l.length),p l[j]=false):Be Tryz.prog 88 [.msl 1000 l.length,.clo fF [.cptr cs]] (Aj [(1000,.arr 4 (l.map Ae))] Ab) fun r h'=>r=.msl 2000 (kept p l).length∧h'=Aj [(1000,.dead),(2000,.arr 4 ((kept p l).map Ae))] Ab:=by
 refine Cm (Mo ⟨[],[],[],[],[],[],[],[],[],[(200003,41000)],[3,6,9]⟩) [(1000,1000),(41,2000)] rfl CL hm rfl Tryz.func88 (by kernel_rfl) rfl (Nz rfl) (by kernel_rfl) rfl ?_;refine Xi (.gen [(1000,1000)] 0) (Yi rfl (Be.to2 (ix) ?_));refine Yi (fun _=>?_) (fun h=>absurd (by decide) h);refine Yi (show l.length=(l.map Ae).length by rw[Lm]) ?_;refine Xi ⟨[(0,.msl 41 l.length)],[(41,.arr 4 (l.map Ae)),(1000,.dead)],Ab⟩ (Yi ⟨Z1,Z2,Fh,Ax (by kernel_rfl)⟩ ?_)
 exact Xi _ (Yi (.refl _) ⟨show AV.msl 2000 l.length=.msl 2000 (kept p l).length by rw[Kv FS],show Aj [(1000,HO.dead),(2000,.arr 4 (l.map Ae))] Ab=Aj [(1000,.dead),(2000,.arr 4 ((kept p l).map Ae))] Ab by rw[Kv FS]⟩)
theorem vu{fF:Nat}{cs:List AV}(l:List Sl)(p:Sl→Bool)(hF:∀x∈l,PC fF [.agg (Ae x),.cptr cs] (vb (p x)))(hl:Cn l)(i0:Nat)(fq:i0<l.length)(fB:p l[i0]=true)(hb:∀j (hj:j<l.length),j<i0→p l[j]=false)(ix:Be Tryz.prog 70 [.msl 1000 l.length,.clo fF [.cptr cs]] (Aj [(1000,.arr 4 (l.map Ae))] Ab) fun r h'=>r=vi (i0:Nat)∧h'=Aj [(1000,HO.arr 4 (l.map Ae))] Ab):Be Tryz.prog 88 [.msl 1000 l.length,.clo fF [.cptr cs]] (Aj [(1000,.arr 4 (l.map Ae))] Ab) fun r h'=>r=.msl 2000 (kept p l).length∧h'=Aj [(1000,.dead),(2000,.arr 4 ((kept p l).map Ae))] Ab:=by
 have hl:l.length≤1073741824:=hl;refine Cm (Mo ⟨[],[(41,4)],[],[],[],[],[],[],[],[],[6,9]⟩) [(1000,1000),(41,2000)] rfl CL hm rfl Tryz.func88 (by kernel_rfl) rfl (Nz rfl) (by kernel_rfl) rfl ?_;refine Xi (.gen [(1000,1000)] 0) (Yi rfl (Be.to2 (ix) ?_));refine Yi (fun h2=>?_) (fun h2=>?_)
 ·have h2:(i0:Int)=((-1):Int):=h2;exact absurd h2 (by omega)
 have h2:¬((i0:Int)=((-1):Int)):=h2;refine Yi (Ii i0 (by omega)) ?_;refine Xi {q:Nat×Nat×List Sl // i0<q.1∧q.1≤l.length∧q.2.1=(kept p (l.take q.1)).length∧q.2.2.length=l.length∧q.2.2.take q.2.1=kept p (l.take q.1)∧q.2.2.drop q.1=l.drop q.1} (Xi (fun q=>⟨[(0,.msl 1000 l.length),(1,.clo fF [.cptr cs]),(5,vi q.1.2.1),(6,vi q.1.1)],[(1000,.arr 4 (q.1.2.2.map Ae))],Ab⟩) (Xi (fun q=>l.length-q.1.1) (Yi (Xi ⟨(i0+1,i0,l),GN _,fq,by show i0=(kept p (l.take (i0+1))).length;rw[K3 fq hb fB,AJ];omega,rfl,by show l.take i0=kept p (l.take (i0+1));rw[K3 fq hb fB],rfl⟩ ?_) ?_)))
 ·exact⟨Z4,Z1,Fh,Ax (by kernel_rfl)⟩
 intro⟨⟨j,i,N⟩,k0,k1,k2,k3,k4,k5⟩;have k0:i0<j:=k0;have k1:j≤l.length:=k1;have k2:i=(kept p (l.take j)).length:=k2;have k3:N.length=l.length:=k3;have k4:N.take i=kept p (l.take j):=k4;have k5:N.drop j=l.drop j:=k5;have k6:i≤j:=by rw[k2];exact A5 (JK _ _) (by rw[AJ];omega)
 refine Yi (fun h3=>?_) (fun h3=>?_)
 ·have h3:(j:Int)<(l.length:Int):=h3;have n3:j<l.length:=by omega
  have g3:l[j]?=some l[j]:=Ge n3;have nj:j<N.length:=by omega
  have gj:N[j]?=some N[j]:=Ge nj;refine Yi (by show(0:Int)≤j∧(j:Int)<(l.length:Nat);omega) ?_;refine Yi (show l.length=(N.map Ae).length by rw[Lm];exact k3.symm) (Xi (Ae N[j]) (Yi (Cg gj) ?_));refine Yi (Nz rfl) ?_;refine Yi (Nz rfl) ?_;refine Yi (Nz rfl) ?_;refine BN (Bt (p N[j])) (fun h4=>?_) (fun h4=>?_)
  ·have h4:(p N[j])=true:=h4;refine Xi .pure (Xi _ (Yi (cb h4 (hF N[j] (by have q:N[j]=l[j]:=(by have q:=Ac (fun z=>z[0]?) k5;simp only[BR,DB]at q;rw[Ge nj,Ge n3]at q;exact BM q);rw[q];exact Ao _))) ?_));refine Xi ⟨[(0,.msl 1000 l.length),(1,.clo fF [.cptr cs]),(5,vi i),(6,vi j)],[(1000,.arr 4 (N.map Ae))],Ab⟩ (Yi ⟨Z4,Z1,Fh,Ax (by kernel_rfl)⟩ ?_)
   refine Yi (Ii j (by omega)) ?_;have eN:N[j]=l[j]:=by have q:=Ac (fun z=>z[0]?) k5;simp only[BR,DB]at q;rw[Ge nj,Ge n3]at q;exact BM q
   have kn:kept p (l.take (j+1))=kept p (l.take j):=by rw[Ku n3,Az (by rw[←eN];exact h4),B3]
   refine Xi ⟨(j+1,i,N),Qm k0,n3,by rw[kn];exact k2,k3,by rw[kn];exact k4,by show N.drop (j+1)=l.drop (j+1);rw[←D5,←D5,k5]⟩ ?_;exact⟨Dl l.length j (by omega),Z4,Z1,Fh,Ax (by kernel_rfl)⟩
  have h4:(p N[j])=false:=h4;have ni:i<N.length:=by omega
  have gi:N[i]?=some N[i]:=Ge ni;refine Xi .pure (Xi _ (Yi (cb h4 (hF N[j] (by have q:N[j]=l[j]:=(by have q:=Ac (fun z=>z[0]?) k5;simp only[BR,DB]at q;rw[Ge nj,Ge n3]at q;exact BM q);rw[q];exact Ao _))) ?_));refine Xi ⟨[(0,.msl 1000 l.length),(1,.clo fF [.cptr cs]),(5,vi i),(6,vi j),(7,.ref 7 0)],[(7,.cells (Ae N[j])),(1000,.arr 4 (N.map Ae))],Ab⟩ (Yi ⟨Z5,Z2,Fh,Ax (by kernel_rfl)⟩ ?_)
  refine Yi (Nz rfl) ?_;refine Yi (by show(0:Int)≤i∧(i:Int)<(l.length:Nat);omega) ?_;refine Yi (show l.length=(N.map Ae).length by rw[Lm];exact k3.symm) (Xi (Ae N[i]) (Yi (Cg gi) (Yi (Nz rfl) ?_)));refine Yi (Ii i (by omega)) ?_;refine Xi ⟨[(0,.msl 1000 l.length),(1,.clo fF [.cptr cs]),(5,vi (i+1)),(6,vi j)],[(1000,.arr 4 ((N.map Ae).set i [vs N[j].path,vi N[j].ver.a,vi N[j].ver.b,vi N[j].ver.c]))],Ab⟩ (Yi ⟨Z4,Z1,Fh,Ax (by kernel_rfl)⟩ ?_)
  refine Yi (Ii j (by omega)) ?_;have eN:N[j]=l[j]:=by have q:=Ac (fun z=>z[0]?) k5;simp only[BR,DB]at q;rw[Ge nj,Ge n3]at q;exact BM q
  have kn:kept p (l.take (j+1))=kept p (l.take j)++[l[j]]:=by rw[Ku n3,Al (by rw[←eN,h4];decide)]
  have ki:i<N.length:=by omega
  refine Xi ⟨(j+1,i+1,N.set i N[j]),Qm k0,n3,by show i+1=(kept p (l.take (j+1))).length;rw[kn,Ad,←k2];rfl,by show(N.set i N[j]).length=_;rw[CR];exact k3,by show(N.set i N[j]).take (i+1)=kept p (l.take (j+1));rw[kn,Bu,List.take_set_of_le (Ak _),k4,TT ki,eN];rfl,by show(N.set i N[j]).drop (j+1)=l.drop (j+1);rw[List.drop_set_of_lt (by omega),←D5,←D5,k5]⟩ ?_;exact⟨Dl l.length j (by omega),Z4,⟨⟨(show HO.arr 4 ((N.map Ae).set i (Ae N[j]))=.arr 4 ((N.set i N[j]).map Ae) by rw[Nb]),rfl⟩,Tv⟩,Fh,Ax (by kernel_rfl)⟩
 have h3:¬((j:Int)<(l.length:Int)):=h3;have n3:¬j<l.length:=by omega
 refine Yi (show l.length=(N.map Ae).length∧(0:Int)≤i∧(i:Int)≤((N.map Ae).length:Nat)from⟨by rw[Lm];exact k3.symm,by omega,by rw[Lm];omega⟩) ?_;refine Yi (show l.length=(((N.map Ae).take i++List.replicate ((N.map Ae).length-i) [vs ⟨#[]⟩,vi 0,vi 0,vi 0]):List (List AV)).length∧(0:Int)≤i∧(i:Int)≤((((N.map Ae).take i++List.replicate ((N.map Ae).length-i) [vs ⟨#[]⟩,vi 0,vi 0,vi 0]):List (List AV)).length:Nat)from⟨by rw[Ad,AJ,Cq,Lm];omega,by omega,by rw[Ad,AJ,Cq,Lm];omega⟩) ?_;have ej:j=l.length:=by omega
 have e1:kept p l=kept p (l.take j):=by rw[ej,Dv]
 have e2:i=(kept p l).length:=by rw[e1];exact k2
 have e3:((N.map Ae).take i++List.replicate ((N.map Ae).length-i) [vs ⟨#[]⟩,vi 0,vi 0,vi 0]).take i=(kept p l).map Ae:=by
  rw[DZ (by rw[AJ,Lm];omega),Kf,Nat.min_self,←QS,k4,e1]
 exact Xi _ (Yi (.refl _) ⟨show AV.msl 2000 i=.msl 2000 (kept p l).length from Ac (AV.msl 2000) e2,show Aj [(1000,HO.dead),(2000,.arr 4 (((N.map Ae).take i++List.replicate ((N.map Ae).length-i) [vs ⟨#[]⟩,vi 0,vi 0,vi 0]).take i))] Ab=_ from Ac (fun z=>Aj [(1000,HO.dead),(2000,.arr 4 z)] Ab) e3⟩)
theorem o88{fF:Nat}{cs:List AV}(l:List Sl)(p:Sl→Bool)(hF:∀x∈l,PC fF [.agg (Ae x),.cptr cs] (vb (p x)))(hl:Cn l):Be Tryz.prog 88 [.msl 1000 l.length,.clo fF [.cptr cs]] (Aj [(1000,.arr 4 (l.map Ae))] Ab) fun r h'=>r=.msl 2000 (kept p l).length∧h'=Aj [(1000,.dead),(2000,.arr 4 ((kept p l).map Ae))] Ab:=by
 have ix:=vo l p hF hl;rcases Nt p l with ⟨e,h⟩ | ⟨i,hi,e,hp,hb⟩
 ·rw[e]at ix;exact vt l p ix h
 ·rw[e]at ix;exact vu l p hF hl i hi hp hb ix
theorem Wp{a b:Sl}:(a.path=b.path∧a.ver.a=b.ver.a∧a.ver.b=b.ver.b∧a.ver.c=b.ver.c∧True)↔a=b:=⟨ii,fun e=>by subst e;exact⟨rfl,rfl,rfl,rfl,trivial⟩⟩
abbrev F6(r:Rl):Sl:=⟨r.path,r.ver⟩
abbrev Of(w:Wk):Rl→Bool:=fun r=>decide (F6 r∈w.exc)
abbrev En(s:Sl):Rl→Bool:=fun r=>decide (r.path=s.path)&&decide (F6 r≠s)
def MN(s:Sl)(B:List Rl):Int:=Hy (fun r=>decide (F6 r=s)) B 0
def TK(B:List Rl)(i:Nat):List Rl:=match B[i]? with | some r=>B.set i { r with yanked:=false } | none=>B
theorem kY{B:List Rl}{i:Nat}{r:Rl}(h:B[i]?=some r):TK B i=B.set i { r with yanked:=false }:=by unfold TK;rw[h]
theorem Yd(B:List Rl)(i:Nat):(TK B i).length=B.length:=by unfold TK;split<;>simp
def Vc(A:List Rl)(s:Sl):Option (List Rl):=if MN s (kept (En s) A)<0 then none else some (TK (kept (En s) A) (MN s (kept (En s) A)).toNat)
def KF:List Sl→List Rl→Option (List Rl)
 | [],A=>some A
 |s::l,A=>(Vc A s).bind (KF l)
def rd:Option (List Rl)→List Rl×Int
 |none=>([],6)
 |some A=>(A,0)
def HU(x:List Rl)(w:Wk):List Rl×Int :=
 if A9 x≠0 then([],1)else if BU w≠0 then([],BU w)else if 256<((AU Cv x w.rep).length:Int)then([],7)else rd (KF w.pin (kept (Of w) (AU Cv x w.rep)))
abbrev Pm(x:List Rl)(ifs:List (List AV))(w:Wk):AV:=.tup [Rb (HU x w).1 (if(HU x w).2=0 then ifs else []),vi (HU x w).2]
theorem KM{x:List Rl}{ifs:List (List AV)}{w:Wk}{e:Int}(h:HU x w=([],e))(he:e≠0):Hm (.tup [.agg [.v (.slice none 0 0),.v (.slice none 0 0)],vi e]) (Pm x ifs w):=by
 unfold Pm;rw[h,Al he];exact .tup ⟨.agg ⟨.nil,.nil,trivial⟩,.refl _,trivial⟩
theorem dJ{x:List Rl}{w:Wk}(h:A9 x≠0):HU x w=([],1):=by unfold HU;rw[Az h]
theorem dK{x:List Rl}{w:Wk}(h:A9 x=0)(h2:BU w≠0):HU x w=([],BU w):=by unfold HU;rw[Al (fun c=>c h),Az h2]
theorem dL{x:List Rl}{w:Wk}(h:A9 x=0)(h2:BU w=0){A:List Rl}(hA:A=AU Cv x w.rep)(h3:256<(A.length:Int)):HU x w=([],7):=by
 subst hA;unfold HU;rw[Al (fun c=>c h),Al (fun c=>c h2),Az h3]
theorem WN{x:List Rl}{w:Wk}(h:A9 x=0)(h2:BU w=0){A:List Rl}(hA:A=AU Cv x w.rep)(h3:¬256<(A.length:Int)){o:Option (List Rl)}(ho:KF w.pin (kept (Of w) A)=o):HU x w=rd o:=by
 subst hA;subst ho;unfold HU;rw[Al (fun c=>c h),Al (fun c=>c h2),Al h3]
theorem ES{α:Type}{c:α→α→Int}:∀(n:Nat) (a b:List α) (r:α),r∈Cs c n a b→r∈a∨r∈b
 |0,_,_,_,h=>by cases h
 |n+1,a,b,r,h=>by
  cases a with
  |nil =>
   cases b with
   |nil=>cases h
   |cons y b =>
    rcases Au.1 (show r∈y::Cs c n [] b from h)with rfl | h
    ·exact .inr (Aa ..)
    ·exact(ES n [] b r h).imp id (Af _)
  |cons x a =>
   cases b with
   |nil =>
    rcases Au.1 (show r∈x::Cs c n a []from h)with rfl | h
    ·exact .inl (Aa ..)
    ·exact(ES n a [] r h).imp (Af _) id
   |cons y b =>
    have h:r∈if c x y<0 then x::Cs c n a (y::b)else if c x y=0 then y::Cs c n a b else y::Cs c n (x::a) b:=h
    split at h
    ·rcases Au.1 h with rfl | h
     ·exact .inl (Aa ..)
     ·exact(ES n a (y::b) r h).imp (Af _) id
    ·split at h
     ·rcases Au.1 h with rfl | h
      ·exact .inr (Aa ..)
      ·exact(ES n a b r h).imp (Af _) (Af _)
     ·rcases Au.1 h with rfl | h
      ·exact .inr (Aa ..)
      ·exact(ES n (x::a) b r h).imp id (Af _)
theorem ET{α:Type}{c:α→α→Int}{a b:List α}{r:α}(h:r∈AU c a b):r∈a∨r∈b:=ES _ a b r h
theorem nx{s:Sl}{B:List Rl}(h:¬MN s B<0):∃hi:(MN s B).toNat<B.length,B[(MN s B).toNat]?=some B[(MN s B).toNat]:=by
 rcases Nt (fun r=>decide (F6 r=s)) B with ⟨e,_⟩ | ⟨i,hi,e,_⟩
 ·exact absurd (show MN s B<0 by unfold MN;rw[e];decide) h
 ·have e2:(MN s B).toNat=i:=by unfold MN;rw[e];rfl
  rw[e2];exact⟨hi,Ge hi⟩
theorem X9{l:List Sl}{i:Nat}(h:i<l.length)(A:List Rl):KF (l.drop i) A=(Vc A l[i]).bind (KF (l.drop (i+1))):=by rw[Bs h];rfl
theorem gM{A B:List Rl}{s:Sl}(hB:B=kept (En s) A)(h:¬MN s B<0):Vc A s=some (TK B (MN s B).toNat):=by subst hB;unfold Vc;rw[Al h]
theorem gL{A B:List Rl}{s:Sl}(hB:B=kept (En s) A)(h:MN s B<0):Vc A s=none:=by subst hB;unfold Vc;rw[Az h]
theorem o46(ifs:List (List AV))(hl:Cn ifs)(hs:∀c∈ifs,c.length=5):PC 46 [.slice .none ifs] (.slice .none ifs):=by
 refine Ps F7 Tryz.func46 rfl (Nz rfl) ?_;have Gs:Dp 5 ifs∧([]:List (List AV)).length=0∧(([]:List (List AV)).length+ifs.length)*112≤140737488355328∧([]:List (List AV)).length+ifs.length≤9223372036854775807:=by
  refine⟨Um hs,rfl,?_,?_⟩<;>simp only[AC]<;>unfold Cn at hl<;>omega
 refine Yi ?_ ?_
 ·intro _;exact Yi Gs (.refl _)
 ·intro h;have h:ifs=[]:=h;refine Yi ?_ ?_
  ·show Hm (.v (.slice none 0 0)) (.slice .none ifs);rw[h];exact .nil
  ·exact Yi Gs (.refl _)
theorem o41(r:Rl)(w:Wk)(hl:Cn w.exc):PC 41 [.agg (Ah r),.cptr (Bg w)] (vb (Of w r)):=by
 refine Ps ⟨[2],[],[],[],[],[],[],[],[],[],[]⟩ Tryz.func41 rfl (Nz rfl) ?_;refine Yi (Nz rfl) ?_;refine Xi _ (Yi (qW r) ?_);refine BN (Bt (decide (F6 r∈w.exc))) (fun h1=>?_) (fun h1=>?_)
 ·have h1:(decide (F6 r∈w.exc))=true:=h1;refine Xi _ (Yi (cb h1 (iQ w.exc (F6 r) hl)) ?_);refine Yi (by kernel_rfl) ?_;exact .of_eq (show vb true=vb (decide (F6 r∈w.exc)) by rw[h1])
 have h1:(decide (F6 r∈w.exc))=false:=h1;refine Xi _ (Yi (cb h1 (iQ w.exc (F6 r) hl)) ?_);refine Yi (by kernel_rfl) ?_;exact .of_eq (show vb false=vb (decide (F6 r∈w.exc)) by rw[h1])
theorem o45(r:Rl)(s:Sl):PC 45 [.agg (Ah r),.cptr (Ae s)] (vb (decide (F6 r=s))):=by
 refine Ps ⟨[2],[],[],[],[],[],[],[],[],[],[]⟩ Tryz.func45 rfl (Nz rfl) ?_;refine Yi (Nz rfl) ?_;refine Xi _ (Yi (qW r) ?_);refine Yi (Nz rfl) ?_;refine Yi (fun h1=>?_) (fun h1=>?_)
 ·have h1:((F6 r).path:ByteArray)=s.path∧((F6 r).ver.a:Int)=s.ver.a∧((F6 r).ver.b:Int)=s.ver.b∧((F6 r).ver.c:Int)=s.ver.c∧True:=h1;refine Yi (by kernel_rfl) ?_;exact .of_eq (show vb true=vb (decide (F6 r=s)) by rw[Aw (Wp.1 h1)])
 have h1:¬(((F6 r).path:ByteArray)=s.path∧((F6 r).ver.a:Int)=s.ver.a∧((F6 r).ver.b:Int)=s.ver.b∧((F6 r).ver.c:Int)=s.ver.c∧True):=h1;refine Yi (by kernel_rfl) ?_;exact .of_eq (show vb false=vb (decide (F6 r=s)) by rw[Ap (fun e=>h1 (Wp.2 e))])
theorem o43(r:Rl)(s:Sl):PC 43 [.agg (Ah r),.cptr (Ae s)] (vb (En s r)):=by
 refine Ps ⟨[2],[],[],[],[],[],[],[],[],[],[]⟩ Tryz.func43 rfl (Nz rfl) ?_;refine Yi (fun h1=>?_) (fun h1=>?_)
 ·have h1:(r.path:ByteArray)=s.path:=h1;refine Yi (Nz rfl) ?_;refine Xi _ (Yi (qW r) ?_);refine Yi (Nz rfl) ?_;refine Yi (fun h2=>?_) (fun h2=>?_)
  ·have h2:((F6 r).path:ByteArray)=s.path∧((F6 r).ver.a:Int)=s.ver.a∧((F6 r).ver.b:Int)=s.ver.b∧((F6 r).ver.c:Int)=s.ver.c∧True:=h2;refine Yi (by kernel_rfl) ?_;exact .of_eq (show vb false=vb (decide (r.path=s.path)&&decide (F6 r≠s)) by rw[Aw h1,show decide (F6 r≠s)=false from Ap (fun e=>e (Wp.1 h2))];rfl)
  have h2:¬(((F6 r).path:ByteArray)=s.path∧((F6 r).ver.a:Int)=s.ver.a∧((F6 r).ver.b:Int)=s.ver.b∧((F6 r).ver.c:Int)=s.ver.c∧True):=h2;refine Yi (by kernel_rfl) ?_;exact .of_eq (show vb true=vb (decide (r.path=s.path)&&decide (F6 r≠s)) by rw[Aw h1,show decide (F6 r≠s)=true from Aw (fun e=>h2 (Wp.2 e))];rfl)
 have h1:¬(r.path:ByteArray)=s.path:=h1;refine Yi (by kernel_rfl) ?_;exact .of_eq (show vb false=vb (decide (r.path=s.path)&&decide (F6 r≠s)) by rw[Ap h1];rfl)
theorem o11(x:List Rl)(ifs:List (List AV))(w:Wk)(hx:∀r∈x,Ka r)(Oy:x.length+w.rep.length≤1073741824)(iO:∀r∈x,Cn r.reqs)(hW:WD w)(jU:∀r∈w.rep,Cn r.reqs)(qf:Cn ifs)(zy:∀c∈ifs,c.length=5):PC 11 [Rb x ifs,.agg (Bg w)] (Pm x ifs w):=by
 obtain⟨A0,hA⟩:∃A,A=AU Cv x w.rep:=⟨_,rfl⟩;have zQ:w.pin.length≤1073741824:=hW.pin;have lk:A0.length≤1073741824:=by rw[hA];exact A5 (G0 x w.rep) Oy
 have tJ:∀r∈A0,Cn r.reqs:=fun r hr=>by rw[hA]at hr;exact(ET hr).elim (iO r) (jU r)
 have tK:∀r∈A0,∀q∈r.reqs,Cn q.set:=fun r hr q hq=>by rw[hA]at hr;exact(ET hr).elim (fun h=>((hx r h).2 q hq).1) (fun h=>((hW.rep r h).2 q hq).1)
 have ZU:PC 38 [sl Ah x,sl Ah w.rep,.v (.func (.func 39) #[] #[])] (sl Ah A0):=by rw[hA];exact xR x w.rep (by unfold Cn;omega) hW.reps
 refine Ps ⟨[2,3,9],[],[],[],[],[],[],[],[],[(200010,7007),(200015,7007),(200019,7)],[4,6,7,9,10,13,14,15,17,19]⟩ Tryz.func11 rfl (Nz rfl) ?_;refine Yi (Nz rfl) ?_;refine Xi .pure (Xi _ (Yi (pt YA x ifs hx) ?_));refine Yi (fun h1=>?_) (fun h1=>?_)
 ·have h1:((A9 x):Int)≠(0:Int):=h1;refine Yi (Nz rfl) ?_;refine Yi (Nz rfl) ?_;exact KM (dJ (fun h=>h1 h)) (by decide)
 have h1:((A9 x):Int)=(0:Int):=Br h1;refine Yi (Nz rfl) ?_;refine Xi .pure (Xi _ (Yi (qV w hW) ?_));refine Xi ⟨[(2,.ref 2 0),(3,.ref 3 0),(4,.ref 4 0),(6,vi (BU w))],[(2,.ro (Ic x ifs)),(3,.ro (Bg w)),(4,.cells [.v (.slice none 0 0),.v (.slice none 0 0)])],Ab⟩ (Yi ⟨Z4,Z3,Fh,Tv⟩ ?_)
 refine Yi (fun h3=>?_) (fun h3=>?_)
 ·have h3:((BU w):Int)≠(0:Int):=h3;refine Yi (Nz rfl) ?_;refine Yi (Nz rfl) ?_;exact KM (dK h1 h3) h3
 have h3:((BU w):Int)=(0:Int):=Br h3;refine Xi ⟨[(2,.ref 2 0),(3,.ref 3 0),(4,.ref 4 0)],[(2,.ro (Ic x ifs)),(3,.ro (Bg w)),(4,.cells [.v (.slice none 0 0),.v (.slice none 0 0)])],Ab⟩ (Yi ⟨Z3,Z3,Fh,Tv⟩ ?_)
 refine Xi .pure (Xi _ (Yi ZU ?_));refine Xi (.gen [] 1) (Yi rfl (Be.to2 (rC A0 lk tJ tK) ?_));refine Xi ⟨[(2,.ref 2 0),(3,.ref 3 0),(4,.ref 4 0),(7,.msl 12600 A0.length)],[(2,.ro (Ic x ifs)),(3,.ro (Bg w)),(4,.cells [.v (.slice none 0 0),.v (.slice none 0 0)]),(12600,.arr 9 (A0.map Ah))],Ab⟩ (Yi ⟨Z4,Z4,Fh,Tv⟩ ?_)
 refine Yi (fun h6=>?_) (fun h6=>?_)
 ·have h6:(256:Int)<(A0.length:Int):=h6;have n6:256<A0.length:=by omega
  have g6:A0[256]?=some A0[256]:=Ge n6;refine Yi (Nz rfl) ?_;refine Yi (Nz rfl) ?_;exact KM (dL h1 h3 hA h6) (by decide)
 have h6:¬((256:Int)<(A0.length:Int)):=h6;have n6:¬256<A0.length:=by omega
 refine Xi ⟨[(2,.ref 2 0),(3,.ref 3 0),(4,.ref 4 0),(7,.msl 12600 A0.length)],[(2,.ro (Ic x ifs)),(3,.ro (Bg w)),(4,.cells [.v (.slice none 0 0),.v (.slice none 0 0)]),(12600,.arr 9 (A0.map Ah))],Ab⟩ (Yi ⟨Z4,Z4,Fh,Tv⟩ ?_)
 refine Xi (.gen [(12600,1000)] 1) (Yi rfl (Be.to2 (xT A0 (Of w) (fun r _=>o41 r w hW.exc) lk) ?_));refine Yi (show(kept (Of w) A0).length=((kept (Of w) A0).map Ah).length by rw[Lm]) ?_;refine Xi ⟨[(2,.ref 2 0),(3,.ref 3 0),(4,.ref 4 0),(7,.msl 7 (kept (Of w) A0).length)],[(2,.ro (Ic x ifs)),(3,.ro (Bg w)),(4,.cells [.v (.slice none 0 0),.v (.slice none 0 0)]),(7,.arr 9 ((kept (Of w) A0).map Ah))],Ab⟩ (Yi ⟨Z4,Z4,Fh,Tv⟩ ?_)
 refine Xi {q:Nat×List Rl // q.1≤w.pin.length∧KF w.pin (kept (Of w) A0)=KF (w.pin.drop q.1) q.2∧q.2.length≤256} (Xi (fun q=>⟨[(2,.ref 2 0),(4,.ref 4 0),(7,.msl 7 q.1.2.length),(35,sl Ae w.pin),(36,vi (w.pin.map Ae).length),(37,vi q.1.1)],[(2,.ro (Ic x ifs)),(4,.cells [.v (.slice none 0 0),.v (.slice none 0 0)]),(7,.arr 9 (q.1.2.map Ah))],Ab⟩) (Xi (fun q=>w.pin.length-q.1.1) (Yi (Xi ⟨(0,kept (Of w) A0),AM _,rfl,A5 (JK _ _) (by have q:=h6;omega)⟩ ?_) ?_)))
 ·exact⟨Z6,Z3,Fh,Tv⟩
 intro⟨⟨k,A⟩,k1,k2,kA⟩;have k1:k≤w.pin.length:=k1;have k2:KF w.pin (kept (Of w) A0)=KF (w.pin.drop k) A:=k2;have kA:A.length≤256:=kA;refine Yi (fun h9=>?_) (fun h9=>?_)
 ·have h9:(k:Int)<((w.pin.map Ae).length:Int):=h9;have n9:=Jy h9;refine Xi (Ae w.pin[k]) (Yi (NP n9) (Yi rfl ?_));refine Yi (Nz rfl) ?_;refine Yi (Nz rfl) ?_;refine Xi ⟨[(2,.ref 2 0),(4,.ref 4 0),(7,.msl 7 A.length),(9,.ref 9 0),(35,sl Ae w.pin),(36,vi (w.pin.map Ae).length),(37,vi k)],[(2,.ro (Ic x ifs)),(4,.cells [.v (.slice none 0 0),.v (.slice none 0 0)]),(7,.arr 9 (A.map Ah)),(9,.ro (Ae w.pin[k]))],Ab⟩ (Yi ⟨Z7,Z4,Fh,Tv⟩ ?_)
  refine Xi (.gen [(7,1000)] 1) (Yi rfl (Be.to2 (xT A (En w.pin[k]) (fun r _=>o43 r w.pin[k]) (A5 kA (by decide))) ?_));refine Xi ⟨[(2,.ref 2 0),(4,.ref 4 0),(7,.msl 14300 (kept (En w.pin[k]) A).length),(9,.ref 9 0),(35,sl Ae w.pin),(36,vi (w.pin.map Ae).length),(37,vi k)],[(2,.ro (Ic x ifs)),(4,.cells [.v (.slice none 0 0),.v (.slice none 0 0)]),(9,.ro (Ae w.pin[k])),(14300,.arr 9 ((kept (En w.pin[k]) A).map Ah))],Ab⟩ (Yi ⟨Z7,Z4,Fh,Tv⟩ ?_)
  refine Xi (.gen [(14300,1000)] 0) (Yi rfl (Be.to2 (qX (kept (En w.pin[k]) A) (fun r=>decide (F6 r=w.pin[k])) (fun r _=>o45 r w.pin[k]) (A5 (JK _ _) (A5 kA (by decide)))) ?_));refine Yi (show(kept (En w.pin[k]) A).length=((kept (En w.pin[k]) A).map Ah).length by rw[Lm]) ?_;refine Xi ⟨[(2,.ref 2 0),(4,.ref 4 0),(7,.msl 7 (kept (En w.pin[k]) A).length),(10,vi (MN w.pin[k] (kept (En w.pin[k]) A))),(35,sl Ae w.pin),(36,vi (w.pin.map Ae).length),(37,vi k)],[(2,.ro (Ic x ifs)),(4,.cells [.v (.slice none 0 0),.v (.slice none 0 0)]),(7,.arr 9 ((kept (En w.pin[k]) A).map Ah))],Ab⟩ (Yi ⟨Z7,Z3,Fh,Tv⟩ ?_)
  refine Yi (fun M0=>?_) (fun M0=>?_)
  ·have M0:((MN w.pin[k] (kept (En w.pin[k]) A)):Int)<(0:Int):=M0;refine Yi (Nz rfl) ?_;refine Yi (Nz rfl) ?_;have eP:KF w.pin (kept (Of w) A0)=none:=by rw[k2,X9 n9,gL rfl M0];rfl
   exact KM (WN h1 h3 hA h6 eP) (by decide)
  have M0:¬(((MN w.pin[k] (kept (En w.pin[k]) A)):Int)<(0:Int)):=M0;refine Do (nx M0) (fun h9 g9=>?_);refine Xi ⟨[(2,.ref 2 0),(4,.ref 4 0),(7,.msl 7 (kept (En w.pin[k]) A).length),(10,vi (MN w.pin[k] (kept (En w.pin[k]) A))),(35,sl Ae w.pin),(36,vi (w.pin.map Ae).length),(37,vi k)],[(2,.ro (Ic x ifs)),(4,.cells [.v (.slice none 0 0),.v (.slice none 0 0)]),(7,.arr 9 ((kept (En w.pin[k]) A).map Ah))],Ab⟩ (Yi ⟨Z7,Z3,Fh,Tv⟩ ?_)
  refine Yi (by show(0:Int)≤(MN w.pin[k] (kept (En w.pin[k]) A))∧((MN w.pin[k] (kept (En w.pin[k]) A)):Int)<((kept (En w.pin[k]) A).length:Nat);omega) ?_;refine Yi (show(kept (En w.pin[k]) A).length=((kept (En w.pin[k]) A).map Ah).length by rw[Lm]) (Xi (Ah ((kept (En w.pin[k]) A)[(MN w.pin[k] (kept (En w.pin[k]) A)).toNat])) (Yi (Cg g9) (Yi (Nz rfl) ?_)));refine Yi (Ii k (by omega)) ?_;have eU:((kept (En w.pin[k]) A).map Ah).set (MN w.pin[k] (kept (En w.pin[k]) A)).toNat [vs ((kept (En w.pin[k]) A)[(MN w.pin[k] (kept (En w.pin[k]) A)).toNat]).path,vi ((kept (En w.pin[k]) A)[(MN w.pin[k] (kept (En w.pin[k]) A)).toNat]).ver.a,vi ((kept (En w.pin[k]) A)[(MN w.pin[k] (kept (En w.pin[k]) A)).toNat]).ver.b,vi ((kept (En w.pin[k]) A)[(MN w.pin[k] (kept (En w.pin[k]) A)).toNat]).ver.c,sl AN ((kept (En w.pin[k]) A)[(MN w.pin[k] (kept (En w.pin[k]) A)).toNat]).reqs,vs ((kept (En w.pin[k]) A)[(MN w.pin[k] (kept (En w.pin[k]) A)).toNat]).arch,vs ((kept (En w.pin[k]) A)[(MN w.pin[k] (kept (En w.pin[k]) A)).toNat]).ifc,vs ((kept (En w.pin[k]) A)[(MN w.pin[k] (kept (En w.pin[k]) A)).toNat]).cert,vb false]=(TK (kept (En w.pin[k]) A) (MN w.pin[k] (kept (En w.pin[k]) A)).toNat).map Ah:=by rw[kY g9,Nb]
  have eP:KF w.pin (kept (Of w) A0)=KF (w.pin.drop (k+1)) (TK (kept (En w.pin[k]) A) (MN w.pin[k] (kept (En w.pin[k]) A)).toNat):=by rw[k2,X9 n9,gM rfl M0];rfl
  refine Xi ⟨(k+1,(TK (kept (En w.pin[k]) A) (MN w.pin[k] (kept (En w.pin[k]) A)).toNat)),n9,eP,by show(TK _ _).length≤256;rw[Yd];exact A5 (JK _ _) kA⟩ ?_;exact⟨Dl w.pin.length k (by omega),⟨Zr,Zr,⟨(show AV.msl 7 (kept (En w.pin[k]) A).length=.msl 7 (TK (kept (En w.pin[k]) A) (MN w.pin[k] (kept (En w.pin[k]) A)).toNat).length by rw[Yd]),rfl⟩,Zr,Zr,Zr,Tv⟩,⟨Zr,Zr,⟨(Ac (HO.arr 9) eU),rfl⟩,Tv⟩,Fh,Tv⟩
 have h9:¬((k:Int)<((w.pin.map Ae).length:Int)):=h9;have n9:=Jx h9;refine Yi (show A.length=(A.map Ah).length by rw[Lm]) ?_;refine Xi ⟨[(2,.ref 2 0),(4,.ref 4 0),(7,sl Ah A)],[(2,.ro (Ic x ifs)),(4,.cells [.v (.slice none 0 0),.v (.slice none 0 0)])],Ab⟩ (Yi ⟨Z3,Z2,Fh,Tv⟩ ?_)
 refine Xi .pure (Xi _ (Yi (o46 ifs qf zy) ?_));refine Yi (Nz rfl) ?_;refine Yi (Nz rfl) ?_;have eP:KF w.pin (kept (Of w) A0)=some A:=by rw[k2,Hf (by have q:=h9;rw[Lm]at q;omega)];rfl
 have eR:=WN h1 h3 hA h6 eP;exact .of_eq (show _=Pm x ifs w by unfold Pm;rw[eR];rfl)
abbrev Fq(l o:List Sl):List Sl:=kept (fun s=>decide (s∈o)) l
abbrev WC:Wk:=⟨[],[],[]⟩
def Ed(a b:Wk):Wk×Int :=
 if BU a≠0 then(WC,BU a)else if BU b≠0 then(WC,BU b)else if 256<((AU Cv a.rep b.rep).length:Int)then(WC,7)else
  (⟨AU Cv a.rep b.rep,Fq (AU E2 a.exc b.exc) b.pin,AU Kp (Fq a.pin b.exc) b.pin⟩,0)
abbrev S8(p:Wk×Int):AV:=.tup [.agg (Bg p.1),vi p.2]
theorem ND{p:Wk×Int}{e:Int}(h:p=(WC,e)):Hm (.tup [.agg [.v (.slice none 0 0),.v (.slice none 0 0),.v (.slice none 0 0)],vi e]) (S8 p):=by
 subst h;exact .tup ⟨.agg ⟨.nil,.nil,.nil,trivial⟩,.refl _,trivial⟩
theorem fY{a b:Wk}(h:BU a≠0):Ed a b=(WC,BU a):=by unfold Ed;rw[Az h]
theorem fZ{a b:Wk}(h:BU a=0)(h2:BU b≠0):Ed a b=(WC,BU b):=by unfold Ed;rw[Al (fun c=>c h),Az h2]
theorem ga{a b:Wk}(h:BU a=0)(h2:BU b=0){A:List Rl}(hA:A=AU Cv a.rep b.rep)(h3:256<(A.length:Int)):Ed a b=(WC,7):=by
 subst hA;unfold Ed;rw[Al (fun c=>c h),Al (fun c=>c h2),Az h3]
theorem gc{a b:Wk}(h:BU a=0)(h2:BU b=0){A:List Rl}(hA:A=AU Cv a.rep b.rep)(h3:¬256<(A.length:Int)):Ed a b=(⟨A,Fq (AU E2 a.exc b.exc) b.pin,AU Kp (Fq a.pin b.exc) b.pin⟩,0):=by
 subst hA;unfold Ed;rw[Al (fun c=>c h),Al (fun c=>c h2),Al h3]
theorem o90(s:Sl)(o:List Sl)(hl:Cn o):PC 90 [.agg (Ae s),.cptr [sl Ae o]] (vb (decide (s∈o))):=by
 refine Ps ⟨[2],[],[],[],[],[],[],[],[],[],[]⟩ Tryz.func90 rfl (Nz rfl) ?_;refine Yi (Nz rfl) ?_;refine BN (Bt (decide (s∈o))) (fun h1=>?_) (fun h1=>?_)
 ·have h1:(decide (s∈o))=true:=h1;refine Xi .pure (Xi _ (Yi (cb h1 (iQ o s hl)) ?_));exact .of_eq (show vb true=vb (decide (s∈o)) by rw[h1])
 have h1:(decide (s∈o))=false:=h1;refine Xi .pure (Xi _ (Yi (cb h1 (iQ o s hl)) ?_));exact .of_eq (show vb false=vb (decide (s∈o)) by rw[h1])
theorem xV(l o:List Sl)(hl:Cn l)(ho:Cn o):PC 62 [sl Ae l,sl Ae o] (sl Ae (Fq l o)):=by
 refine Ps ⟨[3],[],[],[],[],[],[],[],[],[(4,8)],[]⟩ Tryz.func62 rfl (Nz rfl) ?_;refine Xi (.gen [] 1) (Yi rfl (Be.to2 (rD l hl) ?_));refine Xi (.gen [(10600,1000)] 1) (Yi rfl (Be.to2 (o88 l (fun s=>decide (s∈o)) (fun s _=>o90 s o ho) hl) ?_));refine Yi (show(Fq l o).length=((Fq l o).map Ae).length by rw[Lm]) ?_;exact .refl _
theorem vd(a b:Wk)(Yj:WD a)(hB:WD b)(Oy:a.rep.length+b.rep.length≤1073741824)(uM:a.exc.length+b.exc.length≤1073741824)(zi:∀r∈a.rep,Cn r.reqs)(zj:∀r∈b.rep,Cn r.reqs):PC 17 [.agg (Bg a),.agg (Bg b)] (S8 (Ed a b)):=by
 obtain⟨A0,hA⟩:∃A,A=AU Cv a.rep b.rep:=⟨_,rfl⟩;have lk:A0.length≤1073741824:=by rw[hA];exact A5 (G0 a.rep b.rep) Oy
 have tJ:∀r∈A0,Cn r.reqs:=fun r hr=>by rw[hA]at hr;exact(ET hr).elim (zi r) (zj r)
 have tK:∀r∈A0,∀q∈r.reqs,Cn q.set:=fun r hr q hq=>by rw[hA]at hr;exact(ET hr).elim (fun h=>((Yj.rep r h).2 q hq).1) (fun h=>((hB.rep r h).2 q hq).1)
 have ZU:PC 38 [sl Ah a.rep,sl Ah b.rep,.v (.func (.func 39) #[] #[])] (sl Ah A0):=by rw[hA];exact xR a.rep b.rep Yj.reps hB.reps
 have hE:Cn (AU E2 a.exc b.exc):=A5 (G0 a.exc b.exc) uM;refine Ps ⟨[2,3,7],[],[],[],[],[],[],[],[],[(100010,10)],[4,7,8,9,10,11,12,13,14]⟩ Tryz.func17 rfl (Nz rfl) ?_;refine Yi (Nz rfl) ?_;refine Yi (Nz rfl) ?_;refine Xi {q:Nat // q≤2∧(0<q→BU a=0)∧(1<q→BU b=0)} (Xi (fun q=>⟨[(2,.ref 2 0),(3,.ref 3 0),(4,.ref 4 0),(13,.slice (.id 13 3) [(Bg a),(Bg b)]),(14,vi 2),(15,vi q.1)],[(2,.ro (Bg a)),(3,.ro (Bg b)),(4,.cells [.v (.slice none 0 0),.v (.slice none 0 0),.v (.slice none 0 0)]),(13,.tok 3 2)],Ab⟩) (Xi (fun q=>2-q.1) (Yi (Xi ⟨0,by decide,fun h=>absurd h (by decide),fun h=>absurd h (by decide)⟩ ?_) ?_)))
 ·exact⟨Z6,Z4,Fh,Tv⟩
 intro⟨i,i1,i2,i3⟩;have i1:i≤2:=i1;have i2:0<i→BU a=0:=i2;have i3:1<i→BU b=0:=i3;refine Yi (fun h1=>?_) (fun h1=>?_)
 ·have h1:(i:Int)<(2:Int):=h1;refine BN (show i=0∨i=1 by omega) (fun hi=>?_) (fun hi=>?_)
  ·have hi:i=0:=hi;refine Xi (Bg a) (Yi (show(0:Int)≤(i:Int)∧[Bg a,Bg b][((i:Nat):Int).toNat]?=some (Bg a)from⟨NU _,by rw[hi];rfl⟩) (Yi rfl ?_));refine Yi (Nz rfl) ?_;refine Yi (Nz rfl) ?_;refine Xi ⟨[(2,.ref 2 0),(3,.ref 3 0),(4,.ref 4 0),(7,.ref 7 0),(13,.slice (.id 13 3) [(Bg a),(Bg b)]),(14,vi 2),(15,vi i)],[(2,.ro (Bg a)),(3,.ro (Bg b)),(4,.cells [.v (.slice none 0 0),.v (.slice none 0 0),.v (.slice none 0 0)]),(7,.ro (Bg a)),(13,.tok 3 2)],Ab⟩ (Yi ⟨Z7,Z5,Fh,Tv⟩ ?_)
   refine Yi (Nz rfl) ?_;refine Xi .pure (Xi _ (Yi (qV a Yj) ?_));refine Yi (fun h2=>?_) (fun h2=>?_)
   ·have h2:((BU a):Int)≠(0:Int):=h2;refine Yi (Nz rfl) ?_;refine Yi (Nz rfl) ?_;exact ND (fY h2)
   have h2:((BU a):Int)=(0:Int):=Br h2;refine Xi ⟨[(2,.ref 2 0),(3,.ref 3 0),(4,.ref 4 0),(13,.slice (.id 13 3) [(Bg a),(Bg b)]),(14,vi 2),(15,vi i)],[(2,.ro (Bg a)),(3,.ro (Bg b)),(4,.cells [.v (.slice none 0 0),.v (.slice none 0 0),.v (.slice none 0 0)]),(13,.tok 3 2)],Ab⟩ (Yi ⟨Z6,Z4,Fh,Tv⟩ ?_)
   refine Yi (Ii i (by omega)) ?_;refine Xi ⟨i+1,by omega,fun _=>h2,fun h=>absurd h (by omega)⟩ ?_;exact⟨Dl 2 i (by omega),Z6,Z4,Fh,Tv⟩
  refine Xi (Bg b) (Yi (show(0:Int)≤(i:Int)∧[Bg a,Bg b][((i:Nat):Int).toNat]?=some (Bg b)from⟨NU _,by rw[hi];rfl⟩) (Yi rfl ?_));refine Yi (Nz rfl) ?_;refine Yi (Nz rfl) ?_;refine Xi ⟨[(2,.ref 2 0),(3,.ref 3 0),(4,.ref 4 0),(7,.ref 7 0),(13,.slice (.id 13 3) [(Bg a),(Bg b)]),(14,vi 2),(15,vi i)],[(2,.ro (Bg a)),(3,.ro (Bg b)),(4,.cells [.v (.slice none 0 0),.v (.slice none 0 0),.v (.slice none 0 0)]),(7,.ro (Bg b)),(13,.tok 3 2)],Ab⟩ (Yi ⟨Z7,Z5,Fh,Tv⟩ ?_)
  refine Yi (Nz rfl) ?_;refine Xi .pure (Xi _ (Yi (qV b hB) ?_));refine Yi (fun h5=>?_) (fun h5=>?_)
  ·have h5:((BU b):Int)≠(0:Int):=h5;refine Yi (Nz rfl) ?_;refine Yi (Nz rfl) ?_;exact ND (fZ (i2 (by omega)) h5)
  have h5:((BU b):Int)=(0:Int):=Br h5;refine Xi ⟨[(2,.ref 2 0),(3,.ref 3 0),(4,.ref 4 0),(13,.slice (.id 13 3) [(Bg a),(Bg b)]),(14,vi 2),(15,vi i)],[(2,.ro (Bg a)),(3,.ro (Bg b)),(4,.cells [.v (.slice none 0 0),.v (.slice none 0 0),.v (.slice none 0 0)]),(13,.tok 3 2)],Ab⟩ (Yi ⟨Z6,Z4,Fh,Tv⟩ ?_)
  refine Yi (Ii i (by omega)) ?_;refine Xi ⟨i+1,by omega,fun _=>i2 (by omega),fun _=>h5⟩ ?_;exact⟨Dl 2 i (by omega),Z6,Z4,Fh,Tv⟩
 have h1:¬((i:Int)<(2:Int)):=h1;refine Xi ⟨[(2,.ref 2 0),(3,.ref 3 0),(4,.ref 4 0)],[(2,.ro (Bg a)),(3,.ro (Bg b)),(4,.cells [.v (.slice none 0 0),.v (.slice none 0 0),.v (.slice none 0 0)])],Ab⟩ (Yi ⟨Z3,Z3,Fh,Tv⟩ ?_)
 refine Xi ⟨[(2,.ref 2 0),(3,.ref 3 0),(4,.ref 4 0),(9,.v (.func (.func 61) #[] #[]))],[(2,.ro (Bg a)),(3,.ro (Bg b)),(4,.cells [.v (.slice none 0 0),.v (.slice none 0 0),.v (.slice none 0 0)])],Ab⟩ (Yi ⟨Z4,Z3,Fh,Tv⟩ ?_)
 refine Xi .pure (Xi _ (Yi ZU ?_));refine Xi (.gen [] 1) (Yi rfl (Be.to2 (rC A0 lk tJ tK) ?_));refine Yi (Nz rfl) ?_;refine Yi (show A0.length=(A0.map Ah).length by rw[Lm]) ?_;refine Xi ⟨[(2,.ref 2 0),(3,.ref 3 0),(4,.ref 4 0),(9,.v (.func (.func 61) #[] #[])),(10,.ref 10 0)],[(2,.ro (Bg a)),(3,.ro (Bg b)),(4,.cells [.v (.slice none 0 0),.v (.slice none 0 0),.v (.slice none 0 0)]),(10,.cells [.slice (.id 13100 9) (A0.map Ah),.v (.slice none 0 0),.v (.slice none 0 0)]),(13100,.tok 9 (A0.map Ah).length)],Ab⟩ (Yi ⟨Z5,Z5,Fh,Tv⟩ ?_)
 refine Yi (fun h9=>?_) (fun h9=>?_)
 ·have h9:(256:Int)<((A0.map Ah).length:Int):=h9;have n9:256<A0.length:=by have q:=h9;rw[Lm]at q;omega
  refine Xi ⟨[(4,.ref 4 0)],[(4,.cells [.v (.slice none 0 0),.v (.slice none 0 0),.v (.slice none 0 0)])],Ab⟩ (Yi ⟨Z1,Z1,Fh,Tv⟩ ?_)
  refine Yi (Nz rfl) ?_;refine Yi (Nz rfl) ?_;have ja:=i2 (by omega);have jb:=i3 (by omega);exact ND (ga ja jb hA (by have q:=h9;rw[Lm]at q;exact q))
 have h9:¬((256:Int)<((A0.map Ah).length:Int)):=h9;have n9:¬256<A0.length:=by have q:=h9;rw[Lm]at q;omega
 refine Xi ⟨[(2,.ref 2 0),(3,.ref 3 0),(4,.ref 4 0),(9,.v (.func (.func 61) #[] #[])),(10,.ref 10 0)],[(2,.ro (Bg a)),(3,.ro (Bg b)),(4,.cells [.v (.slice none 0 0),.v (.slice none 0 0),.v (.slice none 0 0)]),(10,.cells [.slice (.id 13100 9) (A0.map Ah),.v (.slice none 0 0),.v (.slice none 0 0)]),(13100,.tok 9 (A0.map Ah).length)],Ab⟩ (Yi ⟨Z5,Z5,Fh,Tv⟩ ?_)
 refine Xi _ (Yi (vl a.exc b.exc Yj.exc hB.exc) ?_);refine Xi _ (Yi (xV (AU E2 a.exc b.exc) b.pin hE hB.pin) ?_);refine Yi (Nz rfl) ?_;refine Yi (by kernel_rfl) ?_;refine Xi ⟨[(2,.ref 2 0),(3,.ref 3 0),(4,.ref 4 0),(9,.v (.func (.func 61) #[] #[])),(10,.ref 10 0)],[(2,.ro (Bg a)),(3,.ro (Bg b)),(4,.cells [.v (.slice none 0 0),.v (.slice none 0 0),.v (.slice none 0 0)]),(10,.cells [.slice (.id 13100 9) (A0.map Ah),sl Ae (Fq (AU E2 a.exc b.exc) b.pin),.v (.slice none 0 0)]),(13100,.tok 9 (A0.map Ah).length)],Ab⟩ (Yi ⟨Z5,Z5,Fh,Tv⟩ ?_)
 refine Xi _ (Yi (xV a.pin b.exc Yj.pin hB.exc) ?_);refine Xi _ (Yi (vh (Fq a.pin b.exc) b.pin (A5 (JK _ _) Yj.pin) hB.pin) ?_);refine Yi (Nz rfl) ?_;refine Yi (by kernel_rfl) ?_;refine Xi ⟨[(4,.ref 4 0),(10,.ref 10 0)],[(4,.cells [.v (.slice none 0 0),.v (.slice none 0 0),.v (.slice none 0 0)]),(10,.cells [.slice (.id 13100 9) (A0.map Ah),sl Ae (Fq (AU E2 a.exc b.exc) b.pin),sl Ae (AU Kp (Fq a.pin b.exc) b.pin)]),(13100,.tok 9 (A0.map Ah).length)],Ab⟩ (Yi ⟨Z2,Z3,Fh,Tv⟩ ?_)
 refine Yi (Nz rfl) ?_;refine Yi (Nz rfl) ?_;refine Yi (Nz rfl) ?_;have ja:=i2 (by omega);have jb:=i3 (by omega);have eM:=gc ja jb hA (by have q:=h9;rw[Lm]at q;exact q);exact .of_eq (show _=S8 (Ed a b) by rw[eM];rfl)
end Go.Eng
