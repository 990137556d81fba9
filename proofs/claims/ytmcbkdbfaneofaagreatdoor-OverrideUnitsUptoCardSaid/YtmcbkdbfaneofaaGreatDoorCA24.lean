/- Lemmas for the claims of this seat, without a condition: part 24 (O6, O7, O8). -/
import Derived.Test.YtmcbkdbfaneofaaGreatDoorCA23
set_option maxHeartbeats 4000000
namespace Go.Eng
open Go.Proofs
abbrev kept{α:Type}(p:α→Bool)(l:List α):List α:=l.filter fun x=>!p x
theorem Ms{α:Type}(p:α→Bool)(l:List α):(kept p l).length≤l.length:=BD _ _
theorem Kn{α:Type}{p:α→Bool}{l:List α}{j:Nat}(h:j<l.length):kept p (l.take (j+1))=kept p (l.take j)++(if p l[j]=true then []else [l[j]]):=by
 unfold kept;rw[Bs,Eg,Ge h];cases e:p l[j]<;>simp[e]
theorem Ko{α:Type}{p:α→Bool}{l:List α}(h:∀j (hj:j<l.length),p l[j]=false):kept p l=l:=by
 rw[List.filter_eq_self];intro x hx;obtain⟨j,hj,rfl⟩:=DP.1 hx;rw[h j hj];rfl
theorem KV{α:Type}{p:α→Bool}{l:List α}{i:Nat}(hi:i<l.length)(h:∀j (hj:j<l.length),j<i→p l[j]=false)(hp:p l[i]=true):kept p (l.take (i+1))=l.take i:=by
 rw[Kn hi,Aw hp,BZ,Ko];intro j hj;rw[J5];rw[AJ]at hj;exact h j (by omega) (by omega)
theorem Nw{α:Type}(p:α→Bool)(l:List α):(HU p l 0=-1∧∀j (hj:j<l.length),p l[j]=false)∨∃i,∃hi:i<l.length,HU p l 0=(i:Int)∧p l[i]=true∧∀j (hj:j<l.length),j<i→p l[j]=false:=by
 by_cases h:∃i,∃hi:i<l.length,p l[i]=true
 ·obtain⟨i,hm⟩:=lB h;obtain⟨⟨hi,hp⟩,hl⟩:=hm;have hl:∀j (hj:j<l.length),j<i→p l[j]=false:=fun j hj HT=>by
   cases e:p l[j]with
   |false=>rfl
   |true=>exact absurd ⟨hj,e⟩ (hl j HT)
  exact .inr ⟨i,hi,by rw[Ja hi (fun j hj HT=>hl j hj HT) hp,EV],hp,hl⟩
 ·have hl:∀j (hj:j<l.length),p l[j]=false:=fun j hj=>by
   cases e:p l[j]with
   |false=>rfl
   |true=>exact absurd ⟨j,hj,e⟩ h
  exact .inl ⟨by rw[F7 fun j hj=>hl j hj],hl⟩
theorem qJ{fF:Nat}{cs:List AV}(l:List Rl)(p:Rl→Bool)(hF:∀x∈l,PC fF [.agg (Ai x),.cptr cs] (vb (p x)))(hl:Cp l):Bd Tryz.prog 44 [.msl 1000 l.length,.clo fF [.cptr cs]] (Ah [(1000,.arr 9 (l.map Ai))] Ab) fun r h'=>r=vi (HU p l 0)∧h'=Ah [(1000,HO.arr 9 (l.map Ai))] Ab:=by
 have hl:l.length≤1073741824:=hl;refine Cm (Mo ⟨[],[],[],[],[],[],[],[],[],[],[]⟩) [(1000,1000)] rfl CK hm rfl Tryz.func44 (by kernel_rfl) rfl (Nz rfl) (by kernel_rfl) rfl ?_;refine Xi {q:Nat // q≤l.length∧∀j (hj:j<l.length),j<q→p l[j]=false} (Xi (fun q=>⟨[(0,.msl 1000 l.length),(1,.clo fF [.cptr cs]),(7,vi l.length),(8,vi q.1)],[(1000,.arr 9 (l.map Ai))],Ab⟩) (Xi (fun q=>l.length-q.1) (Yi (Xi ⟨0,AN _,fun _ _ h=>absurd h (Dt _)⟩ ?_) ?_)))
 ·exact⟨Z4,Z1,Fh,Ax (by kernel_rfl)⟩
 intro⟨i,i1,i2⟩;have i1:i≤l.length:=i1;have i2:∀j (hj:j<l.length),j<i→p l[j]=false:=i2;refine Yi (fun h1=>?_) (fun h1=>?_)
 ·have h1:(i:Int)<(l.length:Int):=h1;have n1:i<l.length:=by omega
  have g1:l[i]?=some l[i]:=Ge n1;refine Yi (by show(0:Int)≤i∧(i:Int)<(l.length:Nat);omega) ?_;refine Yi (show l.length=(l.map Ai).length by rw[Lm]) (Xi (Ai l[i]) (Yi (Cf g1) ?_));refine Yi (Nz rfl) ?_;refine BV (Bt (p l[i])) (fun h2=>?_) (fun h2=>?_)
  ·have h2:(p l[i])=true:=h2;refine Xi .pure (Xi _ (Yi (cb h2 (hF l[i] (Aq n1))) ?_));exact Xi _ (Yi (.refl _) ⟨show vi i=vi (HU p l 0) by rw[Ja n1 (fun j hj HT=>i2 j hj HT) h2,EV],rfl⟩)
  have h2:(p l[i])=false:=h2;refine Xi .pure (Xi _ (Yi (cb h2 (hF l[i] (Aq n1))) ?_));refine Yi (Ii i (by omega)) ?_;refine Xi ⟨i+1,n1,fun j hj HT=>if e:j<i then i2 j hj e else by
    have e:j=i:=by omega
    subst e;exact h2⟩ ?_
  exact⟨Dl l.length i (by omega),Z4,Z1,Fh,Ax (by kernel_rfl)⟩
 have h1:¬((i:Int)<(l.length:Int)):=h1;have n1:¬i<l.length:=by omega
 exact Xi _ (Yi (.refl _) ⟨show vi (-1)=vi (HU p l 0) by rw[F7 fun j hj=>i2 j hj (by omega)],rfl⟩)
theorem uO{fF:Nat}{cs:List AV}(l:List Rl)(p:Rl→Bool)(ix:Bd Tryz.prog 44 [.msl 1000 l.length,.clo fF [.cptr cs]] (Ah [(1000,.arr 9 (l.map Ai))] Ab) fun r h'=>r=vi (-1)∧h'=Ah [(1000,HO.arr 9 (l.map Ai))] Ab)(FM:∀j (hj:j<l.length),p l[j]=false):Bd Tryz.prog 40 [.msl 1000 l.length,.clo fF [.cptr cs]] (Ah [(1000,.arr 9 (l.map Ai))] Ab) fun r h'=>r=.msl 2000 (kept p l).length∧h'=Ah [(1000,.dead),(2000,.arr 9 ((kept p l).map Ai))] Ab:=by
 refine Cm (Mo ⟨[],[],[],[],[],[],[],[],[],[(200003,41000)],[3,6,9]⟩) [(1000,1000),(41,2000)] rfl CK hm rfl Tryz.func40 (by kernel_rfl) rfl (Nz rfl) (by kernel_rfl) rfl ?_;refine Xi (.gen [(1000,1000)] 0) (Yi rfl (Bd.to2 (ix) ?_));refine Yi (fun _=>?_) (fun h=>absurd (by decide) h);refine Yi (show l.length=(l.map Ai).length by rw[Lm]) ?_;refine Xi ⟨[(0,.msl 41 l.length)],[(41,.arr 9 (l.map Ai)),(1000,.dead)],Ab⟩ (Yi ⟨Z1,Z2,Fh,Ax (by kernel_rfl)⟩ ?_)
 exact Xi _ (Yi (.refl _) ⟨show AV.msl 2000 l.length=.msl 2000 (kept p l).length by rw[Ko FM],show Ah [(1000,HO.dead),(2000,.arr 9 (l.map Ai))] Ab=Ah [(1000,.dead),(2000,.arr 9 ((kept p l).map Ai))] Ab by rw[Ko FM]⟩)
theorem uP{fF:Nat}{cs:List AV}(l:List Rl)(p:Rl→Bool)(hF:∀x∈l,PC fF [.agg (Ai x),.cptr cs] (vb (p x)))(hl:Cp l)(i0:Nat)(fm:i0<l.length)(fw:p l[i0]=true)(hb:∀j (hj:j<l.length),j<i0→p l[j]=false)(ix:Bd Tryz.prog 44 [.msl 1000 l.length,.clo fF [.cptr cs]] (Ah [(1000,.arr 9 (l.map Ai))] Ab) fun r h'=>r=vi (i0:Nat)∧h'=Ah [(1000,HO.arr 9 (l.map Ai))] Ab):Bd Tryz.prog 40 [.msl 1000 l.length,.clo fF [.cptr cs]] (Ah [(1000,.arr 9 (l.map Ai))] Ab) fun r h'=>r=.msl 2000 (kept p l).length∧h'=Ah [(1000,.dead),(2000,.arr 9 ((kept p l).map Ai))] Ab:=by
 have hl:l.length≤1073741824:=hl;refine Cm (Mo ⟨[],[(41,9)],[],[],[],[],[],[],[],[],[6,9]⟩) [(1000,1000),(41,2000)] rfl CK hm rfl Tryz.func40 (by kernel_rfl) rfl (Nz rfl) (by kernel_rfl) rfl ?_;refine Xi (.gen [(1000,1000)] 0) (Yi rfl (Bd.to2 (ix) ?_));refine Yi (fun h2=>?_) (fun h2=>?_)
 ·have h2:(i0:Int)=((-1):Int):=h2;exact absurd h2 (by omega)
 have h2:¬((i0:Int)=((-1):Int)):=h2;refine Yi (Ii i0 (by omega)) ?_;refine Xi {q:Nat×Nat×List Rl // i0<q.1∧q.1≤l.length∧q.2.1=(kept p (l.take q.1)).length∧q.2.2.length=l.length∧q.2.2.take q.2.1=kept p (l.take q.1)∧q.2.2.drop q.1=l.drop q.1} (Xi (fun q=>⟨[(0,.msl 1000 l.length),(1,.clo fF [.cptr cs]),(5,vi q.1.2.1),(6,vi q.1.1)],[(1000,.arr 9 (q.1.2.2.map Ai))],Ab⟩) (Xi (fun q=>l.length-q.1.1) (Yi (Xi ⟨(i0+1,i0,l),GG _,fm,by show i0=(kept p (l.take (i0+1))).length;rw[KV fm hb fw,AJ];omega,rfl,by show l.take i0=kept p (l.take (i0+1));rw[KV fm hb fw],rfl⟩ ?_) ?_)))
 ·exact⟨Z4,Z1,Fh,Ax (by kernel_rfl)⟩
 intro⟨⟨j,i,N⟩,k0,k1,k2,k3,k4,k5⟩;have k0:i0<j:=k0;have k1:j≤l.length:=k1;have k2:i=(kept p (l.take j)).length:=k2;have k3:N.length=l.length:=k3;have k4:N.take i=kept p (l.take j):=k4;have k5:N.drop j=l.drop j:=k5;have k6:i≤j:=by rw[k2];exact A3 (Ms _ _) (by rw[AJ];omega)
 refine Yi (fun h3=>?_) (fun h3=>?_)
 ·have h3:(j:Int)<(l.length:Int):=h3;have n3:j<l.length:=by omega
  have g3:l[j]?=some l[j]:=Ge n3;have nj:j<N.length:=by omega
  have gj:N[j]?=some N[j]:=Ge nj;refine Yi (by show(0:Int)≤j∧(j:Int)<(l.length:Nat);omega) ?_;refine Yi (show l.length=(N.map Ai).length by rw[Lm];exact k3.symm) (Xi (Ai N[j]) (Yi (Cf gj) ?_));refine Yi (Nz rfl) ?_;refine Yi (Nz rfl) ?_;refine Yi (Nz rfl) ?_;refine BV (Bt (p N[j])) (fun h4=>?_) (fun h4=>?_)
  ·have h4:(p N[j])=true:=h4;refine Xi .pure (Xi _ (Yi (cb h4 (hF N[j] (by have q:N[j]=l[j]:=(by have q:=Ac (fun z=>z[0]?) k5;simp only[BP,Dx]at q;rw[Ge nj,Ge n3]at q;exact BL q);rw[q];exact Aq _))) ?_));refine Xi ⟨[(0,.msl 1000 l.length),(1,.clo fF [.cptr cs]),(5,vi i),(6,vi j)],[(1000,.arr 9 (N.map Ai))],Ab⟩ (Yi ⟨Z4,Z1,Fh,Ax (by kernel_rfl)⟩ ?_)
   refine Yi (Ii j (by omega)) ?_;have eN:N[j]=l[j]:=by have q:=Ac (fun z=>z[0]?) k5;simp only[BP,Dx]at q;rw[Ge nj,Ge n3]at q;exact BL q
   have kn:kept p (l.take (j+1))=kept p (l.take j):=by rw[Kn n3,Aw (by rw[←eN];exact h4),BZ]
   refine Xi ⟨(j+1,i,N),Qo k0,n3,by rw[kn];exact k2,k3,by rw[kn];exact k4,by show N.drop (j+1)=l.drop (j+1);rw[←D3,←D3,k5]⟩ ?_;exact⟨Dl l.length j (by omega),Z4,Z1,Fh,Ax (by kernel_rfl)⟩
  have h4:(p N[j])=false:=h4;have ni:i<N.length:=by omega
  have gi:N[i]?=some N[i]:=Ge ni;refine Xi .pure (Xi _ (Yi (cb h4 (hF N[j] (by have q:N[j]=l[j]:=(by have q:=Ac (fun z=>z[0]?) k5;simp only[BP,Dx]at q;rw[Ge nj,Ge n3]at q;exact BL q);rw[q];exact Aq _))) ?_));refine Xi ⟨[(0,.msl 1000 l.length),(1,.clo fF [.cptr cs]),(5,vi i),(6,vi j),(7,.ref 7 0)],[(7,.cells (Ai N[j])),(1000,.arr 9 (N.map Ai))],Ab⟩ (Yi ⟨Z5,Z2,Fh,Ax (by kernel_rfl)⟩ ?_)
  refine Yi (Nz rfl) ?_;refine Yi (by show(0:Int)≤i∧(i:Int)<(l.length:Nat);omega) ?_;refine Yi (show l.length=(N.map Ai).length by rw[Lm];exact k3.symm) (Xi (Ai N[i]) (Yi (Cf gi) (Yi (Nz rfl) ?_)));refine Yi (Ii i (by omega)) ?_;refine Xi ⟨[(0,.msl 1000 l.length),(1,.clo fF [.cptr cs]),(5,vi (i+1)),(6,vi j)],[(1000,.arr 9 ((N.map Ai).set i [vs N[j].path,vi N[j].ver.a,vi N[j].ver.b,vi N[j].ver.c,sl AM N[j].reqs,vs N[j].arch,vs N[j].ifc,vs N[j].cert,vb N[j].yanked]))],Ab⟩ (Yi ⟨Z4,Z1,Fh,Ax (by kernel_rfl)⟩ ?_)
  refine Yi (Ii j (by omega)) ?_;have eN:N[j]=l[j]:=by have q:=Ac (fun z=>z[0]?) k5;simp only[BP,Dx]at q;rw[Ge nj,Ge n3]at q;exact BL q
  have kn:kept p (l.take (j+1))=kept p (l.take j)++[l[j]]:=by rw[Kn n3,Ak (by rw[←eN,h4];decide)]
  have ki:i<N.length:=by omega
  refine Xi ⟨(j+1,i+1,N.set i N[j]),Qo k0,n3,by show i+1=(kept p (l.take (j+1))).length;rw[kn,Ad,←k2];rfl,by show(N.set i N[j]).length=_;rw[CR];exact k3,by show(N.set i N[j]).take (i+1)=kept p (l.take (j+1));rw[kn,Bs,List.take_set_of_le (Aj _),k4,TR ki,eN];rfl,by show(N.set i N[j]).drop (j+1)=l.drop (j+1);rw[List.drop_set_of_lt (by omega),←D3,←D3,k5]⟩ ?_;exact⟨Dl l.length j (by omega),Z4,⟨⟨(show HO.arr 9 ((N.map Ai).set i (Ai N[j]))=.arr 9 ((N.set i N[j]).map Ai) by rw[Nc]),rfl⟩,Tv⟩,Fh,Ax (by kernel_rfl)⟩
 have h3:¬((j:Int)<(l.length:Int)):=h3;have n3:¬j<l.length:=by omega
 refine Yi (show l.length=(N.map Ai).length∧(0:Int)≤i∧(i:Int)≤((N.map Ai).length:Nat)from⟨by rw[Lm];exact k3.symm,by omega,by rw[Lm];omega⟩) ?_;refine Yi (show l.length=(((N.map Ai).take i++List.replicate ((N.map Ai).length-i) [vs ⟨#[]⟩,vi 0,vi 0,vi 0,.v (.slice none 0 0),vs ⟨#[]⟩,vs ⟨#[]⟩,vs ⟨#[]⟩,vb false]):List (List AV)).length∧(0:Int)≤i∧(i:Int)≤((((N.map Ai).take i++List.replicate ((N.map Ai).length-i) [vs ⟨#[]⟩,vi 0,vi 0,vi 0,.v (.slice none 0 0),vs ⟨#[]⟩,vs ⟨#[]⟩,vs ⟨#[]⟩,vb false]):List (List AV)).length:Nat)from⟨by rw[Ad,AJ,Cq,Lm];omega,by omega,by rw[Ad,AJ,Cq,Lm];omega⟩) ?_;have ej:j=l.length:=by omega
 have e1:kept p l=kept p (l.take j):=by rw[ej,Du]
 have e2:i=(kept p l).length:=by rw[e1];exact k2
 have e3:((N.map Ai).take i++List.replicate ((N.map Ai).length-i) [vs ⟨#[]⟩,vi 0,vi 0,vi 0,.v (.slice none 0 0),vs ⟨#[]⟩,vs ⟨#[]⟩,vs ⟨#[]⟩,vb false]).take i=(kept p l).map Ai:=by
  rw[DY (by rw[AJ,Lm];omega),J8,Nat.min_self,←QU,k4,e1]
 exact Xi _ (Yi (.refl _) ⟨show AV.msl 2000 i=.msl 2000 (kept p l).length from Ac (AV.msl 2000) e2,show Ah [(1000,HO.dead),(2000,.arr 9 (((N.map Ai).take i++List.replicate ((N.map Ai).length-i) [vs ⟨#[]⟩,vi 0,vi 0,vi 0,.v (.slice none 0 0),vs ⟨#[]⟩,vs ⟨#[]⟩,vs ⟨#[]⟩,vb false]).take i))] Ab=_ from Ac (fun z=>Ah [(1000,HO.dead),(2000,.arr 9 z)] Ab) e3⟩)
theorem xC{fF:Nat}{cs:List AV}(l:List Rl)(p:Rl→Bool)(hF:∀x∈l,PC fF [.agg (Ai x),.cptr cs] (vb (p x)))(hl:Cp l):Bd Tryz.prog 40 [.msl 1000 l.length,.clo fF [.cptr cs]] (Ah [(1000,.arr 9 (l.map Ai))] Ab) fun r h'=>r=.msl 2000 (kept p l).length∧h'=Ah [(1000,.dead),(2000,.arr 9 ((kept p l).map Ai))] Ab:=by
 have ix:=qJ l p hF hl;rcases Nw p l with ⟨e,h⟩ | ⟨i,hi,e,hp,hb⟩
 ·rw[e]at ix;exact uO l p ix h
 ·rw[e]at ix;exact uP l p hF hl i hi hp hb ix
theorem uT{fF:Nat}{cs:List AV}(l:List Sl)(p:Sl→Bool)(hF:∀x∈l,PC fF [.agg (Ae x),.cptr cs] (vb (p x)))(hl:Cp l):Bd Tryz.prog 70 [.msl 1000 l.length,.clo fF [.cptr cs]] (Ah [(1000,.arr 4 (l.map Ae))] Ab) fun r h'=>r=vi (HU p l 0)∧h'=Ah [(1000,HO.arr 4 (l.map Ae))] Ab:=by
 have hl:l.length≤1073741824:=hl;refine Cm (Mo ⟨[],[],[],[],[],[],[],[],[],[],[]⟩) [(1000,1000)] rfl CK hm rfl Tryz.func70 (by kernel_rfl) rfl (Nz rfl) (by kernel_rfl) rfl ?_;refine Xi {q:Nat // q≤l.length∧∀j (hj:j<l.length),j<q→p l[j]=false} (Xi (fun q=>⟨[(0,.msl 1000 l.length),(1,.clo fF [.cptr cs]),(7,vi l.length),(8,vi q.1)],[(1000,.arr 4 (l.map Ae))],Ab⟩) (Xi (fun q=>l.length-q.1) (Yi (Xi ⟨0,AN _,fun _ _ h=>absurd h (Dt _)⟩ ?_) ?_)))
 ·exact⟨Z4,Z1,Fh,Ax (by kernel_rfl)⟩
 intro⟨i,i1,i2⟩;have i1:i≤l.length:=i1;have i2:∀j (hj:j<l.length),j<i→p l[j]=false:=i2;refine Yi (fun h1=>?_) (fun h1=>?_)
 ·have h1:(i:Int)<(l.length:Int):=h1;have n1:i<l.length:=by omega
  have g1:l[i]?=some l[i]:=Ge n1;refine Yi (by show(0:Int)≤i∧(i:Int)<(l.length:Nat);omega) ?_;refine Yi (show l.length=(l.map Ae).length by rw[Lm]) (Xi (Ae l[i]) (Yi (Cf g1) ?_));refine Yi (Nz rfl) ?_;refine BV (Bt (p l[i])) (fun h2=>?_) (fun h2=>?_)
  ·have h2:(p l[i])=true:=h2;refine Xi .pure (Xi _ (Yi (cb h2 (hF l[i] (Aq n1))) ?_));exact Xi _ (Yi (.refl _) ⟨show vi i=vi (HU p l 0) by rw[Ja n1 (fun j hj HT=>i2 j hj HT) h2,EV],rfl⟩)
  have h2:(p l[i])=false:=h2;refine Xi .pure (Xi _ (Yi (cb h2 (hF l[i] (Aq n1))) ?_));refine Yi (Ii i (by omega)) ?_;refine Xi ⟨i+1,n1,fun j hj HT=>if e:j<i then i2 j hj e else by
    have e:j=i:=by omega
    subst e;exact h2⟩ ?_
  exact⟨Dl l.length i (by omega),Z4,Z1,Fh,Ax (by kernel_rfl)⟩
 have h1:¬((i:Int)<(l.length:Int)):=h1;have n1:¬i<l.length:=by omega
 exact Xi _ (Yi (.refl _) ⟨show vi (-1)=vi (HU p l 0) by rw[F7 fun j hj=>i2 j hj (by omega)],rfl⟩)
theorem uW{fF:Nat}{cs:List AV}(l:List Sl)(p:Sl→Bool)(ix:Bd Tryz.prog 70 [.msl 1000 l.length,.clo fF [.cptr cs]] (Ah [(1000,.arr 4 (l.map Ae))] Ab) fun r h'=>r=vi (-1)∧h'=Ah [(1000,HO.arr 4 (l.map Ae))] Ab)(FM:∀j (hj:j<l.length),p l[j]=false):Bd Tryz.prog 88 [.msl 1000 l.length,.clo fF [.cptr cs]] (Ah [(1000,.arr 4 (l.map Ae))] Ab) fun r h'=>r=.msl 2000 (kept p l).length∧h'=Ah [(1000,.dead),(2000,.arr 4 ((kept p l).map Ae))] Ab:=by
 refine Cm (Mo ⟨[],[],[],[],[],[],[],[],[],[(200003,41000)],[3,6,9]⟩) [(1000,1000),(41,2000)] rfl CK hm rfl Tryz.func88 (by kernel_rfl) rfl (Nz rfl) (by kernel_rfl) rfl ?_;refine Xi (.gen [(1000,1000)] 0) (Yi rfl (Bd.to2 (ix) ?_));refine Yi (fun _=>?_) (fun h=>absurd (by decide) h);refine Yi (show l.length=(l.map Ae).length by rw[Lm]) ?_;refine Xi ⟨[(0,.msl 41 l.length)],[(41,.arr 4 (l.map Ae)),(1000,.dead)],Ab⟩ (Yi ⟨Z1,Z2,Fh,Ax (by kernel_rfl)⟩ ?_)
 exact Xi _ (Yi (.refl _) ⟨show AV.msl 2000 l.length=.msl 2000 (kept p l).length by rw[Ko FM],show Ah [(1000,HO.dead),(2000,.arr 4 (l.map Ae))] Ab=Ah [(1000,.dead),(2000,.arr 4 ((kept p l).map Ae))] Ab by rw[Ko FM]⟩)
theorem uX{fF:Nat}{cs:List AV}(l:List Sl)(p:Sl→Bool)(hF:∀x∈l,PC fF [.agg (Ae x),.cptr cs] (vb (p x)))(hl:Cp l)(i0:Nat)(fm:i0<l.length)(fw:p l[i0]=true)(hb:∀j (hj:j<l.length),j<i0→p l[j]=false)(ix:Bd Tryz.prog 70 [.msl 1000 l.length,.clo fF [.cptr cs]] (Ah [(1000,.arr 4 (l.map Ae))] Ab) fun r h'=>r=vi (i0:Nat)∧h'=Ah [(1000,HO.arr 4 (l.map Ae))] Ab):Bd Tryz.prog 88 [.msl 1000 l.length,.clo fF [.cptr cs]] (Ah [(1000,.arr 4 (l.map Ae))] Ab) fun r h'=>r=.msl 2000 (kept p l).length∧h'=Ah [(1000,.dead),(2000,.arr 4 ((kept p l).map Ae))] Ab:=by
 have hl:l.length≤1073741824:=hl;refine Cm (Mo ⟨[],[(41,4)],[],[],[],[],[],[],[],[],[6,9]⟩) [(1000,1000),(41,2000)] rfl CK hm rfl Tryz.func88 (by kernel_rfl) rfl (Nz rfl) (by kernel_rfl) rfl ?_;refine Xi (.gen [(1000,1000)] 0) (Yi rfl (Bd.to2 (ix) ?_));refine Yi (fun h2=>?_) (fun h2=>?_)
 ·have h2:(i0:Int)=((-1):Int):=h2;exact absurd h2 (by omega)
 have h2:¬((i0:Int)=((-1):Int)):=h2;refine Yi (Ii i0 (by omega)) ?_;refine Xi {q:Nat×Nat×List Sl // i0<q.1∧q.1≤l.length∧q.2.1=(kept p (l.take q.1)).length∧q.2.2.length=l.length∧q.2.2.take q.2.1=kept p (l.take q.1)∧q.2.2.drop q.1=l.drop q.1} (Xi (fun q=>⟨[(0,.msl 1000 l.length),(1,.clo fF [.cptr cs]),(5,vi q.1.2.1),(6,vi q.1.1)],[(1000,.arr 4 (q.1.2.2.map Ae))],Ab⟩) (Xi (fun q=>l.length-q.1.1) (Yi (Xi ⟨(i0+1,i0,l),GG _,fm,by show i0=(kept p (l.take (i0+1))).length;rw[KV fm hb fw,AJ];omega,rfl,by show l.take i0=kept p (l.take (i0+1));rw[KV fm hb fw],rfl⟩ ?_) ?_)))
 ·exact⟨Z4,Z1,Fh,Ax (by kernel_rfl)⟩
 intro⟨⟨j,i,N⟩,k0,k1,k2,k3,k4,k5⟩;have k0:i0<j:=k0;have k1:j≤l.length:=k1;have k2:i=(kept p (l.take j)).length:=k2;have k3:N.length=l.length:=k3;have k4:N.take i=kept p (l.take j):=k4;have k5:N.drop j=l.drop j:=k5;have k6:i≤j:=by rw[k2];exact A3 (Ms _ _) (by rw[AJ];omega)
 refine Yi (fun h3=>?_) (fun h3=>?_)
 ·have h3:(j:Int)<(l.length:Int):=h3;have n3:j<l.length:=by omega
  have g3:l[j]?=some l[j]:=Ge n3;have nj:j<N.length:=by omega
  have gj:N[j]?=some N[j]:=Ge nj;refine Yi (by show(0:Int)≤j∧(j:Int)<(l.length:Nat);omega) ?_;refine Yi (show l.length=(N.map Ae).length by rw[Lm];exact k3.symm) (Xi (Ae N[j]) (Yi (Cf gj) ?_));refine Yi (Nz rfl) ?_;refine Yi (Nz rfl) ?_;refine Yi (Nz rfl) ?_;refine BV (Bt (p N[j])) (fun h4=>?_) (fun h4=>?_)
  ·have h4:(p N[j])=true:=h4;refine Xi .pure (Xi _ (Yi (cb h4 (hF N[j] (by have q:N[j]=l[j]:=(by have q:=Ac (fun z=>z[0]?) k5;simp only[BP,Dx]at q;rw[Ge nj,Ge n3]at q;exact BL q);rw[q];exact Aq _))) ?_));refine Xi ⟨[(0,.msl 1000 l.length),(1,.clo fF [.cptr cs]),(5,vi i),(6,vi j)],[(1000,.arr 4 (N.map Ae))],Ab⟩ (Yi ⟨Z4,Z1,Fh,Ax (by kernel_rfl)⟩ ?_)
   refine Yi (Ii j (by omega)) ?_;have eN:N[j]=l[j]:=by have q:=Ac (fun z=>z[0]?) k5;simp only[BP,Dx]at q;rw[Ge nj,Ge n3]at q;exact BL q
   have kn:kept p (l.take (j+1))=kept p (l.take j):=by rw[Kn n3,Aw (by rw[←eN];exact h4),BZ]
   refine Xi ⟨(j+1,i,N),Qo k0,n3,by rw[kn];exact k2,k3,by rw[kn];exact k4,by show N.drop (j+1)=l.drop (j+1);rw[←D3,←D3,k5]⟩ ?_;exact⟨Dl l.length j (by omega),Z4,Z1,Fh,Ax (by kernel_rfl)⟩
  have h4:(p N[j])=false:=h4;have ni:i<N.length:=by omega
  have gi:N[i]?=some N[i]:=Ge ni;refine Xi .pure (Xi _ (Yi (cb h4 (hF N[j] (by have q:N[j]=l[j]:=(by have q:=Ac (fun z=>z[0]?) k5;simp only[BP,Dx]at q;rw[Ge nj,Ge n3]at q;exact BL q);rw[q];exact Aq _))) ?_));refine Xi ⟨[(0,.msl 1000 l.length),(1,.clo fF [.cptr cs]),(5,vi i),(6,vi j),(7,.ref 7 0)],[(7,.cells (Ae N[j])),(1000,.arr 4 (N.map Ae))],Ab⟩ (Yi ⟨Z5,Z2,Fh,Ax (by kernel_rfl)⟩ ?_)
  refine Yi (Nz rfl) ?_;refine Yi (by show(0:Int)≤i∧(i:Int)<(l.length:Nat);omega) ?_;refine Yi (show l.length=(N.map Ae).length by rw[Lm];exact k3.symm) (Xi (Ae N[i]) (Yi (Cf gi) (Yi (Nz rfl) ?_)));refine Yi (Ii i (by omega)) ?_;refine Xi ⟨[(0,.msl 1000 l.length),(1,.clo fF [.cptr cs]),(5,vi (i+1)),(6,vi j)],[(1000,.arr 4 ((N.map Ae).set i [vs N[j].path,vi N[j].ver.a,vi N[j].ver.b,vi N[j].ver.c]))],Ab⟩ (Yi ⟨Z4,Z1,Fh,Ax (by kernel_rfl)⟩ ?_)
  refine Yi (Ii j (by omega)) ?_;have eN:N[j]=l[j]:=by have q:=Ac (fun z=>z[0]?) k5;simp only[BP,Dx]at q;rw[Ge nj,Ge n3]at q;exact BL q
  have kn:kept p (l.take (j+1))=kept p (l.take j)++[l[j]]:=by rw[Kn n3,Ak (by rw[←eN,h4];decide)]
  have ki:i<N.length:=by omega
  refine Xi ⟨(j+1,i+1,N.set i N[j]),Qo k0,n3,by show i+1=(kept p (l.take (j+1))).length;rw[kn,Ad,←k2];rfl,by show(N.set i N[j]).length=_;rw[CR];exact k3,by show(N.set i N[j]).take (i+1)=kept p (l.take (j+1));rw[kn,Bs,List.take_set_of_le (Aj _),k4,TR ki,eN];rfl,by show(N.set i N[j]).drop (j+1)=l.drop (j+1);rw[List.drop_set_of_lt (by omega),←D3,←D3,k5]⟩ ?_;exact⟨Dl l.length j (by omega),Z4,⟨⟨(show HO.arr 4 ((N.map Ae).set i (Ae N[j]))=.arr 4 ((N.set i N[j]).map Ae) by rw[Nc]),rfl⟩,Tv⟩,Fh,Ax (by kernel_rfl)⟩
 have h3:¬((j:Int)<(l.length:Int)):=h3;have n3:¬j<l.length:=by omega
 refine Yi (show l.length=(N.map Ae).length∧(0:Int)≤i∧(i:Int)≤((N.map Ae).length:Nat)from⟨by rw[Lm];exact k3.symm,by omega,by rw[Lm];omega⟩) ?_;refine Yi (show l.length=(((N.map Ae).take i++List.replicate ((N.map Ae).length-i) [vs ⟨#[]⟩,vi 0,vi 0,vi 0]):List (List AV)).length∧(0:Int)≤i∧(i:Int)≤((((N.map Ae).take i++List.replicate ((N.map Ae).length-i) [vs ⟨#[]⟩,vi 0,vi 0,vi 0]):List (List AV)).length:Nat)from⟨by rw[Ad,AJ,Cq,Lm];omega,by omega,by rw[Ad,AJ,Cq,Lm];omega⟩) ?_;have ej:j=l.length:=by omega
 have e1:kept p l=kept p (l.take j):=by rw[ej,Du]
 have e2:i=(kept p l).length:=by rw[e1];exact k2
 have e3:((N.map Ae).take i++List.replicate ((N.map Ae).length-i) [vs ⟨#[]⟩,vi 0,vi 0,vi 0]).take i=(kept p l).map Ae:=by
  rw[DY (by rw[AJ,Lm];omega),J8,Nat.min_self,←QU,k4,e1]
 exact Xi _ (Yi (.refl _) ⟨show AV.msl 2000 i=.msl 2000 (kept p l).length from Ac (AV.msl 2000) e2,show Ah [(1000,HO.dead),(2000,.arr 4 (((N.map Ae).take i++List.replicate ((N.map Ae).length-i) [vs ⟨#[]⟩,vi 0,vi 0,vi 0]).take i))] Ab=_ from Ac (fun z=>Ah [(1000,HO.dead),(2000,.arr 4 z)] Ab) e3⟩)
theorem o88{fF:Nat}{cs:List AV}(l:List Sl)(p:Sl→Bool)(hF:∀x∈l,PC fF [.agg (Ae x),.cptr cs] (vb (p x)))(hl:Cp l):Bd Tryz.prog 88 [.msl 1000 l.length,.clo fF [.cptr cs]] (Ah [(1000,.arr 4 (l.map Ae))] Ab) fun r h'=>r=.msl 2000 (kept p l).length∧h'=Ah [(1000,.dead),(2000,.arr 4 ((kept p l).map Ae))] Ab:=by
 have ix:=uT l p hF hl;rcases Nw p l with ⟨e,h⟩ | ⟨i,hi,e,hp,hb⟩
 ·rw[e]at ix;exact uW l p ix h
 ·rw[e]at ix;exact uX l p hF hl i hi hp hb ix
theorem Wr{a b:Sl}:(a.path=b.path∧a.ver.a=b.ver.a∧a.ver.b=b.ver.b∧a.ver.c=b.ver.c∧True)↔a=b:=⟨gZ,fun e=>by subst e;exact⟨rfl,rfl,rfl,rfl,trivial⟩⟩
abbrev Jh(r:Rl):Sl:=⟨r.path,r.ver⟩
abbrev Oh(w:Wk):Rl→Bool:=fun r=>decide (Jh r∈w.exc)
abbrev Ej(s:Sl):Rl→Bool:=fun r=>decide (r.path=s.path)&&decide (Jh r≠s)
def MO(s:Sl)(B:List Rl):Int:=HU (fun r=>decide (Jh r=s)) B 0
def TH(B:List Rl)(i:Nat):List Rl:=match B[i]? with | some r=>B.set i { r with yanked:=false } | none=>B
theorem kK{B:List Rl}{i:Nat}{r:Rl}(h:B[i]?=some r):TH B i=B.set i { r with yanked:=false }:=by unfold TH;rw[h]
theorem Yd(B:List Rl)(i:Nat):(TH B i).length=B.length:=by unfold TH;split<;>simp
def Vf(A:List Rl)(s:Sl):Option (List Rl):=if MO s (kept (Ej s) A)<0 then none else some (TH (kept (Ej s) A) (MO s (kept (Ej s) A)).toNat)
def Ky:List Sl→List Rl→Option (List Rl)
 | [],A=>some A
 |s::l,A=>(Vf A s).bind (Ky l)
def qP:Option (List Rl)→List Rl×Int
 |none=>([],6)
 |some A=>(A,0)
def HN(x:List Rl)(w:Wk):List Rl×Int :=
 if Bb x≠0 then([],1)else if B4 w≠0 then([],B4 w)else if 256<((A5 CP x w.rep).length:Int)then([],7)else qP (Ky w.pin (kept (Oh w) (A5 CP x w.rep)))
abbrev Pp(x:List Rl)(ifs:List (List AV))(w:Wk):AV:=.tup [Rd (HN x w).1 (if(HN x w).2=0 then ifs else []),vi (HN x w).2]
theorem KF{x:List Rl}{ifs:List (List AV)}{w:Wk}{e:Int}(h:HN x w=([],e))(he:e≠0):Ha (.tup [.agg [.v (.slice none 0 0),.v (.slice none 0 0)],vi e]) (Pp x ifs w):=by
 unfold Pp;rw[h,Ak he];exact .tup ⟨.agg ⟨.nil,.nil,trivial⟩,.refl _,trivial⟩
theorem dH{x:List Rl}{w:Wk}(h:Bb x≠0):HN x w=([],1):=by unfold HN;rw[Aw h]
theorem dI{x:List Rl}{w:Wk}(h:Bb x=0)(h2:B4 w≠0):HN x w=([],B4 w):=by unfold HN;rw[Ak (fun c=>c h),Aw h2]
theorem dJ{x:List Rl}{w:Wk}(h:Bb x=0)(h2:B4 w=0){A:List Rl}(hA:A=A5 CP x w.rep)(h3:256<(A.length:Int)):HN x w=([],7):=by
 subst hA;unfold HN;rw[Ak (fun c=>c h),Ak (fun c=>c h2),Aw h3]
theorem WN{x:List Rl}{w:Wk}(h:Bb x=0)(h2:B4 w=0){A:List Rl}(hA:A=A5 CP x w.rep)(h3:¬256<(A.length:Int)){o:Option (List Rl)}(ho:Ky w.pin (kept (Oh w) A)=o):HN x w=qP o:=by
 subst hA;subst ho;unfold HN;rw[Ak (fun c=>c h),Ak (fun c=>c h2),Ak h3]
theorem EN{α:Type}{c:α→α→Int}:∀(n:Nat) (a b:List α) (r:α),r∈Cs c n a b→r∈a∨r∈b
 |0,_,_,_,h=>by cases h
 |n+1,a,b,r,h=>by
  cases a with
  |nil =>
   cases b with
   |nil=>cases h
   |cons y b =>
    rcases Au.1 (show r∈y::Cs c n [] b from h)with rfl | h
    ·exact .inr (Aa ..)
    ·exact(EN n [] b r h).imp id (Af _)
  |cons x a =>
   cases b with
   |nil =>
    rcases Au.1 (show r∈x::Cs c n a []from h)with rfl | h
    ·exact .inl (Aa ..)
    ·exact(EN n a [] r h).imp (Af _) id
   |cons y b =>
    have h:r∈if c x y<0 then x::Cs c n a (y::b)else if c x y=0 then y::Cs c n a b else y::Cs c n (x::a) b:=h
    split at h
    ·rcases Au.1 h with rfl | h
     ·exact .inl (Aa ..)
     ·exact(EN n a (y::b) r h).imp (Af _) id
    ·split at h
     ·rcases Au.1 h with rfl | h
      ·exact .inr (Aa ..)
      ·exact(EN n a b r h).imp (Af _) (Af _)
     ·rcases Au.1 h with rfl | h
      ·exact .inr (Aa ..)
      ·exact(EN n (x::a) b r h).imp id (Af _)
theorem K3{α:Type}{c:α→α→Int}{a b:List α}{r:α}(h:r∈A5 c a b):r∈a∨r∈b:=EN _ a b r h
theorem m9{s:Sl}{B:List Rl}(h:¬MO s B<0):∃hi:(MO s B).toNat<B.length,B[(MO s B).toNat]?=some B[(MO s B).toNat]:=by
 rcases Nw (fun r=>decide (Jh r=s)) B with ⟨e,_⟩ | ⟨i,hi,e,_⟩
 ·exact absurd (show MO s B<0 by unfold MO;rw[e];decide) h
 ·have e2:(MO s B).toNat=i:=by unfold MO;rw[e];rfl
  rw[e2];exact⟨hi,Ge hi⟩
theorem X9{l:List Sl}{i:Nat}(h:i<l.length)(A:List Rl):Ky (l.drop i) A=(Vf A l[i]).bind (Ky (l.drop (i+1))):=by rw[Br h];rfl
theorem gG{A B:List Rl}{s:Sl}(hB:B=kept (Ej s) A)(h:¬MO s B<0):Vf A s=some (TH B (MO s B).toNat):=by subst hB;unfold Vf;rw[Ak h]
theorem gF{A B:List Rl}{s:Sl}(hB:B=kept (Ej s) A)(h:MO s B<0):Vf A s=none:=by subst hB;unfold Vf;rw[Aw h]
theorem zZ(ifs:List (List AV))(hl:Cp ifs)(hs:∀c∈ifs,c.length=5):PC 46 [.slice .none ifs] (.slice .none ifs):=by
 refine Ps Gc Tryz.func46 rfl (Nz rfl) ?_;have Gl:Do 5 ifs∧([]:List (List AV)).length=0∧(([]:List (List AV)).length+ifs.length)*112≤140737488355328∧([]:List (List AV)).length+ifs.length≤9223372036854775807:=by
  refine⟨Un hs,rfl,?_,?_⟩<;>simp only[AC]<;>unfold Cp at hl<;>omega
 refine Yi ?_ ?_
 ·intro _;exact Yi Gl (.refl _)
 ·intro h;have h:ifs=[]:=h;refine Yi ?_ ?_
  ·show Ha (.v (.slice none 0 0)) (.slice .none ifs);rw[h];exact .nil
  ·exact Yi Gl (.refl _)
theorem zW(r:Rl)(w:Wk)(hl:Cp w.exc):PC 41 [.agg (Ai r),.cptr (Bx w)] (vb (Oh w r)):=by
 refine Ps ⟨[2],[],[],[],[],[],[],[],[],[],[]⟩ Tryz.func41 rfl (Nz rfl) ?_;refine Yi (Nz rfl) ?_;refine Xi _ (Yi (qI r) ?_);refine BV (Bt (decide (Jh r∈w.exc))) (fun h1=>?_) (fun h1=>?_)
 ·have h1:(decide (Jh r∈w.exc))=true:=h1;refine Xi _ (Yi (cb h1 (oD w.exc (Jh r) hl)) ?_);refine Yi (by kernel_rfl) ?_;exact .of_eq (show vb true=vb (decide (Jh r∈w.exc)) by rw[h1])
 have h1:(decide (Jh r∈w.exc))=false:=h1;refine Xi _ (Yi (cb h1 (oD w.exc (Jh r) hl)) ?_);refine Yi (by kernel_rfl) ?_;exact .of_eq (show vb false=vb (decide (Jh r∈w.exc)) by rw[h1])
theorem zY(r:Rl)(s:Sl):PC 45 [.agg (Ai r),.cptr (Ae s)] (vb (decide (Jh r=s))):=by
 refine Ps ⟨[2],[],[],[],[],[],[],[],[],[],[]⟩ Tryz.func45 rfl (Nz rfl) ?_;refine Yi (Nz rfl) ?_;refine Xi _ (Yi (qI r) ?_);refine Yi (Nz rfl) ?_;refine Yi (fun h1=>?_) (fun h1=>?_)
 ·have h1:((Jh r).path:ByteArray)=s.path∧((Jh r).ver.a:Int)=s.ver.a∧((Jh r).ver.b:Int)=s.ver.b∧((Jh r).ver.c:Int)=s.ver.c∧True:=h1;refine Yi (by kernel_rfl) ?_;exact .of_eq (show vb true=vb (decide (Jh r=s)) by rw[AA (Wr.1 h1)])
 have h1:¬(((Jh r).path:ByteArray)=s.path∧((Jh r).ver.a:Int)=s.ver.a∧((Jh r).ver.b:Int)=s.ver.b∧((Jh r).ver.c:Int)=s.ver.c∧True):=h1;refine Yi (by kernel_rfl) ?_;exact .of_eq (show vb false=vb (decide (Jh r=s)) by rw[Ap (fun e=>h1 (Wr.2 e))])
theorem zX(r:Rl)(s:Sl):PC 43 [.agg (Ai r),.cptr (Ae s)] (vb (Ej s r)):=by
 refine Ps ⟨[2],[],[],[],[],[],[],[],[],[],[]⟩ Tryz.func43 rfl (Nz rfl) ?_;refine Yi (fun h1=>?_) (fun h1=>?_)
 ·have h1:(r.path:ByteArray)=s.path:=h1;refine Yi (Nz rfl) ?_;refine Xi _ (Yi (qI r) ?_);refine Yi (Nz rfl) ?_;refine Yi (fun h2=>?_) (fun h2=>?_)
  ·have h2:((Jh r).path:ByteArray)=s.path∧((Jh r).ver.a:Int)=s.ver.a∧((Jh r).ver.b:Int)=s.ver.b∧((Jh r).ver.c:Int)=s.ver.c∧True:=h2;refine Yi (by kernel_rfl) ?_;exact .of_eq (show vb false=vb (decide (r.path=s.path)&&decide (Jh r≠s)) by rw[AA h1,show decide (Jh r≠s)=false from Ap (fun e=>e (Wr.1 h2))];rfl)
  have h2:¬(((Jh r).path:ByteArray)=s.path∧((Jh r).ver.a:Int)=s.ver.a∧((Jh r).ver.b:Int)=s.ver.b∧((Jh r).ver.c:Int)=s.ver.c∧True):=h2;refine Yi (by kernel_rfl) ?_;exact .of_eq (show vb true=vb (decide (r.path=s.path)&&decide (Jh r≠s)) by rw[AA h1,show decide (Jh r≠s)=true from AA (fun e=>h2 (Wr.2 e))];rfl)
 have h1:¬(r.path:ByteArray)=s.path:=h1;refine Yi (by kernel_rfl) ?_;exact .of_eq (show vb false=vb (decide (r.path=s.path)&&decide (Jh r≠s)) by rw[Ap h1];rfl)
theorem zS(x:List Rl)(ifs:List (List AV))(w:Wk)(hx:∀r∈x,J3 r)(OA:x.length+w.rep.length≤1073741824)(iG:∀r∈x,Cp r.reqs)(hW:aV w)(jI:∀r∈w.rep,Cp r.reqs)(pX:Cp ifs)(zg:∀c∈ifs,c.length=5):PC 11 [Rd x ifs,.agg (Bx w)] (Pp x ifs w):=by
 obtain⟨A0,hA⟩:∃A,A=A5 CP x w.rep:=⟨_,rfl⟩;have zz:w.pin.length≤1073741824:=hW.pin;have kV:A0.length≤1073741824:=by rw[hA];exact A3 (NE x w.rep) OA
 have ti:∀r∈A0,Cp r.reqs:=fun r hr=>by rw[hA]at hr;exact(K3 hr).elim (iG r) (jI r)
 have tj:∀r∈A0,∀q∈r.reqs,Cp q.set:=fun r hr q hq=>by rw[hA]at hr;exact(K3 hr).elim (fun h=>((hx r h).2 q hq).1) (fun h=>((hW.rep r h).2 q hq).1)
 have ZU:PC 38 [sl Ai x,sl Ai w.rep,.v (.func (.func 39) #[] #[])] (sl Ai A0):=by rw[hA];exact xA x w.rep (by unfold Cp;omega) hW.reps
 refine Ps ⟨[2,3,9],[],[],[],[],[],[],[],[],[(200010,7007),(200015,7007),(200019,7)],[4,6,7,9,10,13,14,15,17,19]⟩ Tryz.func11 rfl (Nz rfl) ?_;refine Yi (Nz rfl) ?_;refine Xi .pure (Xi _ (Yi (pe YA x ifs hx) ?_));refine Yi (fun h1=>?_) (fun h1=>?_)
 ·have h1:((Bb x):Int)≠(0:Int):=h1;refine Yi (Nz rfl) ?_;refine Yi (Nz rfl) ?_;exact KF (dH (fun h=>h1 h)) (by decide)
 have h1:((Bb x):Int)=(0:Int):=Bq h1;refine Yi (Nz rfl) ?_;refine Xi .pure (Xi _ (Yi (oC w hW) ?_));refine Xi ⟨[(2,.ref 2 0),(3,.ref 3 0),(4,.ref 4 0),(6,vi (B4 w))],[(2,.ro (Ic x ifs)),(3,.ro (Bx w)),(4,.cells [.v (.slice none 0 0),.v (.slice none 0 0)])],Ab⟩ (Yi ⟨Z4,Z3,Fh,Tv⟩ ?_)
 refine Yi (fun h3=>?_) (fun h3=>?_)
 ·have h3:((B4 w):Int)≠(0:Int):=h3;refine Yi (Nz rfl) ?_;refine Yi (Nz rfl) ?_;exact KF (dI h1 h3) h3
 have h3:((B4 w):Int)=(0:Int):=Bq h3;refine Xi ⟨[(2,.ref 2 0),(3,.ref 3 0),(4,.ref 4 0)],[(2,.ro (Ic x ifs)),(3,.ro (Bx w)),(4,.cells [.v (.slice none 0 0),.v (.slice none 0 0)])],Ab⟩ (Yi ⟨Z3,Z3,Fh,Tv⟩ ?_)
 refine Xi .pure (Xi _ (Yi ZU ?_));refine Xi (.gen [] 1) (Yi rfl (Bd.to2 (rg A0 kV ti tj) ?_));refine Xi ⟨[(2,.ref 2 0),(3,.ref 3 0),(4,.ref 4 0),(7,.msl 12600 A0.length)],[(2,.ro (Ic x ifs)),(3,.ro (Bx w)),(4,.cells [.v (.slice none 0 0),.v (.slice none 0 0)]),(12600,.arr 9 (A0.map Ai))],Ab⟩ (Yi ⟨Z4,Z4,Fh,Tv⟩ ?_)
 refine Yi (fun h6=>?_) (fun h6=>?_)
 ·have h6:(256:Int)<(A0.length:Int):=h6;have n6:256<A0.length:=by omega
  have g6:A0[256]?=some A0[256]:=Ge n6;refine Yi (Nz rfl) ?_;refine Yi (Nz rfl) ?_;exact KF (dJ h1 h3 hA h6) (by decide)
 have h6:¬((256:Int)<(A0.length:Int)):=h6;have n6:¬256<A0.length:=by omega
 refine Xi ⟨[(2,.ref 2 0),(3,.ref 3 0),(4,.ref 4 0),(7,.msl 12600 A0.length)],[(2,.ro (Ic x ifs)),(3,.ro (Bx w)),(4,.cells [.v (.slice none 0 0),.v (.slice none 0 0)]),(12600,.arr 9 (A0.map Ai))],Ab⟩ (Yi ⟨Z4,Z4,Fh,Tv⟩ ?_)
 refine Xi (.gen [(12600,1000)] 1) (Yi rfl (Bd.to2 (xC A0 (Oh w) (fun r _=>zW r w hW.exc) kV) ?_));refine Yi (show(kept (Oh w) A0).length=((kept (Oh w) A0).map Ai).length by rw[Lm]) ?_;refine Xi ⟨[(2,.ref 2 0),(3,.ref 3 0),(4,.ref 4 0),(7,.msl 7 (kept (Oh w) A0).length)],[(2,.ro (Ic x ifs)),(3,.ro (Bx w)),(4,.cells [.v (.slice none 0 0),.v (.slice none 0 0)]),(7,.arr 9 ((kept (Oh w) A0).map Ai))],Ab⟩ (Yi ⟨Z4,Z4,Fh,Tv⟩ ?_)
 refine Xi {q:Nat×List Rl // q.1≤w.pin.length∧Ky w.pin (kept (Oh w) A0)=Ky (w.pin.drop q.1) q.2∧q.2.length≤256} (Xi (fun q=>⟨[(2,.ref 2 0),(4,.ref 4 0),(7,.msl 7 q.1.2.length),(35,sl Ae w.pin),(36,vi (w.pin.map Ae).length),(37,vi q.1.1)],[(2,.ro (Ic x ifs)),(4,.cells [.v (.slice none 0 0),.v (.slice none 0 0)]),(7,.arr 9 (q.1.2.map Ai))],Ab⟩) (Xi (fun q=>w.pin.length-q.1.1) (Yi (Xi ⟨(0,kept (Oh w) A0),AN _,rfl,A3 (Ms _ _) (by have q:=h6;omega)⟩ ?_) ?_)))
 ·exact⟨Z6,Z3,Fh,Tv⟩
 intro⟨⟨k,A⟩,k1,k2,kA⟩;have k1:k≤w.pin.length:=k1;have k2:Ky w.pin (kept (Oh w) A0)=Ky (w.pin.drop k) A:=k2;have kA:A.length≤256:=kA;refine Yi (fun h9=>?_) (fun h9=>?_)
 ·have h9:(k:Int)<((w.pin.map Ae).length:Int):=h9;have n9:=KZ h9;refine Xi (Ae w.pin[k]) (Yi (Pi n9) (Yi rfl ?_));refine Yi (Nz rfl) ?_;refine Yi (Nz rfl) ?_;refine Xi ⟨[(2,.ref 2 0),(4,.ref 4 0),(7,.msl 7 A.length),(9,.ref 9 0),(35,sl Ae w.pin),(36,vi (w.pin.map Ae).length),(37,vi k)],[(2,.ro (Ic x ifs)),(4,.cells [.v (.slice none 0 0),.v (.slice none 0 0)]),(7,.arr 9 (A.map Ai)),(9,.ro (Ae w.pin[k]))],Ab⟩ (Yi ⟨Z7,Z4,Fh,Tv⟩ ?_)
  refine Xi (.gen [(7,1000)] 1) (Yi rfl (Bd.to2 (xC A (Ej w.pin[k]) (fun r _=>zX r w.pin[k]) (A3 kA (by decide))) ?_));refine Xi ⟨[(2,.ref 2 0),(4,.ref 4 0),(7,.msl 14300 (kept (Ej w.pin[k]) A).length),(9,.ref 9 0),(35,sl Ae w.pin),(36,vi (w.pin.map Ae).length),(37,vi k)],[(2,.ro (Ic x ifs)),(4,.cells [.v (.slice none 0 0),.v (.slice none 0 0)]),(9,.ro (Ae w.pin[k])),(14300,.arr 9 ((kept (Ej w.pin[k]) A).map Ai))],Ab⟩ (Yi ⟨Z7,Z4,Fh,Tv⟩ ?_)
  refine Xi (.gen [(14300,1000)] 0) (Yi rfl (Bd.to2 (qJ (kept (Ej w.pin[k]) A) (fun r=>decide (Jh r=w.pin[k])) (fun r _=>zY r w.pin[k]) (A3 (Ms _ _) (A3 kA (by decide)))) ?_));refine Yi (show(kept (Ej w.pin[k]) A).length=((kept (Ej w.pin[k]) A).map Ai).length by rw[Lm]) ?_;refine Xi ⟨[(2,.ref 2 0),(4,.ref 4 0),(7,.msl 7 (kept (Ej w.pin[k]) A).length),(10,vi (MO w.pin[k] (kept (Ej w.pin[k]) A))),(35,sl Ae w.pin),(36,vi (w.pin.map Ae).length),(37,vi k)],[(2,.ro (Ic x ifs)),(4,.cells [.v (.slice none 0 0),.v (.slice none 0 0)]),(7,.arr 9 ((kept (Ej w.pin[k]) A).map Ai))],Ab⟩ (Yi ⟨Z7,Z3,Fh,Tv⟩ ?_)
  refine Yi (fun M1=>?_) (fun M1=>?_)
  ·have M1:((MO w.pin[k] (kept (Ej w.pin[k]) A)):Int)<(0:Int):=M1;refine Yi (Nz rfl) ?_;refine Yi (Nz rfl) ?_;have eP:Ky w.pin (kept (Oh w) A0)=none:=by rw[k2,X9 n9,gF rfl M1];rfl
   exact KF (WN h1 h3 hA h6 eP) (by decide)
  have M1:¬(((MO w.pin[k] (kept (Ej w.pin[k]) A)):Int)<(0:Int)):=M1;refine Dn (m9 M1) (fun h9 g9=>?_);refine Xi ⟨[(2,.ref 2 0),(4,.ref 4 0),(7,.msl 7 (kept (Ej w.pin[k]) A).length),(10,vi (MO w.pin[k] (kept (Ej w.pin[k]) A))),(35,sl Ae w.pin),(36,vi (w.pin.map Ae).length),(37,vi k)],[(2,.ro (Ic x ifs)),(4,.cells [.v (.slice none 0 0),.v (.slice none 0 0)]),(7,.arr 9 ((kept (Ej w.pin[k]) A).map Ai))],Ab⟩ (Yi ⟨Z7,Z3,Fh,Tv⟩ ?_)
  refine Yi (by show(0:Int)≤(MO w.pin[k] (kept (Ej w.pin[k]) A))∧((MO w.pin[k] (kept (Ej w.pin[k]) A)):Int)<((kept (Ej w.pin[k]) A).length:Nat);omega) ?_;refine Yi (show(kept (Ej w.pin[k]) A).length=((kept (Ej w.pin[k]) A).map Ai).length by rw[Lm]) (Xi (Ai ((kept (Ej w.pin[k]) A)[(MO w.pin[k] (kept (Ej w.pin[k]) A)).toNat])) (Yi (Cf g9) (Yi (Nz rfl) ?_)));refine Yi (Ii k (by omega)) ?_;have eU:((kept (Ej w.pin[k]) A).map Ai).set (MO w.pin[k] (kept (Ej w.pin[k]) A)).toNat [vs ((kept (Ej w.pin[k]) A)[(MO w.pin[k] (kept (Ej w.pin[k]) A)).toNat]).path,vi ((kept (Ej w.pin[k]) A)[(MO w.pin[k] (kept (Ej w.pin[k]) A)).toNat]).ver.a,vi ((kept (Ej w.pin[k]) A)[(MO w.pin[k] (kept (Ej w.pin[k]) A)).toNat]).ver.b,vi ((kept (Ej w.pin[k]) A)[(MO w.pin[k] (kept (Ej w.pin[k]) A)).toNat]).ver.c,sl AM ((kept (Ej w.pin[k]) A)[(MO w.pin[k] (kept (Ej w.pin[k]) A)).toNat]).reqs,vs ((kept (Ej w.pin[k]) A)[(MO w.pin[k] (kept (Ej w.pin[k]) A)).toNat]).arch,vs ((kept (Ej w.pin[k]) A)[(MO w.pin[k] (kept (Ej w.pin[k]) A)).toNat]).ifc,vs ((kept (Ej w.pin[k]) A)[(MO w.pin[k] (kept (Ej w.pin[k]) A)).toNat]).cert,vb false]=(TH (kept (Ej w.pin[k]) A) (MO w.pin[k] (kept (Ej w.pin[k]) A)).toNat).map Ai:=by rw[kK g9,Nc]
  have eP:Ky w.pin (kept (Oh w) A0)=Ky (w.pin.drop (k+1)) (TH (kept (Ej w.pin[k]) A) (MO w.pin[k] (kept (Ej w.pin[k]) A)).toNat):=by rw[k2,X9 n9,gG rfl M1];rfl
  refine Xi ⟨(k+1,(TH (kept (Ej w.pin[k]) A) (MO w.pin[k] (kept (Ej w.pin[k]) A)).toNat)),n9,eP,by show(TH _ _).length≤256;rw[Yd];exact A3 (Ms _ _) kA⟩ ?_;exact⟨Dl w.pin.length k (by omega),⟨Zr,Zr,⟨(show AV.msl 7 (kept (Ej w.pin[k]) A).length=.msl 7 (TH (kept (Ej w.pin[k]) A) (MO w.pin[k] (kept (Ej w.pin[k]) A)).toNat).length by rw[Yd]),rfl⟩,Zr,Zr,Zr,Tv⟩,⟨Zr,Zr,⟨(Ac (HO.arr 9) eU),rfl⟩,Tv⟩,Fh,Tv⟩
 have h9:¬((k:Int)<((w.pin.map Ae).length:Int)):=h9;have n9:=KY h9;refine Yi (show A.length=(A.map Ai).length by rw[Lm]) ?_;refine Xi ⟨[(2,.ref 2 0),(4,.ref 4 0),(7,sl Ai A)],[(2,.ro (Ic x ifs)),(4,.cells [.v (.slice none 0 0),.v (.slice none 0 0)])],Ab⟩ (Yi ⟨Z3,Z2,Fh,Tv⟩ ?_)
 refine Xi .pure (Xi _ (Yi (zZ ifs pX zg) ?_));refine Yi (Nz rfl) ?_;refine Yi (Nz rfl) ?_;have eP:Ky w.pin (kept (Oh w) A0)=some A:=by rw[k2,G8 (by have q:=h9;rw[Lm]at q;omega)];rfl
 have eR:=WN h1 h3 hA h6 eP;exact .of_eq (show _=Pp x ifs w by unfold Pp;rw[eR];rfl)
abbrev HI(l o:List Sl):List Sl:=kept (fun s=>decide (s∈o)) l
abbrev Hd:Wk:=⟨[],[],[]⟩
def Hv(a b:Wk):Wk×Int :=
 if B4 a≠0 then(Hd,B4 a)else if B4 b≠0 then(Hd,B4 b)else if 256<((A5 CP a.rep b.rep).length:Int)then(Hd,7)else
  (⟨A5 CP a.rep b.rep,HI (A5 F5 a.exc b.exc) b.pin,A5 No (HI a.pin b.exc) b.pin⟩,0)
abbrev Zd(p:Wk×Int):AV:=.tup [.agg (Bx p.1),vi p.2]
theorem NG{p:Wk×Int}{e:Int}(h:p=(Hd,e)):Ha (.tup [.agg [.v (.slice none 0 0),.v (.slice none 0 0),.v (.slice none 0 0)],vi e]) (Zd p):=by
 subst h;exact .tup ⟨.agg ⟨.nil,.nil,.nil,trivial⟩,.refl _,trivial⟩
theorem S8{a b:Wk}(h:B4 a≠0):Hv a b=(Hd,B4 a):=by unfold Hv;rw[Aw h]
theorem XO{a b:Wk}(h:B4 a=0)(h2:B4 b≠0):Hv a b=(Hd,B4 b):=by unfold Hv;rw[Ak (fun c=>c h),Aw h2]
theorem fU{a b:Wk}(h:B4 a=0)(h2:B4 b=0){A:List Rl}(hA:A=A5 CP a.rep b.rep)(h3:256<(A.length:Int)):Hv a b=(Hd,7):=by
 subst hA;unfold Hv;rw[Ak (fun c=>c h),Ak (fun c=>c h2),Aw h3]
theorem OJ{a b:Wk}(h:B4 a=0)(h2:B4 b=0){A:List Rl}(hA:A=A5 CP a.rep b.rep)(h3:¬256<(A.length:Int)):Hv a b=(⟨A,HI (A5 F5 a.exc b.exc) b.pin,A5 No (HI a.pin b.exc) b.pin⟩,0):=by
 subst hA;unfold Hv;rw[Ak (fun c=>c h),Ak (fun c=>c h2),Ak h3]
theorem o90(s:Sl)(o:List Sl)(hl:Cp o):PC 90 [.agg (Ae s),.cptr [sl Ae o]] (vb (decide (s∈o))):=by
 refine Ps ⟨[2],[],[],[],[],[],[],[],[],[],[]⟩ Tryz.func90 rfl (Nz rfl) ?_;refine Yi (Nz rfl) ?_;refine BV (Bt (decide (s∈o))) (fun h1=>?_) (fun h1=>?_)
 ·have h1:(decide (s∈o))=true:=h1;refine Xi .pure (Xi _ (Yi (cb h1 (oD o s hl)) ?_));exact .of_eq (show vb true=vb (decide (s∈o)) by rw[h1])
 have h1:(decide (s∈o))=false:=h1;refine Xi .pure (Xi _ (Yi (cb h1 (oD o s hl)) ?_));exact .of_eq (show vb false=vb (decide (s∈o)) by rw[h1])
theorem xE(l o:List Sl)(hl:Cp l)(ho:Cp o):PC 62 [sl Ae l,sl Ae o] (sl Ae (HI l o)):=by
 refine Ps ⟨[3],[],[],[],[],[],[],[],[],[(4,8)],[]⟩ Tryz.func62 rfl (Nz rfl) ?_;refine Xi (.gen [] 1) (Yi rfl (Bd.to2 (rh l hl) ?_));refine Xi (.gen [(10600,1000)] 1) (Yi rfl (Bd.to2 (o88 l (fun s=>decide (s∈o)) (fun s _=>o90 s o ho) hl) ?_));refine Yi (show(HI l o).length=((HI l o).map Ae).length by rw[Lm]) ?_;exact .refl _
theorem nt(a b:Wk)(Yj:aV a)(hB:aV b)(OA:a.rep.length+b.rep.length≤1073741824)(uv:a.exc.length+b.exc.length≤1073741824)(yV:∀r∈a.rep,Cp r.reqs)(yW:∀r∈b.rep,Cp r.reqs):PC 17 [.agg (Bx a),.agg (Bx b)] (Zd (Hv a b)):=by
 obtain⟨A0,hA⟩:∃A,A=A5 CP a.rep b.rep:=⟨_,rfl⟩;have kV:A0.length≤1073741824:=by rw[hA];exact A3 (NE a.rep b.rep) OA
 have ti:∀r∈A0,Cp r.reqs:=fun r hr=>by rw[hA]at hr;exact(K3 hr).elim (yV r) (yW r)
 have tj:∀r∈A0,∀q∈r.reqs,Cp q.set:=fun r hr q hq=>by rw[hA]at hr;exact(K3 hr).elim (fun h=>((Yj.rep r h).2 q hq).1) (fun h=>((hB.rep r h).2 q hq).1)
 have ZU:PC 38 [sl Ai a.rep,sl Ai b.rep,.v (.func (.func 39) #[] #[])] (sl Ai A0):=by rw[hA];exact xA a.rep b.rep Yj.reps hB.reps
 have hE:Cp (A5 F5 a.exc b.exc):=A3 (NE a.exc b.exc) uv;refine Ps ⟨[2,3,7],[],[],[],[],[],[],[],[],[(100010,10)],[4,7,8,9,10,11,12,13,14]⟩ Tryz.func17 rfl (Nz rfl) ?_;refine Yi (Nz rfl) ?_;refine Yi (Nz rfl) ?_;refine Xi {q:Nat // q≤2∧(0<q→B4 a=0)∧(1<q→B4 b=0)} (Xi (fun q=>⟨[(2,.ref 2 0),(3,.ref 3 0),(4,.ref 4 0),(13,.slice (.id 13 3) [(Bx a),(Bx b)]),(14,vi 2),(15,vi q.1)],[(2,.ro (Bx a)),(3,.ro (Bx b)),(4,.cells [.v (.slice none 0 0),.v (.slice none 0 0),.v (.slice none 0 0)]),(13,.tok 3 2)],Ab⟩) (Xi (fun q=>2-q.1) (Yi (Xi ⟨0,by decide,fun h=>absurd h (by decide),fun h=>absurd h (by decide)⟩ ?_) ?_)))
 ·exact⟨Z6,Z4,Fh,Tv⟩
 intro⟨i,i1,i2,i3⟩;have i1:i≤2:=i1;have i2:0<i→B4 a=0:=i2;have i3:1<i→B4 b=0:=i3;refine Yi (fun h1=>?_) (fun h1=>?_)
 ·have h1:(i:Int)<(2:Int):=h1;refine BV (show i=0∨i=1 by omega) (fun hi=>?_) (fun hi=>?_)
  ·have hi:i=0:=hi;refine Xi (Bx a) (Yi (show(0:Int)≤(i:Int)∧[Bx a,Bx b][((i:Nat):Int).toNat]?=some (Bx a)from⟨NX _,by rw[hi];rfl⟩) (Yi rfl ?_));refine Yi (Nz rfl) ?_;refine Yi (Nz rfl) ?_;refine Xi ⟨[(2,.ref 2 0),(3,.ref 3 0),(4,.ref 4 0),(7,.ref 7 0),(13,.slice (.id 13 3) [(Bx a),(Bx b)]),(14,vi 2),(15,vi i)],[(2,.ro (Bx a)),(3,.ro (Bx b)),(4,.cells [.v (.slice none 0 0),.v (.slice none 0 0),.v (.slice none 0 0)]),(7,.ro (Bx a)),(13,.tok 3 2)],Ab⟩ (Yi ⟨Z7,Z5,Fh,Tv⟩ ?_)
   refine Yi (Nz rfl) ?_;refine Xi .pure (Xi _ (Yi (oC a Yj) ?_));refine Yi (fun h2=>?_) (fun h2=>?_)
   ·have h2:((B4 a):Int)≠(0:Int):=h2;refine Yi (Nz rfl) ?_;refine Yi (Nz rfl) ?_;exact NG (S8 h2)
   have h2:((B4 a):Int)=(0:Int):=Bq h2;refine Xi ⟨[(2,.ref 2 0),(3,.ref 3 0),(4,.ref 4 0),(13,.slice (.id 13 3) [(Bx a),(Bx b)]),(14,vi 2),(15,vi i)],[(2,.ro (Bx a)),(3,.ro (Bx b)),(4,.cells [.v (.slice none 0 0),.v (.slice none 0 0),.v (.slice none 0 0)]),(13,.tok 3 2)],Ab⟩ (Yi ⟨Z6,Z4,Fh,Tv⟩ ?_)
   refine Yi (Ii i (by omega)) ?_;refine Xi ⟨i+1,by omega,fun _=>h2,fun h=>absurd h (by omega)⟩ ?_;exact⟨Dl 2 i (by omega),Z6,Z4,Fh,Tv⟩
  refine Xi (Bx b) (Yi (show(0:Int)≤(i:Int)∧[Bx a,Bx b][((i:Nat):Int).toNat]?=some (Bx b)from⟨NX _,by rw[hi];rfl⟩) (Yi rfl ?_));refine Yi (Nz rfl) ?_;refine Yi (Nz rfl) ?_;refine Xi ⟨[(2,.ref 2 0),(3,.ref 3 0),(4,.ref 4 0),(7,.ref 7 0),(13,.slice (.id 13 3) [(Bx a),(Bx b)]),(14,vi 2),(15,vi i)],[(2,.ro (Bx a)),(3,.ro (Bx b)),(4,.cells [.v (.slice none 0 0),.v (.slice none 0 0),.v (.slice none 0 0)]),(7,.ro (Bx b)),(13,.tok 3 2)],Ab⟩ (Yi ⟨Z7,Z5,Fh,Tv⟩ ?_)
  refine Yi (Nz rfl) ?_;refine Xi .pure (Xi _ (Yi (oC b hB) ?_));refine Yi (fun h5=>?_) (fun h5=>?_)
  ·have h5:((B4 b):Int)≠(0:Int):=h5;refine Yi (Nz rfl) ?_;refine Yi (Nz rfl) ?_;exact NG (XO (i2 (by omega)) h5)
  have h5:((B4 b):Int)=(0:Int):=Bq h5;refine Xi ⟨[(2,.ref 2 0),(3,.ref 3 0),(4,.ref 4 0),(13,.slice (.id 13 3) [(Bx a),(Bx b)]),(14,vi 2),(15,vi i)],[(2,.ro (Bx a)),(3,.ro (Bx b)),(4,.cells [.v (.slice none 0 0),.v (.slice none 0 0),.v (.slice none 0 0)]),(13,.tok 3 2)],Ab⟩ (Yi ⟨Z6,Z4,Fh,Tv⟩ ?_)
  refine Yi (Ii i (by omega)) ?_;refine Xi ⟨i+1,by omega,fun _=>i2 (by omega),fun _=>h5⟩ ?_;exact⟨Dl 2 i (by omega),Z6,Z4,Fh,Tv⟩
 have h1:¬((i:Int)<(2:Int)):=h1;refine Xi ⟨[(2,.ref 2 0),(3,.ref 3 0),(4,.ref 4 0)],[(2,.ro (Bx a)),(3,.ro (Bx b)),(4,.cells [.v (.slice none 0 0),.v (.slice none 0 0),.v (.slice none 0 0)])],Ab⟩ (Yi ⟨Z3,Z3,Fh,Tv⟩ ?_)
 refine Xi ⟨[(2,.ref 2 0),(3,.ref 3 0),(4,.ref 4 0),(9,.v (.func (.func 61) #[] #[]))],[(2,.ro (Bx a)),(3,.ro (Bx b)),(4,.cells [.v (.slice none 0 0),.v (.slice none 0 0),.v (.slice none 0 0)])],Ab⟩ (Yi ⟨Z4,Z3,Fh,Tv⟩ ?_)
 refine Xi .pure (Xi _ (Yi ZU ?_));refine Xi (.gen [] 1) (Yi rfl (Bd.to2 (rg A0 kV ti tj) ?_));refine Yi (Nz rfl) ?_;refine Yi (show A0.length=(A0.map Ai).length by rw[Lm]) ?_;refine Xi ⟨[(2,.ref 2 0),(3,.ref 3 0),(4,.ref 4 0),(9,.v (.func (.func 61) #[] #[])),(10,.ref 10 0)],[(2,.ro (Bx a)),(3,.ro (Bx b)),(4,.cells [.v (.slice none 0 0),.v (.slice none 0 0),.v (.slice none 0 0)]),(10,.cells [.slice (.id 13100 9) (A0.map Ai),.v (.slice none 0 0),.v (.slice none 0 0)]),(13100,.tok 9 (A0.map Ai).length)],Ab⟩ (Yi ⟨Z5,Z5,Fh,Tv⟩ ?_)
 refine Yi (fun h9=>?_) (fun h9=>?_)
 ·have h9:(256:Int)<((A0.map Ai).length:Int):=h9;have n9:256<A0.length:=by have q:=h9;rw[Lm]at q;omega
  refine Xi ⟨[(4,.ref 4 0)],[(4,.cells [.v (.slice none 0 0),.v (.slice none 0 0),.v (.slice none 0 0)])],Ab⟩ (Yi ⟨Z1,Z1,Fh,Tv⟩ ?_)
  refine Yi (Nz rfl) ?_;refine Yi (Nz rfl) ?_;have ja:=i2 (by omega);have jb:=i3 (by omega);exact NG (fU ja jb hA (by have q:=h9;rw[Lm]at q;exact q))
 have h9:¬((256:Int)<((A0.map Ai).length:Int)):=h9;have n9:¬256<A0.length:=by have q:=h9;rw[Lm]at q;omega
 refine Xi ⟨[(2,.ref 2 0),(3,.ref 3 0),(4,.ref 4 0),(9,.v (.func (.func 61) #[] #[])),(10,.ref 10 0)],[(2,.ro (Bx a)),(3,.ro (Bx b)),(4,.cells [.v (.slice none 0 0),.v (.slice none 0 0),.v (.slice none 0 0)]),(10,.cells [.slice (.id 13100 9) (A0.map Ai),.v (.slice none 0 0),.v (.slice none 0 0)]),(13100,.tok 9 (A0.map Ai).length)],Ab⟩ (Yi ⟨Z5,Z5,Fh,Tv⟩ ?_)
 refine Xi _ (Yi (uS a.exc b.exc Yj.exc hB.exc) ?_);refine Xi _ (Yi (xE (A5 F5 a.exc b.exc) b.pin hE hB.pin) ?_);refine Yi (Nz rfl) ?_;refine Yi (by kernel_rfl) ?_;refine Xi ⟨[(2,.ref 2 0),(3,.ref 3 0),(4,.ref 4 0),(9,.v (.func (.func 61) #[] #[])),(10,.ref 10 0)],[(2,.ro (Bx a)),(3,.ro (Bx b)),(4,.cells [.v (.slice none 0 0),.v (.slice none 0 0),.v (.slice none 0 0)]),(10,.cells [.slice (.id 13100 9) (A0.map Ai),sl Ae (HI (A5 F5 a.exc b.exc) b.pin),.v (.slice none 0 0)]),(13100,.tok 9 (A0.map Ai).length)],Ab⟩ (Yi ⟨Z5,Z5,Fh,Tv⟩ ?_)
 refine Xi _ (Yi (xE a.pin b.exc Yj.pin hB.exc) ?_);refine Xi _ (Yi (uR (HI a.pin b.exc) b.pin (A3 (Ms _ _) Yj.pin) hB.pin) ?_);refine Yi (Nz rfl) ?_;refine Yi (by kernel_rfl) ?_;refine Xi ⟨[(4,.ref 4 0),(10,.ref 10 0)],[(4,.cells [.v (.slice none 0 0),.v (.slice none 0 0),.v (.slice none 0 0)]),(10,.cells [.slice (.id 13100 9) (A0.map Ai),sl Ae (HI (A5 F5 a.exc b.exc) b.pin),sl Ae (A5 No (HI a.pin b.exc) b.pin)]),(13100,.tok 9 (A0.map Ai).length)],Ab⟩ (Yi ⟨Z2,Z3,Fh,Tv⟩ ?_)
 refine Yi (Nz rfl) ?_;refine Yi (Nz rfl) ?_;refine Yi (Nz rfl) ?_;have ja:=i2 (by omega);have jb:=i3 (by omega);have eM:=OJ ja jb hA (by have q:=h9;rw[Lm]at q;exact q);exact .of_eq (show _=Zd (Hv a b) by rw[eM];rfl)
end Go.Eng
