/- Lemmas for the claims of this seat, without a condition: part 24 (O6, O7, O8). -/
import Derived.Test.YtmcbkdbfaneofaaGreatDoorEA23
set_option maxHeartbeats 4000000
namespace Go.Eng
open Go.Proofs
abbrev kept{α:Type}(p:α→Bool)(l:List α):List α:=l.filter fun x=>!p x
theorem JM{α:Type}(p:α→Bool)(l:List α):(kept p l).length≤l.length:=BD _ _
theorem Kx{α:Type}{p:α→Bool}{l:List α}{j:Nat}(h:j<l.length):kept p (l.take (j+1))=kept p (l.take j)++(if p l[j]=true then []else [l[j]]):=by
 unfold kept;rw[Bu,El,Ge h];cases e:p l[j]<;>simp[e]
theorem Ky{α:Type}{p:α→Bool}{l:List α}(h:∀j (hj:j<l.length),p l[j]=false):kept p l=l:=by
 rw[List.filter_eq_self];intro x hx;obtain⟨j,hj,rfl⟩:=Dy.1 hx;rw[h j hj];rfl
theorem K9{α:Type}{p:α→Bool}{l:List α}{i:Nat}(hi:i<l.length)(h:∀j (hj:j<l.length),j<i→p l[j]=false)(hp:p l[i]=true):kept p (l.take (i+1))=l.take i:=by
 rw[Kx hi,Aw hp,B1,Ky];intro j hj;rw[Kf];rw[AJ]at hj;exact h j (by omega) (by omega)
theorem K7{α:Type}(p:α→Bool)(l:List α):(H1 p l 0=-1∧∀j (hj:j<l.length),p l[j]=false)∨∃i,∃hi:i<l.length,H1 p l 0=(i:Int)∧p l[i]=true∧∀j (hj:j<l.length),j<i→p l[j]=false:=by
 by_cases h:∃i,∃hi:i<l.length,p l[i]=true
 ·obtain⟨i,hm⟩:=md h;obtain⟨⟨hi,hp⟩,hl⟩:=hm;have hl:∀j (hj:j<l.length),j<i→p l[j]=false:=fun j hj HZ=>by
   cases e:p l[j]with
   |false=>rfl
   |true=>exact absurd ⟨hj,e⟩ (hl j HZ)
  exact .inr ⟨i,hi,by rw[Jh hi (fun j hj HZ=>hl j hj HZ) hp,E0],hp,hl⟩
 ·have hl:∀j (hj:j<l.length),p l[j]=false:=fun j hj=>by
   cases e:p l[j]with
   |false=>rfl
   |true=>exact absurd ⟨j,hj,e⟩ h
  exact .inl ⟨by rw[Gc fun j hj=>hl j hj],hl⟩
theorem rr{fF:Nat}{cs:List AV}(l:List Rl)(p:Rl→Bool)(hF:∀x∈l,PC fF [.agg (Al x),.cptr cs] (vb (p x)))(hl:Cm l):Be Tryz.prog 44 [.msl 1000 l.length,.clo fF [.cptr cs]] (Ai [(1000,.arr 9 (l.map Al))] Ab) fun r h'=>r=vi (H1 p l 0)∧h'=Ai [(1000,HO.arr 9 (l.map Al))] Ab:=by
 have hl:l.length≤1073741824:=hl;refine Co (MF ⟨[],[],[],[],[],[],[],[],[],[],[]⟩) [(1000,1000)] rfl CB hm rfl Tryz.func44 (by kernel_rfl) rfl (Nz rfl) (by kernel_rfl) rfl ?_;refine Xi {q:Nat // q≤l.length∧∀j (hj:j<l.length),j<q→p l[j]=false} (Xi (fun q=>⟨[(0,.msl 1000 l.length),(1,.clo fF [.cptr cs]),(7,vi l.length),(8,vi q.1)],[(1000,.arr 9 (l.map Al))],Ab⟩) (Xi (fun q=>l.length-q.1) (Yi (Xi ⟨0,AO _,fun _ _ h=>absurd h (Dt _)⟩ ?_) ?_)))
 ·exact⟨Z4,Z1,Fh,Ay (by kernel_rfl)⟩
 intro⟨i,i1,i2⟩;have i1:i≤l.length:=i1;have i2:∀j (hj:j<l.length),j<i→p l[j]=false:=i2;refine Yi (fun h1=>?_) (fun h1=>?_)
 ·have h1:(i:Int)<(l.length:Int):=h1;have n1:i<l.length:=by omega
  have g1:l[i]?=some l[i]:=Ge n1;refine Yi (by show(0:Int)≤i∧(i:Int)<(l.length:Nat);omega) ?_;refine Yi (show l.length=(l.map Al).length by rw[Lm]) (Xi (Al l[i]) (Yi (Ch g1) ?_));refine Yi (Nz rfl) ?_;refine BU (Bt (p l[i])) (fun h2=>?_) (fun h2=>?_)
  ·have h2:(p l[i])=true:=h2;refine Xi .pure (Xi _ (Yi (cb h2 (hF l[i] (Ap n1))) ?_));exact Xi _ (Yi (.refl _) ⟨show vi i=vi (H1 p l 0) by rw[Jh n1 (fun j hj HZ=>i2 j hj HZ) h2,E0],rfl⟩)
  have h2:(p l[i])=false:=h2;refine Xi .pure (Xi _ (Yi (cb h2 (hF l[i] (Ap n1))) ?_));refine Yi (Ii i (by omega)) ?_;refine Xi ⟨i+1,n1,fun j hj HZ=>if e:j<i then i2 j hj e else by
    have e:j=i:=by omega
    subst e;exact h2⟩ ?_
  exact⟨Dl l.length i (by omega),Z4,Z1,Fh,Ay (by kernel_rfl)⟩
 have h1:¬((i:Int)<(l.length:Int)):=h1;have n1:¬i<l.length:=by omega
 exact Xi _ (Yi (.refl _) ⟨show vi (-1)=vi (H1 p l 0) by rw[Gc fun j hj=>i2 j hj (by omega)],rfl⟩)
theorem vH{fF:Nat}{cs:List AV}(l:List Rl)(p:Rl→Bool)(ix:Be Tryz.prog 44 [.msl 1000 l.length,.clo fF [.cptr cs]] (Ai [(1000,.arr 9 (l.map Al))] Ab) fun r h'=>r=vi (-1)∧h'=Ai [(1000,HO.arr 9 (l.map Al))] Ab)(FR:∀j (hj:j<l.length),p l[j]=false):Be Tryz.prog 40 [.msl 1000 l.length,.clo fF [.cptr cs]] (Ai [(1000,.arr 9 (l.map Al))] Ab) fun r h'=>r=.msl 2000 (kept p l).length∧h'=Ai [(1000,.dead),(2000,.arr 9 ((kept p l).map Al))] Ab:=by
 refine Co (MF ⟨[],[],[],[],[],[],[],[],[],[(200003,41000)],[3,6,9]⟩) [(1000,1000),(41,2000)] rfl CB hm rfl Tryz.func40 (by kernel_rfl) rfl (Nz rfl) (by kernel_rfl) rfl ?_;refine Xi (.gen [(1000,1000)] 0) (Yi rfl (Be.to2 (ix) ?_));refine Yi (fun _=>?_) (fun h=>absurd (by decide) h);refine Yi (show l.length=(l.map Al).length by rw[Lm]) ?_;refine Xi ⟨[(0,.msl 41 l.length)],[(41,.arr 9 (l.map Al)),(1000,.dead)],Ab⟩ (Yi ⟨Z1,Z2,Fh,Ay (by kernel_rfl)⟩ ?_)
 exact Xi _ (Yi (.refl _) ⟨show AV.msl 2000 l.length=.msl 2000 (kept p l).length by rw[Ky FR],show Ai [(1000,HO.dead),(2000,.arr 9 (l.map Al))] Ab=Ai [(1000,.dead),(2000,.arr 9 ((kept p l).map Al))] Ab by rw[Ky FR]⟩)
theorem vI{fF:Nat}{cs:List AV}(l:List Rl)(p:Rl→Bool)(hF:∀x∈l,PC fF [.agg (Al x),.cptr cs] (vb (p x)))(hl:Cm l)(i0:Nat)(fO:i0<l.length)(fU:p l[i0]=true)(hb:∀j (hj:j<l.length),j<i0→p l[j]=false)(ix:Be Tryz.prog 44 [.msl 1000 l.length,.clo fF [.cptr cs]] (Ai [(1000,.arr 9 (l.map Al))] Ab) fun r h'=>r=vi (i0:Nat)∧h'=Ai [(1000,HO.arr 9 (l.map Al))] Ab):Be Tryz.prog 40 [.msl 1000 l.length,.clo fF [.cptr cs]] (Ai [(1000,.arr 9 (l.map Al))] Ab) fun r h'=>r=.msl 2000 (kept p l).length∧h'=Ai [(1000,.dead),(2000,.arr 9 ((kept p l).map Al))] Ab:=by
 have hl:l.length≤1073741824:=hl;refine Co (MF ⟨[],[(41,9)],[],[],[],[],[],[],[],[],[6,9]⟩) [(1000,1000),(41,2000)] rfl CB hm rfl Tryz.func40 (by kernel_rfl) rfl (Nz rfl) (by kernel_rfl) rfl ?_;refine Xi (.gen [(1000,1000)] 0) (Yi rfl (Be.to2 (ix) ?_));refine Yi (fun h2=>?_) (fun h2=>?_)
 ·have h2:(i0:Int)=((-1):Int):=h2;exact absurd h2 (by omega)
 have h2:¬((i0:Int)=((-1):Int)):=h2;refine Yi (Ii i0 (by omega)) ?_;refine Xi {q:Nat×Nat×List Rl // i0<q.1∧q.1≤l.length∧q.2.1=(kept p (l.take q.1)).length∧q.2.2.length=l.length∧q.2.2.take q.2.1=kept p (l.take q.1)∧q.2.2.drop q.1=l.drop q.1} (Xi (fun q=>⟨[(0,.msl 1000 l.length),(1,.clo fF [.cptr cs]),(5,vi q.1.2.1),(6,vi q.1.1)],[(1000,.arr 9 (q.1.2.2.map Al))],Ab⟩) (Xi (fun q=>l.length-q.1.1) (Yi (Xi ⟨(i0+1,i0,l),GL _,fO,by show i0=(kept p (l.take (i0+1))).length;rw[K9 fO hb fU,AJ];omega,rfl,by show l.take i0=kept p (l.take (i0+1));rw[K9 fO hb fU],rfl⟩ ?_) ?_)))
 ·exact⟨Z4,Z1,Fh,Ay (by kernel_rfl)⟩
 intro⟨⟨j,i,N⟩,k0,k1,k2,k3,k4,k5⟩;have k0:i0<j:=k0;have k1:j≤l.length:=k1;have k2:i=(kept p (l.take j)).length:=k2;have k3:N.length=l.length:=k3;have k4:N.take i=kept p (l.take j):=k4;have k5:N.drop j=l.drop j:=k5;have k6:i≤j:=by rw[k2];exact AU (JM _ _) (by rw[AJ];omega)
 refine Yi (fun h3=>?_) (fun h3=>?_)
 ·have h3:(j:Int)<(l.length:Int):=h3;have n3:j<l.length:=by omega
  have g3:l[j]?=some l[j]:=Ge n3;have nj:j<N.length:=by omega
  have gj:N[j]?=some N[j]:=Ge nj;refine Yi (by show(0:Int)≤j∧(j:Int)<(l.length:Nat);omega) ?_;refine Yi (show l.length=(N.map Al).length by rw[Lm];exact k3.symm) (Xi (Al N[j]) (Yi (Ch gj) ?_));refine Yi (Nz rfl) ?_;refine Yi (Nz rfl) ?_;refine Yi (Nz rfl) ?_;refine BU (Bt (p N[j])) (fun h4=>?_) (fun h4=>?_)
  ·have h4:(p N[j])=true:=h4;refine Xi .pure (Xi _ (Yi (cb h4 (hF N[j] (by have q:N[j]=l[j]:=(by have q:=Ac (fun z=>z[0]?) k5;simp only[BR,DA]at q;rw[Ge nj,Ge n3]at q;exact BM q);rw[q];exact Ap _))) ?_));refine Xi ⟨[(0,.msl 1000 l.length),(1,.clo fF [.cptr cs]),(5,vi i),(6,vi j)],[(1000,.arr 9 (N.map Al))],Ab⟩ (Yi ⟨Z4,Z1,Fh,Ay (by kernel_rfl)⟩ ?_)
   refine Yi (Ii j (by omega)) ?_;have eN:N[j]=l[j]:=by have q:=Ac (fun z=>z[0]?) k5;simp only[BR,DA]at q;rw[Ge nj,Ge n3]at q;exact BM q
   have kn:kept p (l.take (j+1))=kept p (l.take j):=by rw[Kx n3,Aw (by rw[←eN];exact h4),B1]
   refine Xi ⟨(j+1,i,N),QB k0,n3,by rw[kn];exact k2,k3,by rw[kn];exact k4,by show N.drop (j+1)=l.drop (j+1);rw[←Eb,←Eb,k5]⟩ ?_;exact⟨Dl l.length j (by omega),Z4,Z1,Fh,Ay (by kernel_rfl)⟩
  have h4:(p N[j])=false:=h4;have ni:i<N.length:=by omega
  have gi:N[i]?=some N[i]:=Ge ni;refine Xi .pure (Xi _ (Yi (cb h4 (hF N[j] (by have q:N[j]=l[j]:=(by have q:=Ac (fun z=>z[0]?) k5;simp only[BR,DA]at q;rw[Ge nj,Ge n3]at q;exact BM q);rw[q];exact Ap _))) ?_));refine Xi ⟨[(0,.msl 1000 l.length),(1,.clo fF [.cptr cs]),(5,vi i),(6,vi j),(7,.ref 7 0)],[(7,.cells (Al N[j])),(1000,.arr 9 (N.map Al))],Ab⟩ (Yi ⟨Z5,Z2,Fh,Ay (by kernel_rfl)⟩ ?_)
  refine Yi (Nz rfl) ?_;refine Yi (by show(0:Int)≤i∧(i:Int)<(l.length:Nat);omega) ?_;refine Yi (show l.length=(N.map Al).length by rw[Lm];exact k3.symm) (Xi (Al N[i]) (Yi (Ch gi) (Yi (Nz rfl) ?_)));refine Yi (Ii i (by omega)) ?_;refine Xi ⟨[(0,.msl 1000 l.length),(1,.clo fF [.cptr cs]),(5,vi (i+1)),(6,vi j)],[(1000,.arr 9 ((N.map Al).set i [vs N[j].path,vi N[j].ver.a,vi N[j].ver.b,vi N[j].ver.c,sl AM N[j].reqs,vs N[j].arch,vs N[j].ifc,vs N[j].cert,vb N[j].yanked]))],Ab⟩ (Yi ⟨Z4,Z1,Fh,Ay (by kernel_rfl)⟩ ?_)
  refine Yi (Ii j (by omega)) ?_;have eN:N[j]=l[j]:=by have q:=Ac (fun z=>z[0]?) k5;simp only[BR,DA]at q;rw[Ge nj,Ge n3]at q;exact BM q
  have kn:kept p (l.take (j+1))=kept p (l.take j)++[l[j]]:=by rw[Kx n3,Ah (by rw[←eN,h4];decide)]
  have ki:i<N.length:=by omega
  refine Xi ⟨(j+1,i+1,N.set i N[j]),QB k0,n3,by show i+1=(kept p (l.take (j+1))).length;rw[kn,Ad,←k2];rfl,by show(N.set i N[j]).length=_;rw[CU];exact k3,by show(N.set i N[j]).take (i+1)=kept p (l.take (j+1));rw[kn,Bu,List.take_set_of_le (Aj _),k4,T9 ki,eN];rfl,by show(N.set i N[j]).drop (j+1)=l.drop (j+1);rw[List.drop_set_of_lt (by omega),←Eb,←Eb,k5]⟩ ?_;exact⟨Dl l.length j (by omega),Z4,⟨⟨(show HO.arr 9 ((N.map Al).set i (Al N[j]))=.arr 9 ((N.set i N[j]).map Al) by rw[Nv]),rfl⟩,Tv⟩,Fh,Ay (by kernel_rfl)⟩
 have h3:¬((j:Int)<(l.length:Int)):=h3;have n3:¬j<l.length:=by omega
 refine Yi (show l.length=(N.map Al).length∧(0:Int)≤i∧(i:Int)≤((N.map Al).length:Nat)from⟨by rw[Lm];exact k3.symm,by omega,by rw[Lm];omega⟩) ?_;refine Yi (show l.length=(((N.map Al).take i++List.replicate ((N.map Al).length-i) [vs ⟨#[]⟩,vi 0,vi 0,vi 0,.v (.slice none 0 0),vs ⟨#[]⟩,vs ⟨#[]⟩,vs ⟨#[]⟩,vb false]):List (List AV)).length∧(0:Int)≤i∧(i:Int)≤((((N.map Al).take i++List.replicate ((N.map Al).length-i) [vs ⟨#[]⟩,vi 0,vi 0,vi 0,.v (.slice none 0 0),vs ⟨#[]⟩,vs ⟨#[]⟩,vs ⟨#[]⟩,vb false]):List (List AV)).length:Nat)from⟨by rw[Ad,AJ,Cr,Lm];omega,by omega,by rw[Ad,AJ,Cr,Lm];omega⟩) ?_;have ej:j=l.length:=by omega
 have e1:kept p l=kept p (l.take j):=by rw[ej,Du]
 have e2:i=(kept p l).length:=by rw[e1];exact k2
 have e3:((N.map Al).take i++List.replicate ((N.map Al).length-i) [vs ⟨#[]⟩,vi 0,vi 0,vi 0,.v (.slice none 0 0),vs ⟨#[]⟩,vs ⟨#[]⟩,vs ⟨#[]⟩,vb false]).take i=(kept p l).map Al:=by
  rw[D5 (by rw[AJ,Lm];omega),Ki,Nat.min_self,←Re,k4,e1]
 exact Xi _ (Yi (.refl _) ⟨show AV.msl 2000 i=.msl 2000 (kept p l).length from Ac (AV.msl 2000) e2,show Ai [(1000,HO.dead),(2000,.arr 9 (((N.map Al).take i++List.replicate ((N.map Al).length-i) [vs ⟨#[]⟩,vi 0,vi 0,vi 0,.v (.slice none 0 0),vs ⟨#[]⟩,vs ⟨#[]⟩,vs ⟨#[]⟩,vb false]).take i))] Ab=_ from Ac (fun z=>Ai [(1000,HO.dead),(2000,.arr 9 z)] Ab) e3⟩)
theorem yj{fF:Nat}{cs:List AV}(l:List Rl)(p:Rl→Bool)(hF:∀x∈l,PC fF [.agg (Al x),.cptr cs] (vb (p x)))(hl:Cm l):Be Tryz.prog 40 [.msl 1000 l.length,.clo fF [.cptr cs]] (Ai [(1000,.arr 9 (l.map Al))] Ab) fun r h'=>r=.msl 2000 (kept p l).length∧h'=Ai [(1000,.dead),(2000,.arr 9 ((kept p l).map Al))] Ab:=by
 have ix:=rr l p hF hl;rcases K7 p l with ⟨e,h⟩ | ⟨i,hi,e,hp,hb⟩
 ·rw[e]at ix;exact vH l p ix h
 ·rw[e]at ix;exact vI l p hF hl i hi hp hb ix
theorem vM{fF:Nat}{cs:List AV}(l:List Sl)(p:Sl→Bool)(hF:∀x∈l,PC fF [.agg (Af x),.cptr cs] (vb (p x)))(hl:Cm l):Be Tryz.prog 70 [.msl 1000 l.length,.clo fF [.cptr cs]] (Ai [(1000,.arr 4 (l.map Af))] Ab) fun r h'=>r=vi (H1 p l 0)∧h'=Ai [(1000,HO.arr 4 (l.map Af))] Ab:=by
 have hl:l.length≤1073741824:=hl;refine Co (MF ⟨[],[],[],[],[],[],[],[],[],[],[]⟩) [(1000,1000)] rfl CB hm rfl Tryz.func70 (by kernel_rfl) rfl (Nz rfl) (by kernel_rfl) rfl ?_;refine Xi {q:Nat // q≤l.length∧∀j (hj:j<l.length),j<q→p l[j]=false} (Xi (fun q=>⟨[(0,.msl 1000 l.length),(1,.clo fF [.cptr cs]),(7,vi l.length),(8,vi q.1)],[(1000,.arr 4 (l.map Af))],Ab⟩) (Xi (fun q=>l.length-q.1) (Yi (Xi ⟨0,AO _,fun _ _ h=>absurd h (Dt _)⟩ ?_) ?_)))
 ·exact⟨Z4,Z1,Fh,Ay (by kernel_rfl)⟩
 intro⟨i,i1,i2⟩;have i1:i≤l.length:=i1;have i2:∀j (hj:j<l.length),j<i→p l[j]=false:=i2;refine Yi (fun h1=>?_) (fun h1=>?_)
 ·have h1:(i:Int)<(l.length:Int):=h1;have n1:i<l.length:=by omega
  have g1:l[i]?=some l[i]:=Ge n1;refine Yi (by show(0:Int)≤i∧(i:Int)<(l.length:Nat);omega) ?_;refine Yi (show l.length=(l.map Af).length by rw[Lm]) (Xi (Af l[i]) (Yi (Ch g1) ?_));refine Yi (Nz rfl) ?_;refine BU (Bt (p l[i])) (fun h2=>?_) (fun h2=>?_)
  ·have h2:(p l[i])=true:=h2;refine Xi .pure (Xi _ (Yi (cb h2 (hF l[i] (Ap n1))) ?_));exact Xi _ (Yi (.refl _) ⟨show vi i=vi (H1 p l 0) by rw[Jh n1 (fun j hj HZ=>i2 j hj HZ) h2,E0],rfl⟩)
  have h2:(p l[i])=false:=h2;refine Xi .pure (Xi _ (Yi (cb h2 (hF l[i] (Ap n1))) ?_));refine Yi (Ii i (by omega)) ?_;refine Xi ⟨i+1,n1,fun j hj HZ=>if e:j<i then i2 j hj e else by
    have e:j=i:=by omega
    subst e;exact h2⟩ ?_
  exact⟨Dl l.length i (by omega),Z4,Z1,Fh,Ay (by kernel_rfl)⟩
 have h1:¬((i:Int)<(l.length:Int)):=h1;have n1:¬i<l.length:=by omega
 exact Xi _ (Yi (.refl _) ⟨show vi (-1)=vi (H1 p l 0) by rw[Gc fun j hj=>i2 j hj (by omega)],rfl⟩)
theorem vP{fF:Nat}{cs:List AV}(l:List Sl)(p:Sl→Bool)(ix:Be Tryz.prog 70 [.msl 1000 l.length,.clo fF [.cptr cs]] (Ai [(1000,.arr 4 (l.map Af))] Ab) fun r h'=>r=vi (-1)∧h'=Ai [(1000,HO.arr 4 (l.map Af))] Ab)(FR:∀j (hj:j<l.length),p l[j]=false):Be Tryz.prog 88 [.msl 1000 l.length,.clo fF [.cptr cs]] (Ai [(1000,.arr 4 (l.map Af))] Ab) fun r h'=>r=.msl 2000 (kept p l).length∧h'=Ai [(1000,.dead),(2000,.arr 4 ((kept p l).map Af))] Ab:=by
 refine Co (MF ⟨[],[],[],[],[],[],[],[],[],[(200003,41000)],[3,6,9]⟩) [(1000,1000),(41,2000)] rfl CB hm rfl Tryz.func88 (by kernel_rfl) rfl (Nz rfl) (by kernel_rfl) rfl ?_;refine Xi (.gen [(1000,1000)] 0) (Yi rfl (Be.to2 (ix) ?_));refine Yi (fun _=>?_) (fun h=>absurd (by decide) h);refine Yi (show l.length=(l.map Af).length by rw[Lm]) ?_;refine Xi ⟨[(0,.msl 41 l.length)],[(41,.arr 4 (l.map Af)),(1000,.dead)],Ab⟩ (Yi ⟨Z1,Z2,Fh,Ay (by kernel_rfl)⟩ ?_)
 exact Xi _ (Yi (.refl _) ⟨show AV.msl 2000 l.length=.msl 2000 (kept p l).length by rw[Ky FR],show Ai [(1000,HO.dead),(2000,.arr 4 (l.map Af))] Ab=Ai [(1000,.dead),(2000,.arr 4 ((kept p l).map Af))] Ab by rw[Ky FR]⟩)
theorem vQ{fF:Nat}{cs:List AV}(l:List Sl)(p:Sl→Bool)(hF:∀x∈l,PC fF [.agg (Af x),.cptr cs] (vb (p x)))(hl:Cm l)(i0:Nat)(fO:i0<l.length)(fU:p l[i0]=true)(hb:∀j (hj:j<l.length),j<i0→p l[j]=false)(ix:Be Tryz.prog 70 [.msl 1000 l.length,.clo fF [.cptr cs]] (Ai [(1000,.arr 4 (l.map Af))] Ab) fun r h'=>r=vi (i0:Nat)∧h'=Ai [(1000,HO.arr 4 (l.map Af))] Ab):Be Tryz.prog 88 [.msl 1000 l.length,.clo fF [.cptr cs]] (Ai [(1000,.arr 4 (l.map Af))] Ab) fun r h'=>r=.msl 2000 (kept p l).length∧h'=Ai [(1000,.dead),(2000,.arr 4 ((kept p l).map Af))] Ab:=by
 have hl:l.length≤1073741824:=hl;refine Co (MF ⟨[],[(41,4)],[],[],[],[],[],[],[],[],[6,9]⟩) [(1000,1000),(41,2000)] rfl CB hm rfl Tryz.func88 (by kernel_rfl) rfl (Nz rfl) (by kernel_rfl) rfl ?_;refine Xi (.gen [(1000,1000)] 0) (Yi rfl (Be.to2 (ix) ?_));refine Yi (fun h2=>?_) (fun h2=>?_)
 ·have h2:(i0:Int)=((-1):Int):=h2;exact absurd h2 (by omega)
 have h2:¬((i0:Int)=((-1):Int)):=h2;refine Yi (Ii i0 (by omega)) ?_;refine Xi {q:Nat×Nat×List Sl // i0<q.1∧q.1≤l.length∧q.2.1=(kept p (l.take q.1)).length∧q.2.2.length=l.length∧q.2.2.take q.2.1=kept p (l.take q.1)∧q.2.2.drop q.1=l.drop q.1} (Xi (fun q=>⟨[(0,.msl 1000 l.length),(1,.clo fF [.cptr cs]),(5,vi q.1.2.1),(6,vi q.1.1)],[(1000,.arr 4 (q.1.2.2.map Af))],Ab⟩) (Xi (fun q=>l.length-q.1.1) (Yi (Xi ⟨(i0+1,i0,l),GL _,fO,by show i0=(kept p (l.take (i0+1))).length;rw[K9 fO hb fU,AJ];omega,rfl,by show l.take i0=kept p (l.take (i0+1));rw[K9 fO hb fU],rfl⟩ ?_) ?_)))
 ·exact⟨Z4,Z1,Fh,Ay (by kernel_rfl)⟩
 intro⟨⟨j,i,N⟩,k0,k1,k2,k3,k4,k5⟩;have k0:i0<j:=k0;have k1:j≤l.length:=k1;have k2:i=(kept p (l.take j)).length:=k2;have k3:N.length=l.length:=k3;have k4:N.take i=kept p (l.take j):=k4;have k5:N.drop j=l.drop j:=k5;have k6:i≤j:=by rw[k2];exact AU (JM _ _) (by rw[AJ];omega)
 refine Yi (fun h3=>?_) (fun h3=>?_)
 ·have h3:(j:Int)<(l.length:Int):=h3;have n3:j<l.length:=by omega
  have g3:l[j]?=some l[j]:=Ge n3;have nj:j<N.length:=by omega
  have gj:N[j]?=some N[j]:=Ge nj;refine Yi (by show(0:Int)≤j∧(j:Int)<(l.length:Nat);omega) ?_;refine Yi (show l.length=(N.map Af).length by rw[Lm];exact k3.symm) (Xi (Af N[j]) (Yi (Ch gj) ?_));refine Yi (Nz rfl) ?_;refine Yi (Nz rfl) ?_;refine Yi (Nz rfl) ?_;refine BU (Bt (p N[j])) (fun h4=>?_) (fun h4=>?_)
  ·have h4:(p N[j])=true:=h4;refine Xi .pure (Xi _ (Yi (cb h4 (hF N[j] (by have q:N[j]=l[j]:=(by have q:=Ac (fun z=>z[0]?) k5;simp only[BR,DA]at q;rw[Ge nj,Ge n3]at q;exact BM q);rw[q];exact Ap _))) ?_));refine Xi ⟨[(0,.msl 1000 l.length),(1,.clo fF [.cptr cs]),(5,vi i),(6,vi j)],[(1000,.arr 4 (N.map Af))],Ab⟩ (Yi ⟨Z4,Z1,Fh,Ay (by kernel_rfl)⟩ ?_)
   refine Yi (Ii j (by omega)) ?_;have eN:N[j]=l[j]:=by have q:=Ac (fun z=>z[0]?) k5;simp only[BR,DA]at q;rw[Ge nj,Ge n3]at q;exact BM q
   have kn:kept p (l.take (j+1))=kept p (l.take j):=by rw[Kx n3,Aw (by rw[←eN];exact h4),B1]
   refine Xi ⟨(j+1,i,N),QB k0,n3,by rw[kn];exact k2,k3,by rw[kn];exact k4,by show N.drop (j+1)=l.drop (j+1);rw[←Eb,←Eb,k5]⟩ ?_;exact⟨Dl l.length j (by omega),Z4,Z1,Fh,Ay (by kernel_rfl)⟩
  have h4:(p N[j])=false:=h4;have ni:i<N.length:=by omega
  have gi:N[i]?=some N[i]:=Ge ni;refine Xi .pure (Xi _ (Yi (cb h4 (hF N[j] (by have q:N[j]=l[j]:=(by have q:=Ac (fun z=>z[0]?) k5;simp only[BR,DA]at q;rw[Ge nj,Ge n3]at q;exact BM q);rw[q];exact Ap _))) ?_));refine Xi ⟨[(0,.msl 1000 l.length),(1,.clo fF [.cptr cs]),(5,vi i),(6,vi j),(7,.ref 7 0)],[(7,.cells (Af N[j])),(1000,.arr 4 (N.map Af))],Ab⟩ (Yi ⟨Z5,Z2,Fh,Ay (by kernel_rfl)⟩ ?_)
  refine Yi (Nz rfl) ?_;refine Yi (by show(0:Int)≤i∧(i:Int)<(l.length:Nat);omega) ?_;refine Yi (show l.length=(N.map Af).length by rw[Lm];exact k3.symm) (Xi (Af N[i]) (Yi (Ch gi) (Yi (Nz rfl) ?_)));refine Yi (Ii i (by omega)) ?_;refine Xi ⟨[(0,.msl 1000 l.length),(1,.clo fF [.cptr cs]),(5,vi (i+1)),(6,vi j)],[(1000,.arr 4 ((N.map Af).set i [vs N[j].path,vi N[j].ver.a,vi N[j].ver.b,vi N[j].ver.c]))],Ab⟩ (Yi ⟨Z4,Z1,Fh,Ay (by kernel_rfl)⟩ ?_)
  refine Yi (Ii j (by omega)) ?_;have eN:N[j]=l[j]:=by have q:=Ac (fun z=>z[0]?) k5;simp only[BR,DA]at q;rw[Ge nj,Ge n3]at q;exact BM q
  have kn:kept p (l.take (j+1))=kept p (l.take j)++[l[j]]:=by rw[Kx n3,Ah (by rw[←eN,h4];decide)]
  have ki:i<N.length:=by omega
  refine Xi ⟨(j+1,i+1,N.set i N[j]),QB k0,n3,by show i+1=(kept p (l.take (j+1))).length;rw[kn,Ad,←k2];rfl,by show(N.set i N[j]).length=_;rw[CU];exact k3,by show(N.set i N[j]).take (i+1)=kept p (l.take (j+1));rw[kn,Bu,List.take_set_of_le (Aj _),k4,T9 ki,eN];rfl,by show(N.set i N[j]).drop (j+1)=l.drop (j+1);rw[List.drop_set_of_lt (by omega),←Eb,←Eb,k5]⟩ ?_;exact⟨Dl l.length j (by omega),Z4,⟨⟨(show HO.arr 4 ((N.map Af).set i (Af N[j]))=.arr 4 ((N.set i N[j]).map Af) by rw[Nv]),rfl⟩,Tv⟩,Fh,Ay (by kernel_rfl)⟩
 have h3:¬((j:Int)<(l.length:Int)):=h3;have n3:¬j<l.length:=by omega
 refine Yi (show l.length=(N.map Af).length∧(0:Int)≤i∧(i:Int)≤((N.map Af).length:Nat)from⟨by rw[Lm];exact k3.symm,by omega,by rw[Lm];omega⟩) ?_;refine Yi (show l.length=(((N.map Af).take i++List.replicate ((N.map Af).length-i) [vs ⟨#[]⟩,vi 0,vi 0,vi 0]):List (List AV)).length∧(0:Int)≤i∧(i:Int)≤((((N.map Af).take i++List.replicate ((N.map Af).length-i) [vs ⟨#[]⟩,vi 0,vi 0,vi 0]):List (List AV)).length:Nat)from⟨by rw[Ad,AJ,Cr,Lm];omega,by omega,by rw[Ad,AJ,Cr,Lm];omega⟩) ?_;have ej:j=l.length:=by omega
 have e1:kept p l=kept p (l.take j):=by rw[ej,Du]
 have e2:i=(kept p l).length:=by rw[e1];exact k2
 have e3:((N.map Af).take i++List.replicate ((N.map Af).length-i) [vs ⟨#[]⟩,vi 0,vi 0,vi 0]).take i=(kept p l).map Af:=by
  rw[D5 (by rw[AJ,Lm];omega),Ki,Nat.min_self,←Re,k4,e1]
 exact Xi _ (Yi (.refl _) ⟨show AV.msl 2000 i=.msl 2000 (kept p l).length from Ac (AV.msl 2000) e2,show Ai [(1000,HO.dead),(2000,.arr 4 (((N.map Af).take i++List.replicate ((N.map Af).length-i) [vs ⟨#[]⟩,vi 0,vi 0,vi 0]).take i))] Ab=_ from Ac (fun z=>Ai [(1000,HO.dead),(2000,.arr 4 z)] Ab) e3⟩)
theorem o88{fF:Nat}{cs:List AV}(l:List Sl)(p:Sl→Bool)(hF:∀x∈l,PC fF [.agg (Af x),.cptr cs] (vb (p x)))(hl:Cm l):Be Tryz.prog 88 [.msl 1000 l.length,.clo fF [.cptr cs]] (Ai [(1000,.arr 4 (l.map Af))] Ab) fun r h'=>r=.msl 2000 (kept p l).length∧h'=Ai [(1000,.dead),(2000,.arr 4 ((kept p l).map Af))] Ab:=by
 have ix:=vM l p hF hl;rcases K7 p l with ⟨e,h⟩ | ⟨i,hi,e,hp,hb⟩
 ·rw[e]at ix;exact vP l p ix h
 ·rw[e]at ix;exact vQ l p hF hl i hi hp hb ix
theorem WE{a b:Sl}:(a.path=b.path∧a.ver.a=b.ver.a∧a.ver.b=b.ver.b∧a.ver.c=b.ver.c∧True)↔a=b:=⟨iE,fun e=>by subst e;exact⟨rfl,rfl,rfl,rfl,trivial⟩⟩
abbrev EU(r:Rl):Sl:=⟨r.path,r.ver⟩
abbrev GX(w:Wk):Rl→Bool:=fun r=>decide (EU r∈w.exc)
abbrev DS(s:Sl):Rl→Bool:=fun r=>decide (r.path=s.path)&&decide (EU r≠s)
def LO(s:Sl)(B:List Rl):Int:=H1 (fun r=>decide (EU r=s)) B 0
def Pk(B:List Rl)(i:Nat):List Rl:=match B[i]? with | some r=>B.set i { r with yanked:=false } | none=>B
theorem bn{B:List Rl}{i:Nat}{r:Rl}(h:B[i]?=some r):Pk B i=B.set i { r with yanked:=false }:=by unfold Pk;rw[h]
theorem T0(B:List Rl)(i:Nat):(Pk B i).length=B.length:=by unfold Pk;split<;>simp
def LA(A:List Rl)(s:Sl):Option (List Rl):=if LO s (kept (DS s) A)<0 then none else some (Pk (kept (DS s) A) (LO s (kept (DS s) A)).toNat)
def HE:List Sl→List Rl→Option (List Rl)
 | [],A=>some A
 |s::l,A=>(LA A s).bind (HE l)
def rC:Option (List Rl)→List Rl×Int
 |none=>([],6)
 |some A=>(A,0)
def DQ(x:List Rl)(w:Wk):List Rl×Int :=
 if A4 x≠0 then([],1)else if CQ w≠0 then([],CQ w)else if 256<((AX B5 x w.rep).length:Int)then([],7)else rC (HE w.pin (kept (GX w) (AX B5 x w.rep)))
abbrev IC(x:List Rl)(ifs:List (List AV))(w:Wk):AV:=.tup [I2 (DQ x w).1 (if(DQ x w).2=0 then ifs else []),vi (DQ x w).2]
theorem KO{x:List Rl}{ifs:List (List AV)}{w:Wk}{e:Int}(h:DQ x w=([],e))(he:e≠0):Hm (.tup [.agg [.v (.slice none 0 0),.v (.slice none 0 0)],vi e]) (IC x ifs w):=by
 unfold IC;rw[h,Ah he];exact .tup ⟨.agg ⟨.nil,.nil,trivial⟩,.refl _,trivial⟩
theorem W2{x:List Rl}{w:Wk}(h:A4 x≠0):DQ x w=([],1):=by unfold DQ;rw[Aw h]
theorem d7{x:List Rl}{w:Wk}(h:A4 x=0)(h2:CQ w≠0):DQ x w=([],CQ w):=by unfold DQ;rw[Ah (fun c=>c h),Aw h2]
theorem d8{x:List Rl}{w:Wk}(h:A4 x=0)(h2:CQ w=0){A:List Rl}(hA:A=AX B5 x w.rep)(h3:256<(A.length:Int)):DQ x w=([],7):=by
 subst hA;unfold DQ;rw[Ah (fun c=>c h),Ah (fun c=>c h2),Aw h3]
theorem RV{x:List Rl}{w:Wk}(h:A4 x=0)(h2:CQ w=0){A:List Rl}(hA:A=AX B5 x w.rep)(h3:¬256<(A.length:Int)){o:Option (List Rl)}(ho:HE w.pin (kept (GX w) A)=o):DQ x w=rC o:=by
 subst hA;subst ho;unfold DQ;rw[Ah (fun c=>c h),Ah (fun c=>c h2),Ah h3]
theorem ES{α:Type}{c:α→α→Int}:∀(n:Nat) (a b:List α) (r:α),r∈Ct c n a b→r∈a∨r∈b
 |0,_,_,_,h=>by cases h
 |n+1,a,b,r,h=>by
  cases a with
  |nil =>
   cases b with
   |nil=>cases h
   |cons y b =>
    rcases Aq.1 (show r∈y::Ct c n [] b from h)with rfl | h
    ·exact .inr (Aa ..)
    ·exact(ES n [] b r h).imp id (Ae _)
  |cons x a =>
   cases b with
   |nil =>
    rcases Aq.1 (show r∈x::Ct c n a []from h)with rfl | h
    ·exact .inl (Aa ..)
    ·exact(ES n a [] r h).imp (Ae _) id
   |cons y b =>
    have h:r∈if c x y<0 then x::Ct c n a (y::b)else if c x y=0 then y::Ct c n a b else y::Ct c n (x::a) b:=h
    split at h
    ·rcases Aq.1 h with rfl | h
     ·exact .inl (Aa ..)
     ·exact(ES n a (y::b) r h).imp (Ae _) id
    ·split at h
     ·rcases Aq.1 h with rfl | h
      ·exact .inr (Aa ..)
      ·exact(ES n a b r h).imp (Ae _) (Ae _)
     ·rcases Aq.1 h with rfl | h
      ·exact .inr (Aa ..)
      ·exact(ES n (x::a) b r h).imp id (Ae _)
theorem H7{α:Type}{c:α→α→Int}{a b:List α}{r:α}(h:r∈AX c a b):r∈a∨r∈b:=ES _ a b r h
theorem nO{s:Sl}{B:List Rl}(h:¬LO s B<0):∃hi:(LO s B).toNat<B.length,B[(LO s B).toNat]?=some B[(LO s B).toNat]:=by
 rcases K7 (fun r=>decide (EU r=s)) B with ⟨e,_⟩ | ⟨i,hi,e,_⟩
 ·exact absurd (show LO s B<0 by unfold LO;rw[e];decide) h
 ·have e2:(LO s B).toNat=i:=by unfold LO;rw[e];rfl
  rw[e2];exact⟨hi,Ge hi⟩
theorem Yp{l:List Sl}{i:Nat}(h:i<l.length)(A:List Rl):HE (l.drop i) A=(LA A l[i]).bind (HE (l.drop (i+1))):=by rw[Bs h];rfl
theorem ie{A B:List Rl}{s:Sl}(hB:B=kept (DS s) A)(h:¬LO s B<0):LA A s=some (Pk B (LO s B).toNat):=by subst hB;unfold LA;rw[Ah h]
theorem ic{A B:List Rl}{s:Sl}(hB:B=kept (DS s) A)(h:LO s B<0):LA A s=none:=by subst hB;unfold LA;rw[Aw h]
theorem o46(ifs:List (List AV))(hl:Cm ifs)(hs:∀c∈ifs,c.length=5):PC 46 [.slice .none ifs] (.slice .none ifs):=by
 refine Ps F3 Tryz.func46 rfl (Nz rfl) ?_;have Gp:Do 5 ifs∧([]:List (List AV)).length=0∧(([]:List (List AV)).length+ifs.length)*112≤140737488355328∧([]:List (List AV)).length+ifs.length≤9223372036854775807:=by
  refine⟨UB hs,rfl,?_,?_⟩<;>simp only[AC]<;>unfold Cm at hl<;>omega
 refine Yi ?_ ?_
 ·intro _;exact Yi Gp (.refl _)
 ·intro h;have h:ifs=[]:=h;refine Yi ?_ ?_
  ·show Hm (.v (.slice none 0 0)) (.slice .none ifs);rw[h];exact .nil
  ·exact Yi Gp (.refl _)
theorem o41(r:Rl)(w:Wk)(hl:Cm w.exc):PC 41 [.agg (Al r),.cptr (BK w)] (vb (GX w r)):=by
 refine Ps ⟨[2],[],[],[],[],[],[],[],[],[],[]⟩ Tryz.func41 rfl (Nz rfl) ?_;refine Yi (Nz rfl) ?_;refine Xi _ (Yi (rp r) ?_);refine BU (Bt (decide (EU r∈w.exc))) (fun h1=>?_) (fun h1=>?_)
 ·have h1:(decide (EU r∈w.exc))=true:=h1;refine Xi _ (Yi (cb h1 (ph w.exc (EU r) hl)) ?_);refine Yi (by kernel_rfl) ?_;exact .of_eq (show vb true=vb (decide (EU r∈w.exc)) by rw[h1])
 have h1:(decide (EU r∈w.exc))=false:=h1;refine Xi _ (Yi (cb h1 (ph w.exc (EU r) hl)) ?_);refine Yi (by kernel_rfl) ?_;exact .of_eq (show vb false=vb (decide (EU r∈w.exc)) by rw[h1])
theorem o45(r:Rl)(s:Sl):PC 45 [.agg (Al r),.cptr (Af s)] (vb (decide (EU r=s))):=by
 refine Ps ⟨[2],[],[],[],[],[],[],[],[],[],[]⟩ Tryz.func45 rfl (Nz rfl) ?_;refine Yi (Nz rfl) ?_;refine Xi _ (Yi (rp r) ?_);refine Yi (Nz rfl) ?_;refine Yi (fun h1=>?_) (fun h1=>?_)
 ·have h1:((EU r).path:ByteArray)=s.path∧((EU r).ver.a:Int)=s.ver.a∧((EU r).ver.b:Int)=s.ver.b∧((EU r).ver.c:Int)=s.ver.c∧True:=h1;refine Yi (by kernel_rfl) ?_;exact .of_eq (show vb true=vb (decide (EU r=s)) by rw[Ax (WE.1 h1)])
 have h1:¬(((EU r).path:ByteArray)=s.path∧((EU r).ver.a:Int)=s.ver.a∧((EU r).ver.b:Int)=s.ver.b∧((EU r).ver.c:Int)=s.ver.c∧True):=h1;refine Yi (by kernel_rfl) ?_;exact .of_eq (show vb false=vb (decide (EU r=s)) by rw[Ar (fun e=>h1 (WE.2 e))])
theorem o43(r:Rl)(s:Sl):PC 43 [.agg (Al r),.cptr (Af s)] (vb (DS s r)):=by
 refine Ps ⟨[2],[],[],[],[],[],[],[],[],[],[]⟩ Tryz.func43 rfl (Nz rfl) ?_;refine Yi (fun h1=>?_) (fun h1=>?_)
 ·have h1:(r.path:ByteArray)=s.path:=h1;refine Yi (Nz rfl) ?_;refine Xi _ (Yi (rp r) ?_);refine Yi (Nz rfl) ?_;refine Yi (fun h2=>?_) (fun h2=>?_)
  ·have h2:((EU r).path:ByteArray)=s.path∧((EU r).ver.a:Int)=s.ver.a∧((EU r).ver.b:Int)=s.ver.b∧((EU r).ver.c:Int)=s.ver.c∧True:=h2;refine Yi (by kernel_rfl) ?_;exact .of_eq (show vb false=vb (decide (r.path=s.path)&&decide (EU r≠s)) by rw[Ax h1,show decide (EU r≠s)=false from Ar (fun e=>e (WE.1 h2))];rfl)
  have h2:¬(((EU r).path:ByteArray)=s.path∧((EU r).ver.a:Int)=s.ver.a∧((EU r).ver.b:Int)=s.ver.b∧((EU r).ver.c:Int)=s.ver.c∧True):=h2;refine Yi (by kernel_rfl) ?_;exact .of_eq (show vb true=vb (decide (r.path=s.path)&&decide (EU r≠s)) by rw[Ax h1,show decide (EU r≠s)=true from Ax (fun e=>h2 (WE.2 e))];rfl)
 have h1:¬(r.path:ByteArray)=s.path:=h1;refine Yi (by kernel_rfl) ?_;exact .of_eq (show vb false=vb (decide (r.path=s.path)&&decide (EU r≠s)) by rw[Ar h1];rfl)
theorem nZ(x:List Rl)(ifs:List (List AV))(w:Wk)(hx:∀r∈x,IR r)(OM:x.length+w.rep.length≤1073741824)(jk:∀r∈x,Cm r.reqs)(hW:bv w)(kk:∀r∈w.rep,Cm r.reqs)(WM:Cm ifs)(aA:∀c∈ifs,c.length=5):PC 11 [I2 x ifs,.agg (BK w)] (IC x ifs w):=by
 obtain⟨A0,hA⟩:∃A,A=AX B5 x w.rep:=⟨_,rfl⟩;have Aa5:w.pin.length≤1073741824:=hW.pin;have lG:A0.length≤1073741824:=by rw[hA];exact AU (NP x w.rep) OM
 have uc:∀r∈A0,Cm r.reqs:=fun r hr=>by rw[hA]at hr;exact(H7 hr).elim (jk r) (kk r)
 have ud:∀r∈A0,∀q∈r.reqs,Cm q.set:=fun r hr q hq=>by rw[hA]at hr;exact(H7 hr).elim (fun h=>((hx r h).2 q hq).1) (fun h=>((hW.rep r h).2 q hq).1)
 have aq:PC 38 [sl Al x,sl Al w.rep,.v (.func (.func 39) #[] #[])] (sl Al A0):=by rw[hA];exact yh x w.rep (by unfold Cm;omega) hW.reps
 refine Ps ⟨[2,3,9],[],[],[],[],[],[],[],[],[(200010,7007),(200015,7007),(200019,7)],[4,6,7,9,10,13,14,15,17,19]⟩ Tryz.func11 rfl (Nz rfl) ?_;refine Yi (Nz rfl) ?_;refine Xi .pure (Xi _ (Yi (jG Se x ifs hx) ?_));refine Yi (fun h1=>?_) (fun h1=>?_)
 ·have h1:((A4 x):Int)≠(0:Int):=h1;refine Yi (Nz rfl) ?_;refine Yi (Nz rfl) ?_;exact KO (W2 (fun h=>h1 h)) (by decide)
 have h1:((A4 x):Int)=(0:Int):=Bn h1;refine Yi (Nz rfl) ?_;refine Xi .pure (Xi _ (Yi (sP w hW) ?_));refine Xi ⟨[(2,.ref 2 0),(3,.ref 3 0),(4,.ref 4 0),(6,vi (CQ w))],[(2,.ro (Ic x ifs)),(3,.ro (BK w)),(4,.cells [.v (.slice none 0 0),.v (.slice none 0 0)])],Ab⟩ (Yi ⟨Z4,Z3,Fh,Tv⟩ ?_)
 refine Yi (fun h3=>?_) (fun h3=>?_)
 ·have h3:((CQ w):Int)≠(0:Int):=h3;refine Yi (Nz rfl) ?_;refine Yi (Nz rfl) ?_;exact KO (d7 h1 h3) h3
 have h3:((CQ w):Int)=(0:Int):=Bn h3;refine Xi ⟨[(2,.ref 2 0),(3,.ref 3 0),(4,.ref 4 0)],[(2,.ro (Ic x ifs)),(3,.ro (BK w)),(4,.cells [.v (.slice none 0 0),.v (.slice none 0 0)])],Ab⟩ (Yi ⟨Z3,Z3,Fh,Tv⟩ ?_)
 refine Xi .pure (Xi _ (Yi aq ?_));refine Xi (.gen [] 1) (Yi rfl (Be.to2 (rV A0 lG uc ud) ?_));refine Xi ⟨[(2,.ref 2 0),(3,.ref 3 0),(4,.ref 4 0),(7,.msl 12600 A0.length)],[(2,.ro (Ic x ifs)),(3,.ro (BK w)),(4,.cells [.v (.slice none 0 0),.v (.slice none 0 0)]),(12600,.arr 9 (A0.map Al))],Ab⟩ (Yi ⟨Z4,Z4,Fh,Tv⟩ ?_)
 refine Yi (fun h6=>?_) (fun h6=>?_)
 ·have h6:(256:Int)<(A0.length:Int):=h6;have n6:256<A0.length:=by omega
  have g6:A0[256]?=some A0[256]:=Ge n6;refine Yi (Nz rfl) ?_;refine Yi (Nz rfl) ?_;exact KO (d8 h1 h3 hA h6) (by decide)
 have h6:¬((256:Int)<(A0.length:Int)):=h6;have n6:¬256<A0.length:=by omega
 refine Xi ⟨[(2,.ref 2 0),(3,.ref 3 0),(4,.ref 4 0),(7,.msl 12600 A0.length)],[(2,.ro (Ic x ifs)),(3,.ro (BK w)),(4,.cells [.v (.slice none 0 0),.v (.slice none 0 0)]),(12600,.arr 9 (A0.map Al))],Ab⟩ (Yi ⟨Z4,Z4,Fh,Tv⟩ ?_)
 refine Xi (.gen [(12600,1000)] 1) (Yi rfl (Be.to2 (yj A0 (GX w) (fun r _=>o41 r w hW.exc) lG) ?_));refine Yi (show(kept (GX w) A0).length=((kept (GX w) A0).map Al).length by rw[Lm]) ?_;refine Xi ⟨[(2,.ref 2 0),(3,.ref 3 0),(4,.ref 4 0),(7,.msl 7 (kept (GX w) A0).length)],[(2,.ro (Ic x ifs)),(3,.ro (BK w)),(4,.cells [.v (.slice none 0 0),.v (.slice none 0 0)]),(7,.arr 9 ((kept (GX w) A0).map Al))],Ab⟩ (Yi ⟨Z4,Z4,Fh,Tv⟩ ?_)
 refine Xi {q:Nat×List Rl // q.1≤w.pin.length∧HE w.pin (kept (GX w) A0)=HE (w.pin.drop q.1) q.2∧q.2.length≤256} (Xi (fun q=>⟨[(2,.ref 2 0),(4,.ref 4 0),(7,.msl 7 q.1.2.length),(35,sl Af w.pin),(36,vi (w.pin.map Af).length),(37,vi q.1.1)],[(2,.ro (Ic x ifs)),(4,.cells [.v (.slice none 0 0),.v (.slice none 0 0)]),(7,.arr 9 (q.1.2.map Al))],Ab⟩) (Xi (fun q=>w.pin.length-q.1.1) (Yi (Xi ⟨(0,kept (GX w) A0),AO _,rfl,AU (JM _ _) (by have q:=h6;omega)⟩ ?_) ?_)))
 ·exact⟨Z6,Z3,Fh,Tv⟩
 intro⟨⟨k,A⟩,k1,k2,kA⟩;have k1:k≤w.pin.length:=k1;have k2:HE w.pin (kept (GX w) A0)=HE (w.pin.drop k) A:=k2;have kA:A.length≤256:=kA;refine Yi (fun h9=>?_) (fun h9=>?_)
 ·have h9:(k:Int)<((w.pin.map Af).length:Int):=h9;have n9:=Ld h9;refine Xi (Af w.pin[k]) (Yi (Pu n9) (Yi rfl ?_));refine Yi (Nz rfl) ?_;refine Yi (Nz rfl) ?_;refine Xi ⟨[(2,.ref 2 0),(4,.ref 4 0),(7,.msl 7 A.length),(9,.ref 9 0),(35,sl Af w.pin),(36,vi (w.pin.map Af).length),(37,vi k)],[(2,.ro (Ic x ifs)),(4,.cells [.v (.slice none 0 0),.v (.slice none 0 0)]),(7,.arr 9 (A.map Al)),(9,.ro (Af w.pin[k]))],Ab⟩ (Yi ⟨Z7,Z4,Fh,Tv⟩ ?_)
  refine Xi (.gen [(7,1000)] 1) (Yi rfl (Be.to2 (yj A (DS w.pin[k]) (fun r _=>o43 r w.pin[k]) (AU kA (by decide))) ?_));refine Xi ⟨[(2,.ref 2 0),(4,.ref 4 0),(7,.msl 14300 (kept (DS w.pin[k]) A).length),(9,.ref 9 0),(35,sl Af w.pin),(36,vi (w.pin.map Af).length),(37,vi k)],[(2,.ro (Ic x ifs)),(4,.cells [.v (.slice none 0 0),.v (.slice none 0 0)]),(9,.ro (Af w.pin[k])),(14300,.arr 9 ((kept (DS w.pin[k]) A).map Al))],Ab⟩ (Yi ⟨Z7,Z4,Fh,Tv⟩ ?_)
  refine Xi (.gen [(14300,1000)] 0) (Yi rfl (Be.to2 (rr (kept (DS w.pin[k]) A) (fun r=>decide (EU r=w.pin[k])) (fun r _=>o45 r w.pin[k]) (AU (JM _ _) (AU kA (by decide)))) ?_));refine Yi (show(kept (DS w.pin[k]) A).length=((kept (DS w.pin[k]) A).map Al).length by rw[Lm]) ?_;refine Xi ⟨[(2,.ref 2 0),(4,.ref 4 0),(7,.msl 7 (kept (DS w.pin[k]) A).length),(10,vi (LO w.pin[k] (kept (DS w.pin[k]) A))),(35,sl Af w.pin),(36,vi (w.pin.map Af).length),(37,vi k)],[(2,.ro (Ic x ifs)),(4,.cells [.v (.slice none 0 0),.v (.slice none 0 0)]),(7,.arr 9 ((kept (DS w.pin[k]) A).map Al))],Ab⟩ (Yi ⟨Z7,Z3,Fh,Tv⟩ ?_)
  refine Yi (fun Lw=>?_) (fun Lw=>?_)
  ·have Lw:((LO w.pin[k] (kept (DS w.pin[k]) A)):Int)<(0:Int):=Lw;refine Yi (Nz rfl) ?_;refine Yi (Nz rfl) ?_;have eP:HE w.pin (kept (GX w) A0)=none:=by rw[k2,Yp n9,ic rfl Lw];rfl
   exact KO (RV h1 h3 hA h6 eP) (by decide)
  have Lw:¬(((LO w.pin[k] (kept (DS w.pin[k]) A)):Int)<(0:Int)):=Lw;refine Dn (nO Lw) (fun h9 g9=>?_);refine Xi ⟨[(2,.ref 2 0),(4,.ref 4 0),(7,.msl 7 (kept (DS w.pin[k]) A).length),(10,vi (LO w.pin[k] (kept (DS w.pin[k]) A))),(35,sl Af w.pin),(36,vi (w.pin.map Af).length),(37,vi k)],[(2,.ro (Ic x ifs)),(4,.cells [.v (.slice none 0 0),.v (.slice none 0 0)]),(7,.arr 9 ((kept (DS w.pin[k]) A).map Al))],Ab⟩ (Yi ⟨Z7,Z3,Fh,Tv⟩ ?_)
  refine Yi (by show(0:Int)≤(LO w.pin[k] (kept (DS w.pin[k]) A))∧((LO w.pin[k] (kept (DS w.pin[k]) A)):Int)<((kept (DS w.pin[k]) A).length:Nat);omega) ?_;refine Yi (show(kept (DS w.pin[k]) A).length=((kept (DS w.pin[k]) A).map Al).length by rw[Lm]) (Xi (Al ((kept (DS w.pin[k]) A)[(LO w.pin[k] (kept (DS w.pin[k]) A)).toNat])) (Yi (Ch g9) (Yi (Nz rfl) ?_)));refine Yi (Ii k (by omega)) ?_;have eU:((kept (DS w.pin[k]) A).map Al).set (LO w.pin[k] (kept (DS w.pin[k]) A)).toNat [vs ((kept (DS w.pin[k]) A)[(LO w.pin[k] (kept (DS w.pin[k]) A)).toNat]).path,vi ((kept (DS w.pin[k]) A)[(LO w.pin[k] (kept (DS w.pin[k]) A)).toNat]).ver.a,vi ((kept (DS w.pin[k]) A)[(LO w.pin[k] (kept (DS w.pin[k]) A)).toNat]).ver.b,vi ((kept (DS w.pin[k]) A)[(LO w.pin[k] (kept (DS w.pin[k]) A)).toNat]).ver.c,sl AM ((kept (DS w.pin[k]) A)[(LO w.pin[k] (kept (DS w.pin[k]) A)).toNat]).reqs,vs ((kept (DS w.pin[k]) A)[(LO w.pin[k] (kept (DS w.pin[k]) A)).toNat]).arch,vs ((kept (DS w.pin[k]) A)[(LO w.pin[k] (kept (DS w.pin[k]) A)).toNat]).ifc,vs ((kept (DS w.pin[k]) A)[(LO w.pin[k] (kept (DS w.pin[k]) A)).toNat]).cert,vb false]=(Pk (kept (DS w.pin[k]) A) (LO w.pin[k] (kept (DS w.pin[k]) A)).toNat).map Al:=by rw[bn g9,Nv]
  have eP:HE w.pin (kept (GX w) A0)=HE (w.pin.drop (k+1)) (Pk (kept (DS w.pin[k]) A) (LO w.pin[k] (kept (DS w.pin[k]) A)).toNat):=by rw[k2,Yp n9,ie rfl Lw];rfl
  refine Xi ⟨(k+1,(Pk (kept (DS w.pin[k]) A) (LO w.pin[k] (kept (DS w.pin[k]) A)).toNat)),n9,eP,by show(Pk _ _).length≤256;rw[T0];exact AU (JM _ _) kA⟩ ?_;exact⟨Dl w.pin.length k (by omega),⟨Zr,Zr,⟨(show AV.msl 7 (kept (DS w.pin[k]) A).length=.msl 7 (Pk (kept (DS w.pin[k]) A) (LO w.pin[k] (kept (DS w.pin[k]) A)).toNat).length by rw[T0]),rfl⟩,Zr,Zr,Zr,Tv⟩,⟨Zr,Zr,⟨(Ac (HO.arr 9) eU),rfl⟩,Tv⟩,Fh,Tv⟩
 have h9:¬((k:Int)<((w.pin.map Af).length:Int)):=h9;have n9:=Lc h9;refine Yi (show A.length=(A.map Al).length by rw[Lm]) ?_;refine Xi ⟨[(2,.ref 2 0),(4,.ref 4 0),(7,sl Al A)],[(2,.ro (Ic x ifs)),(4,.cells [.v (.slice none 0 0),.v (.slice none 0 0)])],Ab⟩ (Yi ⟨Z3,Z2,Fh,Tv⟩ ?_)
 refine Xi .pure (Xi _ (Yi (o46 ifs WM aA) ?_));refine Yi (Nz rfl) ?_;refine Yi (Nz rfl) ?_;have eP:HE w.pin (kept (GX w) A0)=some A:=by rw[k2,He (by have q:=h9;rw[Lm]at q;omega)];rfl
 have eR:=RV h1 h3 hA h6 eP;exact .of_eq (show _=IC x ifs w by unfold IC;rw[eR];rfl)
abbrev Me(l o:List Sl):List Sl:=kept (fun s=>decide (s∈o)) l
abbrev WK:Wk:=⟨[],[],[]⟩
def Jn(a b:Wk):Wk×Int :=
 if CQ a≠0 then(WK,CQ a)else if CQ b≠0 then(WK,CQ b)else if 256<((AX B5 a.rep b.rep).length:Int)then(WK,7)else
  (⟨AX B5 a.rep b.rep,Me (AX Gr a.exc b.exc) b.pin,AX PH (Me a.pin b.exc) b.pin⟩,0)
abbrev Zw(p:Wk×Int):AV:=.tup [.agg (BK p.1),vi p.2]
theorem NR{p:Wk×Int}{e:Int}(h:p=(WK,e)):Hm (.tup [.agg [.v (.slice none 0 0),.v (.slice none 0 0),.v (.slice none 0 0)],vi e]) (Zw p):=by
 subst h;exact .tup ⟨.agg ⟨.nil,.nil,.nil,trivial⟩,.refl _,trivial⟩
theorem gz{a b:Wk}(h:CQ a≠0):Jn a b=(WK,CQ a):=by unfold Jn;rw[Aw h]
theorem gA{a b:Wk}(h:CQ a=0)(h2:CQ b≠0):Jn a b=(WK,CQ b):=by unfold Jn;rw[Ah (fun c=>c h),Aw h2]
theorem gC{a b:Wk}(h:CQ a=0)(h2:CQ b=0){A:List Rl}(hA:A=AX B5 a.rep b.rep)(h3:256<(A.length:Int)):Jn a b=(WK,7):=by
 subst hA;unfold Jn;rw[Ah (fun c=>c h),Ah (fun c=>c h2),Aw h3]
theorem gD{a b:Wk}(h:CQ a=0)(h2:CQ b=0){A:List Rl}(hA:A=AX B5 a.rep b.rep)(h3:¬256<(A.length:Int)):Jn a b=(⟨A,Me (AX Gr a.exc b.exc) b.pin,AX PH (Me a.pin b.exc) b.pin⟩,0):=by
 subst hA;unfold Jn;rw[Ah (fun c=>c h),Ah (fun c=>c h2),Ah h3]
theorem o90(s:Sl)(o:List Sl)(hl:Cm o):PC 90 [.agg (Af s),.cptr [sl Af o]] (vb (decide (s∈o))):=by
 refine Ps ⟨[2],[],[],[],[],[],[],[],[],[],[]⟩ Tryz.func90 rfl (Nz rfl) ?_;refine Yi (Nz rfl) ?_;refine BU (Bt (decide (s∈o))) (fun h1=>?_) (fun h1=>?_)
 ·have h1:(decide (s∈o))=true:=h1;refine Xi .pure (Xi _ (Yi (cb h1 (ph o s hl)) ?_));exact .of_eq (show vb true=vb (decide (s∈o)) by rw[h1])
 have h1:(decide (s∈o))=false:=h1;refine Xi .pure (Xi _ (Yi (cb h1 (ph o s hl)) ?_));exact .of_eq (show vb false=vb (decide (s∈o)) by rw[h1])
theorem ym(l o:List Sl)(hl:Cm l)(ho:Cm o):PC 62 [sl Af l,sl Af o] (sl Af (Me l o)):=by
 refine Ps ⟨[3],[],[],[],[],[],[],[],[],[(4,8)],[]⟩ Tryz.func62 rfl (Nz rfl) ?_;refine Xi (.gen [] 1) (Yi rfl (Be.to2 (rW l hl) ?_));refine Xi (.gen [(10600,1000)] 1) (Yi rfl (Be.to2 (o88 l (fun s=>decide (s∈o)) (fun s _=>o90 s o ho) hl) ?_));refine Yi (show(Me l o).length=((Me l o).map Af).length by rw[Lm]) ?_;exact .refl _
theorem o17(a b:Wk)(Yy:bv a)(hB:bv b)(OM:a.rep.length+b.rep.length≤1073741824)(vf:a.exc.length+b.exc.length≤1073741824)(zB:∀r∈a.rep,Cm r.reqs)(zC:∀r∈b.rep,Cm r.reqs):PC 17 [.agg (BK a),.agg (BK b)] (Zw (Jn a b)):=by
 obtain⟨A0,hA⟩:∃A,A=AX B5 a.rep b.rep:=⟨_,rfl⟩;have lG:A0.length≤1073741824:=by rw[hA];exact AU (NP a.rep b.rep) OM
 have uc:∀r∈A0,Cm r.reqs:=fun r hr=>by rw[hA]at hr;exact(H7 hr).elim (zB r) (zC r)
 have ud:∀r∈A0,∀q∈r.reqs,Cm q.set:=fun r hr q hq=>by rw[hA]at hr;exact(H7 hr).elim (fun h=>((Yy.rep r h).2 q hq).1) (fun h=>((hB.rep r h).2 q hq).1)
 have aq:PC 38 [sl Al a.rep,sl Al b.rep,.v (.func (.func 39) #[] #[])] (sl Al A0):=by rw[hA];exact yh a.rep b.rep Yy.reps hB.reps
 have hE:Cm (AX Gr a.exc b.exc):=AU (NP a.exc b.exc) vf;refine Ps ⟨[2,3,7],[],[],[],[],[],[],[],[],[(100010,10)],[4,7,8,9,10,11,12,13,14]⟩ Tryz.func17 rfl (Nz rfl) ?_;refine Yi (Nz rfl) ?_;refine Yi (Nz rfl) ?_;refine Xi {q:Nat // q≤2∧(0<q→CQ a=0)∧(1<q→CQ b=0)} (Xi (fun q=>⟨[(2,.ref 2 0),(3,.ref 3 0),(4,.ref 4 0),(13,.slice (.id 13 3) [(BK a),(BK b)]),(14,vi 2),(15,vi q.1)],[(2,.ro (BK a)),(3,.ro (BK b)),(4,.cells [.v (.slice none 0 0),.v (.slice none 0 0),.v (.slice none 0 0)]),(13,.tok 3 2)],Ab⟩) (Xi (fun q=>2-q.1) (Yi (Xi ⟨0,by decide,fun h=>absurd h (by decide),fun h=>absurd h (by decide)⟩ ?_) ?_)))
 ·exact⟨Z6,Z4,Fh,Tv⟩
 intro⟨i,i1,i2,i3⟩;have i1:i≤2:=i1;have i2:0<i→CQ a=0:=i2;have i3:1<i→CQ b=0:=i3;refine Yi (fun h1=>?_) (fun h1=>?_)
 ·have h1:(i:Int)<(2:Int):=h1;refine BU (show i=0∨i=1 by omega) (fun hi=>?_) (fun hi=>?_)
  ·have hi:i=0:=hi;refine Xi (BK a) (Yi (show(0:Int)≤(i:Int)∧[BK a,BK b][((i:Nat):Int).toNat]?=some (BK a)from⟨N7 _,by rw[hi];rfl⟩) (Yi rfl ?_));refine Yi (Nz rfl) ?_;refine Yi (Nz rfl) ?_;refine Xi ⟨[(2,.ref 2 0),(3,.ref 3 0),(4,.ref 4 0),(7,.ref 7 0),(13,.slice (.id 13 3) [(BK a),(BK b)]),(14,vi 2),(15,vi i)],[(2,.ro (BK a)),(3,.ro (BK b)),(4,.cells [.v (.slice none 0 0),.v (.slice none 0 0),.v (.slice none 0 0)]),(7,.ro (BK a)),(13,.tok 3 2)],Ab⟩ (Yi ⟨Z7,Z5,Fh,Tv⟩ ?_)
   refine Yi (Nz rfl) ?_;refine Xi .pure (Xi _ (Yi (sP a Yy) ?_));refine Yi (fun h2=>?_) (fun h2=>?_)
   ·have h2:((CQ a):Int)≠(0:Int):=h2;refine Yi (Nz rfl) ?_;refine Yi (Nz rfl) ?_;exact NR (gz h2)
   have h2:((CQ a):Int)=(0:Int):=Bn h2;refine Xi ⟨[(2,.ref 2 0),(3,.ref 3 0),(4,.ref 4 0),(13,.slice (.id 13 3) [(BK a),(BK b)]),(14,vi 2),(15,vi i)],[(2,.ro (BK a)),(3,.ro (BK b)),(4,.cells [.v (.slice none 0 0),.v (.slice none 0 0),.v (.slice none 0 0)]),(13,.tok 3 2)],Ab⟩ (Yi ⟨Z6,Z4,Fh,Tv⟩ ?_)
   refine Yi (Ii i (by omega)) ?_;refine Xi ⟨i+1,by omega,fun _=>h2,fun h=>absurd h (by omega)⟩ ?_;exact⟨Dl 2 i (by omega),Z6,Z4,Fh,Tv⟩
  refine Xi (BK b) (Yi (show(0:Int)≤(i:Int)∧[BK a,BK b][((i:Nat):Int).toNat]?=some (BK b)from⟨N7 _,by rw[hi];rfl⟩) (Yi rfl ?_));refine Yi (Nz rfl) ?_;refine Yi (Nz rfl) ?_;refine Xi ⟨[(2,.ref 2 0),(3,.ref 3 0),(4,.ref 4 0),(7,.ref 7 0),(13,.slice (.id 13 3) [(BK a),(BK b)]),(14,vi 2),(15,vi i)],[(2,.ro (BK a)),(3,.ro (BK b)),(4,.cells [.v (.slice none 0 0),.v (.slice none 0 0),.v (.slice none 0 0)]),(7,.ro (BK b)),(13,.tok 3 2)],Ab⟩ (Yi ⟨Z7,Z5,Fh,Tv⟩ ?_)
  refine Yi (Nz rfl) ?_;refine Xi .pure (Xi _ (Yi (sP b hB) ?_));refine Yi (fun h5=>?_) (fun h5=>?_)
  ·have h5:((CQ b):Int)≠(0:Int):=h5;refine Yi (Nz rfl) ?_;refine Yi (Nz rfl) ?_;exact NR (gA (i2 (by omega)) h5)
  have h5:((CQ b):Int)=(0:Int):=Bn h5;refine Xi ⟨[(2,.ref 2 0),(3,.ref 3 0),(4,.ref 4 0),(13,.slice (.id 13 3) [(BK a),(BK b)]),(14,vi 2),(15,vi i)],[(2,.ro (BK a)),(3,.ro (BK b)),(4,.cells [.v (.slice none 0 0),.v (.slice none 0 0),.v (.slice none 0 0)]),(13,.tok 3 2)],Ab⟩ (Yi ⟨Z6,Z4,Fh,Tv⟩ ?_)
  refine Yi (Ii i (by omega)) ?_;refine Xi ⟨i+1,by omega,fun _=>i2 (by omega),fun _=>h5⟩ ?_;exact⟨Dl 2 i (by omega),Z6,Z4,Fh,Tv⟩
 have h1:¬((i:Int)<(2:Int)):=h1;refine Xi ⟨[(2,.ref 2 0),(3,.ref 3 0),(4,.ref 4 0)],[(2,.ro (BK a)),(3,.ro (BK b)),(4,.cells [.v (.slice none 0 0),.v (.slice none 0 0),.v (.slice none 0 0)])],Ab⟩ (Yi ⟨Z3,Z3,Fh,Tv⟩ ?_)
 refine Xi ⟨[(2,.ref 2 0),(3,.ref 3 0),(4,.ref 4 0),(9,.v (.func (.func 61) #[] #[]))],[(2,.ro (BK a)),(3,.ro (BK b)),(4,.cells [.v (.slice none 0 0),.v (.slice none 0 0),.v (.slice none 0 0)])],Ab⟩ (Yi ⟨Z4,Z3,Fh,Tv⟩ ?_)
 refine Xi .pure (Xi _ (Yi aq ?_));refine Xi (.gen [] 1) (Yi rfl (Be.to2 (rV A0 lG uc ud) ?_));refine Yi (Nz rfl) ?_;refine Yi (show A0.length=(A0.map Al).length by rw[Lm]) ?_;refine Xi ⟨[(2,.ref 2 0),(3,.ref 3 0),(4,.ref 4 0),(9,.v (.func (.func 61) #[] #[])),(10,.ref 10 0)],[(2,.ro (BK a)),(3,.ro (BK b)),(4,.cells [.v (.slice none 0 0),.v (.slice none 0 0),.v (.slice none 0 0)]),(10,.cells [.slice (.id 13100 9) (A0.map Al),.v (.slice none 0 0),.v (.slice none 0 0)]),(13100,.tok 9 (A0.map Al).length)],Ab⟩ (Yi ⟨Z5,Z5,Fh,Tv⟩ ?_)
 refine Yi (fun h9=>?_) (fun h9=>?_)
 ·have h9:(256:Int)<((A0.map Al).length:Int):=h9;have n9:256<A0.length:=by have q:=h9;rw[Lm]at q;omega
  refine Xi ⟨[(4,.ref 4 0)],[(4,.cells [.v (.slice none 0 0),.v (.slice none 0 0),.v (.slice none 0 0)])],Ab⟩ (Yi ⟨Z1,Z1,Fh,Tv⟩ ?_)
  refine Yi (Nz rfl) ?_;refine Yi (Nz rfl) ?_;have ja:=i2 (by omega);have jb:=i3 (by omega);exact NR (gC ja jb hA (by have q:=h9;rw[Lm]at q;exact q))
 have h9:¬((256:Int)<((A0.map Al).length:Int)):=h9;have n9:¬256<A0.length:=by have q:=h9;rw[Lm]at q;omega
 refine Xi ⟨[(2,.ref 2 0),(3,.ref 3 0),(4,.ref 4 0),(9,.v (.func (.func 61) #[] #[])),(10,.ref 10 0)],[(2,.ro (BK a)),(3,.ro (BK b)),(4,.cells [.v (.slice none 0 0),.v (.slice none 0 0),.v (.slice none 0 0)]),(10,.cells [.slice (.id 13100 9) (A0.map Al),.v (.slice none 0 0),.v (.slice none 0 0)]),(13100,.tok 9 (A0.map Al).length)],Ab⟩ (Yi ⟨Z5,Z5,Fh,Tv⟩ ?_)
 refine Xi _ (Yi (vL a.exc b.exc Yy.exc hB.exc) ?_);refine Xi _ (Yi (ym (AX Gr a.exc b.exc) b.pin hE hB.pin) ?_);refine Yi (Nz rfl) ?_;refine Yi (by kernel_rfl) ?_;refine Xi ⟨[(2,.ref 2 0),(3,.ref 3 0),(4,.ref 4 0),(9,.v (.func (.func 61) #[] #[])),(10,.ref 10 0)],[(2,.ro (BK a)),(3,.ro (BK b)),(4,.cells [.v (.slice none 0 0),.v (.slice none 0 0),.v (.slice none 0 0)]),(10,.cells [.slice (.id 13100 9) (A0.map Al),sl Af (Me (AX Gr a.exc b.exc) b.pin),.v (.slice none 0 0)]),(13100,.tok 9 (A0.map Al).length)],Ab⟩ (Yi ⟨Z5,Z5,Fh,Tv⟩ ?_)
 refine Xi _ (Yi (ym a.pin b.exc Yy.pin hB.exc) ?_);refine Xi _ (Yi (vK (Me a.pin b.exc) b.pin (AU (JM _ _) Yy.pin) hB.pin) ?_);refine Yi (Nz rfl) ?_;refine Yi (by kernel_rfl) ?_;refine Xi ⟨[(4,.ref 4 0),(10,.ref 10 0)],[(4,.cells [.v (.slice none 0 0),.v (.slice none 0 0),.v (.slice none 0 0)]),(10,.cells [.slice (.id 13100 9) (A0.map Al),sl Af (Me (AX Gr a.exc b.exc) b.pin),sl Af (AX PH (Me a.pin b.exc) b.pin)]),(13100,.tok 9 (A0.map Al).length)],Ab⟩ (Yi ⟨Z2,Z3,Fh,Tv⟩ ?_)
 refine Yi (Nz rfl) ?_;refine Yi (Nz rfl) ?_;refine Yi (Nz rfl) ?_;have ja:=i2 (by omega);have jb:=i3 (by omega);have eM:=gD ja jb hA (by have q:=h9;rw[Lm]at q;exact q);exact .of_eq (show _=Zw (Jn a b) by rw[eM];rfl)
end Go.Eng
