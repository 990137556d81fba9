/- Lemmas for the claims of this seat, without a condition: part 24 (O6, O7, O8). -/
import Derived.Test.YtmcbkdbfaneofaaGreatDoorFA23
set_option maxHeartbeats 4000000
namespace Go.Eng
open Go.Proofs
abbrev kept{α:Type}(p:α→Bool)(l:List α):List α:=l.filter fun x=>!p x
theorem JQ{α:Type}(p:α→Bool)(l:List α):(kept p l).length≤l.length:=BF _ _
theorem KA{α:Type}{p:α→Bool}{l:List α}{j:Nat}(h:j<l.length):kept p (l.take (j+1))=kept p (l.take j)++(if p l[j]=true then []else [l[j]]):=by
 unfold kept;rw[Bp,Ep,Ge h];cases e:p l[j]<;>simp[e]
theorem KB{α:Type}{p:α→Bool}{l:List α}(h:∀j (hj:j<l.length),p l[j]=false):kept p l=l:=by
 rw[List.filter_eq_self];intro x hx;obtain⟨j,hj,rfl⟩:=CQ.1 hx;rw[h j hj];rfl
theorem Ld{α:Type}{p:α→Bool}{l:List α}{i:Nat}(hi:i<l.length)(h:∀j (hj:j<l.length),j<i→p l[j]=false)(hp:p l[i]=true):kept p (l.take (i+1))=l.take i:=by
 rw[KA hi,Aw hp,B2,KB];intro j hj;rw[Kj];rw[AJ]at hj;exact h j (by omega) (by omega)
theorem Lb{α:Type}(p:α→Bool)(l:List α):(H3 p l 0=-1∧∀j (hj:j<l.length),p l[j]=false)∨∃i,∃hi:i<l.length,H3 p l 0=(i:Int)∧p l[i]=true∧∀j (hj:j<l.length),j<i→p l[j]=false:=by
 by_cases h:∃i,∃hi:i<l.length,p l[i]=true
 ·obtain⟨i,hm⟩:=mz h;obtain⟨⟨hi,hp⟩,hl⟩:=hm;have hl:∀j (hj:j<l.length),j<i→p l[j]=false:=fun j hj H2=>by
   cases e:p l[j]with
   |false=>rfl
   |true=>exact absurd ⟨hj,e⟩ (hl j H2)
  exact .inr ⟨i,hi,by rw[Ji hi (fun j hj H2=>hl j hj H2) hp,E4],hp,hl⟩
 ·have hl:∀j (hj:j<l.length),p l[j]=false:=fun j hj=>by
   cases e:p l[j]with
   |false=>rfl
   |true=>exact absurd ⟨j,hj,e⟩ h
  exact .inl ⟨by rw[Gk fun j hj=>hl j hj],hl⟩
theorem rN{fF:Nat}{cs:List AV}(l:List Rl)(p:Rl→Bool)(hF:∀x∈l,PC fF [.agg (Ah x),.cptr cs] (vb (p x)))(hl:Ci l):Be Tryz.prog 44 [.msl 1000 l.length,.clo fF [.cptr cs]] (Aj [(1000,.arr 9 (l.map Ah))] Aa) fun r h'=>r=vi (H3 p l 0)∧h'=Aj [(1000,HO.arr 9 (l.map Ah))] Aa:=by
 have hl:l.length≤1073741824:=hl;refine Co (MA ⟨[],[],[],[],[],[],[],[],[],[],[]⟩) [(1000,1000)] rfl CD hm rfl Tryz.func44 (by kernel_rfl) rfl (Nz rfl) (by kernel_rfl) rfl ?_;refine Xi {q:Nat // q≤l.length∧∀j (hj:j<l.length),j<q→p l[j]=false} (Xi (fun q=>⟨[(0,.msl 1000 l.length),(1,.clo fF [.cptr cs]),(7,vi l.length),(8,vi q.1)],[(1000,.arr 9 (l.map Ah))],Aa⟩) (Xi (fun q=>l.length-q.1) (Yi (Xi ⟨0,AL _,fun _ _ h=>absurd h (Du _)⟩ ?_) ?_)))
 ·exact⟨Z4,Z1,Fh,Az (by kernel_rfl)⟩
 intro⟨i,i1,i2⟩;have i1:i≤l.length:=i1;have i2:∀j (hj:j<l.length),j<i→p l[j]=false:=i2;refine Yi (fun h1=>?_) (fun h1=>?_)
 ·have h1:(i:Int)<(l.length:Int):=h1;have n1:i<l.length:=by omega
  have g1:l[i]?=some l[i]:=Ge n1;refine Yi (by show(0:Int)≤i∧(i:Int)<(l.length:Nat);omega) ?_;refine Yi (show l.length=(l.map Ah).length by rw[Lm]) (Xi (Ah l[i]) (Yi (Ch g1) ?_));refine Yi (Nz rfl) ?_;refine BH (Bt (p l[i])) (fun h2=>?_) (fun h2=>?_)
  ·have h2:(p l[i])=true:=h2;refine Xi .pure (Xi _ (Yi (cb h2 (hF l[i] (Ap n1))) ?_));exact Xi _ (Yi (.refl _) ⟨show vi i=vi (H3 p l 0) by rw[Ji n1 (fun j hj H2=>i2 j hj H2) h2,E4],rfl⟩)
  have h2:(p l[i])=false:=h2;refine Xi .pure (Xi _ (Yi (cb h2 (hF l[i] (Ap n1))) ?_));refine Yi (Ii i (by omega)) ?_;refine Xi ⟨i+1,n1,fun j hj H2=>if e:j<i then i2 j hj e else by
    have e:j=i:=by omega
    subst e;exact h2⟩ ?_
  exact⟨Dl l.length i (by omega),Z4,Z1,Fh,Az (by kernel_rfl)⟩
 have h1:¬((i:Int)<(l.length:Int)):=h1;have n1:¬i<l.length:=by omega
 exact Xi _ (Yi (.refl _) ⟨show vi (-1)=vi (H3 p l 0) by rw[Gk fun j hj=>i2 j hj (by omega)],rfl⟩)
theorem wj{fF:Nat}{cs:List AV}(l:List Rl)(p:Rl→Bool)(ix:Be Tryz.prog 44 [.msl 1000 l.length,.clo fF [.cptr cs]] (Aj [(1000,.arr 9 (l.map Ah))] Aa) fun r h'=>r=vi (-1)∧h'=Aj [(1000,HO.arr 9 (l.map Ah))] Aa)(FX:∀j (hj:j<l.length),p l[j]=false):Be Tryz.prog 40 [.msl 1000 l.length,.clo fF [.cptr cs]] (Aj [(1000,.arr 9 (l.map Ah))] Aa) fun r h'=>r=.msl 2000 (kept p l).length∧h'=Aj [(1000,.dead),(2000,.arr 9 ((kept p l).map Ah))] Aa:=by
 refine Co (MA ⟨[],[],[],[],[],[],[],[],[],[(200003,41000)],[3,6,9]⟩) [(1000,1000),(41,2000)] rfl CD hm rfl Tryz.func40 (by kernel_rfl) rfl (Nz rfl) (by kernel_rfl) rfl ?_;refine Xi (.gen [(1000,1000)] 0) (Yi rfl (Be.to2 (ix) ?_));refine Yi (fun _=>?_) (fun h=>absurd (by decide) h);refine Yi (show l.length=(l.map Ah).length by rw[Lm]) ?_;refine Xi ⟨[(0,.msl 41 l.length)],[(41,.arr 9 (l.map Ah)),(1000,.dead)],Aa⟩ (Yi ⟨Z1,Z2,Fh,Az (by kernel_rfl)⟩ ?_)
 exact Xi _ (Yi (.refl _) ⟨show AV.msl 2000 l.length=.msl 2000 (kept p l).length by rw[KB FX],show Aj [(1000,HO.dead),(2000,.arr 9 (l.map Ah))] Aa=Aj [(1000,.dead),(2000,.arr 9 ((kept p l).map Ah))] Aa by rw[KB FX]⟩)
theorem wk{fF:Nat}{cs:List AV}(l:List Rl)(p:Rl→Bool)(hF:∀x∈l,PC fF [.agg (Ah x),.cptr cs] (vb (p x)))(hl:Ci l)(i0:Nat)(fX:i0<l.length)(gm:p l[i0]=true)(hb:∀j (hj:j<l.length),j<i0→p l[j]=false)(ix:Be Tryz.prog 44 [.msl 1000 l.length,.clo fF [.cptr cs]] (Aj [(1000,.arr 9 (l.map Ah))] Aa) fun r h'=>r=vi (i0:Nat)∧h'=Aj [(1000,HO.arr 9 (l.map Ah))] Aa):Be Tryz.prog 40 [.msl 1000 l.length,.clo fF [.cptr cs]] (Aj [(1000,.arr 9 (l.map Ah))] Aa) fun r h'=>r=.msl 2000 (kept p l).length∧h'=Aj [(1000,.dead),(2000,.arr 9 ((kept p l).map Ah))] Aa:=by
 have hl:l.length≤1073741824:=hl;refine Co (MA ⟨[],[(41,9)],[],[],[],[],[],[],[],[],[6,9]⟩) [(1000,1000),(41,2000)] rfl CD hm rfl Tryz.func40 (by kernel_rfl) rfl (Nz rfl) (by kernel_rfl) rfl ?_;refine Xi (.gen [(1000,1000)] 0) (Yi rfl (Be.to2 (ix) ?_));refine Yi (fun h2=>?_) (fun h2=>?_)
 ·have h2:(i0:Int)=((-1):Int):=h2;exact absurd h2 (by omega)
 have h2:¬((i0:Int)=((-1):Int)):=h2;refine Yi (Ii i0 (by omega)) ?_;refine Xi {q:Nat×Nat×List Rl // i0<q.1∧q.1≤l.length∧q.2.1=(kept p (l.take q.1)).length∧q.2.2.length=l.length∧q.2.2.take q.2.1=kept p (l.take q.1)∧q.2.2.drop q.1=l.drop q.1} (Xi (fun q=>⟨[(0,.msl 1000 l.length),(1,.clo fF [.cptr cs]),(5,vi q.1.2.1),(6,vi q.1.1)],[(1000,.arr 9 (q.1.2.2.map Ah))],Aa⟩) (Xi (fun q=>l.length-q.1.1) (Yi (Xi ⟨(i0+1,i0,l),GQ _,fX,by show i0=(kept p (l.take (i0+1))).length;rw[Ld fX hb gm,AJ];omega,rfl,by show l.take i0=kept p (l.take (i0+1));rw[Ld fX hb gm],rfl⟩ ?_) ?_)))
 ·exact⟨Z4,Z1,Fh,Az (by kernel_rfl)⟩
 intro⟨⟨j,i,N⟩,k0,k1,k2,k3,k4,k5⟩;have k0:i0<j:=k0;have k1:j≤l.length:=k1;have k2:i=(kept p (l.take j)).length:=k2;have k3:N.length=l.length:=k3;have k4:N.take i=kept p (l.take j):=k4;have k5:N.drop j=l.drop j:=k5;have k6:i≤j:=by rw[k2];exact AU (JQ _ _) (by rw[AJ];omega)
 refine Yi (fun h3=>?_) (fun h3=>?_)
 ·have h3:(j:Int)<(l.length:Int):=h3;have n3:j<l.length:=by omega
  have g3:l[j]?=some l[j]:=Ge n3;have nj:j<N.length:=by omega
  have gj:N[j]?=some N[j]:=Ge nj;refine Yi (by show(0:Int)≤j∧(j:Int)<(l.length:Nat);omega) ?_;refine Yi (show l.length=(N.map Ah).length by rw[Lm];exact k3.symm) (Xi (Ah N[j]) (Yi (Ch gj) ?_));refine Yi (Nz rfl) ?_;refine Yi (Nz rfl) ?_;refine Yi (Nz rfl) ?_;refine BH (Bt (p N[j])) (fun h4=>?_) (fun h4=>?_)
  ·have h4:(p N[j])=true:=h4;refine Xi .pure (Xi _ (Yi (cb h4 (hF N[j] (by have q:N[j]=l[j]:=(by have q:=Ac (fun z=>z[0]?) k5;simp only[BT,DC]at q;rw[Ge nj,Ge n3]at q;exact BP q);rw[q];exact Ap _))) ?_));refine Xi ⟨[(0,.msl 1000 l.length),(1,.clo fF [.cptr cs]),(5,vi i),(6,vi j)],[(1000,.arr 9 (N.map Ah))],Aa⟩ (Yi ⟨Z4,Z1,Fh,Az (by kernel_rfl)⟩ ?_)
   refine Yi (Ii j (by omega)) ?_;have eN:N[j]=l[j]:=by have q:=Ac (fun z=>z[0]?) k5;simp only[BT,DC]at q;rw[Ge nj,Ge n3]at q;exact BP q
   have kn:kept p (l.take (j+1))=kept p (l.take j):=by rw[KA n3,Aw (by rw[←eN];exact h4),B2]
   refine Xi ⟨(j+1,i,N),Qy k0,n3,by rw[kn];exact k2,k3,by rw[kn];exact k4,by show N.drop (j+1)=l.drop (j+1);rw[←Ee,←Ee,k5]⟩ ?_;exact⟨Dl l.length j (by omega),Z4,Z1,Fh,Az (by kernel_rfl)⟩
  have h4:(p N[j])=false:=h4;have ni:i<N.length:=by omega
  have gi:N[i]?=some N[i]:=Ge ni;refine Xi .pure (Xi _ (Yi (cb h4 (hF N[j] (by have q:N[j]=l[j]:=(by have q:=Ac (fun z=>z[0]?) k5;simp only[BT,DC]at q;rw[Ge nj,Ge n3]at q;exact BP q);rw[q];exact Ap _))) ?_));refine Xi ⟨[(0,.msl 1000 l.length),(1,.clo fF [.cptr cs]),(5,vi i),(6,vi j),(7,.ref 7 0)],[(7,.cells (Ah N[j])),(1000,.arr 9 (N.map Ah))],Aa⟩ (Yi ⟨Z5,Z2,Fh,Az (by kernel_rfl)⟩ ?_)
  refine Yi (Nz rfl) ?_;refine Yi (by show(0:Int)≤i∧(i:Int)<(l.length:Nat);omega) ?_;refine Yi (show l.length=(N.map Ah).length by rw[Lm];exact k3.symm) (Xi (Ah N[i]) (Yi (Ch gi) (Yi (Nz rfl) ?_)));refine Yi (Ii i (by omega)) ?_;refine Xi ⟨[(0,.msl 1000 l.length),(1,.clo fF [.cptr cs]),(5,vi (i+1)),(6,vi j)],[(1000,.arr 9 ((N.map Ah).set i [vs N[j].path,vi N[j].ver.a,vi N[j].ver.b,vi N[j].ver.c,sl AE N[j].reqs,vs N[j].arch,vs N[j].ifc,vs N[j].cert,vb N[j].yanked]))],Aa⟩ (Yi ⟨Z4,Z1,Fh,Az (by kernel_rfl)⟩ ?_)
  refine Yi (Ii j (by omega)) ?_;have eN:N[j]=l[j]:=by have q:=Ac (fun z=>z[0]?) k5;simp only[BT,DC]at q;rw[Ge nj,Ge n3]at q;exact BP q
  have kn:kept p (l.take (j+1))=kept p (l.take j)++[l[j]]:=by rw[KA n3,Ai (by rw[←eN,h4];decide)]
  have ki:i<N.length:=by omega
  refine Xi ⟨(j+1,i+1,N.set i N[j]),Qy k0,n3,by show i+1=(kept p (l.take (j+1))).length;rw[kn,Ad,←k2];rfl,by show(N.set i N[j]).length=_;rw[CV];exact k3,by show(N.set i N[j]).take (i+1)=kept p (l.take (j+1));rw[kn,Bp,List.take_set_of_le (Ak _),k4,T5 ki,eN];rfl,by show(N.set i N[j]).drop (j+1)=l.drop (j+1);rw[List.drop_set_of_lt (by omega),←Ee,←Ee,k5]⟩ ?_;exact⟨Dl l.length j (by omega),Z4,⟨⟨(show HO.arr 9 ((N.map Ah).set i (Ah N[j]))=.arr 9 ((N.set i N[j]).map Ah) by rw[Nt]),rfl⟩,Tv⟩,Fh,Az (by kernel_rfl)⟩
 have h3:¬((j:Int)<(l.length:Int)):=h3;have n3:¬j<l.length:=by omega
 refine Yi (show l.length=(N.map Ah).length∧(0:Int)≤i∧(i:Int)≤((N.map Ah).length:Nat)from⟨by rw[Lm];exact k3.symm,by omega,by rw[Lm];omega⟩) ?_;refine Yi (show l.length=(((N.map Ah).take i++List.replicate ((N.map Ah).length-i) [vs ⟨#[]⟩,vi 0,vi 0,vi 0,.v (.slice none 0 0),vs ⟨#[]⟩,vs ⟨#[]⟩,vs ⟨#[]⟩,vb false]):List (List AV)).length∧(0:Int)≤i∧(i:Int)≤((((N.map Ah).take i++List.replicate ((N.map Ah).length-i) [vs ⟨#[]⟩,vi 0,vi 0,vi 0,.v (.slice none 0 0),vs ⟨#[]⟩,vs ⟨#[]⟩,vs ⟨#[]⟩,vb false]):List (List AV)).length:Nat)from⟨by rw[Ad,AJ,Cr,Lm];omega,by omega,by rw[Ad,AJ,Cr,Lm];omega⟩) ?_;have ej:j=l.length:=by omega
 have e1:kept p l=kept p (l.take j):=by rw[ej,Dv]
 have e2:i=(kept p l).length:=by rw[e1];exact k2
 have e3:((N.map Ah).take i++List.replicate ((N.map Ah).length-i) [vs ⟨#[]⟩,vi 0,vi 0,vi 0,.v (.slice none 0 0),vs ⟨#[]⟩,vs ⟨#[]⟩,vs ⟨#[]⟩,vb false]).take i=(kept p l).map Ah:=by
  rw[D7 (by rw[AJ,Lm];omega),Km,Nat.min_self,←Re,k4,e1]
 exact Xi _ (Yi (.refl _) ⟨show AV.msl 2000 i=.msl 2000 (kept p l).length from Ac (AV.msl 2000) e2,show Aj [(1000,HO.dead),(2000,.arr 9 (((N.map Ah).take i++List.replicate ((N.map Ah).length-i) [vs ⟨#[]⟩,vi 0,vi 0,vi 0,.v (.slice none 0 0),vs ⟨#[]⟩,vs ⟨#[]⟩,vs ⟨#[]⟩,vb false]).take i))] Aa=_ from Ac (fun z=>Aj [(1000,HO.dead),(2000,.arr 9 z)] Aa) e3⟩)
theorem yN{fF:Nat}{cs:List AV}(l:List Rl)(p:Rl→Bool)(hF:∀x∈l,PC fF [.agg (Ah x),.cptr cs] (vb (p x)))(hl:Ci l):Be Tryz.prog 40 [.msl 1000 l.length,.clo fF [.cptr cs]] (Aj [(1000,.arr 9 (l.map Ah))] Aa) fun r h'=>r=.msl 2000 (kept p l).length∧h'=Aj [(1000,.dead),(2000,.arr 9 ((kept p l).map Ah))] Aa:=by
 have ix:=rN l p hF hl;rcases Lb p l with ⟨e,h⟩ | ⟨i,hi,e,hp,hb⟩
 ·rw[e]at ix;exact wj l p ix h
 ·rw[e]at ix;exact wk l p hF hl i hi hp hb ix
theorem wq{fF:Nat}{cs:List AV}(l:List Sl)(p:Sl→Bool)(hF:∀x∈l,PC fF [.agg (Ae x),.cptr cs] (vb (p x)))(hl:Ci l):Be Tryz.prog 70 [.msl 1000 l.length,.clo fF [.cptr cs]] (Aj [(1000,.arr 4 (l.map Ae))] Aa) fun r h'=>r=vi (H3 p l 0)∧h'=Aj [(1000,HO.arr 4 (l.map Ae))] Aa:=by
 have hl:l.length≤1073741824:=hl;refine Co (MA ⟨[],[],[],[],[],[],[],[],[],[],[]⟩) [(1000,1000)] rfl CD hm rfl Tryz.func70 (by kernel_rfl) rfl (Nz rfl) (by kernel_rfl) rfl ?_;refine Xi {q:Nat // q≤l.length∧∀j (hj:j<l.length),j<q→p l[j]=false} (Xi (fun q=>⟨[(0,.msl 1000 l.length),(1,.clo fF [.cptr cs]),(7,vi l.length),(8,vi q.1)],[(1000,.arr 4 (l.map Ae))],Aa⟩) (Xi (fun q=>l.length-q.1) (Yi (Xi ⟨0,AL _,fun _ _ h=>absurd h (Du _)⟩ ?_) ?_)))
 ·exact⟨Z4,Z1,Fh,Az (by kernel_rfl)⟩
 intro⟨i,i1,i2⟩;have i1:i≤l.length:=i1;have i2:∀j (hj:j<l.length),j<i→p l[j]=false:=i2;refine Yi (fun h1=>?_) (fun h1=>?_)
 ·have h1:(i:Int)<(l.length:Int):=h1;have n1:i<l.length:=by omega
  have g1:l[i]?=some l[i]:=Ge n1;refine Yi (by show(0:Int)≤i∧(i:Int)<(l.length:Nat);omega) ?_;refine Yi (show l.length=(l.map Ae).length by rw[Lm]) (Xi (Ae l[i]) (Yi (Ch g1) ?_));refine Yi (Nz rfl) ?_;refine BH (Bt (p l[i])) (fun h2=>?_) (fun h2=>?_)
  ·have h2:(p l[i])=true:=h2;refine Xi .pure (Xi _ (Yi (cb h2 (hF l[i] (Ap n1))) ?_));exact Xi _ (Yi (.refl _) ⟨show vi i=vi (H3 p l 0) by rw[Ji n1 (fun j hj H2=>i2 j hj H2) h2,E4],rfl⟩)
  have h2:(p l[i])=false:=h2;refine Xi .pure (Xi _ (Yi (cb h2 (hF l[i] (Ap n1))) ?_));refine Yi (Ii i (by omega)) ?_;refine Xi ⟨i+1,n1,fun j hj H2=>if e:j<i then i2 j hj e else by
    have e:j=i:=by omega
    subst e;exact h2⟩ ?_
  exact⟨Dl l.length i (by omega),Z4,Z1,Fh,Az (by kernel_rfl)⟩
 have h1:¬((i:Int)<(l.length:Int)):=h1;have n1:¬i<l.length:=by omega
 exact Xi _ (Yi (.refl _) ⟨show vi (-1)=vi (H3 p l 0) by rw[Gk fun j hj=>i2 j hj (by omega)],rfl⟩)
theorem wu{fF:Nat}{cs:List AV}(l:List Sl)(p:Sl→Bool)(ix:Be Tryz.prog 70 [.msl 1000 l.length,.clo fF [.cptr cs]] (Aj [(1000,.arr 4 (l.map Ae))] Aa) fun r h'=>r=vi (-1)∧h'=Aj [(1000,HO.arr 4 (l.map Ae))] Aa)(FX:∀j (hj:j<l.length),p l[j]=false):Be Tryz.prog 88 [.msl 1000 l.length,.clo fF [.cptr cs]] (Aj [(1000,.arr 4 (l.map Ae))] Aa) fun r h'=>r=.msl 2000 (kept p l).length∧h'=Aj [(1000,.dead),(2000,.arr 4 ((kept p l).map Ae))] Aa:=by
 refine Co (MA ⟨[],[],[],[],[],[],[],[],[],[(200003,41000)],[3,6,9]⟩) [(1000,1000),(41,2000)] rfl CD hm rfl Tryz.func88 (by kernel_rfl) rfl (Nz rfl) (by kernel_rfl) rfl ?_;refine Xi (.gen [(1000,1000)] 0) (Yi rfl (Be.to2 (ix) ?_));refine Yi (fun _=>?_) (fun h=>absurd (by decide) h);refine Yi (show l.length=(l.map Ae).length by rw[Lm]) ?_;refine Xi ⟨[(0,.msl 41 l.length)],[(41,.arr 4 (l.map Ae)),(1000,.dead)],Aa⟩ (Yi ⟨Z1,Z2,Fh,Az (by kernel_rfl)⟩ ?_)
 exact Xi _ (Yi (.refl _) ⟨show AV.msl 2000 l.length=.msl 2000 (kept p l).length by rw[KB FX],show Aj [(1000,HO.dead),(2000,.arr 4 (l.map Ae))] Aa=Aj [(1000,.dead),(2000,.arr 4 ((kept p l).map Ae))] Aa by rw[KB FX]⟩)
theorem wv{fF:Nat}{cs:List AV}(l:List Sl)(p:Sl→Bool)(hF:∀x∈l,PC fF [.agg (Ae x),.cptr cs] (vb (p x)))(hl:Ci l)(i0:Nat)(fX:i0<l.length)(gm:p l[i0]=true)(hb:∀j (hj:j<l.length),j<i0→p l[j]=false)(ix:Be Tryz.prog 70 [.msl 1000 l.length,.clo fF [.cptr cs]] (Aj [(1000,.arr 4 (l.map Ae))] Aa) fun r h'=>r=vi (i0:Nat)∧h'=Aj [(1000,HO.arr 4 (l.map Ae))] Aa):Be Tryz.prog 88 [.msl 1000 l.length,.clo fF [.cptr cs]] (Aj [(1000,.arr 4 (l.map Ae))] Aa) fun r h'=>r=.msl 2000 (kept p l).length∧h'=Aj [(1000,.dead),(2000,.arr 4 ((kept p l).map Ae))] Aa:=by
 have hl:l.length≤1073741824:=hl;refine Co (MA ⟨[],[(41,4)],[],[],[],[],[],[],[],[],[6,9]⟩) [(1000,1000),(41,2000)] rfl CD hm rfl Tryz.func88 (by kernel_rfl) rfl (Nz rfl) (by kernel_rfl) rfl ?_;refine Xi (.gen [(1000,1000)] 0) (Yi rfl (Be.to2 (ix) ?_));refine Yi (fun h2=>?_) (fun h2=>?_)
 ·have h2:(i0:Int)=((-1):Int):=h2;exact absurd h2 (by omega)
 have h2:¬((i0:Int)=((-1):Int)):=h2;refine Yi (Ii i0 (by omega)) ?_;refine Xi {q:Nat×Nat×List Sl // i0<q.1∧q.1≤l.length∧q.2.1=(kept p (l.take q.1)).length∧q.2.2.length=l.length∧q.2.2.take q.2.1=kept p (l.take q.1)∧q.2.2.drop q.1=l.drop q.1} (Xi (fun q=>⟨[(0,.msl 1000 l.length),(1,.clo fF [.cptr cs]),(5,vi q.1.2.1),(6,vi q.1.1)],[(1000,.arr 4 (q.1.2.2.map Ae))],Aa⟩) (Xi (fun q=>l.length-q.1.1) (Yi (Xi ⟨(i0+1,i0,l),GQ _,fX,by show i0=(kept p (l.take (i0+1))).length;rw[Ld fX hb gm,AJ];omega,rfl,by show l.take i0=kept p (l.take (i0+1));rw[Ld fX hb gm],rfl⟩ ?_) ?_)))
 ·exact⟨Z4,Z1,Fh,Az (by kernel_rfl)⟩
 intro⟨⟨j,i,N⟩,k0,k1,k2,k3,k4,k5⟩;have k0:i0<j:=k0;have k1:j≤l.length:=k1;have k2:i=(kept p (l.take j)).length:=k2;have k3:N.length=l.length:=k3;have k4:N.take i=kept p (l.take j):=k4;have k5:N.drop j=l.drop j:=k5;have k6:i≤j:=by rw[k2];exact AU (JQ _ _) (by rw[AJ];omega)
 refine Yi (fun h3=>?_) (fun h3=>?_)
 ·have h3:(j:Int)<(l.length:Int):=h3;have n3:j<l.length:=by omega
  have g3:l[j]?=some l[j]:=Ge n3;have nj:j<N.length:=by omega
  have gj:N[j]?=some N[j]:=Ge nj;refine Yi (by show(0:Int)≤j∧(j:Int)<(l.length:Nat);omega) ?_;refine Yi (show l.length=(N.map Ae).length by rw[Lm];exact k3.symm) (Xi (Ae N[j]) (Yi (Ch gj) ?_));refine Yi (Nz rfl) ?_;refine Yi (Nz rfl) ?_;refine Yi (Nz rfl) ?_;refine BH (Bt (p N[j])) (fun h4=>?_) (fun h4=>?_)
  ·have h4:(p N[j])=true:=h4;refine Xi .pure (Xi _ (Yi (cb h4 (hF N[j] (by have q:N[j]=l[j]:=(by have q:=Ac (fun z=>z[0]?) k5;simp only[BT,DC]at q;rw[Ge nj,Ge n3]at q;exact BP q);rw[q];exact Ap _))) ?_));refine Xi ⟨[(0,.msl 1000 l.length),(1,.clo fF [.cptr cs]),(5,vi i),(6,vi j)],[(1000,.arr 4 (N.map Ae))],Aa⟩ (Yi ⟨Z4,Z1,Fh,Az (by kernel_rfl)⟩ ?_)
   refine Yi (Ii j (by omega)) ?_;have eN:N[j]=l[j]:=by have q:=Ac (fun z=>z[0]?) k5;simp only[BT,DC]at q;rw[Ge nj,Ge n3]at q;exact BP q
   have kn:kept p (l.take (j+1))=kept p (l.take j):=by rw[KA n3,Aw (by rw[←eN];exact h4),B2]
   refine Xi ⟨(j+1,i,N),Qy k0,n3,by rw[kn];exact k2,k3,by rw[kn];exact k4,by show N.drop (j+1)=l.drop (j+1);rw[←Ee,←Ee,k5]⟩ ?_;exact⟨Dl l.length j (by omega),Z4,Z1,Fh,Az (by kernel_rfl)⟩
  have h4:(p N[j])=false:=h4;have ni:i<N.length:=by omega
  have gi:N[i]?=some N[i]:=Ge ni;refine Xi .pure (Xi _ (Yi (cb h4 (hF N[j] (by have q:N[j]=l[j]:=(by have q:=Ac (fun z=>z[0]?) k5;simp only[BT,DC]at q;rw[Ge nj,Ge n3]at q;exact BP q);rw[q];exact Ap _))) ?_));refine Xi ⟨[(0,.msl 1000 l.length),(1,.clo fF [.cptr cs]),(5,vi i),(6,vi j),(7,.ref 7 0)],[(7,.cells (Ae N[j])),(1000,.arr 4 (N.map Ae))],Aa⟩ (Yi ⟨Z5,Z2,Fh,Az (by kernel_rfl)⟩ ?_)
  refine Yi (Nz rfl) ?_;refine Yi (by show(0:Int)≤i∧(i:Int)<(l.length:Nat);omega) ?_;refine Yi (show l.length=(N.map Ae).length by rw[Lm];exact k3.symm) (Xi (Ae N[i]) (Yi (Ch gi) (Yi (Nz rfl) ?_)));refine Yi (Ii i (by omega)) ?_;refine Xi ⟨[(0,.msl 1000 l.length),(1,.clo fF [.cptr cs]),(5,vi (i+1)),(6,vi j)],[(1000,.arr 4 ((N.map Ae).set i [vs N[j].path,vi N[j].ver.a,vi N[j].ver.b,vi N[j].ver.c]))],Aa⟩ (Yi ⟨Z4,Z1,Fh,Az (by kernel_rfl)⟩ ?_)
  refine Yi (Ii j (by omega)) ?_;have eN:N[j]=l[j]:=by have q:=Ac (fun z=>z[0]?) k5;simp only[BT,DC]at q;rw[Ge nj,Ge n3]at q;exact BP q
  have kn:kept p (l.take (j+1))=kept p (l.take j)++[l[j]]:=by rw[KA n3,Ai (by rw[←eN,h4];decide)]
  have ki:i<N.length:=by omega
  refine Xi ⟨(j+1,i+1,N.set i N[j]),Qy k0,n3,by show i+1=(kept p (l.take (j+1))).length;rw[kn,Ad,←k2];rfl,by show(N.set i N[j]).length=_;rw[CV];exact k3,by show(N.set i N[j]).take (i+1)=kept p (l.take (j+1));rw[kn,Bp,List.take_set_of_le (Ak _),k4,T5 ki,eN];rfl,by show(N.set i N[j]).drop (j+1)=l.drop (j+1);rw[List.drop_set_of_lt (by omega),←Ee,←Ee,k5]⟩ ?_;exact⟨Dl l.length j (by omega),Z4,⟨⟨(show HO.arr 4 ((N.map Ae).set i (Ae N[j]))=.arr 4 ((N.set i N[j]).map Ae) by rw[Nt]),rfl⟩,Tv⟩,Fh,Az (by kernel_rfl)⟩
 have h3:¬((j:Int)<(l.length:Int)):=h3;have n3:¬j<l.length:=by omega
 refine Yi (show l.length=(N.map Ae).length∧(0:Int)≤i∧(i:Int)≤((N.map Ae).length:Nat)from⟨by rw[Lm];exact k3.symm,by omega,by rw[Lm];omega⟩) ?_;refine Yi (show l.length=(((N.map Ae).take i++List.replicate ((N.map Ae).length-i) [vs ⟨#[]⟩,vi 0,vi 0,vi 0]):List (List AV)).length∧(0:Int)≤i∧(i:Int)≤((((N.map Ae).take i++List.replicate ((N.map Ae).length-i) [vs ⟨#[]⟩,vi 0,vi 0,vi 0]):List (List AV)).length:Nat)from⟨by rw[Ad,AJ,Cr,Lm];omega,by omega,by rw[Ad,AJ,Cr,Lm];omega⟩) ?_;have ej:j=l.length:=by omega
 have e1:kept p l=kept p (l.take j):=by rw[ej,Dv]
 have e2:i=(kept p l).length:=by rw[e1];exact k2
 have e3:((N.map Ae).take i++List.replicate ((N.map Ae).length-i) [vs ⟨#[]⟩,vi 0,vi 0,vi 0]).take i=(kept p l).map Ae:=by
  rw[D7 (by rw[AJ,Lm];omega),Km,Nat.min_self,←Re,k4,e1]
 exact Xi _ (Yi (.refl _) ⟨show AV.msl 2000 i=.msl 2000 (kept p l).length from Ac (AV.msl 2000) e2,show Aj [(1000,HO.dead),(2000,.arr 4 (((N.map Ae).take i++List.replicate ((N.map Ae).length-i) [vs ⟨#[]⟩,vi 0,vi 0,vi 0]).take i))] Aa=_ from Ac (fun z=>Aj [(1000,HO.dead),(2000,.arr 4 z)] Aa) e3⟩)
theorem o88{fF:Nat}{cs:List AV}(l:List Sl)(p:Sl→Bool)(hF:∀x∈l,PC fF [.agg (Ae x),.cptr cs] (vb (p x)))(hl:Ci l):Be Tryz.prog 88 [.msl 1000 l.length,.clo fF [.cptr cs]] (Aj [(1000,.arr 4 (l.map Ae))] Aa) fun r h'=>r=.msl 2000 (kept p l).length∧h'=Aj [(1000,.dead),(2000,.arr 4 ((kept p l).map Ae))] Aa:=by
 have ix:=wq l p hF hl;rcases Lb p l with ⟨e,h⟩ | ⟨i,hi,e,hp,hb⟩
 ·rw[e]at ix;exact wu l p ix h
 ·rw[e]at ix;exact wv l p hF hl i hi hp hb ix
theorem Qe{a b:Sl}:(a.path=b.path∧a.ver.a=b.ver.a∧a.ver.b=b.ver.b∧a.ver.c=b.ver.c∧True)↔a=b:=⟨iU,fun e=>by subst e;exact⟨rfl,rfl,rfl,rfl,trivial⟩⟩
abbrev EG(r:Rl):Sl:=⟨r.path,r.ver⟩
abbrev Jc(w:Wk):Rl→Bool:=fun r=>decide (EG r∈w.exc)
abbrev DU(s:Sl):Rl→Bool:=fun r=>decide (r.path=s.path)&&decide (EG r≠s)
def LN(s:Sl)(B:List Rl):Int:=H3 (fun r=>decide (EG r=s)) B 0
def Pl(B:List Rl)(i:Nat):List Rl:=match B[i]? with | some r=>B.set i { r with yanked:=false } | none=>B
theorem bu{B:List Rl}{i:Nat}{r:Rl}(h:B[i]?=some r):Pl B i=B.set i { r with yanked:=false }:=by unfold Pl;rw[h]
theorem TV(B:List Rl)(i:Nat):(Pl B i).length=B.length:=by unfold Pl;split<;>simp
def Lz(A:List Rl)(s:Sl):Option (List Rl):=if LN s (kept (DU s) A)<0 then none else some (Pl (kept (DU s) A) (LN s (kept (DU s) A)).toNat)
def HG:List Sl→List Rl→Option (List Rl)
 | [],A=>some A
 |s::l,A=>(Lz A s).bind (HG l)
def rV:Option (List Rl)→List Rl×Int
 |none=>([],6)
 |some A=>(A,0)
def Dz(x:List Rl)(w:Wk):List Rl×Int :=
 if A5 x≠0 then([],1)else if CW w≠0 then([],CW w)else if 256<((A3 Cs x w.rep).length:Int)then([],7)else rV (HG w.pin (kept (Jc w) (A3 Cs x w.rep)))
abbrev KR(x:List Rl)(ifs:List (List AV))(w:Wk):AV:=.tup [JP (Dz x w).1 (if(Dz x w).2=0 then ifs else []),vi (Dz x w).2]
theorem KT{x:List Rl}{ifs:List (List AV)}{w:Wk}{e:Int}(h:Dz x w=([],e))(he:e≠0):Hq (.tup [.agg [.v (.slice none 0 0),.v (.slice none 0 0)],vi e]) (KR x ifs w):=by
 unfold KR;rw[h,Ai he];exact .tup ⟨.agg ⟨.nil,.nil,trivial⟩,.refl _,trivial⟩
theorem eD{x:List Rl}{w:Wk}(h:A5 x≠0):Dz x w=([],1):=by unfold Dz;rw[Aw h]
theorem eF{x:List Rl}{w:Wk}(h:A5 x=0)(h2:CW w≠0):Dz x w=([],CW w):=by unfold Dz;rw[Ai (fun c=>c h),Aw h2]
theorem eG{x:List Rl}{w:Wk}(h:A5 x=0)(h2:CW w=0){A:List Rl}(hA:A=A3 Cs x w.rep)(h3:256<(A.length:Int)):Dz x w=([],7):=by
 subst hA;unfold Dz;rw[Ai (fun c=>c h),Ai (fun c=>c h2),Aw h3]
theorem WX{x:List Rl}{w:Wk}(h:A5 x=0)(h2:CW w=0){A:List Rl}(hA:A=A3 Cs x w.rep)(h3:¬256<(A.length:Int)){o:Option (List Rl)}(ho:HG w.pin (kept (Jc w) A)=o):Dz x w=rV o:=by
 subst hA;subst ho;unfold Dz;rw[Ai (fun c=>c h),Ai (fun c=>c h2),Ai h3]
theorem EX{α:Type}{c:α→α→Int}:∀(n:Nat) (a b:List α) (r:α),r∈Cu c n a b→r∈a∨r∈b
 |0,_,_,_,h=>by cases h
 |n+1,a,b,r,h=>by
  cases a with
  |nil =>
   cases b with
   |nil=>cases h
   |cons y b =>
    rcases As.1 (show r∈y::Cu c n [] b from h)with rfl | h
    ·exact .inr (Ab ..)
    ·exact(EX n [] b r h).imp id (Af _)
  |cons x a =>
   cases b with
   |nil =>
    rcases As.1 (show r∈x::Cu c n a []from h)with rfl | h
    ·exact .inl (Ab ..)
    ·exact(EX n a [] r h).imp (Af _) id
   |cons y b =>
    have h:r∈if c x y<0 then x::Cu c n a (y::b)else if c x y=0 then y::Cu c n a b else y::Cu c n (x::a) b:=h
    split at h
    ·rcases As.1 h with rfl | h
     ·exact .inl (Ab ..)
     ·exact(EX n a (y::b) r h).imp (Af _) id
    ·split at h
     ·rcases As.1 h with rfl | h
      ·exact .inr (Ab ..)
      ·exact(EX n a b r h).imp (Af _) (Af _)
     ·rcases As.1 h with rfl | h
      ·exact .inr (Ab ..)
      ·exact(EX n (x::a) b r h).imp id (Af _)
theorem H9{α:Type}{c:α→α→Int}{a b:List α}{r:α}(h:r∈A3 c a b):r∈a∨r∈b:=EX _ a b r h
theorem ol{s:Sl}{B:List Rl}(h:¬LN s B<0):∃hi:(LN s B).toNat<B.length,B[(LN s B).toNat]?=some B[(LN s B).toNat]:=by
 rcases Lb (fun r=>decide (EG r=s)) B with ⟨e,_⟩ | ⟨i,hi,e,_⟩
 ·exact absurd (show LN s B<0 by unfold LN;rw[e];decide) h
 ·have e2:(LN s B).toNat=i:=by unfold LN;rw[e];rfl
  rw[e2];exact⟨hi,Ge hi⟩
theorem Yn{l:List Sl}{i:Nat}(h:i<l.length)(A:List Rl):HG (l.drop i) A=(Lz A l[i]).bind (HG (l.drop (i+1))):=by rw[Bv h];rfl
theorem iA{A B:List Rl}{s:Sl}(hB:B=kept (DU s) A)(h:¬LN s B<0):Lz A s=some (Pl B (LN s B).toNat):=by subst hB;unfold Lz;rw[Ai h]
theorem iz{A B:List Rl}{s:Sl}(hB:B=kept (DU s) A)(h:LN s B<0):Lz A s=none:=by subst hB;unfold Lz;rw[Aw h]
theorem o46(ifs:List (List AV))(hl:Ci ifs)(hs:∀c∈ifs,c.length=5):PC 46 [.slice .none ifs] (.slice .none ifs):=by
 refine Ps F6 Tryz.func46 rfl (Nz rfl) ?_;have Ga:Dn 5 ifs∧([]:List (List AV)).length=0∧(([]:List (List AV)).length+ifs.length)*112≤140737488355328∧([]:List (List AV)).length+ifs.length≤9223372036854775807:=by
  refine⟨Uz hs,rfl,?_,?_⟩<;>simp only[AD]<;>unfold Ci at hl<;>omega
 refine Yi ?_ ?_
 ·intro _;exact Yi Ga (.refl _)
 ·intro h;have h:ifs=[]:=h;refine Yi ?_ ?_
  ·show Hq (.v (.slice none 0 0)) (.slice .none ifs);rw[h];exact .nil
  ·exact Yi Ga (.refl _)
theorem o41(r:Rl)(w:Wk)(hl:Ci w.exc):PC 41 [.agg (Ah r),.cptr (Bu w)] (vb (Jc w r)):=by
 refine Ps ⟨[2],[],[],[],[],[],[],[],[],[],[]⟩ Tryz.func41 rfl (Nz rfl) ?_;refine Yi (Nz rfl) ?_;refine Xi _ (Yi (rM r) ?_);refine BH (Bt (decide (EG r∈w.exc))) (fun h1=>?_) (fun h1=>?_)
 ·have h1:(decide (EG r∈w.exc))=true:=h1;refine Xi _ (Yi (cb h1 (ii w.exc (EG r) hl)) ?_);refine Yi (by kernel_rfl) ?_;exact .of_eq (show vb true=vb (decide (EG r∈w.exc)) by rw[h1])
 have h1:(decide (EG r∈w.exc))=false:=h1;refine Xi _ (Yi (cb h1 (ii w.exc (EG r) hl)) ?_);refine Yi (by kernel_rfl) ?_;exact .of_eq (show vb false=vb (decide (EG r∈w.exc)) by rw[h1])
theorem o45(r:Rl)(s:Sl):PC 45 [.agg (Ah r),.cptr (Ae s)] (vb (decide (EG r=s))):=by
 refine Ps ⟨[2],[],[],[],[],[],[],[],[],[],[]⟩ Tryz.func45 rfl (Nz rfl) ?_;refine Yi (Nz rfl) ?_;refine Xi _ (Yi (rM r) ?_);refine Yi (Nz rfl) ?_;refine Yi (fun h1=>?_) (fun h1=>?_)
 ·have h1:((EG r).path:ByteArray)=s.path∧((EG r).ver.a:Int)=s.ver.a∧((EG r).ver.b:Int)=s.ver.b∧((EG r).ver.c:Int)=s.ver.c∧True:=h1;refine Yi (by kernel_rfl) ?_;exact .of_eq (show vb true=vb (decide (EG r=s)) by rw[Ax (Qe.1 h1)])
 have h1:¬(((EG r).path:ByteArray)=s.path∧((EG r).ver.a:Int)=s.ver.a∧((EG r).ver.b:Int)=s.ver.b∧((EG r).ver.c:Int)=s.ver.c∧True):=h1;refine Yi (by kernel_rfl) ?_;exact .of_eq (show vb false=vb (decide (EG r=s)) by rw[Aq (fun e=>h1 (Qe.2 e))])
theorem o43(r:Rl)(s:Sl):PC 43 [.agg (Ah r),.cptr (Ae s)] (vb (DU s r)):=by
 refine Ps ⟨[2],[],[],[],[],[],[],[],[],[],[]⟩ Tryz.func43 rfl (Nz rfl) ?_;refine Yi (fun h1=>?_) (fun h1=>?_)
 ·have h1:(r.path:ByteArray)=s.path:=h1;refine Yi (Nz rfl) ?_;refine Xi _ (Yi (rM r) ?_);refine Yi (Nz rfl) ?_;refine Yi (fun h2=>?_) (fun h2=>?_)
  ·have h2:((EG r).path:ByteArray)=s.path∧((EG r).ver.a:Int)=s.ver.a∧((EG r).ver.b:Int)=s.ver.b∧((EG r).ver.c:Int)=s.ver.c∧True:=h2;refine Yi (by kernel_rfl) ?_;exact .of_eq (show vb false=vb (decide (r.path=s.path)&&decide (EG r≠s)) by rw[Ax h1,show decide (EG r≠s)=false from Aq (fun e=>e (Qe.1 h2))];rfl)
  have h2:¬(((EG r).path:ByteArray)=s.path∧((EG r).ver.a:Int)=s.ver.a∧((EG r).ver.b:Int)=s.ver.b∧((EG r).ver.c:Int)=s.ver.c∧True):=h2;refine Yi (by kernel_rfl) ?_;exact .of_eq (show vb true=vb (decide (r.path=s.path)&&decide (EG r≠s)) by rw[Ax h1,show decide (EG r≠s)=true from Ax (fun e=>h2 (Qe.2 e))];rfl)
 have h1:¬(r.path:ByteArray)=s.path:=h1;refine Yi (by kernel_rfl) ?_;exact .of_eq (show vb false=vb (decide (r.path=s.path)&&decide (EG r≠s)) by rw[Aq h1];rfl)
theorem tf(x:List Rl)(ifs:List (List AV))(w:Wk)(hx:∀r∈x,IB r)(OL:x.length+w.rep.length≤1073741824)(jy:∀r∈x,Ci r.reqs)(hW:bE w)(kG:∀r∈w.rep,Ci r.reqs)(Zg:Ci ifs)(fY:∀c∈ifs,c.length=5):PC 11 [JP x ifs,.agg (Bu w)] (KR x ifs w):=by
 obtain⟨A0,hA⟩:∃A,A=A3 Cs x w.rep:=⟨_,rfl⟩;have Aaz:w.pin.length≤1073741824:=hW.pin;have lZ:A0.length≤1073741824:=by rw[hA];exact AU (NM x w.rep) OL
 have uB:∀r∈A0,Ci r.reqs:=fun r hr=>by rw[hA]at hr;exact(H9 hr).elim (jy r) (kG r)
 have uC:∀r∈A0,∀q∈r.reqs,Ci q.set:=fun r hr q hq=>by rw[hA]at hr;exact(H9 hr).elim (fun h=>((hx r h).2 q hq).1) (fun h=>((hW.rep r h).2 q hq).1)
 have ax:PC 38 [sl Ah x,sl Ah w.rep,.v (.func (.func 39) #[] #[])] (sl Ah A0):=by rw[hA];exact yL x w.rep (by unfold Ci;omega) hW.reps
 refine Ps ⟨[2,3,9],[],[],[],[],[],[],[],[],[(200010,7007),(200015,7007),(200019,7)],[4,6,7,9,10,13,14,15,17,19]⟩ Tryz.func11 rfl (Nz rfl) ?_;refine Yi (Nz rfl) ?_;refine Xi .pure (Xi _ (Yi (qb YP x ifs hx) ?_));refine Yi (fun h1=>?_) (fun h1=>?_)
 ·have h1:((A5 x):Int)≠(0:Int):=h1;refine Yi (Nz rfl) ?_;refine Yi (Nz rfl) ?_;exact KT (eD (fun h=>h1 h)) (by decide)
 have h1:((A5 x):Int)=(0:Int):=Bn h1;refine Yi (Nz rfl) ?_;refine Xi .pure (Xi _ (Yi (tg w hW) ?_));refine Xi ⟨[(2,.ref 2 0),(3,.ref 3 0),(4,.ref 4 0),(6,vi (CW w))],[(2,.ro (Ic x ifs)),(3,.ro (Bu w)),(4,.cells [.v (.slice none 0 0),.v (.slice none 0 0)])],Aa⟩ (Yi ⟨Z4,Z3,Fh,Tv⟩ ?_)
 refine Yi (fun h3=>?_) (fun h3=>?_)
 ·have h3:((CW w):Int)≠(0:Int):=h3;refine Yi (Nz rfl) ?_;refine Yi (Nz rfl) ?_;exact KT (eF h1 h3) h3
 have h3:((CW w):Int)=(0:Int):=Bn h3;refine Xi ⟨[(2,.ref 2 0),(3,.ref 3 0),(4,.ref 4 0)],[(2,.ro (Ic x ifs)),(3,.ro (Bu w)),(4,.cells [.v (.slice none 0 0),.v (.slice none 0 0)])],Aa⟩ (Yi ⟨Z3,Z3,Fh,Tv⟩ ?_)
 refine Xi .pure (Xi _ (Yi ax ?_));refine Xi (.gen [] 1) (Yi rfl (Be.to2 (sm A0 lZ uB uC) ?_));refine Xi ⟨[(2,.ref 2 0),(3,.ref 3 0),(4,.ref 4 0),(7,.msl 12600 A0.length)],[(2,.ro (Ic x ifs)),(3,.ro (Bu w)),(4,.cells [.v (.slice none 0 0),.v (.slice none 0 0)]),(12600,.arr 9 (A0.map Ah))],Aa⟩ (Yi ⟨Z4,Z4,Fh,Tv⟩ ?_)
 refine Yi (fun h6=>?_) (fun h6=>?_)
 ·have h6:(256:Int)<(A0.length:Int):=h6;have n6:256<A0.length:=by omega
  have g6:A0[256]?=some A0[256]:=Ge n6;refine Yi (Nz rfl) ?_;refine Yi (Nz rfl) ?_;exact KT (eG h1 h3 hA h6) (by decide)
 have h6:¬((256:Int)<(A0.length:Int)):=h6;have n6:¬256<A0.length:=by omega
 refine Xi ⟨[(2,.ref 2 0),(3,.ref 3 0),(4,.ref 4 0),(7,.msl 12600 A0.length)],[(2,.ro (Ic x ifs)),(3,.ro (Bu w)),(4,.cells [.v (.slice none 0 0),.v (.slice none 0 0)]),(12600,.arr 9 (A0.map Ah))],Aa⟩ (Yi ⟨Z4,Z4,Fh,Tv⟩ ?_)
 refine Xi (.gen [(12600,1000)] 1) (Yi rfl (Be.to2 (yN A0 (Jc w) (fun r _=>o41 r w hW.exc) lZ) ?_));refine Yi (show(kept (Jc w) A0).length=((kept (Jc w) A0).map Ah).length by rw[Lm]) ?_;refine Xi ⟨[(2,.ref 2 0),(3,.ref 3 0),(4,.ref 4 0),(7,.msl 7 (kept (Jc w) A0).length)],[(2,.ro (Ic x ifs)),(3,.ro (Bu w)),(4,.cells [.v (.slice none 0 0),.v (.slice none 0 0)]),(7,.arr 9 ((kept (Jc w) A0).map Ah))],Aa⟩ (Yi ⟨Z4,Z4,Fh,Tv⟩ ?_)
 refine Xi {q:Nat×List Rl // q.1≤w.pin.length∧HG w.pin (kept (Jc w) A0)=HG (w.pin.drop q.1) q.2∧q.2.length≤256} (Xi (fun q=>⟨[(2,.ref 2 0),(4,.ref 4 0),(7,.msl 7 q.1.2.length),(35,sl Ae w.pin),(36,vi (w.pin.map Ae).length),(37,vi q.1.1)],[(2,.ro (Ic x ifs)),(4,.cells [.v (.slice none 0 0),.v (.slice none 0 0)]),(7,.arr 9 (q.1.2.map Ah))],Aa⟩) (Xi (fun q=>w.pin.length-q.1.1) (Yi (Xi ⟨(0,kept (Jc w) A0),AL _,rfl,AU (JQ _ _) (by have q:=h6;omega)⟩ ?_) ?_)))
 ·exact⟨Z6,Z3,Fh,Tv⟩
 intro⟨⟨k,A⟩,k1,k2,kA⟩;have k1:k≤w.pin.length:=k1;have k2:HG w.pin (kept (Jc w) A0)=HG (w.pin.drop k) A:=k2;have kA:A.length≤256:=kA;refine Yi (fun h9=>?_) (fun h9=>?_)
 ·have h9:(k:Int)<((w.pin.map Ae).length:Int):=h9;have n9:=Ka h9;refine Xi (Ae w.pin[k]) (Yi (OO n9) (Yi rfl ?_));refine Yi (Nz rfl) ?_;refine Yi (Nz rfl) ?_;refine Xi ⟨[(2,.ref 2 0),(4,.ref 4 0),(7,.msl 7 A.length),(9,.ref 9 0),(35,sl Ae w.pin),(36,vi (w.pin.map Ae).length),(37,vi k)],[(2,.ro (Ic x ifs)),(4,.cells [.v (.slice none 0 0),.v (.slice none 0 0)]),(7,.arr 9 (A.map Ah)),(9,.ro (Ae w.pin[k]))],Aa⟩ (Yi ⟨Z7,Z4,Fh,Tv⟩ ?_)
  refine Xi (.gen [(7,1000)] 1) (Yi rfl (Be.to2 (yN A (DU w.pin[k]) (fun r _=>o43 r w.pin[k]) (AU kA (by decide))) ?_));refine Xi ⟨[(2,.ref 2 0),(4,.ref 4 0),(7,.msl 14300 (kept (DU w.pin[k]) A).length),(9,.ref 9 0),(35,sl Ae w.pin),(36,vi (w.pin.map Ae).length),(37,vi k)],[(2,.ro (Ic x ifs)),(4,.cells [.v (.slice none 0 0),.v (.slice none 0 0)]),(9,.ro (Ae w.pin[k])),(14300,.arr 9 ((kept (DU w.pin[k]) A).map Ah))],Aa⟩ (Yi ⟨Z7,Z4,Fh,Tv⟩ ?_)
  refine Xi (.gen [(14300,1000)] 0) (Yi rfl (Be.to2 (rN (kept (DU w.pin[k]) A) (fun r=>decide (EG r=w.pin[k])) (fun r _=>o45 r w.pin[k]) (AU (JQ _ _) (AU kA (by decide)))) ?_));refine Yi (show(kept (DU w.pin[k]) A).length=((kept (DU w.pin[k]) A).map Ah).length by rw[Lm]) ?_;refine Xi ⟨[(2,.ref 2 0),(4,.ref 4 0),(7,.msl 7 (kept (DU w.pin[k]) A).length),(10,vi (LN w.pin[k] (kept (DU w.pin[k]) A))),(35,sl Ae w.pin),(36,vi (w.pin.map Ae).length),(37,vi k)],[(2,.ro (Ic x ifs)),(4,.cells [.v (.slice none 0 0),.v (.slice none 0 0)]),(7,.arr 9 ((kept (DU w.pin[k]) A).map Ah))],Aa⟩ (Yi ⟨Z7,Z3,Fh,Tv⟩ ?_)
  refine Yi (fun Nc=>?_) (fun Nc=>?_)
  ·have Nc:((LN w.pin[k] (kept (DU w.pin[k]) A)):Int)<(0:Int):=Nc;refine Yi (Nz rfl) ?_;refine Yi (Nz rfl) ?_;have eP:HG w.pin (kept (Jc w) A0)=none:=by rw[k2,Yn n9,iz rfl Nc];rfl
   exact KT (WX h1 h3 hA h6 eP) (by decide)
  have Nc:¬(((LN w.pin[k] (kept (DU w.pin[k]) A)):Int)<(0:Int)):=Nc;refine CK (ol Nc) (fun h9 g9=>?_);refine Xi ⟨[(2,.ref 2 0),(4,.ref 4 0),(7,.msl 7 (kept (DU w.pin[k]) A).length),(10,vi (LN w.pin[k] (kept (DU w.pin[k]) A))),(35,sl Ae w.pin),(36,vi (w.pin.map Ae).length),(37,vi k)],[(2,.ro (Ic x ifs)),(4,.cells [.v (.slice none 0 0),.v (.slice none 0 0)]),(7,.arr 9 ((kept (DU w.pin[k]) A).map Ah))],Aa⟩ (Yi ⟨Z7,Z3,Fh,Tv⟩ ?_)
  refine Yi (by show(0:Int)≤(LN w.pin[k] (kept (DU w.pin[k]) A))∧((LN w.pin[k] (kept (DU w.pin[k]) A)):Int)<((kept (DU w.pin[k]) A).length:Nat);omega) ?_;refine Yi (show(kept (DU w.pin[k]) A).length=((kept (DU w.pin[k]) A).map Ah).length by rw[Lm]) (Xi (Ah ((kept (DU w.pin[k]) A)[(LN w.pin[k] (kept (DU w.pin[k]) A)).toNat])) (Yi (Ch g9) (Yi (Nz rfl) ?_)));refine Yi (Ii k (by omega)) ?_;have eU:((kept (DU w.pin[k]) A).map Ah).set (LN w.pin[k] (kept (DU w.pin[k]) A)).toNat [vs ((kept (DU w.pin[k]) A)[(LN w.pin[k] (kept (DU w.pin[k]) A)).toNat]).path,vi ((kept (DU w.pin[k]) A)[(LN w.pin[k] (kept (DU w.pin[k]) A)).toNat]).ver.a,vi ((kept (DU w.pin[k]) A)[(LN w.pin[k] (kept (DU w.pin[k]) A)).toNat]).ver.b,vi ((kept (DU w.pin[k]) A)[(LN w.pin[k] (kept (DU w.pin[k]) A)).toNat]).ver.c,sl AE ((kept (DU w.pin[k]) A)[(LN w.pin[k] (kept (DU w.pin[k]) A)).toNat]).reqs,vs ((kept (DU w.pin[k]) A)[(LN w.pin[k] (kept (DU w.pin[k]) A)).toNat]).arch,vs ((kept (DU w.pin[k]) A)[(LN w.pin[k] (kept (DU w.pin[k]) A)).toNat]).ifc,vs ((kept (DU w.pin[k]) A)[(LN w.pin[k] (kept (DU w.pin[k]) A)).toNat]).cert,vb false]=(Pl (kept (DU w.pin[k]) A) (LN w.pin[k] (kept (DU w.pin[k]) A)).toNat).map Ah:=by rw[bu g9,Nt]
  have eP:HG w.pin (kept (Jc w) A0)=HG (w.pin.drop (k+1)) (Pl (kept (DU w.pin[k]) A) (LN w.pin[k] (kept (DU w.pin[k]) A)).toNat):=by rw[k2,Yn n9,iA rfl Nc];rfl
  refine Xi ⟨(k+1,(Pl (kept (DU w.pin[k]) A) (LN w.pin[k] (kept (DU w.pin[k]) A)).toNat)),n9,eP,by show(Pl _ _).length≤256;rw[TV];exact AU (JQ _ _) kA⟩ ?_;exact⟨Dl w.pin.length k (by omega),⟨Zr,Zr,⟨(show AV.msl 7 (kept (DU w.pin[k]) A).length=.msl 7 (Pl (kept (DU w.pin[k]) A) (LN w.pin[k] (kept (DU w.pin[k]) A)).toNat).length by rw[TV]),rfl⟩,Zr,Zr,Zr,Tv⟩,⟨Zr,Zr,⟨(Ac (HO.arr 9) eU),rfl⟩,Tv⟩,Fh,Tv⟩
 have h9:¬((k:Int)<((w.pin.map Ae).length:Int)):=h9;have n9:=KC h9;refine Yi (show A.length=(A.map Ah).length by rw[Lm]) ?_;refine Xi ⟨[(2,.ref 2 0),(4,.ref 4 0),(7,sl Ah A)],[(2,.ro (Ic x ifs)),(4,.cells [.v (.slice none 0 0),.v (.slice none 0 0)])],Aa⟩ (Yi ⟨Z3,Z2,Fh,Tv⟩ ?_)
 refine Xi .pure (Xi _ (Yi (o46 ifs Zg fY) ?_));refine Yi (Nz rfl) ?_;refine Yi (Nz rfl) ?_;have eP:HG w.pin (kept (Jc w) A0)=some A:=by rw[k2,Hi (by have q:=h9;rw[Lm]at q;omega)];rfl
 have eR:=WX h1 h3 hA h6 eP;exact .of_eq (show _=KR x ifs w by unfold KR;rw[eR];rfl)
abbrev Md(l o:List Sl):List Sl:=kept (fun s=>decide (s∈o)) l
abbrev jF:Wk:=⟨[],[],[]⟩
def Jn(a b:Wk):Wk×Int :=
 if CW a≠0 then(jF,CW a)else if CW b≠0 then(jF,CW b)else if 256<((A3 Cs a.rep b.rep).length:Int)then(jF,7)else
  (⟨A3 Cs a.rep b.rep,Md (A3 Gw a.exc b.exc) b.pin,A3 PE (Md a.pin b.exc) b.pin⟩,0)
abbrev Zy(p:Wk×Int):AV:=.tup [.agg (Bu p.1),vi p.2]
theorem NO{p:Wk×Int}{e:Int}(h:p=(jF,e)):Hq (.tup [.agg [.v (.slice none 0 0),.v (.slice none 0 0),.v (.slice none 0 0)],vi e]) (Zy p):=by
 subst h;exact .tup ⟨.agg ⟨.nil,.nil,.nil,trivial⟩,.refl _,trivial⟩
theorem gN{a b:Wk}(h:CW a≠0):Jn a b=(jF,CW a):=by unfold Jn;rw[Aw h]
theorem gO{a b:Wk}(h:CW a=0)(h2:CW b≠0):Jn a b=(jF,CW b):=by unfold Jn;rw[Ai (fun c=>c h),Aw h2]
theorem gP{a b:Wk}(h:CW a=0)(h2:CW b=0){A:List Rl}(hA:A=A3 Cs a.rep b.rep)(h3:256<(A.length:Int)):Jn a b=(jF,7):=by
 subst hA;unfold Jn;rw[Ai (fun c=>c h),Ai (fun c=>c h2),Aw h3]
theorem gQ{a b:Wk}(h:CW a=0)(h2:CW b=0){A:List Rl}(hA:A=A3 Cs a.rep b.rep)(h3:¬256<(A.length:Int)):Jn a b=(⟨A,Md (A3 Gw a.exc b.exc) b.pin,A3 PE (Md a.pin b.exc) b.pin⟩,0):=by
 subst hA;unfold Jn;rw[Ai (fun c=>c h),Ai (fun c=>c h2),Ai h3]
theorem o90(s:Sl)(o:List Sl)(hl:Ci o):PC 90 [.agg (Ae s),.cptr [sl Ae o]] (vb (decide (s∈o))):=by
 refine Ps ⟨[2],[],[],[],[],[],[],[],[],[],[]⟩ Tryz.func90 rfl (Nz rfl) ?_;refine Yi (Nz rfl) ?_;refine BH (Bt (decide (s∈o))) (fun h1=>?_) (fun h1=>?_)
 ·have h1:(decide (s∈o))=true:=h1;refine Xi .pure (Xi _ (Yi (cb h1 (ii o s hl)) ?_));exact .of_eq (show vb true=vb (decide (s∈o)) by rw[h1])
 have h1:(decide (s∈o))=false:=h1;refine Xi .pure (Xi _ (Yi (cb h1 (ii o s hl)) ?_));exact .of_eq (show vb false=vb (decide (s∈o)) by rw[h1])
theorem yP(l o:List Sl)(hl:Ci l)(ho:Ci o):PC 62 [sl Ae l,sl Ae o] (sl Ae (Md l o)):=by
 refine Ps ⟨[3],[],[],[],[],[],[],[],[],[(4,8)],[]⟩ Tryz.func62 rfl (Nz rfl) ?_;refine Xi (.gen [] 1) (Yi rfl (Be.to2 (sn l hl) ?_));refine Xi (.gen [(10600,1000)] 1) (Yi rfl (Be.to2 (o88 l (fun s=>decide (s∈o)) (fun s _=>o90 s o ho) hl) ?_));refine Yi (show(Md l o).length=((Md l o).map Ae).length by rw[Lm]) ?_;exact .refl _
theorem o17(a b:Wk)(Yx:bE a)(hB:bE b)(OL:a.rep.length+b.rep.length≤1073741824)(vN:a.exc.length+b.exc.length≤1073741824)(har:∀r∈a.rep,Ci r.reqs)(hbr:∀r∈b.rep,Ci r.reqs):PC 17 [.agg (Bu a),.agg (Bu b)] (Zy (Jn a b)):=by
 obtain⟨A0,hA⟩:∃A,A=A3 Cs a.rep b.rep:=⟨_,rfl⟩;have lZ:A0.length≤1073741824:=by rw[hA];exact AU (NM a.rep b.rep) OL
 have uB:∀r∈A0,Ci r.reqs:=fun r hr=>by rw[hA]at hr;exact(H9 hr).elim (har r) (hbr r)
 have uC:∀r∈A0,∀q∈r.reqs,Ci q.set:=fun r hr q hq=>by rw[hA]at hr;exact(H9 hr).elim (fun h=>((Yx.rep r h).2 q hq).1) (fun h=>((hB.rep r h).2 q hq).1)
 have ax:PC 38 [sl Ah a.rep,sl Ah b.rep,.v (.func (.func 39) #[] #[])] (sl Ah A0):=by rw[hA];exact yL a.rep b.rep Yx.reps hB.reps
 have hE:Ci (A3 Gw a.exc b.exc):=AU (NM a.exc b.exc) vN;refine Ps ⟨[2,3,7],[],[],[],[],[],[],[],[],[(100010,10)],[4,7,8,9,10,11,12,13,14]⟩ Tryz.func17 rfl (Nz rfl) ?_;refine Yi (Nz rfl) ?_;refine Yi (Nz rfl) ?_;refine Xi {q:Nat // q≤2∧(0<q→CW a=0)∧(1<q→CW b=0)} (Xi (fun q=>⟨[(2,.ref 2 0),(3,.ref 3 0),(4,.ref 4 0),(13,.slice (.id 13 3) [(Bu a),(Bu b)]),(14,vi 2),(15,vi q.1)],[(2,.ro (Bu a)),(3,.ro (Bu b)),(4,.cells [.v (.slice none 0 0),.v (.slice none 0 0),.v (.slice none 0 0)]),(13,.tok 3 2)],Aa⟩) (Xi (fun q=>2-q.1) (Yi (Xi ⟨0,by decide,fun h=>absurd h (by decide),fun h=>absurd h (by decide)⟩ ?_) ?_)))
 ·exact⟨Z6,Z4,Fh,Tv⟩
 intro⟨i,i1,i2,i3⟩;have i1:i≤2:=i1;have i2:0<i→CW a=0:=i2;have i3:1<i→CW b=0:=i3;refine Yi (fun h1=>?_) (fun h1=>?_)
 ·have h1:(i:Int)<(2:Int):=h1;refine BH (show i=0∨i=1 by omega) (fun hi=>?_) (fun hi=>?_)
  ·have hi:i=0:=hi;refine Xi (Bu a) (Yi (show(0:Int)≤(i:Int)∧[Bu a,Bu b][((i:Nat):Int).toNat]?=some (Bu a)from⟨N6 _,by rw[hi];rfl⟩) (Yi rfl ?_));refine Yi (Nz rfl) ?_;refine Yi (Nz rfl) ?_;refine Xi ⟨[(2,.ref 2 0),(3,.ref 3 0),(4,.ref 4 0),(7,.ref 7 0),(13,.slice (.id 13 3) [(Bu a),(Bu b)]),(14,vi 2),(15,vi i)],[(2,.ro (Bu a)),(3,.ro (Bu b)),(4,.cells [.v (.slice none 0 0),.v (.slice none 0 0),.v (.slice none 0 0)]),(7,.ro (Bu a)),(13,.tok 3 2)],Aa⟩ (Yi ⟨Z7,Z5,Fh,Tv⟩ ?_)
   refine Yi (Nz rfl) ?_;refine Xi .pure (Xi _ (Yi (tg a Yx) ?_));refine Yi (fun h2=>?_) (fun h2=>?_)
   ·have h2:((CW a):Int)≠(0:Int):=h2;refine Yi (Nz rfl) ?_;refine Yi (Nz rfl) ?_;exact NO (gN h2)
   have h2:((CW a):Int)=(0:Int):=Bn h2;refine Xi ⟨[(2,.ref 2 0),(3,.ref 3 0),(4,.ref 4 0),(13,.slice (.id 13 3) [(Bu a),(Bu b)]),(14,vi 2),(15,vi i)],[(2,.ro (Bu a)),(3,.ro (Bu b)),(4,.cells [.v (.slice none 0 0),.v (.slice none 0 0),.v (.slice none 0 0)]),(13,.tok 3 2)],Aa⟩ (Yi ⟨Z6,Z4,Fh,Tv⟩ ?_)
   refine Yi (Ii i (by omega)) ?_;refine Xi ⟨i+1,by omega,fun _=>h2,fun h=>absurd h (by omega)⟩ ?_;exact⟨Dl 2 i (by omega),Z6,Z4,Fh,Tv⟩
  refine Xi (Bu b) (Yi (show(0:Int)≤(i:Int)∧[Bu a,Bu b][((i:Nat):Int).toNat]?=some (Bu b)from⟨N6 _,by rw[hi];rfl⟩) (Yi rfl ?_));refine Yi (Nz rfl) ?_;refine Yi (Nz rfl) ?_;refine Xi ⟨[(2,.ref 2 0),(3,.ref 3 0),(4,.ref 4 0),(7,.ref 7 0),(13,.slice (.id 13 3) [(Bu a),(Bu b)]),(14,vi 2),(15,vi i)],[(2,.ro (Bu a)),(3,.ro (Bu b)),(4,.cells [.v (.slice none 0 0),.v (.slice none 0 0),.v (.slice none 0 0)]),(7,.ro (Bu b)),(13,.tok 3 2)],Aa⟩ (Yi ⟨Z7,Z5,Fh,Tv⟩ ?_)
  refine Yi (Nz rfl) ?_;refine Xi .pure (Xi _ (Yi (tg b hB) ?_));refine Yi (fun h5=>?_) (fun h5=>?_)
  ·have h5:((CW b):Int)≠(0:Int):=h5;refine Yi (Nz rfl) ?_;refine Yi (Nz rfl) ?_;exact NO (gO (i2 (by omega)) h5)
  have h5:((CW b):Int)=(0:Int):=Bn h5;refine Xi ⟨[(2,.ref 2 0),(3,.ref 3 0),(4,.ref 4 0),(13,.slice (.id 13 3) [(Bu a),(Bu b)]),(14,vi 2),(15,vi i)],[(2,.ro (Bu a)),(3,.ro (Bu b)),(4,.cells [.v (.slice none 0 0),.v (.slice none 0 0),.v (.slice none 0 0)]),(13,.tok 3 2)],Aa⟩ (Yi ⟨Z6,Z4,Fh,Tv⟩ ?_)
  refine Yi (Ii i (by omega)) ?_;refine Xi ⟨i+1,by omega,fun _=>i2 (by omega),fun _=>h5⟩ ?_;exact⟨Dl 2 i (by omega),Z6,Z4,Fh,Tv⟩
 have h1:¬((i:Int)<(2:Int)):=h1;refine Xi ⟨[(2,.ref 2 0),(3,.ref 3 0),(4,.ref 4 0)],[(2,.ro (Bu a)),(3,.ro (Bu b)),(4,.cells [.v (.slice none 0 0),.v (.slice none 0 0),.v (.slice none 0 0)])],Aa⟩ (Yi ⟨Z3,Z3,Fh,Tv⟩ ?_)
 refine Xi ⟨[(2,.ref 2 0),(3,.ref 3 0),(4,.ref 4 0),(9,.v (.func (.func 61) #[] #[]))],[(2,.ro (Bu a)),(3,.ro (Bu b)),(4,.cells [.v (.slice none 0 0),.v (.slice none 0 0),.v (.slice none 0 0)])],Aa⟩ (Yi ⟨Z4,Z3,Fh,Tv⟩ ?_)
 refine Xi .pure (Xi _ (Yi ax ?_));refine Xi (.gen [] 1) (Yi rfl (Be.to2 (sm A0 lZ uB uC) ?_));refine Yi (Nz rfl) ?_;refine Yi (show A0.length=(A0.map Ah).length by rw[Lm]) ?_;refine Xi ⟨[(2,.ref 2 0),(3,.ref 3 0),(4,.ref 4 0),(9,.v (.func (.func 61) #[] #[])),(10,.ref 10 0)],[(2,.ro (Bu a)),(3,.ro (Bu b)),(4,.cells [.v (.slice none 0 0),.v (.slice none 0 0),.v (.slice none 0 0)]),(10,.cells [.slice (.id 13100 9) (A0.map Ah),.v (.slice none 0 0),.v (.slice none 0 0)]),(13100,.tok 9 (A0.map Ah).length)],Aa⟩ (Yi ⟨Z5,Z5,Fh,Tv⟩ ?_)
 refine Yi (fun h9=>?_) (fun h9=>?_)
 ·have h9:(256:Int)<((A0.map Ah).length:Int):=h9;have n9:256<A0.length:=by have q:=h9;rw[Lm]at q;omega
  refine Xi ⟨[(4,.ref 4 0)],[(4,.cells [.v (.slice none 0 0),.v (.slice none 0 0),.v (.slice none 0 0)])],Aa⟩ (Yi ⟨Z1,Z1,Fh,Tv⟩ ?_)
  refine Yi (Nz rfl) ?_;refine Yi (Nz rfl) ?_;have ja:=i2 (by omega);have jb:=i3 (by omega);exact NO (gP ja jb hA (by have q:=h9;rw[Lm]at q;exact q))
 have h9:¬((256:Int)<((A0.map Ah).length:Int)):=h9;have n9:¬256<A0.length:=by have q:=h9;rw[Lm]at q;omega
 refine Xi ⟨[(2,.ref 2 0),(3,.ref 3 0),(4,.ref 4 0),(9,.v (.func (.func 61) #[] #[])),(10,.ref 10 0)],[(2,.ro (Bu a)),(3,.ro (Bu b)),(4,.cells [.v (.slice none 0 0),.v (.slice none 0 0),.v (.slice none 0 0)]),(10,.cells [.slice (.id 13100 9) (A0.map Ah),.v (.slice none 0 0),.v (.slice none 0 0)]),(13100,.tok 9 (A0.map Ah).length)],Aa⟩ (Yi ⟨Z5,Z5,Fh,Tv⟩ ?_)
 refine Xi _ (Yi (wo a.exc b.exc Yx.exc hB.exc) ?_);refine Xi _ (Yi (yP (A3 Gw a.exc b.exc) b.pin hE hB.pin) ?_);refine Yi (Nz rfl) ?_;refine Yi (by kernel_rfl) ?_;refine Xi ⟨[(2,.ref 2 0),(3,.ref 3 0),(4,.ref 4 0),(9,.v (.func (.func 61) #[] #[])),(10,.ref 10 0)],[(2,.ro (Bu a)),(3,.ro (Bu b)),(4,.cells [.v (.slice none 0 0),.v (.slice none 0 0),.v (.slice none 0 0)]),(10,.cells [.slice (.id 13100 9) (A0.map Ah),sl Ae (Md (A3 Gw a.exc b.exc) b.pin),.v (.slice none 0 0)]),(13100,.tok 9 (A0.map Ah).length)],Aa⟩ (Yi ⟨Z5,Z5,Fh,Tv⟩ ?_)
 refine Xi _ (Yi (yP a.pin b.exc Yx.pin hB.exc) ?_);refine Xi _ (Yi (wm (Md a.pin b.exc) b.pin (AU (JQ _ _) Yx.pin) hB.pin) ?_);refine Yi (Nz rfl) ?_;refine Yi (by kernel_rfl) ?_;refine Xi ⟨[(4,.ref 4 0),(10,.ref 10 0)],[(4,.cells [.v (.slice none 0 0),.v (.slice none 0 0),.v (.slice none 0 0)]),(10,.cells [.slice (.id 13100 9) (A0.map Ah),sl Ae (Md (A3 Gw a.exc b.exc) b.pin),sl Ae (A3 PE (Md a.pin b.exc) b.pin)]),(13100,.tok 9 (A0.map Ah).length)],Aa⟩ (Yi ⟨Z2,Z3,Fh,Tv⟩ ?_)
 refine Yi (Nz rfl) ?_;refine Yi (Nz rfl) ?_;refine Yi (Nz rfl) ?_;have ja:=i2 (by omega);have jb:=i3 (by omega);have eM:=gQ ja jb hA (by have q:=h9;rw[Lm]at q;exact q);exact .of_eq (show _=Zy (Jn a b) by rw[eM];rfl)
end Go.Eng
