/- Lemmas for the claims of this seat, without a condition: part 26 (O6, O7, O8). -/
import Derived.Test.YtmcbkdbfaneofaaGreatDoorBA25
set_option maxHeartbeats 4000000
namespace Go.Eng
open Go.Proofs
abbrev kept{α:Type}(p:α→Bool)(l:List α):List α:=l.filter fun x=>!p x
theorem IG{α:Type}(p:α→Bool)(l:List α):(kept p l).length≤l.length:=BE _ _
theorem KV{α:Type}{p:α→Bool}{l:List α}{j:Nat}(h:j<l.length):kept p (l.take (j+1))=kept p (l.take j)++(if p l[j]=true then []else [l[j]]):=by
 unfold kept;rw[BA,DA,Ge h];cases e:p l[j]<;>simp[e]
theorem KW{α:Type}{p:α→Bool}{l:List α}(h:∀j (hj:j<l.length),p l[j]=false):kept p l=l:=by
 rw[List.filter_eq_self];intro x hx;obtain⟨j,hj,rfl⟩:=Ce.1 hx;rw[h j hj];rfl
theorem Lz{α:Type}{p:α→Bool}{l:List α}{i:Nat}(hi:i<l.length)(h:∀j (hj:j<l.length),j<i→p l[j]=false)(hp:p l[i]=true):kept p (l.take (i+1))=l.take i:=by
 rw[KV hi,Au hp,BS,KW];intro j hj;rw[Il];rw[AH]at hj;exact h j (by omega) (by omega)
theorem Ly{α:Type}(p:α→Bool)(l:List α):(Iv p l 0=-1∧∀j (hj:j<l.length),p l[j]=false)∨∃i,∃hi:i<l.length,Iv p l 0=(i:Int)∧p l[i]=true∧∀j (hj:j<l.length),j<i→p l[j]=false:=by
 by_cases h:∃i,∃hi:i<l.length,p l[i]=true
 ·obtain⟨i,hm⟩:=nB h;obtain⟨⟨hi,hp⟩,hl⟩:=hm;have hl:∀j (hj:j<l.length),j<i→p l[j]=false:=fun j hj GF=>by
   cases e:p l[j]with
   |false=>rfl
   |true=>exact absurd ⟨hj,e⟩ (hl j GF)
  exact .inr ⟨i,hi,by rw[JI hi (fun j hj GF=>hl j hj GF) hp,Fj],hp,hl⟩
 ·have hl:∀j (hj:j<l.length),p l[j]=false:=fun j hj=>by
   cases e:p l[j]with
   |false=>rfl
   |true=>exact absurd ⟨j,hj,e⟩ h
  exact .inl ⟨by rw[GG fun j hj=>hl j hj],hl⟩
theorem ta{fF:Nat}{cs:List AV}(l:List Rl)(p:Rl→Bool)(hF:∀x∈l,PC fF [.agg (Ag x),.cptr cs] (vb (p x)))(hl:Ci l):Bj Tryz.prog 44 [.msl 1000 l.length,.clo fF [.cptr cs]] (Ap [(1000,.arr 9 (l.map Ag))] Ab) fun r h'=>r=vi (Iv p l 0)∧h'=Ap [(1000,HO.arr 9 (l.map Ag))] Ab:=by
 have hl:l.length≤1073741824:=hl;refine Cq (M4 ⟨[],[],[],[],[],[],[],[],[],[],[]⟩) [(1000,1000)] rfl CX hm rfl Tryz.func44 (by kernel_rfl) rfl (Nz rfl) (by kernel_rfl) rfl ?_;refine Xi {q:Nat // q≤l.length∧∀j (hj:j<l.length),j<q→p l[j]=false} (Xi (fun q=>⟨[(0,.msl 1000 l.length),(1,.clo fF [.cptr cs]),(7,vi l.length),(8,vi q.1)],[(1000,.arr 9 (l.map Ag))],Ab⟩) (Xi (fun q=>l.length-q.1) (Yi (Xi ⟨0,AF _,fun _ _ h=>absurd h (Cr _)⟩ ?_) ?_)))
 ·exact⟨Z4,Z1,Fh,Az (by kernel_rfl)⟩
 intro⟨i,i1,i2⟩;have i1:i≤l.length:=i1;have i2:∀j (hj:j<l.length),j<i→p l[j]=false:=i2;refine Yi (fun h1=>?_) (fun h1=>?_)
 ·have h1:(i:Int)<(l.length:Int):=h1;have n1:i<l.length:=by omega
  have g1:l[i]?=some l[i]:=Ge n1;refine Yi (by show(0:Int)≤i∧(i:Int)<(l.length:Nat);omega) ?_;refine Yi (show l.length=(l.map Ag).length by rw[Lm]) (Xi (Ag l[i]) (Yi (B3 g1) ?_));refine Yi (Nz rfl) ?_;refine Bp (Bt (p l[i])) (fun h2=>?_) (fun h2=>?_)
  ·have h2:(p l[i])=true:=h2;refine Xi .pure (Xi _ (Yi (cb h2 (hF l[i] (Ak n1))) ?_));exact Xi _ (Yi (.refl _) ⟨show vi i=vi (Iv p l 0) by rw[JI n1 (fun j hj GF=>i2 j hj GF) h2,Fj],rfl⟩)
  have h2:(p l[i])=false:=h2;refine Xi .pure (Xi _ (Yi (cb h2 (hF l[i] (Ak n1))) ?_));refine Yi (Ii i (by omega)) ?_;refine Xi ⟨i+1,n1,fun j hj GF=>if e:j<i then i2 j hj e else by
    have e:j=i:=by omega
    subst e;exact h2⟩ ?_
  exact⟨Dl l.length i (by omega),Z4,Z1,Fh,Az (by kernel_rfl)⟩
 have h1:¬((i:Int)<(l.length:Int)):=h1;have n1:¬i<l.length:=by omega
 exact Xi _ (Yi (.refl _) ⟨show vi (-1)=vi (Iv p l 0) by rw[GG fun j hj=>i2 j hj (by omega)],rfl⟩)
theorem xH{fF:Nat}{cs:List AV}(l:List Rl)(p:Rl→Bool)(ix:Bj Tryz.prog 44 [.msl 1000 l.length,.clo fF [.cptr cs]] (Ap [(1000,.arr 9 (l.map Ag))] Ab) fun r h'=>r=vi (-1)∧h'=Ap [(1000,HO.arr 9 (l.map Ag))] Ab)(Fm:∀j (hj:j<l.length),p l[j]=false):Bj Tryz.prog 40 [.msl 1000 l.length,.clo fF [.cptr cs]] (Ap [(1000,.arr 9 (l.map Ag))] Ab) fun r h'=>r=.msl 2000 (kept p l).length∧h'=Ap [(1000,.dead),(2000,.arr 9 ((kept p l).map Ag))] Ab:=by
 refine Cq (M4 ⟨[],[],[],[],[],[],[],[],[],[(200003,41000)],[3,6,9]⟩) [(1000,1000),(41,2000)] rfl CX hm rfl Tryz.func40 (by kernel_rfl) rfl (Nz rfl) (by kernel_rfl) rfl ?_;refine Xi (.gen [(1000,1000)] 0) (Yi rfl (Bj.to2 (ix) ?_));refine Yi (fun _=>?_) (fun h=>absurd (by decide) h);refine Yi (show l.length=(l.map Ag).length by rw[Lm]) ?_;refine Xi ⟨[(0,.msl 41 l.length)],[(41,.arr 9 (l.map Ag)),(1000,.dead)],Ab⟩ (Yi ⟨Z1,Z2,Fh,Az (by kernel_rfl)⟩ ?_)
 exact Xi _ (Yi (.refl _) ⟨show AV.msl 2000 l.length=.msl 2000 (kept p l).length by rw[KW Fm],show Ap [(1000,HO.dead),(2000,.arr 9 (l.map Ag))] Ab=Ap [(1000,.dead),(2000,.arr 9 ((kept p l).map Ag))] Ab by rw[KW Fm]⟩)
theorem xI{fF:Nat}{cs:List AV}(l:List Rl)(p:Rl→Bool)(hF:∀x∈l,PC fF [.agg (Ag x),.cptr cs] (vb (p x)))(hl:Ci l)(i0:Nat)(gV:i0<l.length)(ic:p l[i0]=true)(hb:∀j (hj:j<l.length),j<i0→p l[j]=false)(ix:Bj Tryz.prog 44 [.msl 1000 l.length,.clo fF [.cptr cs]] (Ap [(1000,.arr 9 (l.map Ag))] Ab) fun r h'=>r=vi (i0:Nat)∧h'=Ap [(1000,HO.arr 9 (l.map Ag))] Ab):Bj Tryz.prog 40 [.msl 1000 l.length,.clo fF [.cptr cs]] (Ap [(1000,.arr 9 (l.map Ag))] Ab) fun r h'=>r=.msl 2000 (kept p l).length∧h'=Ap [(1000,.dead),(2000,.arr 9 ((kept p l).map Ag))] Ab:=by
 have hl:l.length≤1073741824:=hl;refine Cq (M4 ⟨[],[(41,9)],[],[],[],[],[],[],[],[],[6,9]⟩) [(1000,1000),(41,2000)] rfl CX hm rfl Tryz.func40 (by kernel_rfl) rfl (Nz rfl) (by kernel_rfl) rfl ?_;refine Xi (.gen [(1000,1000)] 0) (Yi rfl (Bj.to2 (ix) ?_));refine Yi (fun h2=>?_) (fun h2=>?_)
 ·have h2:(i0:Int)=((-1):Int):=h2;exact absurd h2 (by omega)
 have h2:¬((i0:Int)=((-1):Int)):=h2;refine Yi (Ii i0 (by omega)) ?_;refine Xi {q:Nat×Nat×List Rl // i0<q.1∧q.1≤l.length∧q.2.1=(kept p (l.take q.1)).length∧q.2.2.length=l.length∧q.2.2.take q.2.1=kept p (l.take q.1)∧q.2.2.drop q.1=l.drop q.1} (Xi (fun q=>⟨[(0,.msl 1000 l.length),(1,.clo fF [.cptr cs]),(5,vi q.1.2.1),(6,vi q.1.1)],[(1000,.arr 9 (q.1.2.2.map Ag))],Ab⟩) (Xi (fun q=>l.length-q.1.1) (Yi (Xi ⟨(i0+1,i0,l),G6 _,gV,by show i0=(kept p (l.take (i0+1))).length;rw[Lz gV hb ic,AH];omega,rfl,by show l.take i0=kept p (l.take (i0+1));rw[Lz gV hb ic],rfl⟩ ?_) ?_)))
 ·exact⟨Z4,Z1,Fh,Az (by kernel_rfl)⟩
 intro⟨⟨j,i,N⟩,k0,k1,k2,k3,k4,k5⟩;have k0:i0<j:=k0;have k1:j≤l.length:=k1;have k2:i=(kept p (l.take j)).length:=k2;have k3:N.length=l.length:=k3;have k4:N.take i=kept p (l.take j):=k4;have k5:N.drop j=l.drop j:=k5;have k6:i≤j:=by rw[k2];exact AT (IG _ _) (by rw[AH];omega)
 refine Yi (fun h3=>?_) (fun h3=>?_)
 ·have h3:(j:Int)<(l.length:Int):=h3;have n3:j<l.length:=by omega
  have g3:l[j]?=some l[j]:=Ge n3;have nj:j<N.length:=by omega
  have gj:N[j]?=some N[j]:=Ge nj;refine Yi (by show(0:Int)≤j∧(j:Int)<(l.length:Nat);omega) ?_;refine Yi (show l.length=(N.map Ag).length by rw[Lm];exact k3.symm) (Xi (Ag N[j]) (Yi (B3 gj) ?_));refine Yi (Nz rfl) ?_;refine Yi (Nz rfl) ?_;refine Yi (Nz rfl) ?_;refine Bp (Bt (p N[j])) (fun h4=>?_) (fun h4=>?_)
  ·have h4:(p N[j])=true:=h4;refine Xi .pure (Xi _ (Yi (cb h4 (hF N[j] (by have q:N[j]=l[j]:=(by have q:=Aa (fun z=>z[0]?) k5;simp only[BY,DK]at q;rw[Ge nj,Ge n3]at q;exact Bv q);rw[q];exact Ak _))) ?_));refine Xi ⟨[(0,.msl 1000 l.length),(1,.clo fF [.cptr cs]),(5,vi i),(6,vi j)],[(1000,.arr 9 (N.map Ag))],Ab⟩ (Yi ⟨Z4,Z1,Fh,Az (by kernel_rfl)⟩ ?_)
   refine Yi (Ii j (by omega)) ?_;have eN:N[j]=l[j]:=by have q:=Aa (fun z=>z[0]?) k5;simp only[BY,DK]at q;rw[Ge nj,Ge n3]at q;exact Bv q
   have kn:kept p (l.take (j+1))=kept p (l.take j):=by rw[KV n3,Au (by rw[←eN];exact h4),BS]
   refine Xi ⟨(j+1,i,N),Rn k0,n3,by rw[kn];exact k2,k3,by rw[kn];exact k4,by show N.drop (j+1)=l.drop (j+1);rw[←Ds,←Ds,k5]⟩ ?_;exact⟨Dl l.length j (by omega),Z4,Z1,Fh,Az (by kernel_rfl)⟩
  have h4:(p N[j])=false:=h4;have ni:i<N.length:=by omega
  have gi:N[i]?=some N[i]:=Ge ni;refine Xi .pure (Xi _ (Yi (cb h4 (hF N[j] (by have q:N[j]=l[j]:=(by have q:=Aa (fun z=>z[0]?) k5;simp only[BY,DK]at q;rw[Ge nj,Ge n3]at q;exact Bv q);rw[q];exact Ak _))) ?_));refine Xi ⟨[(0,.msl 1000 l.length),(1,.clo fF [.cptr cs]),(5,vi i),(6,vi j),(7,.ref 7 0)],[(7,.cells (Ag N[j])),(1000,.arr 9 (N.map Ag))],Ab⟩ (Yi ⟨Z5,Z2,Fh,Az (by kernel_rfl)⟩ ?_)
  refine Yi (Nz rfl) ?_;refine Yi (by show(0:Int)≤i∧(i:Int)<(l.length:Nat);omega) ?_;refine Yi (show l.length=(N.map Ag).length by rw[Lm];exact k3.symm) (Xi (Ag N[i]) (Yi (B3 gi) (Yi (Nz rfl) ?_)));refine Yi (Ii i (by omega)) ?_;refine Xi ⟨[(0,.msl 1000 l.length),(1,.clo fF [.cptr cs]),(5,vi (i+1)),(6,vi j)],[(1000,.arr 9 ((N.map Ag).set i [vs N[j].path,vi N[j].ver.a,vi N[j].ver.b,vi N[j].ver.c,sl AM N[j].reqs,vs N[j].arch,vs N[j].ifc,vs N[j].cert,vb N[j].yanked]))],Ab⟩ (Yi ⟨Z4,Z1,Fh,Az (by kernel_rfl)⟩ ?_)
  refine Yi (Ii j (by omega)) ?_;have eN:N[j]=l[j]:=by have q:=Aa (fun z=>z[0]?) k5;simp only[BY,DK]at q;rw[Ge nj,Ge n3]at q;exact Bv q
  have kn:kept p (l.take (j+1))=kept p (l.take j)++[l[j]]:=by rw[KV n3,Al (by rw[←eN,h4];decide)]
  have ki:i<N.length:=by omega
  refine Xi ⟨(j+1,i+1,N.set i N[j]),Rn k0,n3,by show i+1=(kept p (l.take (j+1))).length;rw[kn,Ad,←k2];rfl,by show(N.set i N[j]).length=_;rw[CH];exact k3,by show(N.set i N[j]).take (i+1)=kept p (l.take (j+1));rw[kn,BA,List.take_set_of_le (Am _),k4,UJ ki,eN];rfl,by show(N.set i N[j]).drop (j+1)=l.drop (j+1);rw[List.drop_set_of_lt (by omega),←Ds,←Ds,k5]⟩ ?_;exact⟨Dl l.length j (by omega),Z4,⟨⟨(show HO.arr 9 ((N.map Ag).set i (Ag N[j]))=.arr 9 ((N.set i N[j]).map Ag) by rw[HF]),rfl⟩,Tv⟩,Fh,Az (by kernel_rfl)⟩
 have h3:¬((j:Int)<(l.length:Int)):=h3;have n3:¬j<l.length:=by omega
 refine Yi (show l.length=(N.map Ag).length∧(0:Int)≤i∧(i:Int)≤((N.map Ag).length:Nat)from⟨by rw[Lm];exact k3.symm,by omega,by rw[Lm];omega⟩) ?_;refine Yi (show l.length=(((N.map Ag).take i++List.replicate ((N.map Ag).length-i) [vs ⟨#[]⟩,vi 0,vi 0,vi 0,.v (.slice none 0 0),vs ⟨#[]⟩,vs ⟨#[]⟩,vs ⟨#[]⟩,vb false]):List (List AV)).length∧(0:Int)≤i∧(i:Int)≤((((N.map Ag).take i++List.replicate ((N.map Ag).length-i) [vs ⟨#[]⟩,vi 0,vi 0,vi 0,.v (.slice none 0 0),vs ⟨#[]⟩,vs ⟨#[]⟩,vs ⟨#[]⟩,vb false]):List (List AV)).length:Nat)from⟨by rw[Ad,AH,CA,Lm];omega,by omega,by rw[Ad,AH,CA,Lm];omega⟩) ?_;have ej:j=l.length:=by omega
 have e1:kept p l=kept p (l.take j):=by rw[ej,Dq]
 have e2:i=(kept p l).length:=by rw[e1];exact k2
 have e3:((N.map Ag).take i++List.replicate ((N.map Ag).length-i) [vs ⟨#[]⟩,vi 0,vi 0,vi 0,.v (.slice none 0 0),vs ⟨#[]⟩,vs ⟨#[]⟩,vs ⟨#[]⟩,vb false]).take i=(kept p l).map Ag:=by
  rw[Eg (by rw[AH,Lm];omega),KG,Nat.min_self,←L8,k4,e1]
 exact Xi _ (Yi (.refl _) ⟨show AV.msl 2000 i=.msl 2000 (kept p l).length from Aa (AV.msl 2000) e2,show Ap [(1000,HO.dead),(2000,.arr 9 (((N.map Ag).take i++List.replicate ((N.map Ag).length-i) [vs ⟨#[]⟩,vi 0,vi 0,vi 0,.v (.slice none 0 0),vs ⟨#[]⟩,vs ⟨#[]⟩,vs ⟨#[]⟩,vb false]).take i))] Ab=_ from Aa (fun z=>Ap [(1000,HO.dead),(2000,.arr 9 z)] Ab) e3⟩)
theorem o40{fF:Nat}{cs:List AV}(l:List Rl)(p:Rl→Bool)(hF:∀x∈l,PC fF [.agg (Ag x),.cptr cs] (vb (p x)))(hl:Ci l):Bj Tryz.prog 40 [.msl 1000 l.length,.clo fF [.cptr cs]] (Ap [(1000,.arr 9 (l.map Ag))] Ab) fun r h'=>r=.msl 2000 (kept p l).length∧h'=Ap [(1000,.dead),(2000,.arr 9 ((kept p l).map Ag))] Ab:=by
 have ix:=ta l p hF hl;rcases Ly p l with ⟨e,h⟩ | ⟨i,hi,e,hp,hb⟩
 ·rw[e]at ix;exact xH l p ix h
 ·rw[e]at ix;exact xI l p hF hl i hi hp hb ix
theorem xO{fF:Nat}{cs:List AV}(l:List Sl)(p:Sl→Bool)(hF:∀x∈l,PC fF [.agg (Ae x),.cptr cs] (vb (p x)))(hl:Ci l):Bj Tryz.prog 70 [.msl 1000 l.length,.clo fF [.cptr cs]] (Ap [(1000,.arr 4 (l.map Ae))] Ab) fun r h'=>r=vi (Iv p l 0)∧h'=Ap [(1000,HO.arr 4 (l.map Ae))] Ab:=by
 have hl:l.length≤1073741824:=hl;refine Cq (M4 ⟨[],[],[],[],[],[],[],[],[],[],[]⟩) [(1000,1000)] rfl CX hm rfl Tryz.func70 (by kernel_rfl) rfl (Nz rfl) (by kernel_rfl) rfl ?_;refine Xi {q:Nat // q≤l.length∧∀j (hj:j<l.length),j<q→p l[j]=false} (Xi (fun q=>⟨[(0,.msl 1000 l.length),(1,.clo fF [.cptr cs]),(7,vi l.length),(8,vi q.1)],[(1000,.arr 4 (l.map Ae))],Ab⟩) (Xi (fun q=>l.length-q.1) (Yi (Xi ⟨0,AF _,fun _ _ h=>absurd h (Cr _)⟩ ?_) ?_)))
 ·exact⟨Z4,Z1,Fh,Az (by kernel_rfl)⟩
 intro⟨i,i1,i2⟩;have i1:i≤l.length:=i1;have i2:∀j (hj:j<l.length),j<i→p l[j]=false:=i2;refine Yi (fun h1=>?_) (fun h1=>?_)
 ·have h1:(i:Int)<(l.length:Int):=h1;have n1:i<l.length:=by omega
  have g1:l[i]?=some l[i]:=Ge n1;refine Yi (by show(0:Int)≤i∧(i:Int)<(l.length:Nat);omega) ?_;refine Yi (show l.length=(l.map Ae).length by rw[Lm]) (Xi (Ae l[i]) (Yi (B3 g1) ?_));refine Yi (Nz rfl) ?_;refine Bp (Bt (p l[i])) (fun h2=>?_) (fun h2=>?_)
  ·have h2:(p l[i])=true:=h2;refine Xi .pure (Xi _ (Yi (cb h2 (hF l[i] (Ak n1))) ?_));exact Xi _ (Yi (.refl _) ⟨show vi i=vi (Iv p l 0) by rw[JI n1 (fun j hj GF=>i2 j hj GF) h2,Fj],rfl⟩)
  have h2:(p l[i])=false:=h2;refine Xi .pure (Xi _ (Yi (cb h2 (hF l[i] (Ak n1))) ?_));refine Yi (Ii i (by omega)) ?_;refine Xi ⟨i+1,n1,fun j hj GF=>if e:j<i then i2 j hj e else by
    have e:j=i:=by omega
    subst e;exact h2⟩ ?_
  exact⟨Dl l.length i (by omega),Z4,Z1,Fh,Az (by kernel_rfl)⟩
 have h1:¬((i:Int)<(l.length:Int)):=h1;have n1:¬i<l.length:=by omega
 exact Xi _ (Yi (.refl _) ⟨show vi (-1)=vi (Iv p l 0) by rw[GG fun j hj=>i2 j hj (by omega)],rfl⟩)
theorem xR{fF:Nat}{cs:List AV}(l:List Sl)(p:Sl→Bool)(ix:Bj Tryz.prog 70 [.msl 1000 l.length,.clo fF [.cptr cs]] (Ap [(1000,.arr 4 (l.map Ae))] Ab) fun r h'=>r=vi (-1)∧h'=Ap [(1000,HO.arr 4 (l.map Ae))] Ab)(Fm:∀j (hj:j<l.length),p l[j]=false):Bj Tryz.prog 88 [.msl 1000 l.length,.clo fF [.cptr cs]] (Ap [(1000,.arr 4 (l.map Ae))] Ab) fun r h'=>r=.msl 2000 (kept p l).length∧h'=Ap [(1000,.dead),(2000,.arr 4 ((kept p l).map Ae))] Ab:=by
 refine Cq (M4 ⟨[],[],[],[],[],[],[],[],[],[(200003,41000)],[3,6,9]⟩) [(1000,1000),(41,2000)] rfl CX hm rfl Tryz.func88 (by kernel_rfl) rfl (Nz rfl) (by kernel_rfl) rfl ?_;refine Xi (.gen [(1000,1000)] 0) (Yi rfl (Bj.to2 (ix) ?_));refine Yi (fun _=>?_) (fun h=>absurd (by decide) h);refine Yi (show l.length=(l.map Ae).length by rw[Lm]) ?_;refine Xi ⟨[(0,.msl 41 l.length)],[(41,.arr 4 (l.map Ae)),(1000,.dead)],Ab⟩ (Yi ⟨Z1,Z2,Fh,Az (by kernel_rfl)⟩ ?_)
 exact Xi _ (Yi (.refl _) ⟨show AV.msl 2000 l.length=.msl 2000 (kept p l).length by rw[KW Fm],show Ap [(1000,HO.dead),(2000,.arr 4 (l.map Ae))] Ab=Ap [(1000,.dead),(2000,.arr 4 ((kept p l).map Ae))] Ab by rw[KW Fm]⟩)
theorem xS{fF:Nat}{cs:List AV}(l:List Sl)(p:Sl→Bool)(hF:∀x∈l,PC fF [.agg (Ae x),.cptr cs] (vb (p x)))(hl:Ci l)(i0:Nat)(gV:i0<l.length)(ic:p l[i0]=true)(hb:∀j (hj:j<l.length),j<i0→p l[j]=false)(ix:Bj Tryz.prog 70 [.msl 1000 l.length,.clo fF [.cptr cs]] (Ap [(1000,.arr 4 (l.map Ae))] Ab) fun r h'=>r=vi (i0:Nat)∧h'=Ap [(1000,HO.arr 4 (l.map Ae))] Ab):Bj Tryz.prog 88 [.msl 1000 l.length,.clo fF [.cptr cs]] (Ap [(1000,.arr 4 (l.map Ae))] Ab) fun r h'=>r=.msl 2000 (kept p l).length∧h'=Ap [(1000,.dead),(2000,.arr 4 ((kept p l).map Ae))] Ab:=by
 have hl:l.length≤1073741824:=hl;refine Cq (M4 ⟨[],[(41,4)],[],[],[],[],[],[],[],[],[6,9]⟩) [(1000,1000),(41,2000)] rfl CX hm rfl Tryz.func88 (by kernel_rfl) rfl (Nz rfl) (by kernel_rfl) rfl ?_;refine Xi (.gen [(1000,1000)] 0) (Yi rfl (Bj.to2 (ix) ?_));refine Yi (fun h2=>?_) (fun h2=>?_)
 ·have h2:(i0:Int)=((-1):Int):=h2;exact absurd h2 (by omega)
 have h2:¬((i0:Int)=((-1):Int)):=h2;refine Yi (Ii i0 (by omega)) ?_;refine Xi {q:Nat×Nat×List Sl // i0<q.1∧q.1≤l.length∧q.2.1=(kept p (l.take q.1)).length∧q.2.2.length=l.length∧q.2.2.take q.2.1=kept p (l.take q.1)∧q.2.2.drop q.1=l.drop q.1} (Xi (fun q=>⟨[(0,.msl 1000 l.length),(1,.clo fF [.cptr cs]),(5,vi q.1.2.1),(6,vi q.1.1)],[(1000,.arr 4 (q.1.2.2.map Ae))],Ab⟩) (Xi (fun q=>l.length-q.1.1) (Yi (Xi ⟨(i0+1,i0,l),G6 _,gV,by show i0=(kept p (l.take (i0+1))).length;rw[Lz gV hb ic,AH];omega,rfl,by show l.take i0=kept p (l.take (i0+1));rw[Lz gV hb ic],rfl⟩ ?_) ?_)))
 ·exact⟨Z4,Z1,Fh,Az (by kernel_rfl)⟩
 intro⟨⟨j,i,N⟩,k0,k1,k2,k3,k4,k5⟩;have k0:i0<j:=k0;have k1:j≤l.length:=k1;have k2:i=(kept p (l.take j)).length:=k2;have k3:N.length=l.length:=k3;have k4:N.take i=kept p (l.take j):=k4;have k5:N.drop j=l.drop j:=k5;have k6:i≤j:=by rw[k2];exact AT (IG _ _) (by rw[AH];omega)
 refine Yi (fun h3=>?_) (fun h3=>?_)
 ·have h3:(j:Int)<(l.length:Int):=h3;have n3:j<l.length:=by omega
  have g3:l[j]?=some l[j]:=Ge n3;have nj:j<N.length:=by omega
  have gj:N[j]?=some N[j]:=Ge nj;refine Yi (by show(0:Int)≤j∧(j:Int)<(l.length:Nat);omega) ?_;refine Yi (show l.length=(N.map Ae).length by rw[Lm];exact k3.symm) (Xi (Ae N[j]) (Yi (B3 gj) ?_));refine Yi (Nz rfl) ?_;refine Yi (Nz rfl) ?_;refine Yi (Nz rfl) ?_;refine Bp (Bt (p N[j])) (fun h4=>?_) (fun h4=>?_)
  ·have h4:(p N[j])=true:=h4;refine Xi .pure (Xi _ (Yi (cb h4 (hF N[j] (by have q:N[j]=l[j]:=(by have q:=Aa (fun z=>z[0]?) k5;simp only[BY,DK]at q;rw[Ge nj,Ge n3]at q;exact Bv q);rw[q];exact Ak _))) ?_));refine Xi ⟨[(0,.msl 1000 l.length),(1,.clo fF [.cptr cs]),(5,vi i),(6,vi j)],[(1000,.arr 4 (N.map Ae))],Ab⟩ (Yi ⟨Z4,Z1,Fh,Az (by kernel_rfl)⟩ ?_)
   refine Yi (Ii j (by omega)) ?_;have eN:N[j]=l[j]:=by have q:=Aa (fun z=>z[0]?) k5;simp only[BY,DK]at q;rw[Ge nj,Ge n3]at q;exact Bv q
   have kn:kept p (l.take (j+1))=kept p (l.take j):=by rw[KV n3,Au (by rw[←eN];exact h4),BS]
   refine Xi ⟨(j+1,i,N),Rn k0,n3,by rw[kn];exact k2,k3,by rw[kn];exact k4,by show N.drop (j+1)=l.drop (j+1);rw[←Ds,←Ds,k5]⟩ ?_;exact⟨Dl l.length j (by omega),Z4,Z1,Fh,Az (by kernel_rfl)⟩
  have h4:(p N[j])=false:=h4;have ni:i<N.length:=by omega
  have gi:N[i]?=some N[i]:=Ge ni;refine Xi .pure (Xi _ (Yi (cb h4 (hF N[j] (by have q:N[j]=l[j]:=(by have q:=Aa (fun z=>z[0]?) k5;simp only[BY,DK]at q;rw[Ge nj,Ge n3]at q;exact Bv q);rw[q];exact Ak _))) ?_));refine Xi ⟨[(0,.msl 1000 l.length),(1,.clo fF [.cptr cs]),(5,vi i),(6,vi j),(7,.ref 7 0)],[(7,.cells (Ae N[j])),(1000,.arr 4 (N.map Ae))],Ab⟩ (Yi ⟨Z5,Z2,Fh,Az (by kernel_rfl)⟩ ?_)
  refine Yi (Nz rfl) ?_;refine Yi (by show(0:Int)≤i∧(i:Int)<(l.length:Nat);omega) ?_;refine Yi (show l.length=(N.map Ae).length by rw[Lm];exact k3.symm) (Xi (Ae N[i]) (Yi (B3 gi) (Yi (Nz rfl) ?_)));refine Yi (Ii i (by omega)) ?_;refine Xi ⟨[(0,.msl 1000 l.length),(1,.clo fF [.cptr cs]),(5,vi (i+1)),(6,vi j)],[(1000,.arr 4 ((N.map Ae).set i [vs N[j].path,vi N[j].ver.a,vi N[j].ver.b,vi N[j].ver.c]))],Ab⟩ (Yi ⟨Z4,Z1,Fh,Az (by kernel_rfl)⟩ ?_)
  refine Yi (Ii j (by omega)) ?_;have eN:N[j]=l[j]:=by have q:=Aa (fun z=>z[0]?) k5;simp only[BY,DK]at q;rw[Ge nj,Ge n3]at q;exact Bv q
  have kn:kept p (l.take (j+1))=kept p (l.take j)++[l[j]]:=by rw[KV n3,Al (by rw[←eN,h4];decide)]
  have ki:i<N.length:=by omega
  refine Xi ⟨(j+1,i+1,N.set i N[j]),Rn k0,n3,by show i+1=(kept p (l.take (j+1))).length;rw[kn,Ad,←k2];rfl,by show(N.set i N[j]).length=_;rw[CH];exact k3,by show(N.set i N[j]).take (i+1)=kept p (l.take (j+1));rw[kn,BA,List.take_set_of_le (Am _),k4,UJ ki,eN];rfl,by show(N.set i N[j]).drop (j+1)=l.drop (j+1);rw[List.drop_set_of_lt (by omega),←Ds,←Ds,k5]⟩ ?_;exact⟨Dl l.length j (by omega),Z4,⟨⟨(show HO.arr 4 ((N.map Ae).set i (Ae N[j]))=.arr 4 ((N.set i N[j]).map Ae) by rw[HF]),rfl⟩,Tv⟩,Fh,Az (by kernel_rfl)⟩
 have h3:¬((j:Int)<(l.length:Int)):=h3;have n3:¬j<l.length:=by omega
 refine Yi (show l.length=(N.map Ae).length∧(0:Int)≤i∧(i:Int)≤((N.map Ae).length:Nat)from⟨by rw[Lm];exact k3.symm,by omega,by rw[Lm];omega⟩) ?_;refine Yi (show l.length=(((N.map Ae).take i++List.replicate ((N.map Ae).length-i) [vs ⟨#[]⟩,vi 0,vi 0,vi 0]):List (List AV)).length∧(0:Int)≤i∧(i:Int)≤((((N.map Ae).take i++List.replicate ((N.map Ae).length-i) [vs ⟨#[]⟩,vi 0,vi 0,vi 0]):List (List AV)).length:Nat)from⟨by rw[Ad,AH,CA,Lm];omega,by omega,by rw[Ad,AH,CA,Lm];omega⟩) ?_;have ej:j=l.length:=by omega
 have e1:kept p l=kept p (l.take j):=by rw[ej,Dq]
 have e2:i=(kept p l).length:=by rw[e1];exact k2
 have e3:((N.map Ae).take i++List.replicate ((N.map Ae).length-i) [vs ⟨#[]⟩,vi 0,vi 0,vi 0]).take i=(kept p l).map Ae:=by
  rw[Eg (by rw[AH,Lm];omega),KG,Nat.min_self,←L8,k4,e1]
 exact Xi _ (Yi (.refl _) ⟨show AV.msl 2000 i=.msl 2000 (kept p l).length from Aa (AV.msl 2000) e2,show Ap [(1000,HO.dead),(2000,.arr 4 (((N.map Ae).take i++List.replicate ((N.map Ae).length-i) [vs ⟨#[]⟩,vi 0,vi 0,vi 0]).take i))] Ab=_ from Aa (fun z=>Ap [(1000,HO.dead),(2000,.arr 4 z)] Ab) e3⟩)
theorem o88{fF:Nat}{cs:List AV}(l:List Sl)(p:Sl→Bool)(hF:∀x∈l,PC fF [.agg (Ae x),.cptr cs] (vb (p x)))(hl:Ci l):Bj Tryz.prog 88 [.msl 1000 l.length,.clo fF [.cptr cs]] (Ap [(1000,.arr 4 (l.map Ae))] Ab) fun r h'=>r=.msl 2000 (kept p l).length∧h'=Ap [(1000,.dead),(2000,.arr 4 ((kept p l).map Ae))] Ab:=by
 have ix:=xO l p hF hl;rcases Ly p l with ⟨e,h⟩ | ⟨i,hi,e,hp,hb⟩
 ·rw[e]at ix;exact xR l p ix h
 ·rw[e]at ix;exact xS l p hF hl i hi hp hb ix
theorem MR{a b:Sl}:(a.path=b.path∧a.ver.a=b.ver.a∧a.ver.b=b.ver.b∧a.ver.c=b.ver.c∧True)↔a=b:=⟨bW,fun e=>by subst e;exact⟨rfl,rfl,rfl,rfl,trivial⟩⟩
abbrev DR(r:Rl):Sl:=⟨r.path,r.ver⟩
abbrev Ih(w:Wk):Rl→Bool:=fun r=>decide (DR r∈w.exc)
abbrev DZ(s:Sl):Rl→Bool:=fun r=>decide (r.path=s.path)&&decide (DR r≠s)
def Mb(s:Sl)(B:List Rl):Int:=Iv (fun r=>decide (DR r=s)) B 0
def PW(B:List Rl)(i:Nat):List Rl:=match B[i]? with | some r=>B.set i { r with yanked:=false } | none=>B
theorem cc{B:List Rl}{i:Nat}{r:Rl}(h:B[i]?=some r):PW B i=B.set i { r with yanked:=false }:=by unfold PW;rw[h]
theorem UC(B:List Rl)(i:Nat):(PW B i).length=B.length:=by unfold PW;split<;>simp
def LX(A:List Rl)(s:Sl):Option (List Rl):=if Mb s (kept (DZ s) A)<0 then none else some (PW (kept (DZ s) A) (Mb s (kept (DZ s) A)).toNat)
def H5:List Sl→List Rl→Option (List Rl)
 | [],A=>some A
 |s::l,A=>(LX A s).bind (H5 l)
def ti:Option (List Rl)→List Rl×Int
 |none=>([],6)
 |some A=>(A,0)
def FR(x:List Rl)(w:Wk):List Rl×Int :=
 if A6 x≠0 then([],1)else if Ct w≠0 then([],Ct w)else if 256<((A4 Ca x w.rep).length:Int)then([],7)else ti (H5 w.pin (kept (Ih w) (A4 Ca x w.rep)))
abbrev Kn(x:List Rl)(ifs:List (List AV))(w:Wk):AV:=.tup [M8 (FR x w).1 (if(FR x w).2=0 then ifs else []),vi (FR x w).2]
theorem Gz{x:List Rl}{ifs:List (List AV)}{w:Wk}{e:Int}(h:FR x w=([],e))(he:e≠0):Hi (.tup [.agg [.v (.slice none 0 0),.v (.slice none 0 0)],vi e]) (Kn x ifs w):=by
 unfold Kn;rw[h,Al he];exact .tup ⟨.agg ⟨.nil,.nil,trivial⟩,.refl _,trivial⟩
theorem XC{x:List Rl}{w:Wk}(h:A6 x≠0):FR x w=([],1):=by unfold FR;rw[Au h]
theorem XD{x:List Rl}{w:Wk}(h:A6 x=0)(h2:Ct w≠0):FR x w=([],Ct w):=by unfold FR;rw[Al (fun c=>c h),Au h2]
theorem XE{x:List Rl}{w:Wk}(h:A6 x=0)(h2:Ct w=0){A:List Rl}(hA:A=A4 Ca x w.rep)(h3:256<(A.length:Int)):FR x w=([],7):=by
 subst hA;unfold FR;rw[Al (fun c=>c h),Al (fun c=>c h2),Au h3]
theorem OU{x:List Rl}{w:Wk}(h:A6 x=0)(h2:Ct w=0){A:List Rl}(hA:A=A4 Ca x w.rep)(h3:¬256<(A.length:Int)){o:Option (List Rl)}(ho:H5 w.pin (kept (Ih w) A)=o):FR x w=ti o:=by
 subst hA;subst ho;unfold FR;rw[Al (fun c=>c h),Al (fun c=>c h2),Al h3]
theorem E9{α:Type}{c:α→α→Int}:∀(n:Nat) (a b:List α) (r:α),r∈Db c n a b→r∈a∨r∈b
 |0,_,_,_,h=>by cases h
 |n+1,a,b,r,h=>by
  cases a with
  |nil =>
   cases b with
   |nil=>cases h
   |cons y b =>
    rcases AC.1 (show r∈y::Db c n [] b from h)with rfl | h
    ·exact .inr (Ac ..)
    ·exact(E9 n [] b r h).imp id (Ah _)
  |cons x a =>
   cases b with
   |nil =>
    rcases AC.1 (show r∈x::Db c n a []from h)with rfl | h
    ·exact .inl (Ac ..)
    ·exact(E9 n a [] r h).imp (Ah _) id
   |cons y b =>
    have h:r∈if c x y<0 then x::Db c n a (y::b)else if c x y=0 then y::Db c n a b else y::Db c n (x::a) b:=h
    split at h
    ·rcases AC.1 h with rfl | h
     ·exact .inl (Ac ..)
     ·exact(E9 n a (y::b) r h).imp (Ah _) id
    ·split at h
     ·rcases AC.1 h with rfl | h
      ·exact .inr (Ac ..)
      ·exact(E9 n a b r h).imp (Ah _) (Ah _)
     ·rcases AC.1 h with rfl | h
      ·exact .inr (Ac ..)
      ·exact(E9 n (x::a) b r h).imp id (Ah _)
theorem JM{α:Type}{c:α→α→Int}{a b:List α}{r:α}(h:r∈A4 c a b):r∈a∨r∈b:=E9 _ a b r h
theorem pt{s:Sl}{B:List Rl}(h:¬Mb s B<0):∃hi:(Mb s B).toNat<B.length,B[(Mb s B).toNat]?=some B[(Mb s B).toNat]:=by
 rcases Ly (fun r=>decide (DR r=s)) B with ⟨e,_⟩ | ⟨i,hi,e,_⟩
 ·exact absurd (show Mb s B<0 by unfold Mb;rw[e];decide) h
 ·have e2:(Mb s B).toNat=i:=by unfold Mb;rw[e];rfl
  rw[e2];exact⟨hi,Ge hi⟩
theorem Y1{l:List Sl}{i:Nat}(h:i<l.length)(A:List Rl):H5 (l.drop i) A=(LX A l[i]).bind (H5 (l.drop (i+1))):=by rw[Bd h];rfl
theorem jt{A B:List Rl}{s:Sl}(hB:B=kept (DZ s) A)(h:¬Mb s B<0):LX A s=some (PW B (Mb s B).toNat):=by subst hB;unfold LX;rw[Al h]
theorem js{A B:List Rl}{s:Sl}(hB:B=kept (DZ s) A)(h:Mb s B<0):LX A s=none:=by subst hB;unfold LX;rw[Au h]
theorem o46(ifs:List (List AV))(hl:Ci ifs)(hs:∀c∈ifs,c.length=5):PC 46 [.slice .none ifs] (.slice .none ifs):=by
 refine Ps EY Tryz.func46 rfl (Nz rfl) ?_;have F3:Da 5 ifs∧([]:List (List AV)).length=0∧(([]:List (List AV)).length+ifs.length)*112≤140737488355328∧([]:List (List AV)).length+ifs.length≤9223372036854775807:=by
  refine⟨KN hs,rfl,?_,?_⟩<;>simp only[AE]<;>unfold Ci at hl<;>omega
 refine Yi ?_ ?_
 ·intro _;exact Yi F3 (.refl _)
 ·intro h;have h:ifs=[]:=h;refine Yi ?_ ?_
  ·show Hi (.v (.slice none 0 0)) (.slice .none ifs);rw[h];exact .nil
  ·exact Yi F3 (.refl _)
theorem o41(r:Rl)(w:Wk)(hl:Ci w.exc):PC 41 [.agg (Ag r),.cptr (BH w)] (vb (Ih w r)):=by
 refine Ps ⟨[2],[],[],[],[],[],[],[],[],[],[]⟩ Tryz.func41 rfl (Nz rfl) ?_;refine Yi (Nz rfl) ?_;refine Xi _ (Yi (s9 r) ?_);refine Bp (Bt (decide (DR r∈w.exc))) (fun h1=>?_) (fun h1=>?_)
 ·have h1:(decide (DR r∈w.exc))=true:=h1;refine Xi _ (Yi (cb h1 (qE w.exc (DR r) hl)) ?_);refine Yi (by kernel_rfl) ?_;exact .of_eq (show vb true=vb (decide (DR r∈w.exc)) by rw[h1])
 have h1:(decide (DR r∈w.exc))=false:=h1;refine Xi _ (Yi (cb h1 (qE w.exc (DR r) hl)) ?_);refine Yi (by kernel_rfl) ?_;exact .of_eq (show vb false=vb (decide (DR r∈w.exc)) by rw[h1])
theorem o45(r:Rl)(s:Sl):PC 45 [.agg (Ag r),.cptr (Ae s)] (vb (decide (DR r=s))):=by
 refine Ps ⟨[2],[],[],[],[],[],[],[],[],[],[]⟩ Tryz.func45 rfl (Nz rfl) ?_;refine Yi (Nz rfl) ?_;refine Xi _ (Yi (s9 r) ?_);refine Yi (Nz rfl) ?_;refine Yi (fun h1=>?_) (fun h1=>?_)
 ·have h1:((DR r).path:ByteArray)=s.path∧((DR r).ver.a:Int)=s.ver.a∧((DR r).ver.b:Int)=s.ver.b∧((DR r).ver.c:Int)=s.ver.c∧True:=h1;refine Yi (by kernel_rfl) ?_;exact .of_eq (show vb true=vb (decide (DR r=s)) by rw[At (MR.1 h1)])
 have h1:¬(((DR r).path:ByteArray)=s.path∧((DR r).ver.a:Int)=s.ver.a∧((DR r).ver.b:Int)=s.ver.b∧((DR r).ver.c:Int)=s.ver.c∧True):=h1;refine Yi (by kernel_rfl) ?_;exact .of_eq (show vb false=vb (decide (DR r=s)) by rw[Aj (fun e=>h1 (MR.2 e))])
theorem o43(r:Rl)(s:Sl):PC 43 [.agg (Ag r),.cptr (Ae s)] (vb (DZ s r)):=by
 refine Ps ⟨[2],[],[],[],[],[],[],[],[],[],[]⟩ Tryz.func43 rfl (Nz rfl) ?_;refine Yi (fun h1=>?_) (fun h1=>?_)
 ·have h1:(r.path:ByteArray)=s.path:=h1;refine Yi (Nz rfl) ?_;refine Xi _ (Yi (s9 r) ?_);refine Yi (Nz rfl) ?_;refine Yi (fun h2=>?_) (fun h2=>?_)
  ·have h2:((DR r).path:ByteArray)=s.path∧((DR r).ver.a:Int)=s.ver.a∧((DR r).ver.b:Int)=s.ver.b∧((DR r).ver.c:Int)=s.ver.c∧True:=h2;refine Yi (by kernel_rfl) ?_;exact .of_eq (show vb false=vb (decide (r.path=s.path)&&decide (DR r≠s)) by rw[At h1,show decide (DR r≠s)=false from Aj (fun e=>e (MR.1 h2))];rfl)
  have h2:¬(((DR r).path:ByteArray)=s.path∧((DR r).ver.a:Int)=s.ver.a∧((DR r).ver.b:Int)=s.ver.b∧((DR r).ver.c:Int)=s.ver.c∧True):=h2;refine Yi (by kernel_rfl) ?_;exact .of_eq (show vb true=vb (decide (r.path=s.path)&&decide (DR r≠s)) by rw[At h1,show decide (DR r≠s)=true from At (fun e=>h2 (MR.2 e))];rfl)
 have h1:¬(r.path:ByteArray)=s.path:=h1;refine Yi (by kernel_rfl) ?_;exact .of_eq (show vb false=vb (decide (r.path=s.path)&&decide (DR r≠s)) by rw[Aj h1];rfl)
theorem o11(x:List Rl)(ifs:List (List AV))(w:Wk)(hx:∀r∈x,Jg r)(Ks:x.length+w.rep.length≤1073741824)(kq:∀r∈x,Ci r.reqs)(hW:Xs w)(Yn:∀r∈w.rep,Ci r.reqs)(kk:Ci ifs)(qq:∀c∈ifs,c.length=5):PC 11 [M8 x ifs,.agg (BH w)] (Kn x ifs w):=by
 obtain⟨A0,hA⟩:∃A,A=A4 Ca x w.rep:=⟨_,rfl⟩;have xf:w.pin.length≤1073741824:=hW.pin;have lp:A0.length≤1073741824:=by rw[hA];exact AT (LD x w.rep) Ks
 have wi:∀r∈A0,Ci r.reqs:=fun r hr=>by rw[hA]at hr;exact(JM hr).elim (kq r) (Yn r)
 have wj:∀r∈A0,∀q∈r.reqs,Ci q.set:=fun r hr q hq=>by rw[hA]at hr;exact(JM hr).elim (fun h=>((hx r h).2 q hq).1) (fun h=>((hW.rep r h).2 q hq).1)
 have bj:PC 38 [sl Ag x,sl Ag w.rep,.v (.func (.func 39) #[] #[])] (sl Ag A0):=by rw[hA];exact o38 x w.rep (by unfold Ci;omega) hW.reps
 refine Ps ⟨[2,3,9],[],[],[],[],[],[],[],[],[(200010,7007),(200015,7007),(200019,7)],[4,6,7,9,10,13,14,15,17,19]⟩ Tryz.func11 rfl (Nz rfl) ?_;refine Yi (Nz rfl) ?_;refine Xi .pure (Xi _ (Yi (rm Zw x ifs hx) ?_));refine Yi (fun h1=>?_) (fun h1=>?_)
 ·have h1:((A6 x):Int)≠(0:Int):=h1;refine Yi (Nz rfl) ?_;refine Yi (Nz rfl) ?_;exact Gz (XC (fun h=>h1 h)) (by decide)
 have h1:((A6 x):Int)=(0:Int):=A9 h1;refine Yi (Nz rfl) ?_;refine Xi .pure (Xi _ (Yi (s8 w hW) ?_));refine Xi ⟨[(2,.ref 2 0),(3,.ref 3 0),(4,.ref 4 0),(6,vi (Ct w))],[(2,.ro (Ic x ifs)),(3,.ro (BH w)),(4,.cells [.v (.slice none 0 0),.v (.slice none 0 0)])],Ab⟩ (Yi ⟨Z4,Z3,Fh,Tv⟩ ?_)
 refine Yi (fun h3=>?_) (fun h3=>?_)
 ·have h3:((Ct w):Int)≠(0:Int):=h3;refine Yi (Nz rfl) ?_;refine Yi (Nz rfl) ?_;exact Gz (XD h1 h3) h3
 have h3:((Ct w):Int)=(0:Int):=A9 h3;refine Xi ⟨[(2,.ref 2 0),(3,.ref 3 0),(4,.ref 4 0)],[(2,.ro (Ic x ifs)),(3,.ro (BH w)),(4,.cells [.v (.slice none 0 0),.v (.slice none 0 0)])],Ab⟩ (Yi ⟨Z3,Z3,Fh,Tv⟩ ?_)
 refine Xi .pure (Xi _ (Yi bj ?_));refine Xi (.gen [] 1) (Yi rfl (Bj.to2 (tL A0 lp wi wj) ?_));refine Xi ⟨[(2,.ref 2 0),(3,.ref 3 0),(4,.ref 4 0),(7,.msl 12600 A0.length)],[(2,.ro (Ic x ifs)),(3,.ro (BH w)),(4,.cells [.v (.slice none 0 0),.v (.slice none 0 0)]),(12600,.arr 9 (A0.map Ag))],Ab⟩ (Yi ⟨Z4,Z4,Fh,Tv⟩ ?_)
 refine Yi (fun h6=>?_) (fun h6=>?_)
 ·have h6:(256:Int)<(A0.length:Int):=h6;have n6:256<A0.length:=by omega
  have g6:A0[256]?=some A0[256]:=Ge n6;refine Yi (Nz rfl) ?_;refine Yi (Nz rfl) ?_;exact Gz (XE h1 h3 hA h6) (by decide)
 have h6:¬((256:Int)<(A0.length:Int)):=h6;have n6:¬256<A0.length:=by omega
 refine Xi ⟨[(2,.ref 2 0),(3,.ref 3 0),(4,.ref 4 0),(7,.msl 12600 A0.length)],[(2,.ro (Ic x ifs)),(3,.ro (BH w)),(4,.cells [.v (.slice none 0 0),.v (.slice none 0 0)]),(12600,.arr 9 (A0.map Ag))],Ab⟩ (Yi ⟨Z4,Z4,Fh,Tv⟩ ?_)
 refine Xi (.gen [(12600,1000)] 1) (Yi rfl (Bj.to2 (o40 A0 (Ih w) (fun r _=>o41 r w hW.exc) lp) ?_));refine Yi (show(kept (Ih w) A0).length=((kept (Ih w) A0).map Ag).length by rw[Lm]) ?_;refine Xi ⟨[(2,.ref 2 0),(3,.ref 3 0),(4,.ref 4 0),(7,.msl 7 (kept (Ih w) A0).length)],[(2,.ro (Ic x ifs)),(3,.ro (BH w)),(4,.cells [.v (.slice none 0 0),.v (.slice none 0 0)]),(7,.arr 9 ((kept (Ih w) A0).map Ag))],Ab⟩ (Yi ⟨Z4,Z4,Fh,Tv⟩ ?_)
 refine Xi {q:Nat×List Rl // q.1≤w.pin.length∧H5 w.pin (kept (Ih w) A0)=H5 (w.pin.drop q.1) q.2∧q.2.length≤256} (Xi (fun q=>⟨[(2,.ref 2 0),(4,.ref 4 0),(7,.msl 7 q.1.2.length),(35,sl Ae w.pin),(36,vi (w.pin.map Ae).length),(37,vi q.1.1)],[(2,.ro (Ic x ifs)),(4,.cells [.v (.slice none 0 0),.v (.slice none 0 0)]),(7,.arr 9 (q.1.2.map Ag))],Ab⟩) (Xi (fun q=>w.pin.length-q.1.1) (Yi (Xi ⟨(0,kept (Ih w) A0),AF _,rfl,AT (IG _ _) (by have q:=h6;omega)⟩ ?_) ?_)))
 ·exact⟨Z6,Z3,Fh,Tv⟩
 intro⟨⟨k,A⟩,k1,k2,kA⟩;have k1:k≤w.pin.length:=k1;have k2:H5 w.pin (kept (Ih w) A0)=H5 (w.pin.drop k) A:=k2;have kA:A.length≤256:=kA;refine Yi (fun h9=>?_) (fun h9=>?_)
 ·have h9:(k:Int)<((w.pin.map Ae).length:Int):=h9;have n9:=Iy h9;refine Xi (Ae w.pin[k]) (Yi (J3 n9) (Yi rfl ?_));refine Yi (Nz rfl) ?_;refine Yi (Nz rfl) ?_;refine Xi ⟨[(2,.ref 2 0),(4,.ref 4 0),(7,.msl 7 A.length),(9,.ref 9 0),(35,sl Ae w.pin),(36,vi (w.pin.map Ae).length),(37,vi k)],[(2,.ro (Ic x ifs)),(4,.cells [.v (.slice none 0 0),.v (.slice none 0 0)]),(7,.arr 9 (A.map Ag)),(9,.ro (Ae w.pin[k]))],Ab⟩ (Yi ⟨Z7,Z4,Fh,Tv⟩ ?_)
  refine Xi (.gen [(7,1000)] 1) (Yi rfl (Bj.to2 (o40 A (DZ w.pin[k]) (fun r _=>o43 r w.pin[k]) (AT kA (by decide))) ?_));refine Xi ⟨[(2,.ref 2 0),(4,.ref 4 0),(7,.msl 14300 (kept (DZ w.pin[k]) A).length),(9,.ref 9 0),(35,sl Ae w.pin),(36,vi (w.pin.map Ae).length),(37,vi k)],[(2,.ro (Ic x ifs)),(4,.cells [.v (.slice none 0 0),.v (.slice none 0 0)]),(9,.ro (Ae w.pin[k])),(14300,.arr 9 ((kept (DZ w.pin[k]) A).map Ag))],Ab⟩ (Yi ⟨Z7,Z4,Fh,Tv⟩ ?_)
  refine Xi (.gen [(14300,1000)] 0) (Yi rfl (Bj.to2 (ta (kept (DZ w.pin[k]) A) (fun r=>decide (DR r=w.pin[k])) (fun r _=>o45 r w.pin[k]) (AT (IG _ _) (AT kA (by decide)))) ?_));refine Yi (show(kept (DZ w.pin[k]) A).length=((kept (DZ w.pin[k]) A).map Ag).length by rw[Lm]) ?_;refine Xi ⟨[(2,.ref 2 0),(4,.ref 4 0),(7,.msl 7 (kept (DZ w.pin[k]) A).length),(10,vi (Mb w.pin[k] (kept (DZ w.pin[k]) A))),(35,sl Ae w.pin),(36,vi (w.pin.map Ae).length),(37,vi k)],[(2,.ro (Ic x ifs)),(4,.cells [.v (.slice none 0 0),.v (.slice none 0 0)]),(7,.arr 9 ((kept (DZ w.pin[k]) A).map Ag))],Ab⟩ (Yi ⟨Z7,Z3,Fh,Tv⟩ ?_)
  refine Yi (fun Iu=>?_) (fun Iu=>?_)
  ·have Iu:((Mb w.pin[k] (kept (DZ w.pin[k]) A)):Int)<(0:Int):=Iu;refine Yi (Nz rfl) ?_;refine Yi (Nz rfl) ?_;have eP:H5 w.pin (kept (Ih w) A0)=none:=by rw[k2,Y1 n9,js rfl Iu];rfl
   exact Gz (OU h1 h3 hA h6 eP) (by decide)
  have Iu:¬(((Mb w.pin[k] (kept (DZ w.pin[k]) A)):Int)<(0:Int)):=Iu;refine BM (pt Iu) (fun h9 g9=>?_);refine Xi ⟨[(2,.ref 2 0),(4,.ref 4 0),(7,.msl 7 (kept (DZ w.pin[k]) A).length),(10,vi (Mb w.pin[k] (kept (DZ w.pin[k]) A))),(35,sl Ae w.pin),(36,vi (w.pin.map Ae).length),(37,vi k)],[(2,.ro (Ic x ifs)),(4,.cells [.v (.slice none 0 0),.v (.slice none 0 0)]),(7,.arr 9 ((kept (DZ w.pin[k]) A).map Ag))],Ab⟩ (Yi ⟨Z7,Z3,Fh,Tv⟩ ?_)
  refine Yi (by show(0:Int)≤(Mb w.pin[k] (kept (DZ w.pin[k]) A))∧((Mb w.pin[k] (kept (DZ w.pin[k]) A)):Int)<((kept (DZ w.pin[k]) A).length:Nat);omega) ?_;refine Yi (show(kept (DZ w.pin[k]) A).length=((kept (DZ w.pin[k]) A).map Ag).length by rw[Lm]) (Xi (Ag ((kept (DZ w.pin[k]) A)[(Mb w.pin[k] (kept (DZ w.pin[k]) A)).toNat])) (Yi (B3 g9) (Yi (Nz rfl) ?_)));refine Yi (Ii k (by omega)) ?_;have eU:((kept (DZ w.pin[k]) A).map Ag).set (Mb w.pin[k] (kept (DZ w.pin[k]) A)).toNat [vs ((kept (DZ w.pin[k]) A)[(Mb w.pin[k] (kept (DZ w.pin[k]) A)).toNat]).path,vi ((kept (DZ w.pin[k]) A)[(Mb w.pin[k] (kept (DZ w.pin[k]) A)).toNat]).ver.a,vi ((kept (DZ w.pin[k]) A)[(Mb w.pin[k] (kept (DZ w.pin[k]) A)).toNat]).ver.b,vi ((kept (DZ w.pin[k]) A)[(Mb w.pin[k] (kept (DZ w.pin[k]) A)).toNat]).ver.c,sl AM ((kept (DZ w.pin[k]) A)[(Mb w.pin[k] (kept (DZ w.pin[k]) A)).toNat]).reqs,vs ((kept (DZ w.pin[k]) A)[(Mb w.pin[k] (kept (DZ w.pin[k]) A)).toNat]).arch,vs ((kept (DZ w.pin[k]) A)[(Mb w.pin[k] (kept (DZ w.pin[k]) A)).toNat]).ifc,vs ((kept (DZ w.pin[k]) A)[(Mb w.pin[k] (kept (DZ w.pin[k]) A)).toNat]).cert,vb false]=(PW (kept (DZ w.pin[k]) A) (Mb w.pin[k] (kept (DZ w.pin[k]) A)).toNat).map Ag:=by rw[cc g9,HF]
  have eP:H5 w.pin (kept (Ih w) A0)=H5 (w.pin.drop (k+1)) (PW (kept (DZ w.pin[k]) A) (Mb w.pin[k] (kept (DZ w.pin[k]) A)).toNat):=by rw[k2,Y1 n9,jt rfl Iu];rfl
  refine Xi ⟨(k+1,(PW (kept (DZ w.pin[k]) A) (Mb w.pin[k] (kept (DZ w.pin[k]) A)).toNat)),n9,eP,by show(PW _ _).length≤256;rw[UC];exact AT (IG _ _) kA⟩ ?_;exact⟨Dl w.pin.length k (by omega),⟨Zr,Zr,⟨(show AV.msl 7 (kept (DZ w.pin[k]) A).length=.msl 7 (PW (kept (DZ w.pin[k]) A) (Mb w.pin[k] (kept (DZ w.pin[k]) A)).toNat).length by rw[UC]),rfl⟩,Zr,Zr,Zr,Tv⟩,⟨Zr,Zr,⟨(Aa (HO.arr 9) eU),rfl⟩,Tv⟩,Fh,Tv⟩
 have h9:¬((k:Int)<((w.pin.map Ae).length:Int)):=h9;have n9:=Ix h9;refine Yi (show A.length=(A.map Ag).length by rw[Lm]) ?_;refine Xi ⟨[(2,.ref 2 0),(4,.ref 4 0),(7,sl Ag A)],[(2,.ro (Ic x ifs)),(4,.cells [.v (.slice none 0 0),.v (.slice none 0 0)])],Ab⟩ (Yi ⟨Z3,Z2,Fh,Tv⟩ ?_)
 refine Xi .pure (Xi _ (Yi (o46 ifs kk qq) ?_));refine Yi (Nz rfl) ?_;refine Yi (Nz rfl) ?_;have eP:H5 w.pin (kept (Ih w) A0)=some A:=by rw[k2,DJ (by have q:=h9;rw[Lm]at q;omega)];rfl
 have eR:=OU h1 h3 hA h6 eP;exact .of_eq (show _=Kn x ifs w by unfold Kn;rw[eR];rfl)
abbrev MB(l o:List Sl):List Sl:=kept (fun s=>decide (s∈o)) l
abbrev kz:Wk:=⟨[],[],[]⟩
def JN(a b:Wk):Wk×Int :=
 if Ct a≠0 then(kz,Ct a)else if Ct b≠0 then(kz,Ct b)else if 256<((A4 Ca a.rep b.rep).length:Int)then(kz,7)else
  (⟨A4 Ca a.rep b.rep,MB (A4 Gn a.exc b.exc) b.pin,A4 Lo (MB a.pin b.exc) b.pin⟩,0)
abbrev aj(p:Wk×Int):AV:=.tup [.agg (BH p.1),vi p.2]
theorem Oq{p:Wk×Int}{e:Int}(h:p=(kz,e)):Hi (.tup [.agg [.v (.slice none 0 0),.v (.slice none 0 0),.v (.slice none 0 0)],vi e]) (aj p):=by
 subst h;exact .tup ⟨.agg ⟨.nil,.nil,.nil,trivial⟩,.refl _,trivial⟩
theorem iJ{a b:Wk}(h:Ct a≠0):JN a b=(kz,Ct a):=by unfold JN;rw[Au h]
theorem iK{a b:Wk}(h:Ct a=0)(h2:Ct b≠0):JN a b=(kz,Ct b):=by unfold JN;rw[Al (fun c=>c h),Au h2]
theorem iL{a b:Wk}(h:Ct a=0)(h2:Ct b=0){A:List Rl}(hA:A=A4 Ca a.rep b.rep)(h3:256<(A.length:Int)):JN a b=(kz,7):=by
 subst hA;unfold JN;rw[Al (fun c=>c h),Al (fun c=>c h2),Au h3]
theorem iM{a b:Wk}(h:Ct a=0)(h2:Ct b=0){A:List Rl}(hA:A=A4 Ca a.rep b.rep)(h3:¬256<(A.length:Int)):JN a b=(⟨A,MB (A4 Gn a.exc b.exc) b.pin,A4 Lo (MB a.pin b.exc) b.pin⟩,0):=by
 subst hA;unfold JN;rw[Al (fun c=>c h),Al (fun c=>c h2),Al h3]
theorem o90(s:Sl)(o:List Sl)(hl:Ci o):PC 90 [.agg (Ae s),.cptr [sl Ae o]] (vb (decide (s∈o))):=by
 refine Ps ⟨[2],[],[],[],[],[],[],[],[],[],[]⟩ Tryz.func90 rfl (Nz rfl) ?_;refine Yi (Nz rfl) ?_;refine Bp (Bt (decide (s∈o))) (fun h1=>?_) (fun h1=>?_)
 ·have h1:(decide (s∈o))=true:=h1;refine Xi .pure (Xi _ (Yi (cb h1 (qE o s hl)) ?_));exact .of_eq (show vb true=vb (decide (s∈o)) by rw[h1])
 have h1:(decide (s∈o))=false:=h1;refine Xi .pure (Xi _ (Yi (cb h1 (qE o s hl)) ?_));exact .of_eq (show vb false=vb (decide (s∈o)) by rw[h1])
theorem o62(l o:List Sl)(hl:Ci l)(ho:Ci o):PC 62 [sl Ae l,sl Ae o] (sl Ae (MB l o)):=by
 refine Ps ⟨[3],[],[],[],[],[],[],[],[],[(4,8)],[]⟩ Tryz.func62 rfl (Nz rfl) ?_;refine Xi (.gen [] 1) (Yi rfl (Bj.to2 (tM l hl) ?_));refine Xi (.gen [(10600,1000)] 1) (Yi rfl (Bj.to2 (o88 l (fun s=>decide (s∈o)) (fun s _=>o90 s o ho) hl) ?_));refine Yi (show(MB l o).length=((MB l o).map Ae).length by rw[Lm]) ?_;exact .refl _
theorem o17(a b:Wk)(Zb:Xs a)(hB:Xs b)(Ks:a.rep.length+b.rep.length≤1073741824)(xn:a.exc.length+b.exc.length≤1073741824)(har:∀r∈a.rep,Ci r.reqs)(hbr:∀r∈b.rep,Ci r.reqs):PC 17 [.agg (BH a),.agg (BH b)] (aj (JN a b)):=by
 obtain⟨A0,hA⟩:∃A,A=A4 Ca a.rep b.rep:=⟨_,rfl⟩;have lp:A0.length≤1073741824:=by rw[hA];exact AT (LD a.rep b.rep) Ks
 have wi:∀r∈A0,Ci r.reqs:=fun r hr=>by rw[hA]at hr;exact(JM hr).elim (har r) (hbr r)
 have wj:∀r∈A0,∀q∈r.reqs,Ci q.set:=fun r hr q hq=>by rw[hA]at hr;exact(JM hr).elim (fun h=>((Zb.rep r h).2 q hq).1) (fun h=>((hB.rep r h).2 q hq).1)
 have bj:PC 38 [sl Ag a.rep,sl Ag b.rep,.v (.func (.func 39) #[] #[])] (sl Ag A0):=by rw[hA];exact o38 a.rep b.rep Zb.reps hB.reps
 have hE:Ci (A4 Gn a.exc b.exc):=AT (LD a.exc b.exc) xn;refine Ps ⟨[2,3,7],[],[],[],[],[],[],[],[],[(100010,10)],[4,7,8,9,10,11,12,13,14]⟩ Tryz.func17 rfl (Nz rfl) ?_;refine Yi (Nz rfl) ?_;refine Yi (Nz rfl) ?_;refine Xi {q:Nat // q≤2∧(0<q→Ct a=0)∧(1<q→Ct b=0)} (Xi (fun q=>⟨[(2,.ref 2 0),(3,.ref 3 0),(4,.ref 4 0),(13,.slice (.id 13 3) [(BH a),(BH b)]),(14,vi 2),(15,vi q.1)],[(2,.ro (BH a)),(3,.ro (BH b)),(4,.cells [.v (.slice none 0 0),.v (.slice none 0 0),.v (.slice none 0 0)]),(13,.tok 3 2)],Ab⟩) (Xi (fun q=>2-q.1) (Yi (Xi ⟨0,by decide,fun h=>absurd h (by decide),fun h=>absurd h (by decide)⟩ ?_) ?_)))
 ·exact⟨Z6,Z4,Fh,Tv⟩
 intro⟨i,i1,i2,i3⟩;have i1:i≤2:=i1;have i2:0<i→Ct a=0:=i2;have i3:1<i→Ct b=0:=i3;refine Yi (fun h1=>?_) (fun h1=>?_)
 ·have h1:(i:Int)<(2:Int):=h1;refine Bp (show i=0∨i=1 by omega) (fun hi=>?_) (fun hi=>?_)
  ·have hi:i=0:=hi;refine Xi (BH a) (Yi (show(0:Int)≤(i:Int)∧[BH a,BH b][((i:Nat):Int).toNat]?=some (BH a)from⟨OL _,by rw[hi];rfl⟩) (Yi rfl ?_));refine Yi (Nz rfl) ?_;refine Yi (Nz rfl) ?_;refine Xi ⟨[(2,.ref 2 0),(3,.ref 3 0),(4,.ref 4 0),(7,.ref 7 0),(13,.slice (.id 13 3) [(BH a),(BH b)]),(14,vi 2),(15,vi i)],[(2,.ro (BH a)),(3,.ro (BH b)),(4,.cells [.v (.slice none 0 0),.v (.slice none 0 0),.v (.slice none 0 0)]),(7,.ro (BH a)),(13,.tok 3 2)],Ab⟩ (Yi ⟨Z7,Z5,Fh,Tv⟩ ?_)
   refine Yi (Nz rfl) ?_;refine Xi .pure (Xi _ (Yi (s8 a Zb) ?_));refine Yi (fun h2=>?_) (fun h2=>?_)
   ·have h2:((Ct a):Int)≠(0:Int):=h2;refine Yi (Nz rfl) ?_;refine Yi (Nz rfl) ?_;exact Oq (iJ h2)
   have h2:((Ct a):Int)=(0:Int):=A9 h2;refine Xi ⟨[(2,.ref 2 0),(3,.ref 3 0),(4,.ref 4 0),(13,.slice (.id 13 3) [(BH a),(BH b)]),(14,vi 2),(15,vi i)],[(2,.ro (BH a)),(3,.ro (BH b)),(4,.cells [.v (.slice none 0 0),.v (.slice none 0 0),.v (.slice none 0 0)]),(13,.tok 3 2)],Ab⟩ (Yi ⟨Z6,Z4,Fh,Tv⟩ ?_)
   refine Yi (Ii i (by omega)) ?_;refine Xi ⟨i+1,by omega,fun _=>h2,fun h=>absurd h (by omega)⟩ ?_;exact⟨Dl 2 i (by omega),Z6,Z4,Fh,Tv⟩
  refine Xi (BH b) (Yi (show(0:Int)≤(i:Int)∧[BH a,BH b][((i:Nat):Int).toNat]?=some (BH b)from⟨OL _,by rw[hi];rfl⟩) (Yi rfl ?_));refine Yi (Nz rfl) ?_;refine Yi (Nz rfl) ?_;refine Xi ⟨[(2,.ref 2 0),(3,.ref 3 0),(4,.ref 4 0),(7,.ref 7 0),(13,.slice (.id 13 3) [(BH a),(BH b)]),(14,vi 2),(15,vi i)],[(2,.ro (BH a)),(3,.ro (BH b)),(4,.cells [.v (.slice none 0 0),.v (.slice none 0 0),.v (.slice none 0 0)]),(7,.ro (BH b)),(13,.tok 3 2)],Ab⟩ (Yi ⟨Z7,Z5,Fh,Tv⟩ ?_)
  refine Yi (Nz rfl) ?_;refine Xi .pure (Xi _ (Yi (s8 b hB) ?_));refine Yi (fun h5=>?_) (fun h5=>?_)
  ·have h5:((Ct b):Int)≠(0:Int):=h5;refine Yi (Nz rfl) ?_;refine Yi (Nz rfl) ?_;exact Oq (iK (i2 (by omega)) h5)
  have h5:((Ct b):Int)=(0:Int):=A9 h5;refine Xi ⟨[(2,.ref 2 0),(3,.ref 3 0),(4,.ref 4 0),(13,.slice (.id 13 3) [(BH a),(BH b)]),(14,vi 2),(15,vi i)],[(2,.ro (BH a)),(3,.ro (BH b)),(4,.cells [.v (.slice none 0 0),.v (.slice none 0 0),.v (.slice none 0 0)]),(13,.tok 3 2)],Ab⟩ (Yi ⟨Z6,Z4,Fh,Tv⟩ ?_)
  refine Yi (Ii i (by omega)) ?_;refine Xi ⟨i+1,by omega,fun _=>i2 (by omega),fun _=>h5⟩ ?_;exact⟨Dl 2 i (by omega),Z6,Z4,Fh,Tv⟩
 have h1:¬((i:Int)<(2:Int)):=h1;refine Xi ⟨[(2,.ref 2 0),(3,.ref 3 0),(4,.ref 4 0)],[(2,.ro (BH a)),(3,.ro (BH b)),(4,.cells [.v (.slice none 0 0),.v (.slice none 0 0),.v (.slice none 0 0)])],Ab⟩ (Yi ⟨Z3,Z3,Fh,Tv⟩ ?_)
 refine Xi ⟨[(2,.ref 2 0),(3,.ref 3 0),(4,.ref 4 0),(9,.v (.func (.func 61) #[] #[]))],[(2,.ro (BH a)),(3,.ro (BH b)),(4,.cells [.v (.slice none 0 0),.v (.slice none 0 0),.v (.slice none 0 0)])],Ab⟩ (Yi ⟨Z4,Z3,Fh,Tv⟩ ?_)
 refine Xi .pure (Xi _ (Yi bj ?_));refine Xi (.gen [] 1) (Yi rfl (Bj.to2 (tL A0 lp wi wj) ?_));refine Yi (Nz rfl) ?_;refine Yi (show A0.length=(A0.map Ag).length by rw[Lm]) ?_;refine Xi ⟨[(2,.ref 2 0),(3,.ref 3 0),(4,.ref 4 0),(9,.v (.func (.func 61) #[] #[])),(10,.ref 10 0)],[(2,.ro (BH a)),(3,.ro (BH b)),(4,.cells [.v (.slice none 0 0),.v (.slice none 0 0),.v (.slice none 0 0)]),(10,.cells [.slice (.id 13100 9) (A0.map Ag),.v (.slice none 0 0),.v (.slice none 0 0)]),(13100,.tok 9 (A0.map Ag).length)],Ab⟩ (Yi ⟨Z5,Z5,Fh,Tv⟩ ?_)
 refine Yi (fun h9=>?_) (fun h9=>?_)
 ·have h9:(256:Int)<((A0.map Ag).length:Int):=h9;have n9:256<A0.length:=by have q:=h9;rw[Lm]at q;omega
  refine Xi ⟨[(4,.ref 4 0)],[(4,.cells [.v (.slice none 0 0),.v (.slice none 0 0),.v (.slice none 0 0)])],Ab⟩ (Yi ⟨Z1,Z1,Fh,Tv⟩ ?_)
  refine Yi (Nz rfl) ?_;refine Yi (Nz rfl) ?_;have ja:=i2 (by omega);have jb:=i3 (by omega);exact Oq (iL ja jb hA (by have q:=h9;rw[Lm]at q;exact q))
 have h9:¬((256:Int)<((A0.map Ag).length:Int)):=h9;have n9:¬256<A0.length:=by have q:=h9;rw[Lm]at q;omega
 refine Xi ⟨[(2,.ref 2 0),(3,.ref 3 0),(4,.ref 4 0),(9,.v (.func (.func 61) #[] #[])),(10,.ref 10 0)],[(2,.ro (BH a)),(3,.ro (BH b)),(4,.cells [.v (.slice none 0 0),.v (.slice none 0 0),.v (.slice none 0 0)]),(10,.cells [.slice (.id 13100 9) (A0.map Ag),.v (.slice none 0 0),.v (.slice none 0 0)]),(13100,.tok 9 (A0.map Ag).length)],Ab⟩ (Yi ⟨Z5,Z5,Fh,Tv⟩ ?_)
 refine Xi _ (Yi (xN a.exc b.exc Zb.exc hB.exc) ?_);refine Xi _ (Yi (o62 (A4 Gn a.exc b.exc) b.pin hE hB.pin) ?_);refine Yi (Nz rfl) ?_;refine Yi (by kernel_rfl) ?_;refine Xi ⟨[(2,.ref 2 0),(3,.ref 3 0),(4,.ref 4 0),(9,.v (.func (.func 61) #[] #[])),(10,.ref 10 0)],[(2,.ro (BH a)),(3,.ro (BH b)),(4,.cells [.v (.slice none 0 0),.v (.slice none 0 0),.v (.slice none 0 0)]),(10,.cells [.slice (.id 13100 9) (A0.map Ag),sl Ae (MB (A4 Gn a.exc b.exc) b.pin),.v (.slice none 0 0)]),(13100,.tok 9 (A0.map Ag).length)],Ab⟩ (Yi ⟨Z5,Z5,Fh,Tv⟩ ?_)
 refine Xi _ (Yi (o62 a.pin b.exc Zb.pin hB.exc) ?_);refine Xi _ (Yi (xM (MB a.pin b.exc) b.pin (AT (IG _ _) Zb.pin) hB.pin) ?_);refine Yi (Nz rfl) ?_;refine Yi (by kernel_rfl) ?_;refine Xi ⟨[(4,.ref 4 0),(10,.ref 10 0)],[(4,.cells [.v (.slice none 0 0),.v (.slice none 0 0),.v (.slice none 0 0)]),(10,.cells [.slice (.id 13100 9) (A0.map Ag),sl Ae (MB (A4 Gn a.exc b.exc) b.pin),sl Ae (A4 Lo (MB a.pin b.exc) b.pin)]),(13100,.tok 9 (A0.map Ag).length)],Ab⟩ (Yi ⟨Z2,Z3,Fh,Tv⟩ ?_)
 refine Yi (Nz rfl) ?_;refine Yi (Nz rfl) ?_;refine Yi (Nz rfl) ?_;have ja:=i2 (by omega);have jb:=i3 (by omega);have eM:=iM ja jb hA (by have q:=h9;rw[Lm]at q;exact q);exact .of_eq (show _=aj (JN a b) by rw[eM];rfl)
end Go.Eng
