/- Lemmas for the claims of this seat, without a condition: part 26 (O6, O7, O8). -/
import Derived.Test.YtmcbkdbfaneofaaGreatDoorA25
set_option maxHeartbeats 4000000
namespace Go.Eng
open Go.Proofs
abbrev kept{α:Type}(p:α→Bool)(l:List α):List α:=l.filter fun x=>!p x
theorem Kj{α:Type}(p:α→Bool)(l:List α):(kept p l).length≤l.length:=BB _ _
theorem KX{α:Type}{p:α→Bool}{l:List α}{j:Nat}(h:j<l.length):kept p (l.take (j+1))=kept p (l.take j)++(if p l[j]=true then []else [l[j]]):=by
 unfold kept;rw[BC,DZ,Ge h];cases e:p l[j]<;>simp[e]
theorem KY{α:Type}{p:α→Bool}{l:List α}(h:∀j (hj:j<l.length),p l[j]=false):kept p l=l:=by
 rw[List.filter_eq_self];intro x hx;obtain⟨j,hj,rfl⟩:=BR.1 hx;rw[h j hj];rfl
theorem LA{α:Type}{p:α→Bool}{l:List α}{i:Nat}(hi:i<l.length)(h:∀j (hj:j<l.length),j<i→p l[j]=false)(hp:p l[i]=true):kept p (l.take (i+1))=l.take i:=by
 rw[KX hi,Ax hp,BE,KY];intro j hj;rw[ES];rw[AC]at hj;exact h j (by omega) (by omega)
theorem Ob{α:Type}(p:α→Bool)(l:List α):(Iw p l 0=-1∧∀j (hj:j<l.length),p l[j]=false)∨∃i,∃hi:i<l.length,Iw p l 0=(i:Int)∧p l[i]=true∧∀j (hj:j<l.length),j<i→p l[j]=false:=by
 by_cases h:∃i,∃hi:i<l.length,p l[i]=true
 ·obtain⟨i,hm⟩:=nG h;obtain⟨⟨hi,hp⟩,hl⟩:=hm;have hl:∀j (hj:j<l.length),j<i→p l[j]=false:=fun j hj GA=>by
   cases e:p l[j]with
   |false=>rfl
   |true=>exact absurd ⟨hj,e⟩ (hl j GA)
  exact .inr ⟨i,hi,by rw[JN hi (fun j hj GA=>hl j hj GA) hp,Fl],hp,hl⟩
 ·have hl:∀j (hj:j<l.length),p l[j]=false:=fun j hj=>by
   cases e:p l[j]with
   |false=>rfl
   |true=>exact absurd ⟨j,hj,e⟩ h
  exact .inl ⟨by rw[GI fun j hj=>hl j hj],hl⟩
theorem tf{fF:Nat}{cs:List AV}(l:List Rl)(p:Rl→Bool)(hF:∀x∈l,PC fF [.agg (Ai x),.cptr cs] (vb (p x)))(hl:Co l):Bm Tryz.prog 44 [.msl 1000 l.length,.clo fF [.cptr cs]] (Aq [(1000,.arr 9 (l.map Ai))] Aa) fun r h'=>r=vi (Iw p l 0)∧h'=Aq [(1000,HO.arr 9 (l.map Ai))] Aa:=by
 have hl:l.length≤1073741824:=hl;refine Ct (MZ ⟨[],[],[],[],[],[],[],[],[],[],[]⟩) [(1000,1000)] rfl CY hm rfl Tryz.func44 (by kernel_rfl) rfl (Nz rfl) (by kernel_rfl) rfl ?_;refine Xi {q:Nat // q≤l.length∧∀j (hj:j<l.length),j<q→p l[j]=false} (Xi (fun q=>⟨[(0,.msl 1000 l.length),(1,.clo fF [.cptr cs]),(7,vi l.length),(8,vi q.1)],[(1000,.arr 9 (l.map Ai))],Aa⟩) (Xi (fun q=>l.length-q.1) (Yi (Xi ⟨0,AG _,fun _ _ h=>absurd h (Cu _)⟩ ?_) ?_)))
 ·exact⟨Z4,Z1,Fh,AD (by kernel_rfl)⟩
 intro⟨i,i1,i2⟩;have i1:i≤l.length:=i1;have i2:∀j (hj:j<l.length),j<i→p l[j]=false:=i2;refine Yi (fun h1=>?_) (fun h1=>?_)
 ·have h1:(i:Int)<(l.length:Int):=h1;have n1:i<l.length:=by omega
  have g1:l[i]?=some l[i]:=Ge n1;refine Yi (by show(0:Int)≤i∧(i:Int)<(l.length:Nat);omega) ?_;refine Yi (show l.length=(l.map Ai).length by rw[Lm]) (Xi (Ai l[i]) (Yi (B4 g1) ?_));refine Yi (Nz rfl) ?_;refine Bq (Bt (p l[i])) (fun h2=>?_) (fun h2=>?_)
  ·have h2:(p l[i])=true:=h2;refine Xi .pure (Xi _ (Yi (cb h2 (hF l[i] (Ak n1))) ?_));exact Xi _ (Yi (.refl _) ⟨show vi i=vi (Iw p l 0) by rw[JN n1 (fun j hj GA=>i2 j hj GA) h2,Fl],rfl⟩)
  have h2:(p l[i])=false:=h2;refine Xi .pure (Xi _ (Yi (cb h2 (hF l[i] (Ak n1))) ?_));refine Yi (Ii i (by omega)) ?_;refine Xi ⟨i+1,n1,fun j hj GA=>if e:j<i then i2 j hj e else by
    have e:j=i:=by omega
    subst e;exact h2⟩ ?_
  exact⟨Dl l.length i (by omega),Z4,Z1,Fh,AD (by kernel_rfl)⟩
 have h1:¬((i:Int)<(l.length:Int)):=h1;have n1:¬i<l.length:=by omega
 exact Xi _ (Yi (.refl _) ⟨show vi (-1)=vi (Iw p l 0) by rw[GI fun j hj=>i2 j hj (by omega)],rfl⟩)
theorem xM{fF:Nat}{cs:List AV}(l:List Rl)(p:Rl→Bool)(ix:Bm Tryz.prog 44 [.msl 1000 l.length,.clo fF [.cptr cs]] (Aq [(1000,.arr 9 (l.map Ai))] Aa) fun r h'=>r=vi (-1)∧h'=Aq [(1000,HO.arr 9 (l.map Ai))] Aa)(Fp:∀j (hj:j<l.length),p l[j]=false):Bm Tryz.prog 40 [.msl 1000 l.length,.clo fF [.cptr cs]] (Aq [(1000,.arr 9 (l.map Ai))] Aa) fun r h'=>r=.msl 2000 (kept p l).length∧h'=Aq [(1000,.dead),(2000,.arr 9 ((kept p l).map Ai))] Aa:=by
 refine Ct (MZ ⟨[],[],[],[],[],[],[],[],[],[(200003,41000)],[3,6,9]⟩) [(1000,1000),(41,2000)] rfl CY hm rfl Tryz.func40 (by kernel_rfl) rfl (Nz rfl) (by kernel_rfl) rfl ?_;refine Xi (.gen [(1000,1000)] 0) (Yi rfl (Bm.to2 (ix) ?_));refine Yi (fun _=>?_) (fun h=>absurd (by decide) h);refine Yi (show l.length=(l.map Ai).length by rw[Lm]) ?_;refine Xi ⟨[(0,.msl 41 l.length)],[(41,.arr 9 (l.map Ai)),(1000,.dead)],Aa⟩ (Yi ⟨Z1,Z2,Fh,AD (by kernel_rfl)⟩ ?_)
 exact Xi _ (Yi (.refl _) ⟨show AV.msl 2000 l.length=.msl 2000 (kept p l).length by rw[KY Fp],show Aq [(1000,HO.dead),(2000,.arr 9 (l.map Ai))] Aa=Aq [(1000,.dead),(2000,.arr 9 ((kept p l).map Ai))] Aa by rw[KY Fp]⟩)
theorem xN{fF:Nat}{cs:List AV}(l:List Rl)(p:Rl→Bool)(hF:∀x∈l,PC fF [.agg (Ai x),.cptr cs] (vb (p x)))(hl:Co l)(i0:Nat)(ig:i0<l.length)(iq:p l[i0]=true)(hb:∀j (hj:j<l.length),j<i0→p l[j]=false)(ix:Bm Tryz.prog 44 [.msl 1000 l.length,.clo fF [.cptr cs]] (Aq [(1000,.arr 9 (l.map Ai))] Aa) fun r h'=>r=vi (i0:Nat)∧h'=Aq [(1000,HO.arr 9 (l.map Ai))] Aa):Bm Tryz.prog 40 [.msl 1000 l.length,.clo fF [.cptr cs]] (Aq [(1000,.arr 9 (l.map Ai))] Aa) fun r h'=>r=.msl 2000 (kept p l).length∧h'=Aq [(1000,.dead),(2000,.arr 9 ((kept p l).map Ai))] Aa:=by
 have hl:l.length≤1073741824:=hl;refine Ct (MZ ⟨[],[(41,9)],[],[],[],[],[],[],[],[],[6,9]⟩) [(1000,1000),(41,2000)] rfl CY hm rfl Tryz.func40 (by kernel_rfl) rfl (Nz rfl) (by kernel_rfl) rfl ?_;refine Xi (.gen [(1000,1000)] 0) (Yi rfl (Bm.to2 (ix) ?_));refine Yi (fun h2=>?_) (fun h2=>?_)
 ·have h2:(i0:Int)=((-1):Int):=h2;exact absurd h2 (by omega)
 have h2:¬((i0:Int)=((-1):Int)):=h2;refine Yi (Ii i0 (by omega)) ?_;refine Xi {q:Nat×Nat×List Rl // i0<q.1∧q.1≤l.length∧q.2.1=(kept p (l.take q.1)).length∧q.2.2.length=l.length∧q.2.2.take q.2.1=kept p (l.take q.1)∧q.2.2.drop q.1=l.drop q.1} (Xi (fun q=>⟨[(0,.msl 1000 l.length),(1,.clo fF [.cptr cs]),(5,vi q.1.2.1),(6,vi q.1.1)],[(1000,.arr 9 (q.1.2.2.map Ai))],Aa⟩) (Xi (fun q=>l.length-q.1.1) (Yi (Xi ⟨(i0+1,i0,l),Ha _,ig,by show i0=(kept p (l.take (i0+1))).length;rw[LA ig hb iq,AC];omega,rfl,by show l.take i0=kept p (l.take (i0+1));rw[LA ig hb iq],rfl⟩ ?_) ?_)))
 ·exact⟨Z4,Z1,Fh,AD (by kernel_rfl)⟩
 intro⟨⟨j,i,N⟩,k0,k1,k2,k3,k4,k5⟩;have k0:i0<j:=k0;have k1:j≤l.length:=k1;have k2:i=(kept p (l.take j)).length:=k2;have k3:N.length=l.length:=k3;have k4:N.take i=kept p (l.take j):=k4;have k5:N.drop j=l.drop j:=k5;have k6:i≤j:=by rw[k2];exact A3 (Kj _ _) (by rw[AC];omega)
 refine Yi (fun h3=>?_) (fun h3=>?_)
 ·have h3:(j:Int)<(l.length:Int):=h3;have n3:j<l.length:=by omega
  have g3:l[j]?=some l[j]:=Ge n3;have nj:j<N.length:=by omega
  have gj:N[j]?=some N[j]:=Ge nj;refine Yi (by show(0:Int)≤j∧(j:Int)<(l.length:Nat);omega) ?_;refine Yi (show l.length=(N.map Ai).length by rw[Lm];exact k3.symm) (Xi (Ai N[j]) (Yi (B4 gj) ?_));refine Yi (Nz rfl) ?_;refine Yi (Nz rfl) ?_;refine Yi (Nz rfl) ?_;refine Bq (Bt (p N[j])) (fun h4=>?_) (fun h4=>?_)
  ·have h4:(p N[j])=true:=h4;refine Xi .pure (Xi _ (Yi (cb h4 (hF N[j] (by have q:N[j]=l[j]:=(by have q:=Ab (fun z=>z[0]?) k5;simp only[BZ,DJ]at q;rw[Ge nj,Ge n3]at q;exact BA q);rw[q];exact Ak _))) ?_));refine Xi ⟨[(0,.msl 1000 l.length),(1,.clo fF [.cptr cs]),(5,vi i),(6,vi j)],[(1000,.arr 9 (N.map Ai))],Aa⟩ (Yi ⟨Z4,Z1,Fh,AD (by kernel_rfl)⟩ ?_)
   refine Yi (Ii j (by omega)) ?_;have eN:N[j]=l[j]:=by have q:=Ab (fun z=>z[0]?) k5;simp only[BZ,DJ]at q;rw[Ge nj,Ge n3]at q;exact BA q
   have kn:kept p (l.take (j+1))=kept p (l.take j):=by rw[KX n3,Ax (by rw[←eN];exact h4),BE]
   refine Xi ⟨(j+1,i,N),Rn k0,n3,by rw[kn];exact k2,k3,by rw[kn];exact k4,by show N.drop (j+1)=l.drop (j+1);rw[←Dr,←Dr,k5]⟩ ?_;exact⟨Dl l.length j (by omega),Z4,Z1,Fh,AD (by kernel_rfl)⟩
  have h4:(p N[j])=false:=h4;have ni:i<N.length:=by omega
  have gi:N[i]?=some N[i]:=Ge ni;refine Xi .pure (Xi _ (Yi (cb h4 (hF N[j] (by have q:N[j]=l[j]:=(by have q:=Ab (fun z=>z[0]?) k5;simp only[BZ,DJ]at q;rw[Ge nj,Ge n3]at q;exact BA q);rw[q];exact Ak _))) ?_));refine Xi ⟨[(0,.msl 1000 l.length),(1,.clo fF [.cptr cs]),(5,vi i),(6,vi j),(7,.ref 7 0)],[(7,.cells (Ai N[j])),(1000,.arr 9 (N.map Ai))],Aa⟩ (Yi ⟨Z5,Z2,Fh,AD (by kernel_rfl)⟩ ?_)
  refine Yi (Nz rfl) ?_;refine Yi (by show(0:Int)≤i∧(i:Int)<(l.length:Nat);omega) ?_;refine Yi (show l.length=(N.map Ai).length by rw[Lm];exact k3.symm) (Xi (Ai N[i]) (Yi (B4 gi) (Yi (Nz rfl) ?_)));refine Yi (Ii i (by omega)) ?_;refine Xi ⟨[(0,.msl 1000 l.length),(1,.clo fF [.cptr cs]),(5,vi (i+1)),(6,vi j)],[(1000,.arr 9 ((N.map Ai).set i [vs N[j].path,vi N[j].ver.a,vi N[j].ver.b,vi N[j].ver.c,sl AN N[j].reqs,vs N[j].arch,vs N[j].ifc,vs N[j].cert,vb N[j].yanked]))],Aa⟩ (Yi ⟨Z4,Z1,Fh,AD (by kernel_rfl)⟩ ?_)
  refine Yi (Ii j (by omega)) ?_;have eN:N[j]=l[j]:=by have q:=Ab (fun z=>z[0]?) k5;simp only[BZ,DJ]at q;rw[Ge nj,Ge n3]at q;exact BA q
  have kn:kept p (l.take (j+1))=kept p (l.take j)++[l[j]]:=by rw[KX n3,Ao (by rw[←eN,h4];decide)]
  have ki:i<N.length:=by omega
  refine Xi ⟨(j+1,i+1,N.set i N[j]),Rn k0,n3,by show i+1=(kept p (l.take (j+1))).length;rw[kn,Ad,←k2];rfl,by show(N.set i N[j]).length=_;rw[CG];exact k3,by show(N.set i N[j]).take (i+1)=kept p (l.take (j+1));rw[kn,BC,List.take_set_of_le (Al _),k4,UO ki,eN];rfl,by show(N.set i N[j]).drop (j+1)=l.drop (j+1);rw[List.drop_set_of_lt (by omega),←Dr,←Dr,k5]⟩ ?_;exact⟨Dl l.length j (by omega),Z4,⟨⟨(show HO.arr 9 ((N.map Ai).set i (Ai N[j]))=.arr 9 ((N.set i N[j]).map Ai) by rw[HJ]),rfl⟩,Tv⟩,Fh,AD (by kernel_rfl)⟩
 have h3:¬((j:Int)<(l.length:Int)):=h3;have n3:¬j<l.length:=by omega
 refine Yi (show l.length=(N.map Ai).length∧(0:Int)≤i∧(i:Int)≤((N.map Ai).length:Nat)from⟨by rw[Lm];exact k3.symm,by omega,by rw[Lm];omega⟩) ?_;refine Yi (show l.length=(((N.map Ai).take i++List.replicate ((N.map Ai).length-i) [vs ⟨#[]⟩,vi 0,vi 0,vi 0,.v (.slice none 0 0),vs ⟨#[]⟩,vs ⟨#[]⟩,vs ⟨#[]⟩,vb false]):List (List AV)).length∧(0:Int)≤i∧(i:Int)≤((((N.map Ai).take i++List.replicate ((N.map Ai).length-i) [vs ⟨#[]⟩,vi 0,vi 0,vi 0,.v (.slice none 0 0),vs ⟨#[]⟩,vs ⟨#[]⟩,vs ⟨#[]⟩,vb false]):List (List AV)).length:Nat)from⟨by rw[Ad,AC,CA,Lm];omega,by omega,by rw[Ad,AC,CA,Lm];omega⟩) ?_;have ej:j=l.length:=by omega
 have e1:kept p l=kept p (l.take j):=by rw[ej,Dp]
 have e2:i=(kept p l).length:=by rw[e1];exact k2
 have e3:((N.map Ai).take i++List.replicate ((N.map Ai).length-i) [vs ⟨#[]⟩,vi 0,vi 0,vi 0,.v (.slice none 0 0),vs ⟨#[]⟩,vs ⟨#[]⟩,vs ⟨#[]⟩,vb false]).take i=(kept p l).map Ai:=by
  rw[Ef (by rw[AC,Lm];omega),KJ,Nat.min_self,←JE,k4,e1]
 exact Xi _ (Yi (.refl _) ⟨show AV.msl 2000 i=.msl 2000 (kept p l).length from Ab (AV.msl 2000) e2,show Aq [(1000,HO.dead),(2000,.arr 9 (((N.map Ai).take i++List.replicate ((N.map Ai).length-i) [vs ⟨#[]⟩,vi 0,vi 0,vi 0,.v (.slice none 0 0),vs ⟨#[]⟩,vs ⟨#[]⟩,vs ⟨#[]⟩,vb false]).take i))] Aa=_ from Ab (fun z=>Aq [(1000,HO.dead),(2000,.arr 9 z)] Aa) e3⟩)
theorem o40{fF:Nat}{cs:List AV}(l:List Rl)(p:Rl→Bool)(hF:∀x∈l,PC fF [.agg (Ai x),.cptr cs] (vb (p x)))(hl:Co l):Bm Tryz.prog 40 [.msl 1000 l.length,.clo fF [.cptr cs]] (Aq [(1000,.arr 9 (l.map Ai))] Aa) fun r h'=>r=.msl 2000 (kept p l).length∧h'=Aq [(1000,.dead),(2000,.arr 9 ((kept p l).map Ai))] Aa:=by
 have ix:=tf l p hF hl;rcases Ob p l with ⟨e,h⟩ | ⟨i,hi,e,hp,hb⟩
 ·rw[e]at ix;exact xM l p ix h
 ·rw[e]at ix;exact xN l p hF hl i hi hp hb ix
theorem xT{fF:Nat}{cs:List AV}(l:List Sl)(p:Sl→Bool)(hF:∀x∈l,PC fF [.agg (Ae x),.cptr cs] (vb (p x)))(hl:Co l):Bm Tryz.prog 70 [.msl 1000 l.length,.clo fF [.cptr cs]] (Aq [(1000,.arr 4 (l.map Ae))] Aa) fun r h'=>r=vi (Iw p l 0)∧h'=Aq [(1000,HO.arr 4 (l.map Ae))] Aa:=by
 have hl:l.length≤1073741824:=hl;refine Ct (MZ ⟨[],[],[],[],[],[],[],[],[],[],[]⟩) [(1000,1000)] rfl CY hm rfl Tryz.func70 (by kernel_rfl) rfl (Nz rfl) (by kernel_rfl) rfl ?_;refine Xi {q:Nat // q≤l.length∧∀j (hj:j<l.length),j<q→p l[j]=false} (Xi (fun q=>⟨[(0,.msl 1000 l.length),(1,.clo fF [.cptr cs]),(7,vi l.length),(8,vi q.1)],[(1000,.arr 4 (l.map Ae))],Aa⟩) (Xi (fun q=>l.length-q.1) (Yi (Xi ⟨0,AG _,fun _ _ h=>absurd h (Cu _)⟩ ?_) ?_)))
 ·exact⟨Z4,Z1,Fh,AD (by kernel_rfl)⟩
 intro⟨i,i1,i2⟩;have i1:i≤l.length:=i1;have i2:∀j (hj:j<l.length),j<i→p l[j]=false:=i2;refine Yi (fun h1=>?_) (fun h1=>?_)
 ·have h1:(i:Int)<(l.length:Int):=h1;have n1:i<l.length:=by omega
  have g1:l[i]?=some l[i]:=Ge n1;refine Yi (by show(0:Int)≤i∧(i:Int)<(l.length:Nat);omega) ?_;refine Yi (show l.length=(l.map Ae).length by rw[Lm]) (Xi (Ae l[i]) (Yi (B4 g1) ?_));refine Yi (Nz rfl) ?_;refine Bq (Bt (p l[i])) (fun h2=>?_) (fun h2=>?_)
  ·have h2:(p l[i])=true:=h2;refine Xi .pure (Xi _ (Yi (cb h2 (hF l[i] (Ak n1))) ?_));exact Xi _ (Yi (.refl _) ⟨show vi i=vi (Iw p l 0) by rw[JN n1 (fun j hj GA=>i2 j hj GA) h2,Fl],rfl⟩)
  have h2:(p l[i])=false:=h2;refine Xi .pure (Xi _ (Yi (cb h2 (hF l[i] (Ak n1))) ?_));refine Yi (Ii i (by omega)) ?_;refine Xi ⟨i+1,n1,fun j hj GA=>if e:j<i then i2 j hj e else by
    have e:j=i:=by omega
    subst e;exact h2⟩ ?_
  exact⟨Dl l.length i (by omega),Z4,Z1,Fh,AD (by kernel_rfl)⟩
 have h1:¬((i:Int)<(l.length:Int)):=h1;have n1:¬i<l.length:=by omega
 exact Xi _ (Yi (.refl _) ⟨show vi (-1)=vi (Iw p l 0) by rw[GI fun j hj=>i2 j hj (by omega)],rfl⟩)
theorem xW{fF:Nat}{cs:List AV}(l:List Sl)(p:Sl→Bool)(ix:Bm Tryz.prog 70 [.msl 1000 l.length,.clo fF [.cptr cs]] (Aq [(1000,.arr 4 (l.map Ae))] Aa) fun r h'=>r=vi (-1)∧h'=Aq [(1000,HO.arr 4 (l.map Ae))] Aa)(Fp:∀j (hj:j<l.length),p l[j]=false):Bm Tryz.prog 88 [.msl 1000 l.length,.clo fF [.cptr cs]] (Aq [(1000,.arr 4 (l.map Ae))] Aa) fun r h'=>r=.msl 2000 (kept p l).length∧h'=Aq [(1000,.dead),(2000,.arr 4 ((kept p l).map Ae))] Aa:=by
 refine Ct (MZ ⟨[],[],[],[],[],[],[],[],[],[(200003,41000)],[3,6,9]⟩) [(1000,1000),(41,2000)] rfl CY hm rfl Tryz.func88 (by kernel_rfl) rfl (Nz rfl) (by kernel_rfl) rfl ?_;refine Xi (.gen [(1000,1000)] 0) (Yi rfl (Bm.to2 (ix) ?_));refine Yi (fun _=>?_) (fun h=>absurd (by decide) h);refine Yi (show l.length=(l.map Ae).length by rw[Lm]) ?_;refine Xi ⟨[(0,.msl 41 l.length)],[(41,.arr 4 (l.map Ae)),(1000,.dead)],Aa⟩ (Yi ⟨Z1,Z2,Fh,AD (by kernel_rfl)⟩ ?_)
 exact Xi _ (Yi (.refl _) ⟨show AV.msl 2000 l.length=.msl 2000 (kept p l).length by rw[KY Fp],show Aq [(1000,HO.dead),(2000,.arr 4 (l.map Ae))] Aa=Aq [(1000,.dead),(2000,.arr 4 ((kept p l).map Ae))] Aa by rw[KY Fp]⟩)
theorem xX{fF:Nat}{cs:List AV}(l:List Sl)(p:Sl→Bool)(hF:∀x∈l,PC fF [.agg (Ae x),.cptr cs] (vb (p x)))(hl:Co l)(i0:Nat)(ig:i0<l.length)(iq:p l[i0]=true)(hb:∀j (hj:j<l.length),j<i0→p l[j]=false)(ix:Bm Tryz.prog 70 [.msl 1000 l.length,.clo fF [.cptr cs]] (Aq [(1000,.arr 4 (l.map Ae))] Aa) fun r h'=>r=vi (i0:Nat)∧h'=Aq [(1000,HO.arr 4 (l.map Ae))] Aa):Bm Tryz.prog 88 [.msl 1000 l.length,.clo fF [.cptr cs]] (Aq [(1000,.arr 4 (l.map Ae))] Aa) fun r h'=>r=.msl 2000 (kept p l).length∧h'=Aq [(1000,.dead),(2000,.arr 4 ((kept p l).map Ae))] Aa:=by
 have hl:l.length≤1073741824:=hl;refine Ct (MZ ⟨[],[(41,4)],[],[],[],[],[],[],[],[],[6,9]⟩) [(1000,1000),(41,2000)] rfl CY hm rfl Tryz.func88 (by kernel_rfl) rfl (Nz rfl) (by kernel_rfl) rfl ?_;refine Xi (.gen [(1000,1000)] 0) (Yi rfl (Bm.to2 (ix) ?_));refine Yi (fun h2=>?_) (fun h2=>?_)
 ·have h2:(i0:Int)=((-1):Int):=h2;exact absurd h2 (by omega)
 have h2:¬((i0:Int)=((-1):Int)):=h2;refine Yi (Ii i0 (by omega)) ?_;refine Xi {q:Nat×Nat×List Sl // i0<q.1∧q.1≤l.length∧q.2.1=(kept p (l.take q.1)).length∧q.2.2.length=l.length∧q.2.2.take q.2.1=kept p (l.take q.1)∧q.2.2.drop q.1=l.drop q.1} (Xi (fun q=>⟨[(0,.msl 1000 l.length),(1,.clo fF [.cptr cs]),(5,vi q.1.2.1),(6,vi q.1.1)],[(1000,.arr 4 (q.1.2.2.map Ae))],Aa⟩) (Xi (fun q=>l.length-q.1.1) (Yi (Xi ⟨(i0+1,i0,l),Ha _,ig,by show i0=(kept p (l.take (i0+1))).length;rw[LA ig hb iq,AC];omega,rfl,by show l.take i0=kept p (l.take (i0+1));rw[LA ig hb iq],rfl⟩ ?_) ?_)))
 ·exact⟨Z4,Z1,Fh,AD (by kernel_rfl)⟩
 intro⟨⟨j,i,N⟩,k0,k1,k2,k3,k4,k5⟩;have k0:i0<j:=k0;have k1:j≤l.length:=k1;have k2:i=(kept p (l.take j)).length:=k2;have k3:N.length=l.length:=k3;have k4:N.take i=kept p (l.take j):=k4;have k5:N.drop j=l.drop j:=k5;have k6:i≤j:=by rw[k2];exact A3 (Kj _ _) (by rw[AC];omega)
 refine Yi (fun h3=>?_) (fun h3=>?_)
 ·have h3:(j:Int)<(l.length:Int):=h3;have n3:j<l.length:=by omega
  have g3:l[j]?=some l[j]:=Ge n3;have nj:j<N.length:=by omega
  have gj:N[j]?=some N[j]:=Ge nj;refine Yi (by show(0:Int)≤j∧(j:Int)<(l.length:Nat);omega) ?_;refine Yi (show l.length=(N.map Ae).length by rw[Lm];exact k3.symm) (Xi (Ae N[j]) (Yi (B4 gj) ?_));refine Yi (Nz rfl) ?_;refine Yi (Nz rfl) ?_;refine Yi (Nz rfl) ?_;refine Bq (Bt (p N[j])) (fun h4=>?_) (fun h4=>?_)
  ·have h4:(p N[j])=true:=h4;refine Xi .pure (Xi _ (Yi (cb h4 (hF N[j] (by have q:N[j]=l[j]:=(by have q:=Ab (fun z=>z[0]?) k5;simp only[BZ,DJ]at q;rw[Ge nj,Ge n3]at q;exact BA q);rw[q];exact Ak _))) ?_));refine Xi ⟨[(0,.msl 1000 l.length),(1,.clo fF [.cptr cs]),(5,vi i),(6,vi j)],[(1000,.arr 4 (N.map Ae))],Aa⟩ (Yi ⟨Z4,Z1,Fh,AD (by kernel_rfl)⟩ ?_)
   refine Yi (Ii j (by omega)) ?_;have eN:N[j]=l[j]:=by have q:=Ab (fun z=>z[0]?) k5;simp only[BZ,DJ]at q;rw[Ge nj,Ge n3]at q;exact BA q
   have kn:kept p (l.take (j+1))=kept p (l.take j):=by rw[KX n3,Ax (by rw[←eN];exact h4),BE]
   refine Xi ⟨(j+1,i,N),Rn k0,n3,by rw[kn];exact k2,k3,by rw[kn];exact k4,by show N.drop (j+1)=l.drop (j+1);rw[←Dr,←Dr,k5]⟩ ?_;exact⟨Dl l.length j (by omega),Z4,Z1,Fh,AD (by kernel_rfl)⟩
  have h4:(p N[j])=false:=h4;have ni:i<N.length:=by omega
  have gi:N[i]?=some N[i]:=Ge ni;refine Xi .pure (Xi _ (Yi (cb h4 (hF N[j] (by have q:N[j]=l[j]:=(by have q:=Ab (fun z=>z[0]?) k5;simp only[BZ,DJ]at q;rw[Ge nj,Ge n3]at q;exact BA q);rw[q];exact Ak _))) ?_));refine Xi ⟨[(0,.msl 1000 l.length),(1,.clo fF [.cptr cs]),(5,vi i),(6,vi j),(7,.ref 7 0)],[(7,.cells (Ae N[j])),(1000,.arr 4 (N.map Ae))],Aa⟩ (Yi ⟨Z5,Z2,Fh,AD (by kernel_rfl)⟩ ?_)
  refine Yi (Nz rfl) ?_;refine Yi (by show(0:Int)≤i∧(i:Int)<(l.length:Nat);omega) ?_;refine Yi (show l.length=(N.map Ae).length by rw[Lm];exact k3.symm) (Xi (Ae N[i]) (Yi (B4 gi) (Yi (Nz rfl) ?_)));refine Yi (Ii i (by omega)) ?_;refine Xi ⟨[(0,.msl 1000 l.length),(1,.clo fF [.cptr cs]),(5,vi (i+1)),(6,vi j)],[(1000,.arr 4 ((N.map Ae).set i [vs N[j].path,vi N[j].ver.a,vi N[j].ver.b,vi N[j].ver.c]))],Aa⟩ (Yi ⟨Z4,Z1,Fh,AD (by kernel_rfl)⟩ ?_)
  refine Yi (Ii j (by omega)) ?_;have eN:N[j]=l[j]:=by have q:=Ab (fun z=>z[0]?) k5;simp only[BZ,DJ]at q;rw[Ge nj,Ge n3]at q;exact BA q
  have kn:kept p (l.take (j+1))=kept p (l.take j)++[l[j]]:=by rw[KX n3,Ao (by rw[←eN,h4];decide)]
  have ki:i<N.length:=by omega
  refine Xi ⟨(j+1,i+1,N.set i N[j]),Rn k0,n3,by show i+1=(kept p (l.take (j+1))).length;rw[kn,Ad,←k2];rfl,by show(N.set i N[j]).length=_;rw[CG];exact k3,by show(N.set i N[j]).take (i+1)=kept p (l.take (j+1));rw[kn,BC,List.take_set_of_le (Al _),k4,UO ki,eN];rfl,by show(N.set i N[j]).drop (j+1)=l.drop (j+1);rw[List.drop_set_of_lt (by omega),←Dr,←Dr,k5]⟩ ?_;exact⟨Dl l.length j (by omega),Z4,⟨⟨(show HO.arr 4 ((N.map Ae).set i (Ae N[j]))=.arr 4 ((N.set i N[j]).map Ae) by rw[HJ]),rfl⟩,Tv⟩,Fh,AD (by kernel_rfl)⟩
 have h3:¬((j:Int)<(l.length:Int)):=h3;have n3:¬j<l.length:=by omega
 refine Yi (show l.length=(N.map Ae).length∧(0:Int)≤i∧(i:Int)≤((N.map Ae).length:Nat)from⟨by rw[Lm];exact k3.symm,by omega,by rw[Lm];omega⟩) ?_;refine Yi (show l.length=(((N.map Ae).take i++List.replicate ((N.map Ae).length-i) [vs ⟨#[]⟩,vi 0,vi 0,vi 0]):List (List AV)).length∧(0:Int)≤i∧(i:Int)≤((((N.map Ae).take i++List.replicate ((N.map Ae).length-i) [vs ⟨#[]⟩,vi 0,vi 0,vi 0]):List (List AV)).length:Nat)from⟨by rw[Ad,AC,CA,Lm];omega,by omega,by rw[Ad,AC,CA,Lm];omega⟩) ?_;have ej:j=l.length:=by omega
 have e1:kept p l=kept p (l.take j):=by rw[ej,Dp]
 have e2:i=(kept p l).length:=by rw[e1];exact k2
 have e3:((N.map Ae).take i++List.replicate ((N.map Ae).length-i) [vs ⟨#[]⟩,vi 0,vi 0,vi 0]).take i=(kept p l).map Ae:=by
  rw[Ef (by rw[AC,Lm];omega),KJ,Nat.min_self,←JE,k4,e1]
 exact Xi _ (Yi (.refl _) ⟨show AV.msl 2000 i=.msl 2000 (kept p l).length from Ab (AV.msl 2000) e2,show Aq [(1000,HO.dead),(2000,.arr 4 (((N.map Ae).take i++List.replicate ((N.map Ae).length-i) [vs ⟨#[]⟩,vi 0,vi 0,vi 0]).take i))] Aa=_ from Ab (fun z=>Aq [(1000,HO.dead),(2000,.arr 4 z)] Aa) e3⟩)
theorem o88{fF:Nat}{cs:List AV}(l:List Sl)(p:Sl→Bool)(hF:∀x∈l,PC fF [.agg (Ae x),.cptr cs] (vb (p x)))(hl:Co l):Bm Tryz.prog 88 [.msl 1000 l.length,.clo fF [.cptr cs]] (Aq [(1000,.arr 4 (l.map Ae))] Aa) fun r h'=>r=.msl 2000 (kept p l).length∧h'=Aq [(1000,.dead),(2000,.arr 4 ((kept p l).map Ae))] Aa:=by
 have ix:=xT l p hF hl;rcases Ob p l with ⟨e,h⟩ | ⟨i,hi,e,hp,hb⟩
 ·rw[e]at ix;exact xW l p ix h
 ·rw[e]at ix;exact xX l p hF hl i hi hp hb ix
theorem QV{a b:Sl}:(a.path=b.path∧a.ver.a=b.ver.a∧a.ver.b=b.ver.b∧a.ver.c=b.ver.c∧True)↔a=b:=⟨ci,fun e=>by subst e;exact⟨rfl,rfl,rfl,rfl,trivial⟩⟩
abbrev Gx(r:Rl):Sl:=⟨r.path,r.ver⟩
abbrev Pb(w:Wk):Rl→Bool:=fun r=>decide (Gx r∈w.exc)
abbrev EC(s:Sl):Rl→Bool:=fun r=>decide (r.path=s.path)&&decide (Gx r≠s)
def Ns(s:Sl)(B:List Rl):Int:=Iw (fun r=>decide (Gx r=s)) B 0
def UH(B:List Rl)(i:Nat):List Rl:=match B[i]? with | some r=>B.set i { r with yanked:=false } | none=>B
theorem mP{B:List Rl}{i:Nat}{r:Rl}(h:B[i]?=some r):UH B i=B.set i { r with yanked:=false }:=by unfold UH;rw[h]
theorem Zh(B:List Rl)(i:Nat):(UH B i).length=B.length:=by unfold UH;split<;>simp
def V4(A:List Rl)(s:Sl):Option (List Rl):=if Ns s (kept (EC s) A)<0 then none else some (UH (kept (EC s) A) (Ns s (kept (EC s) A)).toNat)
def Lb:List Sl→List Rl→Option (List Rl)
 | [],A=>some A
 |s::l,A=>(V4 A s).bind (Lb l)
def tt:Option (List Rl)→List Rl×Int
 |none=>([],6)
 |some A=>(A,0)
def It(x:List Rl)(w:Wk):List Rl×Int :=
 if A9 x≠0 then([],1)else if B6 w≠0 then([],B6 w)else if 256<((AW Cj x w.rep).length:Int)then([],7)else tt (Lb w.pin (kept (Pb w) (AW Cj x w.rep)))
abbrev Qh(x:List Rl)(ifs:List (List AV))(w:Wk):AV:=.tup [RF (It x w).1 (if(It x w).2=0 then ifs else []),vi (It x w).2]
theorem Ll{x:List Rl}{ifs:List (List AV)}{w:Wk}{e:Int}(h:It x w=([],e))(he:e≠0):Hm (.tup [.agg [.v (.slice none 0 0),.v (.slice none 0 0)],vi e]) (Qh x ifs w):=by
 unfold Qh;rw[h,Ao he];exact .tup ⟨.agg ⟨.nil,.nil,trivial⟩,.refl _,trivial⟩
theorem fQ{x:List Rl}{w:Wk}(h:A9 x≠0):It x w=([],1):=by unfold It;rw[Ax h]
theorem fR{x:List Rl}{w:Wk}(h:A9 x=0)(h2:B6 w≠0):It x w=([],B6 w):=by unfold It;rw[Ao (fun c=>c h),Ax h2]
theorem fS{x:List Rl}{w:Wk}(h:A9 x=0)(h2:B6 w=0){A:List Rl}(hA:A=AW Cj x w.rep)(h3:256<(A.length:Int)):It x w=([],7):=by
 subst hA;unfold It;rw[Ao (fun c=>c h),Ao (fun c=>c h2),Ax h3]
theorem XJ{x:List Rl}{w:Wk}(h:A9 x=0)(h2:B6 w=0){A:List Rl}(hA:A=AW Cj x w.rep)(h3:¬256<(A.length:Int)){o:Option (List Rl)}(ho:Lb w.pin (kept (Pb w) A)=o):It x w=tt o:=by
 subst hA;subst ho;unfold It;rw[Ao (fun c=>c h),Ao (fun c=>c h2),Ao h3]
theorem Fb{α:Type}{c:α→α→Int}:∀(n:Nat) (a b:List α) (r:α),r∈CB c n a b→r∈a∨r∈b
 |0,_,_,_,h=>by cases h
 |n+1,a,b,r,h=>by
  cases a with
  |nil =>
   cases b with
   |nil=>cases h
   |cons y b =>
    rcases Av.1 (show r∈y::CB c n [] b from h)with rfl | h
    ·exact .inr (Ac ..)
    ·exact(Fb n [] b r h).imp id (Af _)
  |cons x a =>
   cases b with
   |nil =>
    rcases Av.1 (show r∈x::CB c n a []from h)with rfl | h
    ·exact .inl (Ac ..)
    ·exact(Fb n a [] r h).imp (Af _) id
   |cons y b =>
    have h:r∈if c x y<0 then x::CB c n a (y::b)else if c x y=0 then y::CB c n a b else y::CB c n (x::a) b:=h
    split at h
    ·rcases Av.1 h with rfl | h
     ·exact .inl (Ac ..)
     ·exact(Fb n a (y::b) r h).imp (Af _) id
    ·split at h
     ·rcases Av.1 h with rfl | h
      ·exact .inr (Ac ..)
      ·exact(Fb n a b r h).imp (Af _) (Af _)
     ·rcases Av.1 h with rfl | h
      ·exact .inr (Ac ..)
      ·exact(Fb n (x::a) b r h).imp id (Af _)
theorem GL{α:Type}{c:α→α→Int}{a b:List α}{r:α}(h:r∈AW c a b):r∈a∨r∈b:=Fb _ a b r h
theorem pz{s:Sl}{B:List Rl}(h:¬Ns s B<0):∃hi:(Ns s B).toNat<B.length,B[(Ns s B).toNat]?=some B[(Ns s B).toNat]:=by
 rcases Ob (fun r=>decide (Gx r=s)) B with ⟨e,_⟩ | ⟨i,hi,e,_⟩
 ·exact absurd (show Ns s B<0 by unfold Ns;rw[e];decide) h
 ·have e2:(Ns s B).toNat=i:=by unfold Ns;rw[e];rfl
  rw[e2];exact⟨hi,Ge hi⟩
theorem Zd{l:List Sl}{i:Nat}(h:i<l.length)(A:List Rl):Lb (l.drop i) A=(V4 A l[i]).bind (Lb (l.drop (i+1))):=by rw[Be h];rfl
theorem jw{A B:List Rl}{s:Sl}(hB:B=kept (EC s) A)(h:¬Ns s B<0):V4 A s=some (UH B (Ns s B).toNat):=by subst hB;unfold V4;rw[Ao h]
theorem jv{A B:List Rl}{s:Sl}(hB:B=kept (EC s) A)(h:Ns s B<0):V4 A s=none:=by subst hB;unfold V4;rw[Ax h]
theorem o46(ifs:List (List AV))(hl:Co ifs)(hs:∀c∈ifs,c.length=5):PC 46 [.slice .none ifs] (.slice .none ifs):=by
 refine Ps E8 Tryz.func46 rfl (Nz rfl) ?_;have F8:CT 5 ifs∧([]:List (List AV)).length=0∧(([]:List (List AV)).length+ifs.length)*112≤140737488355328∧([]:List (List AV)).length+ifs.length≤9223372036854775807:=by
  refine⟨Jt hs,rfl,?_,?_⟩<;>simp only[Ay]<;>unfold Co at hl<;>omega
 refine Yi ?_ ?_
 ·intro _;exact Yi F8 (.refl _)
 ·intro h;have h:ifs=[]:=h;refine Yi ?_ ?_
  ·show Hm (.v (.slice none 0 0)) (.slice .none ifs);rw[h];exact .nil
  ·exact Yi F8 (.refl _)
theorem o41(r:Rl)(w:Wk)(hl:Co w.exc):PC 41 [.agg (Ai r),.cptr (Bc w)] (vb (Pb w r)):=by
 refine Ps ⟨[2],[],[],[],[],[],[],[],[],[],[]⟩ Tryz.func41 rfl (Nz rfl) ?_;refine Yi (Nz rfl) ?_;refine Xi _ (Yi (te r) ?_);refine Bq (Bt (decide (Gx r∈w.exc))) (fun h1=>?_) (fun h1=>?_)
 ·have h1:(decide (Gx r∈w.exc))=true:=h1;refine Xi _ (Yi (cb h1 (qH w.exc (Gx r) hl)) ?_);refine Yi (by kernel_rfl) ?_;exact .of_eq (show vb true=vb (decide (Gx r∈w.exc)) by rw[h1])
 have h1:(decide (Gx r∈w.exc))=false:=h1;refine Xi _ (Yi (cb h1 (qH w.exc (Gx r) hl)) ?_);refine Yi (by kernel_rfl) ?_;exact .of_eq (show vb false=vb (decide (Gx r∈w.exc)) by rw[h1])
theorem o45(r:Rl)(s:Sl):PC 45 [.agg (Ai r),.cptr (Ae s)] (vb (decide (Gx r=s))):=by
 refine Ps ⟨[2],[],[],[],[],[],[],[],[],[],[]⟩ Tryz.func45 rfl (Nz rfl) ?_;refine Yi (Nz rfl) ?_;refine Xi _ (Yi (te r) ?_);refine Yi (Nz rfl) ?_;refine Yi (fun h1=>?_) (fun h1=>?_)
 ·have h1:((Gx r).path:ByteArray)=s.path∧((Gx r).ver.a:Int)=s.ver.a∧((Gx r).ver.b:Int)=s.ver.b∧((Gx r).ver.c:Int)=s.ver.c∧True:=h1;refine Yi (by kernel_rfl) ?_;exact .of_eq (show vb true=vb (decide (Gx r=s)) by rw[At (QV.1 h1)])
 have h1:¬(((Gx r).path:ByteArray)=s.path∧((Gx r).ver.a:Int)=s.ver.a∧((Gx r).ver.b:Int)=s.ver.b∧((Gx r).ver.c:Int)=s.ver.c∧True):=h1;refine Yi (by kernel_rfl) ?_;exact .of_eq (show vb false=vb (decide (Gx r=s)) by rw[Aj (fun e=>h1 (QV.2 e))])
theorem o43(r:Rl)(s:Sl):PC 43 [.agg (Ai r),.cptr (Ae s)] (vb (EC s r)):=by
 refine Ps ⟨[2],[],[],[],[],[],[],[],[],[],[]⟩ Tryz.func43 rfl (Nz rfl) ?_;refine Yi (fun h1=>?_) (fun h1=>?_)
 ·have h1:(r.path:ByteArray)=s.path:=h1;refine Yi (Nz rfl) ?_;refine Xi _ (Yi (te r) ?_);refine Yi (Nz rfl) ?_;refine Yi (fun h2=>?_) (fun h2=>?_)
  ·have h2:((Gx r).path:ByteArray)=s.path∧((Gx r).ver.a:Int)=s.ver.a∧((Gx r).ver.b:Int)=s.ver.b∧((Gx r).ver.c:Int)=s.ver.c∧True:=h2;refine Yi (by kernel_rfl) ?_;exact .of_eq (show vb false=vb (decide (r.path=s.path)&&decide (Gx r≠s)) by rw[At h1,show decide (Gx r≠s)=false from Aj (fun e=>e (QV.1 h2))];rfl)
  have h2:¬(((Gx r).path:ByteArray)=s.path∧((Gx r).ver.a:Int)=s.ver.a∧((Gx r).ver.b:Int)=s.ver.b∧((Gx r).ver.c:Int)=s.ver.c∧True):=h2;refine Yi (by kernel_rfl) ?_;exact .of_eq (show vb true=vb (decide (r.path=s.path)&&decide (Gx r≠s)) by rw[At h1,show decide (Gx r≠s)=true from At (fun e=>h2 (QV.2 e))];rfl)
 have h1:¬(r.path:ByteArray)=s.path:=h1;refine Yi (by kernel_rfl) ?_;exact .of_eq (show vb false=vb (decide (r.path=s.path)&&decide (Gx r≠s)) by rw[Aj h1];rfl)
theorem o11(x:List Rl)(ifs:List (List AV))(w:Wk)(hx:∀r∈x,J4 r)(L1:x.length+w.rep.length≤1073741824)(kq:∀r∈x,Co r.reqs)(hW:SH w)(Ys:∀r∈w.rep,Co r.reqs)(si:Co ifs)(his:∀c∈ifs,c.length=5):PC 11 [RF x ifs,.agg (Bc w)] (Qh x ifs w):=by
 obtain⟨A0,hA⟩:∃A,A=AW Cj x w.rep:=⟨_,rfl⟩;have Ac1:w.pin.length≤1073741824:=hW.pin;have lp:A0.length≤1073741824:=by rw[hA];exact A3 (Ht x w.rep) L1
 have ww:∀r∈A0,Co r.reqs:=fun r hr=>by rw[hA]at hr;exact(GL hr).elim (kq r) (Ys r)
 have wx:∀r∈A0,∀q∈r.reqs,Co q.set:=fun r hr q hq=>by rw[hA]at hr;exact(GL hr).elim (fun h=>((hx r h).2 q hq).1) (fun h=>((hW.rep r h).2 q hq).1)
 have br:PC 38 [sl Ai x,sl Ai w.rep,.v (.func (.func 39) #[] #[])] (sl Ai A0):=by rw[hA];exact o38 x w.rep (by unfold Co;omega) hW.reps
 refine Ps ⟨[2,3,9],[],[],[],[],[],[],[],[],[(200010,7007),(200015,7007),(200019,7)],[4,6,7,9,10,13,14,15,17,19]⟩ Tryz.func11 rfl (Nz rfl) ?_;refine Yi (Nz rfl) ?_;refine Xi .pure (Xi _ (Yi (ru ZG x ifs hx) ?_));refine Yi (fun h1=>?_) (fun h1=>?_)
 ·have h1:((A9 x):Int)≠(0:Int):=h1;refine Yi (Nz rfl) ?_;refine Yi (Nz rfl) ?_;exact Ll (fQ (fun h=>h1 h)) (by decide)
 have h1:((A9 x):Int)=(0:Int):=Bj h1;refine Yi (Nz rfl) ?_;refine Xi .pure (Xi _ (Yi (uF w hW) ?_));refine Xi ⟨[(2,.ref 2 0),(3,.ref 3 0),(4,.ref 4 0),(6,vi (B6 w))],[(2,.ro (Ic x ifs)),(3,.ro (Bc w)),(4,.cells [.v (.slice none 0 0),.v (.slice none 0 0)])],Aa⟩ (Yi ⟨Z4,Z3,Fh,Tv⟩ ?_)
 refine Yi (fun h3=>?_) (fun h3=>?_)
 ·have h3:((B6 w):Int)≠(0:Int):=h3;refine Yi (Nz rfl) ?_;refine Yi (Nz rfl) ?_;exact Ll (fR h1 h3) h3
 have h3:((B6 w):Int)=(0:Int):=Bj h3;refine Xi ⟨[(2,.ref 2 0),(3,.ref 3 0),(4,.ref 4 0)],[(2,.ro (Ic x ifs)),(3,.ro (Bc w)),(4,.cells [.v (.slice none 0 0),.v (.slice none 0 0)])],Aa⟩ (Yi ⟨Z3,Z3,Fh,Tv⟩ ?_)
 refine Xi .pure (Xi _ (Yi br ?_));refine Xi (.gen [] 1) (Yi rfl (Bm.to2 (tR A0 lp ww wx) ?_));refine Xi ⟨[(2,.ref 2 0),(3,.ref 3 0),(4,.ref 4 0),(7,.msl 12600 A0.length)],[(2,.ro (Ic x ifs)),(3,.ro (Bc w)),(4,.cells [.v (.slice none 0 0),.v (.slice none 0 0)]),(12600,.arr 9 (A0.map Ai))],Aa⟩ (Yi ⟨Z4,Z4,Fh,Tv⟩ ?_)
 refine Yi (fun h6=>?_) (fun h6=>?_)
 ·have h6:(256:Int)<(A0.length:Int):=h6;have n6:256<A0.length:=by omega
  have g6:A0[256]?=some A0[256]:=Ge n6;refine Yi (Nz rfl) ?_;refine Yi (Nz rfl) ?_;exact Ll (fS h1 h3 hA h6) (by decide)
 have h6:¬((256:Int)<(A0.length:Int)):=h6;have n6:¬256<A0.length:=by omega
 refine Xi ⟨[(2,.ref 2 0),(3,.ref 3 0),(4,.ref 4 0),(7,.msl 12600 A0.length)],[(2,.ro (Ic x ifs)),(3,.ro (Bc w)),(4,.cells [.v (.slice none 0 0),.v (.slice none 0 0)]),(12600,.arr 9 (A0.map Ai))],Aa⟩ (Yi ⟨Z4,Z4,Fh,Tv⟩ ?_)
 refine Xi (.gen [(12600,1000)] 1) (Yi rfl (Bm.to2 (o40 A0 (Pb w) (fun r _=>o41 r w hW.exc) lp) ?_));refine Yi (show(kept (Pb w) A0).length=((kept (Pb w) A0).map Ai).length by rw[Lm]) ?_;refine Xi ⟨[(2,.ref 2 0),(3,.ref 3 0),(4,.ref 4 0),(7,.msl 7 (kept (Pb w) A0).length)],[(2,.ro (Ic x ifs)),(3,.ro (Bc w)),(4,.cells [.v (.slice none 0 0),.v (.slice none 0 0)]),(7,.arr 9 ((kept (Pb w) A0).map Ai))],Aa⟩ (Yi ⟨Z4,Z4,Fh,Tv⟩ ?_)
 refine Xi {q:Nat×List Rl // q.1≤w.pin.length∧Lb w.pin (kept (Pb w) A0)=Lb (w.pin.drop q.1) q.2∧q.2.length≤256} (Xi (fun q=>⟨[(2,.ref 2 0),(4,.ref 4 0),(7,.msl 7 q.1.2.length),(35,sl Ae w.pin),(36,vi (w.pin.map Ae).length),(37,vi q.1.1)],[(2,.ro (Ic x ifs)),(4,.cells [.v (.slice none 0 0),.v (.slice none 0 0)]),(7,.arr 9 (q.1.2.map Ai))],Aa⟩) (Xi (fun q=>w.pin.length-q.1.1) (Yi (Xi ⟨(0,kept (Pb w) A0),AG _,rfl,A3 (Kj _ _) (by have q:=h6;omega)⟩ ?_) ?_)))
 ·exact⟨Z6,Z3,Fh,Tv⟩
 intro⟨⟨k,A⟩,k1,k2,kA⟩;have k1:k≤w.pin.length:=k1;have k2:Lb w.pin (kept (Pb w) A0)=Lb (w.pin.drop k) A:=k2;have kA:A.length≤256:=kA;refine Yi (fun h9=>?_) (fun h9=>?_)
 ·have h9:(k:Int)<((w.pin.map Ae).length:Int):=h9;have n9:=H5 h9;refine Xi (Ae w.pin[k]) (Yi (Jp n9) (Yi rfl ?_));refine Yi (Nz rfl) ?_;refine Yi (Nz rfl) ?_;refine Xi ⟨[(2,.ref 2 0),(4,.ref 4 0),(7,.msl 7 A.length),(9,.ref 9 0),(35,sl Ae w.pin),(36,vi (w.pin.map Ae).length),(37,vi k)],[(2,.ro (Ic x ifs)),(4,.cells [.v (.slice none 0 0),.v (.slice none 0 0)]),(7,.arr 9 (A.map Ai)),(9,.ro (Ae w.pin[k]))],Aa⟩ (Yi ⟨Z7,Z4,Fh,Tv⟩ ?_)
  refine Xi (.gen [(7,1000)] 1) (Yi rfl (Bm.to2 (o40 A (EC w.pin[k]) (fun r _=>o43 r w.pin[k]) (A3 kA (by decide))) ?_));refine Xi ⟨[(2,.ref 2 0),(4,.ref 4 0),(7,.msl 14300 (kept (EC w.pin[k]) A).length),(9,.ref 9 0),(35,sl Ae w.pin),(36,vi (w.pin.map Ae).length),(37,vi k)],[(2,.ro (Ic x ifs)),(4,.cells [.v (.slice none 0 0),.v (.slice none 0 0)]),(9,.ro (Ae w.pin[k])),(14300,.arr 9 ((kept (EC w.pin[k]) A).map Ai))],Aa⟩ (Yi ⟨Z7,Z4,Fh,Tv⟩ ?_)
  refine Xi (.gen [(14300,1000)] 0) (Yi rfl (Bm.to2 (tf (kept (EC w.pin[k]) A) (fun r=>decide (Gx r=w.pin[k])) (fun r _=>o45 r w.pin[k]) (A3 (Kj _ _) (A3 kA (by decide)))) ?_));refine Yi (show(kept (EC w.pin[k]) A).length=((kept (EC w.pin[k]) A).map Ai).length by rw[Lm]) ?_;refine Xi ⟨[(2,.ref 2 0),(4,.ref 4 0),(7,.msl 7 (kept (EC w.pin[k]) A).length),(10,vi (Ns w.pin[k] (kept (EC w.pin[k]) A))),(35,sl Ae w.pin),(36,vi (w.pin.map Ae).length),(37,vi k)],[(2,.ro (Ic x ifs)),(4,.cells [.v (.slice none 0 0),.v (.slice none 0 0)]),(7,.arr 9 ((kept (EC w.pin[k]) A).map Ai))],Aa⟩ (Yi ⟨Z7,Z3,Fh,Tv⟩ ?_)
  refine Yi (fun IZ=>?_) (fun IZ=>?_)
  ·have IZ:((Ns w.pin[k] (kept (EC w.pin[k]) A)):Int)<(0:Int):=IZ;refine Yi (Nz rfl) ?_;refine Yi (Nz rfl) ?_;have eP:Lb w.pin (kept (Pb w) A0)=none:=by rw[k2,Zd n9,jv rfl IZ];rfl
   exact Ll (XJ h1 h3 hA h6 eP) (by decide)
  have IZ:¬(((Ns w.pin[k] (kept (EC w.pin[k]) A)):Int)<(0:Int)):=IZ;refine BN (pz IZ) (fun h9 g9=>?_);refine Xi ⟨[(2,.ref 2 0),(4,.ref 4 0),(7,.msl 7 (kept (EC w.pin[k]) A).length),(10,vi (Ns w.pin[k] (kept (EC w.pin[k]) A))),(35,sl Ae w.pin),(36,vi (w.pin.map Ae).length),(37,vi k)],[(2,.ro (Ic x ifs)),(4,.cells [.v (.slice none 0 0),.v (.slice none 0 0)]),(7,.arr 9 ((kept (EC w.pin[k]) A).map Ai))],Aa⟩ (Yi ⟨Z7,Z3,Fh,Tv⟩ ?_)
  refine Yi (by show(0:Int)≤(Ns w.pin[k] (kept (EC w.pin[k]) A))∧((Ns w.pin[k] (kept (EC w.pin[k]) A)):Int)<((kept (EC w.pin[k]) A).length:Nat);omega) ?_;refine Yi (show(kept (EC w.pin[k]) A).length=((kept (EC w.pin[k]) A).map Ai).length by rw[Lm]) (Xi (Ai ((kept (EC w.pin[k]) A)[(Ns w.pin[k] (kept (EC w.pin[k]) A)).toNat])) (Yi (B4 g9) (Yi (Nz rfl) ?_)));refine Yi (Ii k (by omega)) ?_;have eU:((kept (EC w.pin[k]) A).map Ai).set (Ns w.pin[k] (kept (EC w.pin[k]) A)).toNat [vs ((kept (EC w.pin[k]) A)[(Ns w.pin[k] (kept (EC w.pin[k]) A)).toNat]).path,vi ((kept (EC w.pin[k]) A)[(Ns w.pin[k] (kept (EC w.pin[k]) A)).toNat]).ver.a,vi ((kept (EC w.pin[k]) A)[(Ns w.pin[k] (kept (EC w.pin[k]) A)).toNat]).ver.b,vi ((kept (EC w.pin[k]) A)[(Ns w.pin[k] (kept (EC w.pin[k]) A)).toNat]).ver.c,sl AN ((kept (EC w.pin[k]) A)[(Ns w.pin[k] (kept (EC w.pin[k]) A)).toNat]).reqs,vs ((kept (EC w.pin[k]) A)[(Ns w.pin[k] (kept (EC w.pin[k]) A)).toNat]).arch,vs ((kept (EC w.pin[k]) A)[(Ns w.pin[k] (kept (EC w.pin[k]) A)).toNat]).ifc,vs ((kept (EC w.pin[k]) A)[(Ns w.pin[k] (kept (EC w.pin[k]) A)).toNat]).cert,vb false]=(UH (kept (EC w.pin[k]) A) (Ns w.pin[k] (kept (EC w.pin[k]) A)).toNat).map Ai:=by rw[mP g9,HJ]
  have eP:Lb w.pin (kept (Pb w) A0)=Lb (w.pin.drop (k+1)) (UH (kept (EC w.pin[k]) A) (Ns w.pin[k] (kept (EC w.pin[k]) A)).toNat):=by rw[k2,Zd n9,jw rfl IZ];rfl
  refine Xi ⟨(k+1,(UH (kept (EC w.pin[k]) A) (Ns w.pin[k] (kept (EC w.pin[k]) A)).toNat)),n9,eP,by show(UH _ _).length≤256;rw[Zh];exact A3 (Kj _ _) kA⟩ ?_;exact⟨Dl w.pin.length k (by omega),⟨Zr,Zr,⟨(show AV.msl 7 (kept (EC w.pin[k]) A).length=.msl 7 (UH (kept (EC w.pin[k]) A) (Ns w.pin[k] (kept (EC w.pin[k]) A)).toNat).length by rw[Zh]),rfl⟩,Zr,Zr,Zr,Tv⟩,⟨Zr,Zr,⟨(Ab (HO.arr 9) eU),rfl⟩,Tv⟩,Fh,Tv⟩
 have h9:¬((k:Int)<((w.pin.map Ae).length:Int)):=h9;have n9:=H4 h9;refine Yi (show A.length=(A.map Ai).length by rw[Lm]) ?_;refine Xi ⟨[(2,.ref 2 0),(4,.ref 4 0),(7,sl Ai A)],[(2,.ro (Ic x ifs)),(4,.cells [.v (.slice none 0 0),.v (.slice none 0 0)])],Aa⟩ (Yi ⟨Z3,Z2,Fh,Tv⟩ ?_)
 refine Xi .pure (Xi _ (Yi (o46 ifs si his) ?_));refine Yi (Nz rfl) ?_;refine Yi (Nz rfl) ?_;have eP:Lb w.pin (kept (Pb w) A0)=some A:=by rw[k2,DI (by have q:=h9;rw[Lm]at q;omega)];rfl
 have eR:=XJ h1 h3 hA h6 eP;exact .of_eq (show _=Qh x ifs w by unfold Qh;rw[eR];rfl)
abbrev F1(l o:List Sl):List Sl:=kept (fun s=>decide (s∈o)) l
abbrev fG:Wk:=⟨[],[],[]⟩
def GM(a b:Wk):Wk×Int :=
 if B6 a≠0 then(fG,B6 a)else if B6 b≠0 then(fG,B6 b)else if 256<((AW Cj a.rep b.rep).length:Int)then(fG,7)else
  (⟨AW Cj a.rep b.rep,F1 (AW Fi a.exc b.exc) b.pin,AW I3 (F1 a.pin b.exc) b.pin⟩,0)
abbrev T8(p:Wk×Int):AV:=.tup [.agg (Bc p.1),vi p.2]
theorem IC{p:Wk×Int}{e:Int}(h:p=(fG,e)):Hm (.tup [.agg [.v (.slice none 0 0),.v (.slice none 0 0),.v (.slice none 0 0)],vi e]) (T8 p):=by
 subst h;exact .tup ⟨.agg ⟨.nil,.nil,.nil,trivial⟩,.refl _,trivial⟩
theorem YQ{a b:Wk}(h:B6 a≠0):GM a b=(fG,B6 a):=by unfold GM;rw[Ax h]
theorem YR{a b:Wk}(h:B6 a=0)(h2:B6 b≠0):GM a b=(fG,B6 b):=by unfold GM;rw[Ao (fun c=>c h),Ax h2]
theorem YS{a b:Wk}(h:B6 a=0)(h2:B6 b=0){A:List Rl}(hA:A=AW Cj a.rep b.rep)(h3:256<(A.length:Int)):GM a b=(fG,7):=by
 subst hA;unfold GM;rw[Ao (fun c=>c h),Ao (fun c=>c h2),Ax h3]
theorem YT{a b:Wk}(h:B6 a=0)(h2:B6 b=0){A:List Rl}(hA:A=AW Cj a.rep b.rep)(h3:¬256<(A.length:Int)):GM a b=(⟨A,F1 (AW Fi a.exc b.exc) b.pin,AW I3 (F1 a.pin b.exc) b.pin⟩,0):=by
 subst hA;unfold GM;rw[Ao (fun c=>c h),Ao (fun c=>c h2),Ao h3]
theorem o90(s:Sl)(o:List Sl)(hl:Co o):PC 90 [.agg (Ae s),.cptr [sl Ae o]] (vb (decide (s∈o))):=by
 refine Ps ⟨[2],[],[],[],[],[],[],[],[],[],[]⟩ Tryz.func90 rfl (Nz rfl) ?_;refine Yi (Nz rfl) ?_;refine Bq (Bt (decide (s∈o))) (fun h1=>?_) (fun h1=>?_)
 ·have h1:(decide (s∈o))=true:=h1;refine Xi .pure (Xi _ (Yi (cb h1 (qH o s hl)) ?_));exact .of_eq (show vb true=vb (decide (s∈o)) by rw[h1])
 have h1:(decide (s∈o))=false:=h1;refine Xi .pure (Xi _ (Yi (cb h1 (qH o s hl)) ?_));exact .of_eq (show vb false=vb (decide (s∈o)) by rw[h1])
theorem o62(l o:List Sl)(hl:Co l)(ho:Co o):PC 62 [sl Ae l,sl Ae o] (sl Ae (F1 l o)):=by
 refine Ps ⟨[3],[],[],[],[],[],[],[],[],[(4,8)],[]⟩ Tryz.func62 rfl (Nz rfl) ?_;refine Xi (.gen [] 1) (Yi rfl (Bm.to2 (tT l hl) ?_));refine Xi (.gen [(10600,1000)] 1) (Yi rfl (Bm.to2 (o88 l (fun s=>decide (s∈o)) (fun s _=>o90 s o ho) hl) ?_));refine Yi (show(F1 l o).length=((F1 l o).map Ae).length by rw[Lm]) ?_;exact .refl _
theorem o17(a b:Wk)(WU:SH a)(hB:SH b)(L1:a.rep.length+b.rep.length≤1073741824)(uw:a.exc.length+b.exc.length≤1073741824)(har:∀r∈a.rep,Co r.reqs)(hbr:∀r∈b.rep,Co r.reqs):PC 17 [.agg (Bc a),.agg (Bc b)] (T8 (GM a b)):=by
 obtain⟨A0,hA⟩:∃A,A=AW Cj a.rep b.rep:=⟨_,rfl⟩;have lp:A0.length≤1073741824:=by rw[hA];exact A3 (Ht a.rep b.rep) L1
 have ww:∀r∈A0,Co r.reqs:=fun r hr=>by rw[hA]at hr;exact(GL hr).elim (har r) (hbr r)
 have wx:∀r∈A0,∀q∈r.reqs,Co q.set:=fun r hr q hq=>by rw[hA]at hr;exact(GL hr).elim (fun h=>((WU.rep r h).2 q hq).1) (fun h=>((hB.rep r h).2 q hq).1)
 have br:PC 38 [sl Ai a.rep,sl Ai b.rep,.v (.func (.func 39) #[] #[])] (sl Ai A0):=by rw[hA];exact o38 a.rep b.rep WU.reps hB.reps
 have hE:Co (AW Fi a.exc b.exc):=A3 (Ht a.exc b.exc) uw;refine Ps ⟨[2,3,7],[],[],[],[],[],[],[],[],[(100010,10)],[4,7,8,9,10,11,12,13,14]⟩ Tryz.func17 rfl (Nz rfl) ?_;refine Yi (Nz rfl) ?_;refine Yi (Nz rfl) ?_;refine Xi {q:Nat // q≤2∧(0<q→B6 a=0)∧(1<q→B6 b=0)} (Xi (fun q=>⟨[(2,.ref 2 0),(3,.ref 3 0),(4,.ref 4 0),(13,.slice (.id 13 3) [(Bc a),(Bc b)]),(14,vi 2),(15,vi q.1)],[(2,.ro (Bc a)),(3,.ro (Bc b)),(4,.cells [.v (.slice none 0 0),.v (.slice none 0 0),.v (.slice none 0 0)]),(13,.tok 3 2)],Aa⟩) (Xi (fun q=>2-q.1) (Yi (Xi ⟨0,by decide,fun h=>absurd h (by decide),fun h=>absurd h (by decide)⟩ ?_) ?_)))
 ·exact⟨Z6,Z4,Fh,Tv⟩
 intro⟨i,i1,i2,i3⟩;have i1:i≤2:=i1;have i2:0<i→B6 a=0:=i2;have i3:1<i→B6 b=0:=i3;refine Yi (fun h1=>?_) (fun h1=>?_)
 ·have h1:(i:Int)<(2:Int):=h1;refine Bq (show i=0∨i=1 by omega) (fun hi=>?_) (fun hi=>?_)
  ·have hi:i=0:=hi;refine Xi (Bc a) (Yi (show(0:Int)≤(i:Int)∧[Bc a,Bc b][((i:Nat):Int).toNat]?=some (Bc a)from⟨OH _,by rw[hi];rfl⟩) (Yi rfl ?_));refine Yi (Nz rfl) ?_;refine Yi (Nz rfl) ?_;refine Xi ⟨[(2,.ref 2 0),(3,.ref 3 0),(4,.ref 4 0),(7,.ref 7 0),(13,.slice (.id 13 3) [(Bc a),(Bc b)]),(14,vi 2),(15,vi i)],[(2,.ro (Bc a)),(3,.ro (Bc b)),(4,.cells [.v (.slice none 0 0),.v (.slice none 0 0),.v (.slice none 0 0)]),(7,.ro (Bc a)),(13,.tok 3 2)],Aa⟩ (Yi ⟨Z7,Z5,Fh,Tv⟩ ?_)
   refine Yi (Nz rfl) ?_;refine Xi .pure (Xi _ (Yi (uF a WU) ?_));refine Yi (fun h2=>?_) (fun h2=>?_)
   ·have h2:((B6 a):Int)≠(0:Int):=h2;refine Yi (Nz rfl) ?_;refine Yi (Nz rfl) ?_;exact IC (YQ h2)
   have h2:((B6 a):Int)=(0:Int):=Bj h2;refine Xi ⟨[(2,.ref 2 0),(3,.ref 3 0),(4,.ref 4 0),(13,.slice (.id 13 3) [(Bc a),(Bc b)]),(14,vi 2),(15,vi i)],[(2,.ro (Bc a)),(3,.ro (Bc b)),(4,.cells [.v (.slice none 0 0),.v (.slice none 0 0),.v (.slice none 0 0)]),(13,.tok 3 2)],Aa⟩ (Yi ⟨Z6,Z4,Fh,Tv⟩ ?_)
   refine Yi (Ii i (by omega)) ?_;refine Xi ⟨i+1,by omega,fun _=>h2,fun h=>absurd h (by omega)⟩ ?_;exact⟨Dl 2 i (by omega),Z6,Z4,Fh,Tv⟩
  refine Xi (Bc b) (Yi (show(0:Int)≤(i:Int)∧[Bc a,Bc b][((i:Nat):Int).toNat]?=some (Bc b)from⟨OH _,by rw[hi];rfl⟩) (Yi rfl ?_));refine Yi (Nz rfl) ?_;refine Yi (Nz rfl) ?_;refine Xi ⟨[(2,.ref 2 0),(3,.ref 3 0),(4,.ref 4 0),(7,.ref 7 0),(13,.slice (.id 13 3) [(Bc a),(Bc b)]),(14,vi 2),(15,vi i)],[(2,.ro (Bc a)),(3,.ro (Bc b)),(4,.cells [.v (.slice none 0 0),.v (.slice none 0 0),.v (.slice none 0 0)]),(7,.ro (Bc b)),(13,.tok 3 2)],Aa⟩ (Yi ⟨Z7,Z5,Fh,Tv⟩ ?_)
  refine Yi (Nz rfl) ?_;refine Xi .pure (Xi _ (Yi (uF b hB) ?_));refine Yi (fun h5=>?_) (fun h5=>?_)
  ·have h5:((B6 b):Int)≠(0:Int):=h5;refine Yi (Nz rfl) ?_;refine Yi (Nz rfl) ?_;exact IC (YR (i2 (by omega)) h5)
  have h5:((B6 b):Int)=(0:Int):=Bj h5;refine Xi ⟨[(2,.ref 2 0),(3,.ref 3 0),(4,.ref 4 0),(13,.slice (.id 13 3) [(Bc a),(Bc b)]),(14,vi 2),(15,vi i)],[(2,.ro (Bc a)),(3,.ro (Bc b)),(4,.cells [.v (.slice none 0 0),.v (.slice none 0 0),.v (.slice none 0 0)]),(13,.tok 3 2)],Aa⟩ (Yi ⟨Z6,Z4,Fh,Tv⟩ ?_)
  refine Yi (Ii i (by omega)) ?_;refine Xi ⟨i+1,by omega,fun _=>i2 (by omega),fun _=>h5⟩ ?_;exact⟨Dl 2 i (by omega),Z6,Z4,Fh,Tv⟩
 have h1:¬((i:Int)<(2:Int)):=h1;refine Xi ⟨[(2,.ref 2 0),(3,.ref 3 0),(4,.ref 4 0)],[(2,.ro (Bc a)),(3,.ro (Bc b)),(4,.cells [.v (.slice none 0 0),.v (.slice none 0 0),.v (.slice none 0 0)])],Aa⟩ (Yi ⟨Z3,Z3,Fh,Tv⟩ ?_)
 refine Xi ⟨[(2,.ref 2 0),(3,.ref 3 0),(4,.ref 4 0),(9,.v (.func (.func 61) #[] #[]))],[(2,.ro (Bc a)),(3,.ro (Bc b)),(4,.cells [.v (.slice none 0 0),.v (.slice none 0 0),.v (.slice none 0 0)])],Aa⟩ (Yi ⟨Z4,Z3,Fh,Tv⟩ ?_)
 refine Xi .pure (Xi _ (Yi br ?_));refine Xi (.gen [] 1) (Yi rfl (Bm.to2 (tR A0 lp ww wx) ?_));refine Yi (Nz rfl) ?_;refine Yi (show A0.length=(A0.map Ai).length by rw[Lm]) ?_;refine Xi ⟨[(2,.ref 2 0),(3,.ref 3 0),(4,.ref 4 0),(9,.v (.func (.func 61) #[] #[])),(10,.ref 10 0)],[(2,.ro (Bc a)),(3,.ro (Bc b)),(4,.cells [.v (.slice none 0 0),.v (.slice none 0 0),.v (.slice none 0 0)]),(10,.cells [.slice (.id 13100 9) (A0.map Ai),.v (.slice none 0 0),.v (.slice none 0 0)]),(13100,.tok 9 (A0.map Ai).length)],Aa⟩ (Yi ⟨Z5,Z5,Fh,Tv⟩ ?_)
 refine Yi (fun h9=>?_) (fun h9=>?_)
 ·have h9:(256:Int)<((A0.map Ai).length:Int):=h9;have n9:256<A0.length:=by have q:=h9;rw[Lm]at q;omega
  refine Xi ⟨[(4,.ref 4 0)],[(4,.cells [.v (.slice none 0 0),.v (.slice none 0 0),.v (.slice none 0 0)])],Aa⟩ (Yi ⟨Z1,Z1,Fh,Tv⟩ ?_)
  refine Yi (Nz rfl) ?_;refine Yi (Nz rfl) ?_;have ja:=i2 (by omega);have jb:=i3 (by omega);exact IC (YS ja jb hA (by have q:=h9;rw[Lm]at q;exact q))
 have h9:¬((256:Int)<((A0.map Ai).length:Int)):=h9;have n9:¬256<A0.length:=by have q:=h9;rw[Lm]at q;omega
 refine Xi ⟨[(2,.ref 2 0),(3,.ref 3 0),(4,.ref 4 0),(9,.v (.func (.func 61) #[] #[])),(10,.ref 10 0)],[(2,.ro (Bc a)),(3,.ro (Bc b)),(4,.cells [.v (.slice none 0 0),.v (.slice none 0 0),.v (.slice none 0 0)]),(10,.cells [.slice (.id 13100 9) (A0.map Ai),.v (.slice none 0 0),.v (.slice none 0 0)]),(13100,.tok 9 (A0.map Ai).length)],Aa⟩ (Yi ⟨Z5,Z5,Fh,Tv⟩ ?_)
 refine Xi _ (Yi (xS a.exc b.exc WU.exc hB.exc) ?_);refine Xi _ (Yi (o62 (AW Fi a.exc b.exc) b.pin hE hB.pin) ?_);refine Yi (Nz rfl) ?_;refine Yi (by kernel_rfl) ?_;refine Xi ⟨[(2,.ref 2 0),(3,.ref 3 0),(4,.ref 4 0),(9,.v (.func (.func 61) #[] #[])),(10,.ref 10 0)],[(2,.ro (Bc a)),(3,.ro (Bc b)),(4,.cells [.v (.slice none 0 0),.v (.slice none 0 0),.v (.slice none 0 0)]),(10,.cells [.slice (.id 13100 9) (A0.map Ai),sl Ae (F1 (AW Fi a.exc b.exc) b.pin),.v (.slice none 0 0)]),(13100,.tok 9 (A0.map Ai).length)],Aa⟩ (Yi ⟨Z5,Z5,Fh,Tv⟩ ?_)
 refine Xi _ (Yi (o62 a.pin b.exc WU.pin hB.exc) ?_);refine Xi _ (Yi (xR (F1 a.pin b.exc) b.pin (A3 (Kj _ _) WU.pin) hB.pin) ?_);refine Yi (Nz rfl) ?_;refine Yi (by kernel_rfl) ?_;refine Xi ⟨[(4,.ref 4 0),(10,.ref 10 0)],[(4,.cells [.v (.slice none 0 0),.v (.slice none 0 0),.v (.slice none 0 0)]),(10,.cells [.slice (.id 13100 9) (A0.map Ai),sl Ae (F1 (AW Fi a.exc b.exc) b.pin),sl Ae (AW I3 (F1 a.pin b.exc) b.pin)]),(13100,.tok 9 (A0.map Ai).length)],Aa⟩ (Yi ⟨Z2,Z3,Fh,Tv⟩ ?_)
 refine Yi (Nz rfl) ?_;refine Yi (Nz rfl) ?_;refine Yi (Nz rfl) ?_;have ja:=i2 (by omega);have jb:=i3 (by omega);have eM:=YT ja jb hA (by have q:=h9;rw[Lm]at q;exact q);exact .of_eq (show _=T8 (GM a b) by rw[eM];rfl)
end Go.Eng
