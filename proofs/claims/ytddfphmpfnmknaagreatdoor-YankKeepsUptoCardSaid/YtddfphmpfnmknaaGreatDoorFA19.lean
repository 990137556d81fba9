/- Lemmas for the claims of this seat, without a condition: part 19 (C17, C18, C19, C20, C21, C22, C23, C24). -/
import Derived.Test.YtddfphmpfnmknaaGreatDoorFA18
namespace Go.Eng
open Go.Proofs
abbrev yF(l:List (Nat×Nat))(cut:List Nat):RO:=⟨[],[],l,[],[],[],[],[],[],[],cut⟩
abbrev IN(l:List (Int×Int)):HO:=.arr 2 (l.map Aq)
theorem YZ(l:Bh)(i:Nat):(CH (l.take i)).length≤i:=by
 unfold CH
 have:=BA (fun x:Int×Int=>decide (x.1<x.2)) ((l.take i).map Hm)
 rw[Lm,AB]at this;omega
theorem UN{l:Bh}{i:Nat}(h:i<l.length)(h3:(Hm l[i]).1<(Hm l[i]).2):CH (l.take (i+1))=CH (l.take i)++[Hm l[i]]:=by
 rw[Bq,Ge h,Og];unfold CH;simp[h3]
theorem Xa{l:Bh}{i:Nat}(h:i<l.length)(h3:¬(Hm l[i]).1<(Hm l[i]).2):CH (l.take (i+1))=CH (l.take i):=by
 rw[Bq,Ge h,Og];unfold CH;simp[h3]
abbrev arr2(s j:Bh)(i:Nat):Bh:=(By (s.take i)).reverse++(j++s.drop i)
theorem js(s j:Bh)(i:Nat)(h:i<s.length)(hj:(By (s.take i)).length+j.length=i):(arr2 s j i)[i]?=some s[i]:=by
 unfold arr2;rw[AY (by rw[Dk];omega),AY (by rw[Dk];omega),Dk,Dr];rw[show i+(i-(By (List.take i s)).length-j.length)=i by omega,Ge h]
theorem bD(s j:Bh)(i:Nat){y:Int×Int}{t:Bh}(e:By (s.take i)=y::t):(arr2 s j i)[t.length]?=some y:=by
 unfold arr2;rw[e,Qu,BH,AY (by rw[Dk];omega),Dk,Gg];rfl
theorem d6(s j:Bh)(i:Nat)(h:i≤s.length)(hj:(By (s.take i)).length+j.length=i):(arr2 s j i).length=s.length:=by
 unfold arr2;simp only[Ad,Dk,Do];omega
theorem ac{α:Type}(s:List α)(i:Nat)(h:i<s.length):s.drop i=s[i]::s.drop (i+1):=Bk h
theorem UC(s j:Bh)(i:Nat)(h:i<s.length)(e:KH (By (s.take i)) s[i]=s[i]::By (s.take i)) :
  (arr2 s j i).set (By (s.take i)).length s[i]=arr2 s (j++[s[i]]).tail (i+1):=by
 unfold arr2;rw[Gl s i h,e,Qu,List.set_append_right _ _ (by rw[Dk];exact Al _),Dk,Gg,BH,ac s i h]
 congr 1
 cases j with
 |nil=>rfl
 |cons a b=>simp
theorem bC(s j:Bh)(i:Nat)(h:i<s.length){y:Int×Int}{t:Bh}(e:By (s.take i)=y::t)(Ho:s[i].1≤y.2) :
  (arr2 s j i).set t.length (y.1,max y.2 s[i].2)=arr2 s (j++[s[i]]) (i+1):=by
 unfold arr2;have e2:KH (y::t) s[i]=(y.1,max y.2 s[i].2)::t:=by show(if s[i].1≤y.2 then _ else _)=_;rw[Ao Ho]
 rw[Gl s i h,e,e2,Qu,Qu,BH,List.set_append_right _ _ (by rw[Dk];exact Al _),Dk,Gg,ac s i h];simp
theorem Dg{α:Type}{enc:α→List AV}{l:List α}{i:Nat}{x:α}(h:l[i]?=some x):(l.map enc)[i]?=some (enc x):=by rw[AG,h];rfl
theorem W5(l:List (Int×Int))(hl:CM l):PC 116 [sl Aq l] (sl Aq (canon l)):=by
 have hl:l.length≤1073741824:=hl;refine FZ (dI (yF [(3,2)] [5,14,15,16])) rfl Ck hm rfl Tryz.func116 (by kernel_rfl) rfl (Nz rfl) (by kernel_rfl) ?_;refine Xi {i:Nat // i≤l.length} (Xi (fun i=>⟨[(0,sl Aq l),(3,.msl 3 (CH (l.take i.1)).length),(9,sl Aq l),(10,vi (l.map Aq).length),(11,vi i.1)],[(3,IN (CH (l.take i.1)))],Ab⟩) (Xi (fun i=>l.length-i.1) (Yi (Xi ⟨0,by simp⟩ ?_) ?_)))
 ·exact⟨Z5,Z1,Fh,Tv⟩
 ·intro⟨i,h1⟩;have hn:=YZ l i;refine Yi ?_ ?_
  ·intro h;have h:(i:Int)<(l.map Aq).length:=h;have h:i<l.length:=by simpa using h
   have hg:l[i]?=some l[i]:=Ge h;refine Xi (Aq l[i]) (Yi (Yi (Nn i) (by simp[hg])) (Yi rfl ?_));refine Yi (Nz rfl) (Yi (Nz rfl) ?_);refine Xi ⟨[(0,sl Aq l),(3,.msl 3 (CH (l.take i)).length),(5,.ref 5 0),(9,sl Aq l),(10,vi (l.map Aq).length),(11,vi i)],[(3,IN (CH (l.take i))),(5,.cells (Aq l[i]))],Ab⟩ (Yi ⟨Z6,Z2,Fh,Tv⟩ ?_)
   refine Yi (Nz rfl) ?_;refine Yi ?_ ?_
   ·intro h3;have h3:(Hm l[i]).1<(Hm l[i]).2:=h3;refine Yi (Nz rfl) ?_;have Hl:Df 2 [[vi (max l[i].1 0),vi (min l[i].2 1000000)]]∧((CH (l.take i)).map Aq).length=(CH (l.take i)).length∧(((CH (l.take i)).map Aq).length+[[vi (max l[i].1 0),vi (min l[i].2 1000000)]].length)*16≤140737488355328∧((CH (l.take i)).map Aq).length+[[vi (max l[i].1 0),vi (min l[i].2 1000000)]].length≤9223372036854775807 :=
     ⟨⟨rfl,trivial⟩,by rw[Lm],by rw[Lm,A8];omega,by rw[Lm,A8];omega⟩
    refine Yi Hl ?_;refine Yi (Ii i (by omega)) ?_;refine Xi ⟨i+1,by omega⟩ ?_;have e1:AV.msl 3 (((CH (l.take i)).map Aq).length+[[vi (max l[i].1 0),vi (min l[i].2 1000000)]].length)=.msl 3 (CH (l.take (i+1))).length:=by rw[UN h h3];simp
    have e2:HO.arr 2 ((CH (l.take i)).map Aq++[[vi (max l[i].1 0),vi (min l[i].2 1000000)]])=IN (CH (l.take (i+1))):=by rw[UN h h3];simp[Hm]
    exact⟨Dl l.length i (by omega),⟨Zr,⟨e1,rfl⟩,Zr,Zr,Zr,Tv⟩,⟨⟨e2,rfl⟩,Tv⟩,Fh,Tv⟩
   ·intro h3;have h3:¬(Hm l[i]).1<(Hm l[i]).2:=h3;refine Yi (Ii i (by omega)) ?_;refine Xi ⟨i+1,by omega⟩ ?_;have e1:AV.msl 3 (CH (l.take i)).length=.msl 3 (CH (l.take (i+1))).length:=by rw[Xa h h3]
    have e2:IN (CH (l.take i))=IN (CH (l.take (i+1))):=by rw[Xa h h3]
    exact⟨Dl l.length i (by omega),⟨Zr,⟨e1,rfl⟩,Zr,Zr,Zr,Tv⟩,⟨⟨e2,rfl⟩,Tv⟩,Fh,Tv⟩
  ·intro h;have h:¬(i:Int)<(l.map Aq).length:=h;have h:¬i<l.length:=by simpa using h
   have ei:CH (l.take i)=CH l:=by rw[AE (by omega)]
   have hN:(CH (l.take i)).length=(CH l).length:=by rw[ei]
   refine Xi (.gen [(3,1000)] 0) (Yi rfl ((tM (CH (l.take i)) (by unfold CM;omega) (fun x hx=>by have:=UM hx;omega)).to ?_));intro s hs;have WQ:s.length=(CH (l.take i)).length:=hs.1.length_eq;have hsN:s.length≤1073741824:=by omega
   have fin:(By s).reverse=canon l:=Rd (by rw[←ei];exact hs.1) hs.2;refine Xi {p:Nat×Bh // p.1≤s.length∧(By (s.take p.1)).length+p.2.length=p.1} (Xi (fun p=>⟨[(3,.msl 3 (CH (l.take i)).length),(6,vi (By (s.take p.1.1)).length),(34,.msl 3 (CH (l.take i)).length),(35,vi (CH (l.take i)).length),(36,vi p.1.1)],[(3,IN (arr2 s p.1.2 p.1.1))],Ab⟩) (Xi (fun p=>s.length-p.1.1) (Yi (Xi ⟨(0,[]),AJ _,rfl⟩ ?_) ?_)))
   ·exact⟨Z5,Z1,Fh,Tv⟩
   intro⟨⟨k,j⟩,k1,k2⟩;have k1:k≤s.length:=k1;have k2:(By (s.take k)).length+j.length=k:=k2;have Cq:=d6 s j k k1 k2;have SN:(CH (l.take i)).length=((arr2 s j k).map Aq).length:=by rw[Lm,Cq,WQ]
   refine Yi ?_ ?_
   ·intro h2;have h2:(k:Int)<(CH (l.take i)).length:=h2;have hk:k<s.length:=by omega
    have lM:=Dg (enc:=Aq) (js s j k hk k2);refine Yi ⟨by show(0:Int)≤k;omega,by show(k:Int)<_;omega⟩ ?_;refine Yi SN (Xi (Aq s[k]) (Yi lM (Yi (Nz rfl) (Yi (Nz rfl) ?_))));refine Xi ⟨[(3,.msl 3 (CH (l.take i)).length),(6,vi (By (s.take k)).length),(7,vi k),(8,.ref 8 0),(34,.msl 3 (CH (l.take i)).length),(35,vi (CH (l.take i)).length),(36,vi k)],[(3,IN (arr2 s j k)),(8,.cells (Aq s[k]))],Ab⟩ (Yi ⟨Z7,Z2,Fh,Tv⟩ ?_)
    have hr:=Th s k k1;refine Dp (Nat.eq_zero_or_pos k) (fun k0=>?_) (fun k0=>?_)
    ·refine Yi ?_ ?_
     ·intro h4;have h4:(0:Int)<k:=h4;omega
     ·intro _;refine Yi (by kernel_rfl) ?_;have Jl:KH (By (s.take k)) s[k]=s[k]::By (s.take k):=by subst k0;rfl
      have dO:(By (s.take k)).length<(arr2 s j k).length:=by omega
      have hz:=Dg (enc:=Aq) (Ge dO);refine Xi ⟨[(3,.msl 3 (CH (l.take i)).length),(6,vi (By (s.take k)).length),(8,.ref 8 0),(34,.msl 3 (CH (l.take i)).length),(35,vi (CH (l.take i)).length),(36,vi k)],[(3,IN (arr2 s j k)),(8,.cells (Aq s[k]))],Ab⟩ (Yi ⟨⟨⟨rfl,rfl⟩,⟨rfl,rfl⟩,⟨rfl,rfl⟩,⟨rfl,rfl⟩,⟨rfl,rfl⟩,⟨rfl,rfl⟩,Tv⟩,⟨⟨rfl,rfl⟩,⟨rfl,rfl⟩,Tv⟩,Fh,Tv⟩ ?_);refine Yi (Nz rfl) (Yi ⟨by show(0:Int)≤((By (s.take k)).length:Int);omega,by show((By (s.take k)).length:Int)<_;omega⟩ ?_);refine Yi SN (Xi (Aq (arr2 s j k)[(By (s.take k)).length]) (Yi hz (Yi (Nz rfl) ?_)));refine Yi (by show BR (((By (s.take k)).length:Int)+1);unfold BR;omega) ?_;refine Yi (Ii k (by omega)) ?_;have hm:=Gl s k hk;have e1:vi (((By (s.take k)).length:Int)+1)=vi (By (s.take (k+1))).length:=by rw[hm,Jl];simp
      have e2:HO.arr 2 (((arr2 s j k).map Aq).set (By (s.take k)).length [vi s[k].1,vi s[k].2])=IN (arr2 s (j++[s[k]]).tail (k+1)):=by rw[←UC s j k hk Jl];simp only[IN,Gc]
      refine Xi ⟨(k+1,(j++[s[k]]).tail),by show k+1≤s.length;omega,by show(By (s.take (k+1))).length+((j++[s[k]]).tail).length=k+1;rw[hm,Jl];simp;omega⟩ ?_;exact⟨Dl s.length k (by omega),⟨Zr,⟨e1,rfl⟩,Zr,Zr,Zr,Tv⟩,⟨⟨e2,rfl⟩,Tv⟩,Fh,Tv⟩
    ·refine Yi ?_ ?_
     ·intro _;obtain⟨y,t,e⟩:∃y t,By (s.take k)=y::t:=by
       cases hc:By (s.take k)with
       |nil=>have:=hr.2 k0;rw[hc]at this;simp at this
       |cons y t=>exact⟨y,t,rfl⟩
      have ht:(((By (s.take k)).length:Int)-1).toNat=t.length:=by rw[e];simp
      have hy:((arr2 s j k).map Aq)[(((By (s.take k)).length:Int)-1).toNat]?=some (Aq y):=by rw[ht];exact Dg (bD s j k e)
      refine Yi (by show BR (((By (s.take k)).length:Int)-1);unfold BR;omega) ?_;have Zg:=hr.2 k0;refine Yi ⟨by show(0:Int)≤((By (s.take k)).length:Int)-1;omega,by show((By (s.take k)).length:Int)-1<_;omega⟩ ?_;refine Yi SN (Xi (Aq y) (Yi hy ?_));refine Yi ?_ ?_
      ·intro h5;have h5:s[k].1≤y.2:=h5;refine Yi (by kernel_rfl) ?_;refine Xi ⟨[(3,.msl 3 (CH (l.take i)).length),(6,vi (By (s.take k)).length),(8,.ref 8 0),(34,.msl 3 (CH (l.take i)).length),(35,vi (CH (l.take i)).length),(36,vi k)],[(3,IN (arr2 s j k)),(8,.cells (Aq s[k]))],Ab⟩ (Yi ⟨⟨⟨rfl,rfl⟩,⟨rfl,rfl⟩,⟨rfl,rfl⟩,⟨rfl,rfl⟩,⟨rfl,rfl⟩,⟨rfl,rfl⟩,Tv⟩,⟨⟨rfl,rfl⟩,⟨rfl,rfl⟩,Tv⟩,Fh,Tv⟩ ?_);refine Yi (by show BR (((By (s.take k)).length:Int)-1);unfold BR;omega) (Yi (by show BR (((By (s.take k)).length:Int)-1);unfold BR;omega) ?_);refine Yi ⟨by show(0:Int)≤((By (s.take k)).length:Int)-1;omega,by show((By (s.take k)).length:Int)-1<_;omega⟩ ?_;refine Yi SN (Xi (Aq y) (Yi hy ?_));refine Yi ⟨by show(0:Int)≤((By (s.take k)).length:Int)-1;omega,by show((By (s.take k)).length:Int)-1<_;omega⟩ ?_;refine Yi SN (Xi (Aq y) (Yi hy (Yi (Nz rfl) ?_)));refine Yi (by kernel_rfl) ?_;refine Yi (Ii k (by omega)) ?_;have hm:=Gl s k hk;have Jl:KH (By (s.take k)) s[k]=(y.1,max y.2 s[k].2)::t:=by rw[e];show(if s[k].1≤y.2 then _ else _)=_;rw[Ao h5]
       have e1:vi (By (s.take k)).length=vi (By (s.take (k+1))).length:=by rw[hm,Jl,e];simp
       have e2:HO.arr 2 (((arr2 s j k).map Aq).set (((By (s.take k)).length:Int)-1).toNat [vi y.1,vi (max y.2 s[k].2)])=IN (arr2 s (j++[s[k]]) (k+1)):=by rw[←bC s j k hk e h5,ht];simp only[IN,Gc]
       refine Xi ⟨(k+1,j++[s[k]]),by show k+1≤s.length;omega,by show(By (s.take (k+1))).length+(j++[s[k]]).length=k+1;rw[hm,Jl,Ad,A8];rw[e]at k2;simp only[Av]at k2⊢;omega⟩ ?_;exact⟨Dl s.length k (by omega),⟨Zr,⟨e1,rfl⟩,Zr,Zr,Zr,Tv⟩,⟨⟨e2,rfl⟩,Tv⟩,Fh,Tv⟩
      ·intro h5;have h5:¬s[k].1≤y.2:=h5;refine Yi (by kernel_rfl) ?_;have Jl:KH (By (s.take k)) s[k]=s[k]::By (s.take k):=by rw[e];show(if s[k].1≤y.2 then _ else _)=_;rw[Ah h5]
       have dO:(By (s.take k)).length<(arr2 s j k).length:=by omega
       have hz:=Dg (enc:=Aq) (Ge dO);refine Xi ⟨[(3,.msl 3 (CH (l.take i)).length),(6,vi (By (s.take k)).length),(8,.ref 8 0),(34,.msl 3 (CH (l.take i)).length),(35,vi (CH (l.take i)).length),(36,vi k)],[(3,IN (arr2 s j k)),(8,.cells (Aq s[k]))],Ab⟩ (Yi ⟨⟨⟨rfl,rfl⟩,⟨rfl,rfl⟩,⟨rfl,rfl⟩,⟨rfl,rfl⟩,⟨rfl,rfl⟩,⟨rfl,rfl⟩,Tv⟩,⟨⟨rfl,rfl⟩,⟨rfl,rfl⟩,Tv⟩,Fh,Tv⟩ ?_);refine Yi (Nz rfl) (Yi ⟨by show(0:Int)≤((By (s.take k)).length:Int);omega,by show((By (s.take k)).length:Int)<_;omega⟩ ?_);refine Yi SN (Xi (Aq (arr2 s j k)[(By (s.take k)).length]) (Yi hz (Yi (Nz rfl) ?_)));refine Yi (by show BR (((By (s.take k)).length:Int)+1);unfold BR;omega) ?_;refine Yi (Ii k (by omega)) ?_;have hm:=Gl s k hk;have e1:vi (((By (s.take k)).length:Int)+1)=vi (By (s.take (k+1))).length:=by rw[hm,Jl];simp
       have e2:HO.arr 2 (((arr2 s j k).map Aq).set (By (s.take k)).length [vi s[k].1,vi s[k].2])=IN (arr2 s (j++[s[k]]).tail (k+1)):=by rw[←UC s j k hk Jl];simp only[IN,Gc]
       refine Xi ⟨(k+1,(j++[s[k]]).tail),by show k+1≤s.length;omega,by show(By (s.take (k+1))).length+((j++[s[k]]).tail).length=k+1;rw[hm,Jl];simp;omega⟩ ?_;exact⟨Dl s.length k (by omega),⟨Zr,⟨e1,rfl⟩,Zr,Zr,Zr,Tv⟩,⟨⟨e2,rfl⟩,Tv⟩,Fh,Tv⟩
     ·intro h4;have h4:¬(0:Int)<k:=h4;omega
   ·intro h2;have h2:¬(k:Int)<(CH (l.take i)).length:=h2;have hk:k=s.length:=by omega
    have hr:=Th s k k1;have nQ:((((arr2 s j k).map Aq).take ((By (s.take k)).length:Int).toNat).drop 0)=(canon l).map Aq:=by
     rw[List.drop_zero,Ch,←List.map_take,←fin];unfold arr2
     have:(By (s.take k)).length=(By (s.take k)).reverse.length:=by rw[Dk]
     rw[this,List.take_left,hk,DX]
    refine Yi ⟨SN,by show(0:Int)≤0;omega,by show(0:Int)≤((By (s.take k)).length:Int);omega,by show((By (s.take k)).length:Int)≤(((arr2 s j k).map Aq).length:Int);omega,.inr ⟨rfl,by simp⟩⟩ ?_;exact .of_eq (Ac (AV.slice .none) nQ)
end Go.Eng
namespace Go.Eng
open Go.Proofs Go.Sort
abbrev Gu(z:Int):List AV:=[vi z]
theorem PU{α:Type}[Inhabited α](enc:α→Value)(w:World)(b:Nat)(d:Array α):putRow enc w b 0 d=putRow id w b 0 (d.map enc):=by
 unfold putRow
 congr 1
 funext c
 unfold putCells;apply Array.ext
 ·simp
 ·intro i h1 h2;simp only[Array.getElem_mapIdx,Array.size_map]
  by_cases h:i<d.size
  ·rw[Ao (by omega),Ao (by omega)];rw[Ds d (i-0) (by omega),Ds (d.map enc) (i-0) (by simpa using h)];simp
  ·rw[Ah (by omega),Ah (by omega)]
theorem UT(zs:List Int):(zs.map Gu).flatten=(zs.map fun z=>Value.int .i64 z).map AV.v:=by
 induction zs with
 |nil=>rfl
 |cons z zs ih=>rw[AL,Bv,ih];rfl
theorem ML(g:Gh)(w:World)(U:Nat→Prop)(vs:List Value)(h:∀x∈vs,x.oneCell'=true):Cu g w U (vs.map .v) vs :=
 ⟨by simp,h,fun i av x q1 q2=>by
  rw[AG,q2]at q1;cases q1;exact .v _ _⟩
theorem La{g:Gh}{w:World}{U:Nat→Prop}{vs us:List Value}(h:Cu g w U (vs.map .v) us):us=vs:=by
 apply CX;intro i;have hl:=h.1;rw[Lm]at hl
 by_cases hi:i<vs.length
 ·have:=h.2.2 i (.v vs[i]) us[i] (by rw[AG,Ge hi];rfl) (Ge (by omega))
  rw[Ge hi,Ge (by omega),this.v_eq]
 ·rw[A1 (by omega),A1 (by omega)]
theorem tU(zs:List Int)(hl:CM zs)(Dt:zs≠[]) :
  A3 Tryz.prog 242 [.msl 1000 zs.length] (Ai [(1000,.arr 1 (zs.map Gu))] Ab) fun r h' =>
   r=.tup []∧∃l' : List Int,(l'.Perm zs∧l'.Pairwise fun a b=>a≤b)∧h'=Ai [(1000,.arr 1 (l'.map Gu))] Ab:=by
 have hl:zs.length≤1073741824:=hl;have hE:F1 Tryz.prog 242:=dJ 242 Tryz.func242 (by kernel_rfl) rfl;have Hd:=Pt (P:=Tryz.prog) (f:=242) (es:=zs.map Gu) (sz:=1) (rest:=[]) (Q:=fun FB=>∃l' : List Int,(l'.Perm zs∧l'.Pairwise fun a b=>a≤b)∧FB=l'.map Gu) hE ?_ ?_
 ·rw[Lm]at Hd;refine⟨hE,fun g w vals q1 q2 q3=>(Hd.2 g w vals q1 q2 q3).mono fun _ _ ⟨v,r,h',g',e1,⟨e2,FB,⟨l',p1,p2⟩,p3⟩,rest⟩=>⟨v,r,h',g',e1,⟨e2,l',p1,by rw[p3,p2]⟩,rest⟩⟩
 ·intro e
  have:zs=[]:=by simpa using e
  exact absurd this Dt
 ·intro g w b cap F hr hF hH hb;have qh:F.toList=zs.map fun z=>Value.int .i64 z:=La (by rw[←UT];exact hr);have fH:F=zs.toArray.map fun z=>Value.int .i64 z:=IA.1 (by rw[qh];simp);have qi:Holds (Value.int .i64) w b 0 zs.toArray:=fun j hj=>by
   have:=hH j (by rw[fH];simpa using hj)
   refine⟨this.1.trans ?_,this.2⟩;rw[fH,Ds _ j (by simpa using hj),Ds _ j hj];simp
  have hc:=Any.slices_Sort_int Tryz.laySortInts b 0 cap zs w qi hb (by omega);rw[Lm];refine hc.mono ?_
  rintro e w' ⟨rfl,n,os,rfl⟩
  have IR:(zs.mergeSort fun x y=>decide (x≤y)).Perm zs:=List.mergeSort_perm _ _;have Cq:=IR.length_eq;refine⟨rfl,(zs.mergeSort fun x y=>decide (x≤y)).toArray.map fun z=>Value.int .i64 z,(zs.mergeSort fun x y=>decide (x≤y)).map Gu,n,os,?_,⟨_,⟨IR,?_⟩,rfl⟩,by simp[Cq],fun cs hcs=>?_,fun g w _=>?_,by rw[PU]⟩
  ·rw[fH];simp[Cq]
  ·have:=List.pairwise_mergeSort (le:=fun x y:Int=>decide (x≤y)) (fun a b c h1 h2=>by simp only[As]at *;omega) (fun a b=>by simp only[Cm,As];omega) zs
   exact this.imp fun h=>A2 h
  ·obtain⟨x,_,rfl⟩:=Ak.1 hcs;rfl
  ·rw[UT];have e:((zs.mergeSort fun x y=>decide (x≤y)).toArray.map fun z=>Value.int .i64 z).toList=(zs.mergeSort fun x y=>decide (x≤y)).map fun z=>Value.int .i64 z:=by simp
   rw[e];exact ML _ _ _ _ fun x hx=>by
    obtain⟨z,_,rfl⟩:=Ak.1 hx;rfl
-- maps from numbers to numbers
abbrev WE:EE:=⟨false,[.int .i64]⟩
abbrev kI(z:Int):Value:=.int .i64 z
abbrev LA(p:Int×Int):Value×AV:=(kI p.1,vi p.2)
abbrev Fk(s:Bh):List AV:=[sl Aq s]
theorem Rz{m:List (Int×Int)}{k:Int}{a:AV}:(kI k,a)∈m.map LA↔∃v,(k,v)∈m∧a=vi v:=by
 rw[Ak];constructor
 ·rintro⟨⟨k',v⟩,h1,h2⟩
  simp only[FM,Value.int.injEq,true_and]at h2;obtain⟨rfl,rfl⟩:=h2;exact⟨v,h1,rfl⟩
 ·rintro⟨v,h1,rfl⟩
  exact⟨(k,v),h1,rfl⟩
theorem RB(m:List (Int×Int))(k v:Int):ER (m.map LA) (kI k) (vi v)=(K9 m k v).map LA:=by
 unfold K9
 by_cases h:(m.any fun p=>decide (p.1=k))=true
 ·rw[Ao h];obtain⟨p,h1,h2⟩:=Bb.1 h;have h2:=A2 h2
  have:(kI k,vi p.2)∈m.map LA:=Rz.2 ⟨p.2,by rw[←h2];exact h1,rfl⟩
  rw[PN this,BB,BB];apply A5;intro q _;simp only[Function.comp]
  by_cases e:q.1=k
  ·simp[e]
  ·have:¬kI q.1=kI k:=fun c=>e (by injection c)
   simp[e]
 ·rw[Ah h]
  have:∀b,(kI k,b)∉m.map LA:=fun b hb=>by
   obtain⟨v,h1,_⟩:=Rz.1 hb;exact h (Bb.2 ⟨(k,v),h1,by simp⟩)
  rw[Kw this,Ay];rfl
theorem OE{T:Gs}{e:Nat}{BX:List (Value×AV)}{kx:Value}{K:AV→Prop}(a0 z0:AV)(h1:∀a,(kx,a)∈BX→a=a0)(hz:(∀a,(kx,a)∉BX)→a0=z0)(h2:K z0→Kc T e K)(k:K a0) :
  (∀a,(kx,a)∈BX→K a)∧((∀a,(kx,a)∉BX)→Kc T e K):=⟨fun a h=>by rw[h1 a h];exact k,fun hn=>h2 (hz hn▸k)⟩
theorem Ql(m:List (Int×Int))(k:Int):(∀a,(kI k,a)∉m.map LA)→vi (Fg m k)=vi 0:=fun Ri=>by
 rw[iQ fun hk=>by
  obtain⟨p,hp,e⟩:=Ak.1 hk;exact Ri (vi p.2) (Rz.2 ⟨p.2,by rw[←e];exact hp,rfl⟩)]
theorem Qk{m:List (Int×Int)}(hn:(E0 m).Nodup)(k:Int):∀a,(kI k,a)∈m.map LA→a=vi (Fg m k):=fun a h=>by
 obtain⟨v,h1,rfl⟩:=Rz.1 h;rw[iP hn h1]
theorem Il.bound{m:List (Int×Int)}{S:Bh}(h:Il m S)(k:Int):-(S.length:Int)≤Fg m k∧Fg m k≤S.length:=by
 rw[h.val]
 have:cF S k≤S.length:=List.countP_le_length
 have:cT S k≤S.length:=List.countP_le_length
 omega
theorem Y6(l:List Bh):(l.map canon).flatten.length≤l.length*1000000:=by
 induction l with
 |nil=>simp
 |cons s l ih =>
  rw[AL,Bv,Ad,Av]
  have:=H4 (Cb s)
  omega
theorem Il.few{m:List (Int×Int)}{S:Bh}(h:Il m S):m.length≤1000001:=by
 have:=Ij (m:=(List.range 1000001).map Int.ofNat) h.nd fun k hk=>by
  have:=h.rng k hk
  exact Ak.2 ⟨k.toNat,List.mem_range.2 (by omega),by show(k.toNat:Int)=k;omega⟩
 unfold E0 at this;rw[Lm,Lm,Qs]at this;exact this
theorem U4(keep:Nat→Bool)(m:List (Int×Int))(B:List Int):∀n,(Eo keep m B n).length≤n
 |0=>Al _
 |n+1=>by
  unfold Eo
  have:=U4 keep m B n
  rw[Ad];split
  ·split<;>simp<;>omega
  ·simp;omega
end Go.Eng
namespace Go.Eng
open Go.Proofs
abbrev plC:RO:=⟨[],[(12,2)],[(44,1)],[],[],[],[],[],[],[],[8,9,15,23,25,26]⟩
theorem mV(F:AV)(keep:Nat→Bool)(l:List Bh)(hl:CM l)(hs:∀s∈l,CM s)(hid:∀h,Ul h F=true)(hF:∀h (n:Int),0≤n→n≤l.length→Pp Tryz.prog (str h F) [vi n] (vb (keep n.toNat)))
  (R:Bh) (hR:Ez R) (zH:∀p,has R p=(Lz p&&keep (dH l p))):PC 209 [F,sl Fk l] (sl Aq R):=by
 have hl:l.length≤1073741824:=hl;refine Ps plC Tryz.func209 rfl (Nz rfl) ?_;refine Xi {p:Nat×List (Int×Int) // p.1≤l.length∧Il p.2 ((l.take p.1).map canon).flatten} (Xi (fun p=>⟨[(0,F),(5,.mref 15),(17,sl Fk l),(18,vi (l.map Fk).length),(19,vi p.1.1)],[(15,.map WE (p.1.2.map LA))],Ab⟩) (Xi (fun p=>l.length-p.1.1) (Yi (Xi ⟨(0,pU),AJ _,jF⟩ ?_) ?_)))
 ·have e0:HO.map WE (ER (ER [] (kI 0) (vi 0)) (kI 1000000) (vi 0))=.map WE (pU.map LA):=by
   have e1:=RB [] 0 0;have e2:=RB [(0,0)] 1000000 0;show HO.map WE (ER (ER (List.map LA []) (kI 0) (vi 0)) (kI 1000000) (vi 0))=_;rw[e1];show HO.map WE (ER (List.map LA [(0,0)]) (kI 1000000) (vi 0))=_;rw[e2];rfl
  exact⟨⟨⟨rfl,hid _⟩,Zr,Zr,Zr,Zr,Tv⟩,⟨⟨e0,rfl⟩,Tv⟩,Fh,Tv⟩
 intro⟨⟨i,cm⟩,i1,i2⟩;have i1:i≤l.length:=i1;have i2:Il cm ((l.take i).map canon).flatten:=i2;refine Yi ?_ ?_
 ·intro h;have h:(i:Int)<(l.map Fk).length:=h;have h:i<l.length:=by simpa using h
  have hg:l[i]?=some l[i]:=Ge h;refine Xi (Fk l[i]) (Yi (Yi (Nn i) (by simp[hg])) (Yi rfl ?_));refine Xi .pure (Xi _ (Yi (W5 l[i] (hs _ (AC h))) ?_));refine Xi {p:Nat×List (Int×Int) // p.1≤(canon l[i]).length∧Il p.2 (((l.take i).map canon).flatten++(canon l[i]).take p.1)} (Xi (fun p=>⟨[(0,F),(5,.mref 15),(17,sl Fk l),(18,vi (l.map Fk).length),(19,vi i),(24,sl Aq (canon l[i])),(25,vi ((canon l[i]).map Aq).length),(26,vi p.1.1)],[(15,.map WE (p.1.2.map LA))],Ab⟩) (Xi (fun p=>(canon l[i]).length-p.1.1) (Yi (Xi ⟨(0,cm),AJ _,by rw[List.take_zero,BP];exact i2⟩ ?_) ?_)))
  ·exact⟨⟨⟨rfl,hid _⟩,Zr,Zr,Zr,Zr,Zr,Zr,Zr,Tv⟩,Z1,Fh,Tv⟩
  intro⟨⟨j,dm⟩,j1,j2⟩;have j1:j≤(canon l[i]).length:=j1;have j2:Il dm (((l.take i).map canon).flatten++(canon l[i]).take j):=j2;have hS:(((l.take i).map canon).flatten++(canon l[i]).take j).length≤1073741825000000:=by
   have a1:=Y6 (l.take i);have a2:=H4 (Cb l[i]);rw[AB]at a1;rw[Ad,AB];omega
  refine Yi ?_ ?_
  ·intro hj;have hj:(j:Int)<((canon l[i]).map Aq).length:=hj;have hj:j<(canon l[i]).length:=by simpa using hj
   have u7:(canon l[i])[j]?=some (canon l[i])[j]:=Ge hj;have ma:=(Cb l[i]).low _ (AC hj);have j3:Il (Yx dm (canon l[i])[j]) (((l.take i).map canon).flatten++(canon l[i]).take (j+1)):=by
    have:=dx j2 (x:=(canon l[i])[j]) ma
    rw[BH]at this;rw[Bq,u7];exact this
   generalize (canon l[i])[j]=x at u7 ma j3;have b1:=j2.bound x.1;have dO:=L5 j2.nd x.1 (Fg dm x.1+1);refine Xi (Aq x) (Yi (Yi (Nn j) (by simp[u7])) (Yi rfl ?_));refine Yi (Nz rfl) (Yi (Nz rfl) ?_);refine Xi ⟨[(0,F),(5,.mref 15),(9,.ref 9 0),(17,sl Fk l),(18,vi (l.map Fk).length),(19,vi i),(24,sl Aq (canon l[i])),(25,vi ((canon l[i]).map Aq).length),(26,vi j)],[(9,.cells (Aq x)),(15,.map WE (dm.map LA))],Ab⟩ (Yi ⟨⟨⟨rfl,hid _⟩,Zr,Zr,Zr,Zr,Zr,Zr,Zr,Zr,Tv⟩,Z2,Fh,Tv⟩ ?_)
   refine OE (vi (Fg dm x.1)) (vi 0) (Qk j2.nd x.1) (Ql dm x.1) (fun q=>q) ?_;refine Yi (by show BR (Fg dm x.1+1);unfold BR;omega) ?_;have m1:HO.map WE (ER (dm.map LA) (kI x.1) (vi (Fg dm x.1+1)))=.map WE ((K9 dm x.1 (Fg dm x.1+1)).map LA):=by rw[RB]
   refine Xi ⟨[(0,F),(5,.mref 15),(9,.ref 9 0),(17,sl Fk l),(18,vi (l.map Fk).length),(19,vi i),(24,sl Aq (canon l[i])),(25,vi ((canon l[i]).map Aq).length),(26,vi j)],[(9,.cells (Aq x)),(15,.map WE ((K9 dm x.1 (Fg dm x.1+1)).map LA))],Ab⟩ (Yi ⟨⟨⟨rfl,hid _⟩,Zr,Zr,Zr,Zr,Zr,Zr,Zr,Zr,Tv⟩,⟨Zr,⟨m1,rfl⟩,Tv⟩,Fh,Tv⟩ ?_)
   have b2:-(1073741825000001:Int)≤Fg (K9 dm x.1 (Fg dm x.1+1)) x.2∧Fg (K9 dm x.1 (Fg dm x.1+1)) x.2≤1073741825000001:=by
    have b3:=j2.bound x.2;rw[Pj];split<;>omega
   refine OE (vi (Fg (K9 dm x.1 (Fg dm x.1+1)) x.2)) (vi 0) (Qk dO x.2) (Ql _ x.2) (fun q=>q) ?_;refine Yi (by show BR (Fg (K9 dm x.1 (Fg dm x.1+1)) x.2-1);unfold BR;omega) ?_;have hcl:=H4 (Cb l[i]);refine Yi (Ii j (by omega)) ?_;have m2:HO.map WE (ER ((K9 dm x.1 (Fg dm x.1+1)).map LA) (kI x.2) (vi (Fg (K9 dm x.1 (Fg dm x.1+1)) x.2-1)))=.map WE ((Yx dm x).map LA):=by rw[RB];rfl
   refine Xi ⟨(j+1,Yx dm x),by show j+1≤_;omega,j3⟩ ?_;exact⟨by show(canon l[i]).length-(j+1)<(canon l[i]).length-j;omega,⟨⟨rfl,hid _⟩,Zr,Zr,Zr,Zr,Zr,Zr,Zr,Tv⟩,⟨⟨m2,rfl⟩,Tv⟩,Fh,Tv⟩
  ·intro hj;have hj:¬(j:Int)<((canon l[i]).map Aq).length:=hj;have hj:¬j<(canon l[i]).length:=by simpa using hj
   refine Yi (Ii i (by omega)) ?_;have i3:Il dm ((l.take (i+1)).map canon).flatten:=by
    have e1:(canon l[i]).take j=canon l[i]:=AE (by omega);rw[e1]at j2;have e2:((l.take (i+1)).map canon).flatten=((l.take i).map canon).flatten++canon l[i]:=by
     rw[Bq,hg,Ay,Cw];show _++(canon l[i]++[])=_;rw[BP]
    rw[e2];exact j2
   refine Xi ⟨(i+1,dm),by show i+1≤_;omega,i3⟩ ?_;exact⟨Dl l.length i (by omega),⟨⟨rfl,hid _⟩,Zr,Zr,Zr,Zr,Tv⟩,Z1,Fh,Tv⟩
 ·intro h;have h:¬(i:Int)<(l.map Fk).length:=h;have h:¬i<l.length:=by simpa using h
  have i3:Il cm (l.map canon).flatten:=by
   rw[AE (by omega)]at i2;exact i2
  have zY:=i3.few;have hmk:(0:Int)≤0∧(0:Int)≤((cm.map LA).length:Int)∧((cm.map LA).length:Int)*((8:Nat):Int)≤140737488355328∧((cm.map LA).length:Int)≤9223372036854775807:=by rw[Lm];omega
  refine Yi hmk ?_;refine Xi {p:List (Value×AV)×List Int×Option (Value×AV) // ((p.2.1.map kI)++p.1.map (·.1)).Perm ((cm.map LA).map (·.1))∧∀kv∈p.1,kv∈cm.map LA} (Xi (fun p=>⟨[(0,F),(5,.mref 15),(10,.msl 44 p.1.2.1.length),(46,.ref 46 0)],[(15,.rom WE (cm.map LA)),(44,.arr 1 (p.1.2.1.map Gu)),(46,.iter (cm.map LA) p.1.1 p.1.2.2)],Ab⟩) (Xi (fun p=>p.1.1.length) (Yi (Xi ⟨(cm.map LA,[],none),.refl _,fun _ h=>h⟩ ?_) ?_)))
  ·exact⟨⟨⟨rfl,hid _⟩,Zr,Zr,Zr,Tv⟩,Z3,Fh,Tv⟩
  intro⟨⟨rem,bs,FA⟩,r1,r2⟩;have r1:((bs.map kI)++rem.map (·.1)).Perm ((cm.map LA).map (·.1)):=r1;have r2:∀kv∈rem,kv∈cm.map LA:=r2;have hbl:bs.length≤1000001:=by
   have:=r1.length_eq
   simp only[Ad,Lm]at this;omega
  refine Yi ?_ ?_
  ·intro hr;have hr:rem=[]:=hr;subst hr;rw[E1,BP,BB]at r1;have vC:bs.Perm (E0 cm):=by
    have r1:(bs.map kI).Perm ((E0 cm).map kI):=by unfold E0;rw[BB];exact r1
    have:=r1.map (fun v:Value=>match v with | .int _ n=>n | _=>0)
    rw[BB,BB]at this;have e:((fun v:Value=>match v with | .int _ n=>n | _=>0) ∘ kI)=id:=rfl;rw[e,G6,G6]at this;exact this
   have Dt:bs≠[]:=fun e=>by
    subst e
    have:=vC.length_eq
    have h0:=i3.keys.1;rw[AN this.symm]at h0;cases h0
   refine Xi (.gen [(44,1000)] 0) (Yi rfl ((tU bs (by unfold CM;omega) Dt).to ?_));intro B qg;have jY:B.length=bs.length:=qg.1.length_eq;have zu:B.Nodup:=(qg.1.trans vC).nodup_iff.2 i3.nd;have hB:jn B cm:=⟨qg.1.trans vC,by
    rw[AS];intro a b ha hb jd;have h1:=(AS.1 qg.2) a b ha hb jd;have h2:B[a]≠B[b]:=(AS.1 zu) a b ha hb jd;omega⟩
   have xH:0<B.length:=by
    rw[jY];exact MV.2 Dt
   have uB:bs.length=(B.map Gu).length:=by rw[Lm,jY]
   refine Yi (by show BR ((bs.length:Int)-1);unfold BR;omega) ?_;refine Xi {k:Nat // k≤B.length-1} (Xi (fun k=>⟨[(0,F),(5,.mref 15),(10,.msl 44 bs.length),(12,.slice (.id 12 2) ((Eo keep cm B k.1).map Aq)),(13,vi (Iz cm (B.take k.1))),(59,vi ((bs.length:Int)-1)),(60,vi k.1)],[(12,.tok 2 ((Eo keep cm B k.1).map Aq).length),(15,.rom WE (cm.map LA)),(44,.arr 1 (B.map Gu))],Ab⟩) (Xi (fun k=>B.length-k.1) (Yi (Xi ⟨0,AJ _⟩ ?_) ?_)))
   ·exact⟨⟨⟨rfl,hid _⟩,Zr,Zr,Zr,Zr,Zr,Zr,Tv⟩,Z3,Fh,Tv⟩
   intro⟨k,k1⟩;have pf:=U4 keep cm B k;refine Yi ?_ ?_
   ·intro hk;have hk:(k:Int)<(bs.length:Int)-1:=hk;have Iu:k+1<B.length:=by omega
    have UY:k<B.length:=by omega
    have lM:(B.map Gu)[k]?=some (Gu B[k]):=Dg (Ge UY);have uL:(B.map Gu)[k+1]?=some (Gu B[k+1]):=Dg (Ge Iu);have Ui:=Qi cm B k UY;have ra:=iD i3 hB k UY;have SM:Eo keep cm B (k+1)=Eo keep cm B k++(if keep (Iz cm (B.take (k+1))).toNat then [(B[k],B[k+1])]else []):=by
     show _++(match B[k]?,B[k+1]? with | some a,some b=>if keep (Iz cm (B.take (k+1))).toNat then [(a,b)]else [] | _,_=>[])=_;rw[Ge UY,Ge Iu]
    refine Xi ⟨[(0,F),(5,.mref 15),(10,.msl 44 bs.length),(12,.slice (.id 12 2) ((Eo keep cm B k).map Aq)),(13,vi (Iz cm (B.take k))),(14,vi k),(59,vi ((bs.length:Int)-1)),(60,vi k)],[(12,.tok 2 ((Eo keep cm B k).map Aq).length),(15,.rom WE (cm.map LA)),(44,.arr 1 (B.map Gu))],Ab⟩ (Yi ⟨⟨⟨rfl,hid _⟩,Zr,Zr,Zr,Zr,Zr,Zr,Zr,Tv⟩,Z3,Fh,Tv⟩ ?_)
    refine Yi ⟨by show(0:Int)≤k;omega,by show(k:Int)<bs.length;omega⟩ ?_;refine Yi uB (Xi (Gu B[k]) (Yi lM ?_));refine OE (vi (Fg cm B[k])) (vi 0) (Qk i3.nd B[k]) (Ql cm B[k]) (fun q=>q) ?_;refine Yi (by show BR (Iz cm (B.take k)+Fg cm B[k]);rw[←Ui];unfold BR;omega) ?_;have D1:∀h,Pp Tryz.prog (str h F) [vi (Iz cm (B.take k)+Fg cm B[k])] (vb (keep (Iz cm (B.take (k+1))).toNat)):=fun h=>by
     rw[←Ui];exact hF h _ ra.1 ra.2
    refine Dp (Bt (keep (Iz cm (B.take (k+1))).toNat)) (fun hp=>?_) (fun hp=>?_)
    ·rw[hp]at D1;rw[hp,Ao rfl]at SM;refine Xi .pure (Xi (vb true) (Yi (D1 _) ?_));refine Xi ⟨[(0,F),(5,.mref 15),(10,.msl 44 bs.length),(12,.slice (.id 12 2) ((Eo keep cm B k).map Aq)),(13,vi (Iz cm (B.take k)+Fg cm B[k])),(14,vi k),(59,vi ((bs.length:Int)-1)),(60,vi k)],[(12,.tok 2 ((Eo keep cm B k).map Aq).length),(15,.rom WE (cm.map LA)),(44,.arr 1 (B.map Gu))],Ab⟩ (Yi ⟨⟨⟨rfl,hid _⟩,Zr,Zr,Zr,Zr,Zr,Zr,Zr,Tv⟩,Z3,Fh,Tv⟩ ?_)
     have b1:(0:Int)≤(k:Int)+1∧(k:Int)+1<bs.length:=by omega
     have uM:(B.map Gu)[((k:Int)+1).toNat]?=some (Gu B[k+1]):=by rw[show((k:Int)+1).toNat=k+1 by omega];exact uL
     refine Yi ⟨by show(0:Int)≤k;omega,by show(k:Int)<bs.length;omega⟩ ?_;refine Yi uB (Xi (Gu B[k]) (Yi lM ?_));refine Yi (Ii k (by omega)) ?_;refine Yi b1 ?_;refine Yi uB (Xi (Gu B[k+1]) (Yi uM ?_));have Hl:Df 2 [[vi B[k],vi B[k+1]]]∧((Eo keep cm B k).map Aq).length=((Eo keep cm B k).map Aq).length∧(((Eo keep cm B k).map Aq).length+[[vi B[k],vi B[k+1]]].length)*16≤140737488355328∧((Eo keep cm B k).map Aq).length+[[vi B[k],vi B[k+1]]].length≤9223372036854775807 :=
      ⟨⟨rfl,trivial⟩,rfl,by rw[Lm,A8];omega,by rw[Lm,A8];omega⟩
     refine Yi Hl ?_;refine Yi (by kernel_rfl) ?_;refine Xi ⟨[(0,F),(5,.mref 15),(10,.msl 44 bs.length),(12,.slice (.id 12 2) ((Eo keep cm B k).map Aq++[[vi B[k],vi B[k+1]]])),(13,vi (Iz cm (B.take k)+Fg cm B[k])),(59,vi ((bs.length:Int)-1)),(60,vi k)],[(12,.tok 2 (((Eo keep cm B k).map Aq).length+[[vi B[k],vi B[k+1]]].length)),(15,.rom WE (cm.map LA)),(44,.arr 1 (B.map Gu))],Ab⟩ (Yi ⟨⟨⟨rfl,hid _⟩,Zr,Zr,Zr,Zr,Zr,Zr,Tv⟩,Z3,Fh,Tv⟩ ?_)
     refine Yi (Ii k (by omega)) ?_;refine Xi ⟨k+1,by omega⟩ ?_;have e1:AV.slice (.id 12 2) ((Eo keep cm B k).map Aq++[[vi B[k],vi B[k+1]]])=.slice (.id 12 2) ((Eo keep cm B (k+1)).map Aq):=by rw[SM,Ay];rfl
     have e2:vi (Iz cm (B.take k)+Fg cm B[k])=vi (Iz cm (B.take (k+1))):=by rw[Ui]
     have e3:HO.tok 2 (((Eo keep cm B k).map Aq).length+[[vi B[k],vi B[k+1]]].length)=.tok 2 ((Eo keep cm B (k+1)).map Aq).length:=by rw[SM,Ay,Ad];rfl
     exact⟨Dl B.length k (by omega),⟨⟨rfl,hid _⟩,Zr,Zr,⟨e1,rfl⟩,⟨e2,rfl⟩,Zr,Zr,Tv⟩,⟨⟨e3,rfl⟩,Zr,Zr,Tv⟩,Fh,Tv⟩
    ·rw[hp]at D1;have SM:Eo keep cm B (k+1)=Eo keep cm B k:=by rw[SM,hp,Ah Bool.false_ne_true,BP]
     refine Xi .pure (Xi (vb false) (Yi (D1 _) ?_));refine Xi ⟨[(0,F),(5,.mref 15),(10,.msl 44 bs.length),(12,.slice (.id 12 2) ((Eo keep cm B k).map Aq)),(13,vi (Iz cm (B.take k)+Fg cm B[k])),(59,vi ((bs.length:Int)-1)),(60,vi k)],[(12,.tok 2 ((Eo keep cm B k).map Aq).length),(15,.rom WE (cm.map LA)),(44,.arr 1 (B.map Gu))],Ab⟩ (Yi ⟨⟨⟨rfl,hid _⟩,Zr,Zr,Zr,Zr,Zr,Zr,Tv⟩,Z3,Fh,Tv⟩ ?_)
     refine Yi (Ii k (by omega)) ?_;refine Xi ⟨k+1,by omega⟩ ?_;have e1:AV.slice (.id 12 2) ((Eo keep cm B k).map Aq)=.slice (.id 12 2) ((Eo keep cm B (k+1)).map Aq):=by rw[SM]
     have e2:vi (Iz cm (B.take k)+Fg cm B[k])=vi (Iz cm (B.take (k+1))):=by rw[Ui]
     have e3:HO.tok 2 ((Eo keep cm B k).map Aq).length=.tok 2 ((Eo keep cm B (k+1)).map Aq).length:=by rw[SM]
     exact⟨Dl B.length k (by omega),⟨⟨rfl,hid _⟩,Zr,Zr,⟨e1,rfl⟩,⟨e2,rfl⟩,Zr,Zr,Tv⟩,⟨⟨e3,rfl⟩,Zr,Zr,Tv⟩,Fh,Tv⟩
   ·intro hk;have hk:¬(k:Int)<(bs.length:Int)-1:=hk;have Iu:k=B.length-1:=by omega
    have uR:canon (Eo keep cm B k)=R:=by
     refine(Sd hR fun p=>?_).symm;rw[Iu,zH,gw i3 hB]
    have hc:=W5 (Eo keep cm B k) (by unfold CM;omega);rw[uR]at hc;refine Xi .pure (Xi _ (Yi hc ?_));exact .refl _
  ·intro kv NP hp;refine CF (Ak.1 (r2 kv (hp.mem_iff.2 (Aa ..)))) (fun q hq=>?_);have hq2:=hq.2;subst hq2;refine Xi ⟨[(0,F),(5,.mref 15),(10,.msl 44 bs.length),(46,.ref 46 0)],[(15,.rom WE (cm.map LA)),(44,.arr 1 (bs.map Gu)),(46,.iter (cm.map LA) NP (some (LA q)))],Ab⟩ (Yi ⟨⟨⟨rfl,hid _⟩,Zr,Zr,Zr,Tv⟩,Z3,Fh,Tv⟩ ?_)
   have Hl:Df 1 [Gu q.1]∧(bs.map Gu).length=bs.length∧((bs.map Gu).length+[Gu q.1].length)*8≤140737488355328∧(bs.map Gu).length+[Gu q.1].length≤9223372036854775807 :=
    ⟨⟨rfl,trivial⟩,by rw[Lm],by rw[Lm,A8];omega,by rw[Lm,A8];omega⟩
   refine Yi Hl ?_;have e1:AV.msl 44 ((bs.map Gu).length+[Gu q.1].length)=.msl 44 (bs++[q.1]).length:=by simp
   have e2:HO.arr 1 (bs.map Gu++[Gu q.1])=.arr 1 ((bs++[q.1]).map Gu):=by simp
   refine Xi ⟨(NP,bs++[q.1],some (LA q)),?_,fun kv Po=>r2 kv (hp.mem_iff.2 (Ag _ Po))⟩ ?_
   ·show(((bs++[q.1]).map kI)++NP.map (·.1)).Perm _;have h1:=hp.map (fun x:Value×AV=>x.1);rw[AL]at h1;rw[Ay,BH];exact(List.Perm.append_left _ h1.symm).trans r1
   ·exact⟨by show NP.length<rem.length;rw[hp.length_eq];simp,⟨⟨rfl,hid _⟩,Zr,⟨e1,rfl⟩,Zr,Tv⟩,⟨Zr,⟨e2,rfl⟩,Zr,Tv⟩,Fh,Tv⟩
theorem tL(n:Int)(l:List Bh):PC 259 [vi n,.cptr [sl Fk l]] (vb (decide (n=l.length))):=by
 refine Ps Gn Tryz.func259 rfl (Nz rfl) ?_;have e:((l.map Fk).length:Int)=l.length:=by rw[Lm]
 refine Yi ?_ ?_
 ·intro h;have h:n=((l.map Fk).length:Int):=h;rw[show decide (n=(l.length:Int))=true from Ax (h.trans e)];exact .refl _
 ·intro h;have h:¬n=((l.map Fk).length:Int):=h;rw[show decide (n=(l.length:Int))=false from Az (fun c=>h (c.trans e.symm))];exact .refl _
theorem tN(n:Int):PC 210 [vi n] (vb (decide (n=0))):=by
 refine Ps Gn Tryz.func210 rfl (Nz rfl) ?_;refine Yi ?_ ?_
 ·intro h;have h:n=0:=h;rw[Ax h];exact .refl _
 ·intro h;have h:¬n=0:=h;rw[Az h];exact .refl _
theorem uk(n:Int):PC 245 [vi n] (vb (decide (0<n))):=by
 refine Ps Gn Tryz.func245 rfl (Nz rfl) ?_;refine Yi ?_ ?_
 ·intro h;have h:0<n:=h;rw[Ax h];exact .refl _
 ·intro h;have h:¬0<n:=h;rw[Az h];exact .refl _
theorem gq(l:List Bh)(p:Int):decide (dH l p=l.length)=l.all fun s=>has s p:=by
 unfold dH;rw[BO,As,List.countP_eq_length,Bp]
theorem gt(l:List Bh)(p:Int):decide (0<dH l p)=l.any fun s=>has s p:=by
 unfold dH;rw[BO,As,List.countP_pos_iff,Bb]
theorem tB(l:List Bh)(hl:CM l)(hs:∀s∈l,CM s):PC 243 [sl Fk l] (sl Aq (PJ l)):=by
 have hc:=mV (.clo 259 [.cptr [sl Fk l]]) (fun n=>decide (n=l.length)) l hl hs (fun _=>rfl) (fun h n h0 _=>by
  have:=tL n l
  have e:decide (n=(l.length:Int))=decide (n.toNat=l.length):=by rw[decide_eq_decide];omega
  rw[e]at this;exact this) (PJ l) (Wq l) fun p=>by rw[SG,gq]
 refine Ps (jk [1]) Tryz.func243 rfl (Nz rfl) ?_;refine Xi .pure (Xi _ (Yi (hc) ?_));exact .refl _
theorem mQ(s:Bh)(hs:CM s):PC 181 [sl Aq s] (sl Aq (Eh s)):=by
 have hc:=mV (.v (Uc 210)) (fun n=>decide (n=0)) [s] (by unfold CM;simp) (fun t ht=>by rw[Am.1 ht];exact hs) (fun _=>rfl) (fun h n h0 _=>by
  have:=tN n
  have e:decide (n=0)=decide (n.toNat=0):=by rw[decide_eq_decide];omega
  rw[e]at this;exact this) (Eh s) (Ha s) fun p=>by
   rw[FF]
   have:dH [s] p=if has s p then 1 else 0:=by unfold dH;rw[IE];simp
   rw[this];cases has s p<;>rfl
 refine Ps Gn Tryz.func181 rfl (Nz rfl) ?_;refine Xi .pure (Xi _ (Yi (hc) ?_));exact .refl _
theorem uh(l:List Bh)(hl:CM l)(hs:∀s∈l,CM s):PC 220 [sl Fk l] (sl Aq (Qj l)):=by
 have hc:=mV (.v (Uc 245)) (fun n=>decide (0<n)) l hl hs (fun _=>rfl) (fun h n h0 _=>by
  have:=uk n
  have e:decide (0<n)=decide (0<n.toNat):=by rw[decide_eq_decide];omega
  rw[e]at this;exact this) (Qj l) (WH l) fun p=>by
   rw[SH,gt];cases h:l.any fun s=>has s p with
   |false=>simp
   |true =>
    obtain⟨s,_,h2⟩:=Bb.1 h
    have:=LX h2
    simp[Lz,this]
 refine Ps Gn Tryz.func220 rfl (Nz rfl) ?_;refine Xi .pure (Xi _ (Yi (hc) ?_));exact .refl _
-- terms
theorem zl(t:Tm)(ht:CM t.set):PC 216 [.agg (AD t)] (vb (!t.absent&&(canon t.set).isEmpty)):=by
 refine Ps Gn Tryz.func216 rfl (Nz rfl) ?_;refine Yi ?_ ?_
 ·intro h;have h:t.absent=true:=h;rw[h];exact .refl _
 ·intro h;have h:t.absent=false:=h;refine Xi .pure (Xi _ (Yi (W5 t.set ht) ?_));refine Yi ?_ ?_
  ·intro h2;have h2:(((canon t.set).map Aq).length:Int)=0:=h2;have h2:canon t.set=[]:=AN (by rw[Lm]at h2;omega);rw[h,h2];exact .refl _
  ·intro h2;have h2:¬(((canon t.set).map Aq).length:Int)=0:=h2;have h2:(canon t.set).isEmpty=false:=by
    cases hc:canon t.set with
    |nil=>rw[hc]at h2;exact absurd rfl h2
    |cons _ _=>rfl
   rw[h,h2];exact .refl _
theorem zm(t:Tm)(ht:CM t.set):PC 217 [.agg (AD t)] (vb (t.absent&&(Eh t.set).isEmpty)):=by
 refine Ps Gn Tryz.func217 rfl (Nz rfl) ?_;refine Yi ?_ ?_
 ·intro h;have h:t.absent=true:=h;refine Xi .pure (Xi _ (Yi (mQ t.set ht) ?_));refine Yi ?_ ?_
  ·intro h2;have h2:(((Eh t.set).map Aq).length:Int)=0:=h2;have h2:Eh t.set=[]:=AN (by rw[Lm]at h2;omega);rw[h,h2];exact .refl _
  ·intro h2;have h2:¬(((Eh t.set).map Aq).length:Int)=0:=h2;have h2:(Eh t.set).isEmpty=false:=by
    cases hc:Eh t.set with
    |nil=>rw[hc]at h2;exact absurd rfl h2
    |cons _ _=>rfl
   rw[h,h2];exact .refl _
 ·intro h;have h:t.absent=false:=h;rw[h];exact .refl _
abbrev Jv(l:List Nat):RO:=⟨[],[],[],[],[],[],[],[],[],[],l⟩
theorem xv(u t:Tm)(hu:CM u.set)(ht:CM t.set):PC 215 [.agg (AD u),.agg (AD t)] (.agg (AD (GN u t))):=by
 have hc:PC 243 [sl Fk [u.set,t.set]] (sl Aq (OL u.set t.set)):=tB [u.set,t.set] (by unfold CM;simp) (fun s hs=>by
  rcases Au.1 hs with rfl | hs
  ·exact hu
  ·rw[Am.1 hs];exact ht)
 refine Ps (Jv [1]) Tryz.func215 rfl (Nz rfl) ?_;refine Xi ⟨[(2,.ref 2 0),(3,.ref 3 0),(4,.ref 4 0)],[(2,.cells (AD u)),(3,.cells (AD t)),(4,.cells [vs ⟨#[]⟩,vb false,.v (.slice none 0 0)])],Ab⟩ (Yi ⟨Z3,Z3,Fh,Tv⟩ ?_)
 refine Yi ?_ ?_
 ·intro h;have h:u.absent=true:=h;refine Yi ?_ ?_
  ·intro h2;have h2:t.absent=true:=h2;have e:[vs u.path,vb true,sl Aq (OL u.set t.set)]=AD (GN u t):=by unfold GN;rw[h,h2];rfl
   refine Xi _ (Yi (hc) ?_);refine Yi (Nz rfl) (Yi (by kernel_rfl) (Yi (Nz rfl) ?_));exact .of_eq (Ac AV.agg e)
  ·intro h2;have h2:t.absent=false:=h2;have e:[vs u.path,vb false,sl Aq (OL u.set t.set)]=AD (GN u t):=by unfold GN;rw[h,h2];rfl
   refine Xi _ (Yi (hc) ?_);refine Yi (Nz rfl) (Yi (by kernel_rfl) (Yi (Nz rfl) ?_));exact .of_eq (Ac AV.agg e)
 ·intro h;have h:u.absent=false:=h;have e:[vs u.path,vb false,sl Aq (OL u.set t.set)]=AD (GN u t):=by unfold GN;rw[h];rfl
  refine Xi _ (Yi (hc) ?_);refine Yi (Nz rfl) (Yi (by kernel_rfl) (Yi (Nz rfl) ?_));exact .of_eq (Ac AV.agg e)
theorem uc(u t:Tm)(hu:CM u.set)(ht:CM t.set):PC 184 [.agg (AD u),.agg (AD t)] (.agg (AD (Da u t))):=by
 have hc:PC 220 [sl Fk [u.set,t.set]] (sl Aq (Pi u.set t.set)):=uh [u.set,t.set] (by unfold CM;simp) (fun s hs=>by
  rcases Au.1 hs with rfl | hs
  ·exact hu
  ·rw[Am.1 hs];exact ht)
 refine Ps (Jv [1]) Tryz.func184 rfl (Nz rfl) ?_;refine Xi ⟨[(2,.ref 2 0),(3,.ref 3 0),(4,.ref 4 0)],[(2,.cells (AD u)),(3,.cells (AD t)),(4,.cells [vs ⟨#[]⟩,vb false,.v (.slice none 0 0)])],Ab⟩ (Yi ⟨Z3,Z3,Fh,Tv⟩ ?_)
 refine Yi ?_ ?_
 ·intro h;have h:u.absent=true:=h;have e:[vs u.path,vb true,sl Aq (Pi u.set t.set)]=AD (Da u t):=by unfold Da;rw[h];rfl
  refine Xi _ (Yi (hc) ?_);refine Yi (Nz rfl) (Yi (by kernel_rfl) (Yi (Nz rfl) ?_));exact .of_eq (Ac AV.agg e)
 ·intro h;have h:u.absent=false:=h;refine Yi ?_ ?_
  ·intro h2;have h2:t.absent=true:=h2;have e:[vs u.path,vb true,sl Aq (Pi u.set t.set)]=AD (Da u t):=by unfold Da;rw[h,h2];rfl
   refine Xi _ (Yi (hc) ?_);refine Yi (Nz rfl) (Yi (by kernel_rfl) (Yi (Nz rfl) ?_));exact .of_eq (Ac AV.agg e)
  ·intro h2;have h2:t.absent=false:=h2;have e:[vs u.path,vb false,sl Aq (Pi u.set t.set)]=AD (Da u t):=by unfold Da;rw[h,h2];rfl
   refine Xi _ (Yi (hc) ?_);refine Yi (Nz rfl) (Yi (by kernel_rfl) (Yi (Nz rfl) ?_));exact .of_eq (Ac AV.agg e)
theorem pO(q:Rq)(hq:CM q.set):PC 175 [.agg (AK q)] (.agg (AD (Dy q))):=by
 refine Ps Gn Tryz.func175 rfl (Nz rfl) ?_;refine Xi _ (Yi (mQ q.set hq) ?_);refine Yi (Nz rfl) (Yi (by kernel_rfl) (Yi (Nz rfl) ?_));exact .refl _
abbrev CP:EE:=⟨false,[.str]⟩
abbrev MA(t:Tm):Value×AV:=(.string t.path,.agg (AD t))
abbrev rA(fin cut:List Nat):RO:=⟨[],[],[],[],fin,[],[],[],[],[],cut⟩
theorem RA{m:List Tm}{p:ByteArray}{a:AV}:(Value.string p,a)∈m.map MA↔∃t∈m,t.path=p∧a=.agg (AD t):=by
 rw[Ak];constructor
 ·rintro⟨t,h1,h2⟩
  simp only[FM,Value.string.injEq]at h2;exact⟨t,h1,h2.1,h2.2.symm⟩
 ·rintro⟨t,h1,rfl,rfl⟩
  exact⟨t,h1,rfl⟩
theorem gG(m:List Tm)(t:Tm):ER (m.map MA) (.string t.path) (.agg (AD t))=(Wy m t).map MA:=by
 unfold Wy
 by_cases h:(m.any fun u=>decide (u.path=t.path))=true
 ·rw[Ao h];obtain⟨u,h1,h2⟩:=Bb.1 h;have h2:=A2 h2
  have:(Value.string t.path,AV.agg (AD u))∈m.map MA:=RA.2 ⟨u,h1,h2,rfl⟩
  rw[PN this,BB,BB];apply A5;intro q _;simp only[Function.comp]
  by_cases e:q.path=t.path
  ·simp[e]
  ·have:¬Value.string q.path=.string t.path:=fun c=>e (by injection c)
   simp[e]
 ·rw[Ah h]
  have:∀b,(Value.string t.path,b)∉m.map MA:=fun b hb=>by
   obtain⟨u,h1,h2,_⟩:=RA.1 hb;exact h (Bb.2 ⟨u,h1,by simp[h2]⟩)
  rw[Kw this,Ay];rfl
theorem fm{m:List Tm}(hn:(Ep m).Nodup)(p:ByteArray){K:AV→Prop}{Z:Prop}(hy:∀u,Dc m p=some u→K (.agg (AD u)))(Ri:Dc m p=none→Z) :
  (∀a,(Value.string p,a)∈m.map MA→K a)∧((∀a,(Value.string p,a)∉m.map MA)→Z) :=
 ⟨fun a h=>by
  obtain⟨t,h1,h2,rfl⟩:=RA.1 h;subst h2;exact hy t ((LQ hn).1 h1),fun h=>Ri (by
  cases e:Dc m p with
  |none=>rfl
  |some u=>exact absurd (RA.2 ⟨u,E7 e,GY e,rfl⟩) (h _))⟩
theorem Ot{t:Tm}(h:Ez t.set):CM t.set:=by
 unfold CM
 have:=H4 h;omega
theorem zk(l:List Tm)(hl:CM l)(hs:∀t∈l,CM t.set):PC 214 [sl AD l,.v (Uc 215)] (.cmap CP ((CO l).map MA)):=by
 have hl:l.length≤1073741824:=hl;refine Ps (rA [10] [5,8]) Tryz.func214 rfl (Nz rfl) ?_;refine Xi {i:Nat // i≤l.length} (Xi (fun i=>⟨[(0,sl AD l),(1,.v (Uc 215)),(5,.mref 10),(11,sl AD l),(12,vi (l.map AD).length),(13,vi i.1)],[(10,.map CP ((CO (l.take i.1)).map MA))],Ab⟩) (Xi (fun i=>l.length-i.1) (Yi (Xi ⟨0,AJ _⟩ ?_) ?_)))
 ·exact⟨Z6,Z1,Fh,Tv⟩
 intro⟨i,h1⟩;have hn:=HE (l.take i);refine Yi ?_ ?_
 ·intro h;have h:(i:Int)<(l.map AD).length:=h;have h:i<l.length:=by simpa using h
  have hg:l[i]?=some l[i]:=Ge h;refine Xi (AD l[i]) (Yi (Yi (Nn i) (by simp[hg])) (Yi rfl ?_));refine Yi (Nz rfl) (Yi (Nz rfl) ?_);have Fc:=hs l[i] (AC h);refine Xi ⟨[(0,sl AD l),(1,.v (Uc 215)),(5,.mref 10),(7,.ref 7 0),(11,sl AD l),(12,vi (l.map AD).length),(13,vi i)],[(7,.cells (AD l[i])),(10,.map CP ((CO (l.take i)).map MA))],Ab⟩ (Yi ⟨Z7,Z2,Fh,Tv⟩ ?_)
  have tail:∀u:Tm,CM u.set→GN u l[i]=NO (Dc (CO (l.take i)) l[i].path) l[i]→ER ((CO (l.take i)).map MA) (.string l[i].path) (.agg (AD (GN u l[i])))=(CO (l.take (i+1))).map MA:=fun u hu e=>by
   have hp:(NO (Dc (CO (l.take i)) l[i].path) l[i]).path=l[i].path:=PT _ _ fun u h=>GY h;have e2:=gG (CO (l.take i)) (GN u l[i]);have e3:(GN u l[i]).path=l[i].path:=by rw[e];exact hp
   rw[e3]at e2;rw[e2,QR l i h,e];rfl
  refine fm hn l[i].path (fun u hu=>?_) (fun hu=>?_)
  ·have Kd:CM u.set:=Ot (OQ _ u (E7 hu));refine Yi (Nz rfl) ?_;refine Xi ⟨[(0,sl AD l),(1,.v (Uc 215)),(5,.mref 10),(7,.ref 7 0),(8,.ref 8 0),(11,sl AD l),(12,vi (l.map AD).length),(13,vi i)],[(7,.cells (AD l[i])),(8,.cells (AD u)),(10,.map CP ((CO (l.take i)).map MA))],Ab⟩ (Yi ⟨Z8,Z3,Fh,Tv⟩ ?_)
   have AT:=tail u Kd (by rw[aW,hu];rfl);refine Yi (Nz rfl) (Yi (Nz rfl) ?_);refine Xi _ (Yi (xv u l[i] Kd Fc) ?_);refine Yi (by kernel_rfl) ?_;refine Yi (Ii i (by omega)) ?_;refine Xi ⟨i+1,by omega⟩ ?_;have e1:HO.map CP (ER ((CO (l.take i)).map MA) (.string l[i].path) (.agg (AD (GN u l[i]))))=.map CP ((CO (l.take (i+1))).map MA):=by rw[AT]
   exact⟨Dl l.length i (by omega),Z6,⟨⟨e1,rfl⟩,Tv⟩,Fh,Tv⟩
  ·refine Yi (Nz rfl) ?_;refine Yi (Nz rfl) (Yi (Nz rfl) ?_);refine Xi ⟨[(0,sl AD l),(1,.v (Uc 215)),(5,.mref 10),(7,.ref 7 0),(8,.ref 8 0),(11,sl AD l),(12,vi (l.map AD).length),(13,vi i)],[(7,.cells (AD l[i])),(8,.cells (AD l[i])),(10,.map CP ((CO (l.take i)).map MA))],Ab⟩ (Yi ⟨Z8,Z3,Fh,Tv⟩ ?_)
   have AT:=tail l[i] Fc (by rw[aW,hu];rfl);refine Yi (Nz rfl) (Yi (Nz rfl) ?_);refine Xi _ (Yi (xv l[i] l[i] Fc Fc) ?_);refine Yi (by kernel_rfl) ?_;refine Yi (Ii i (by omega)) ?_;refine Xi ⟨i+1,by omega⟩ ?_;have e1:HO.map CP (ER ((CO (l.take i)).map MA) (.string l[i].path) (.agg (AD (GN l[i] l[i]))))=.map CP ((CO (l.take (i+1))).map MA):=by rw[AT]
   exact⟨Dl l.length i (by omega),Z6,⟨⟨e1,rfl⟩,Tv⟩,Fh,Tv⟩
 ·intro h;have h:¬(i:Int)<(l.map AD).length:=h;have h:¬i<l.length:=by simpa using h
  have e:(CO (l.take i)).map MA=(CO l).map MA:=by rw[AE (by omega)]
  exact .of_eq (Ac (AV.cmap CP) e)
abbrev GD(l:List Tm):AV:=.tup [sl AD (PQ l),vb (CG l).isSome]
abbrev we:RO:=⟨[],[],[(4,3)],[],[],[],[],[],[],[(25,4)],[4,7,10]⟩
abbrev RU(l:List Tm):HO:=.arr 3 (l.map AD)
abbrev Fe(l:List Tm):List Tm:=l.filter fun t=>!Gt t
theorem kJ{l:List Tm}{kv:Value×AV}{NP : List (Value×AV)}(h:(l.map MA).Perm (kv::NP)):∃t r,kv=MA t∧NP=r.map MA∧l.Perm (t::r):=by
 obtain⟨ps,h1,h2⟩:=Mb h l rfl;cases ps with
 |nil=>cases h2
 |cons t r =>
  rw[AL,Fv]at h2;exact⟨t,r,h2.1.symm,h2.2.symm,h1.symm⟩
theorem W6{l:List Tm}{t:Tm}(h:t∈CO l)(hn:HH t=true):CG l=none:=by
 unfold CG;rw[Ao (Bb.2 ⟨t,(I7 l t).1 h,hn⟩)]
theorem YW{l done s:List Tm}(h:done.Perm (CO l))(hn:∀t∈done,HH t=false)(hp:s.Perm (Fe done))(hs:s.Pairwise fun x y=>Er y.path x.path=false):CG l=some s:=by
 unfold CG;rw[Ah]
 ·congr 1
  exact(Px _ (hp.trans (h.filter _)) hs).symm
 ·intro c;obtain⟨t,h1,h2⟩:=Bb.1 c
  have:=hn t (h.mem_iff.2 ((I7 l t).2 h1))
  rw[h2]at this;cases this
theorem cw(l:List Tm):(Fe l).length≤l.length:=BA _ _
theorem sA(l:List Tm)(hl:CM l)(hs:∀t∈l,CM t.set):PC 183 [sl AD l] (GD l):=by
 have ci:l.length≤1073741824:=hl;have yf:(CO l).length≤l.length:=by have:=NK l l.length (Al _);rwa [DX]at this
 refine Ps we Tryz.func183 rfl (Nz rfl) ?_;refine Xi .pure (Xi _ (Yi (zk l hl hs) ?_));refine Xi {p:List Tm×List Tm×Option (Value×AV) // (p.1++p.2.1).Perm (CO l)∧∀t∈p.1,HH t=false} (Xi (fun p=>⟨[(4,.msl 4 (Fe p.1.1).length),(9,.ref 9 0)],[(4,RU (Fe p.1.1)),(9,.iter ((CO l).map MA) (p.1.2.1.map MA) p.1.2.2)],Ab⟩) (Xi (fun p=>p.1.2.1.length) (Yi (Xi ⟨([],CO l,none),.refl _,fun t ht=>by cases ht⟩ ?_) ?_)))
 ·exact⟨Z2,Z2,Fh,Tv⟩
 intro⟨⟨done,rem,FA⟩,r1,r2⟩;have r1:(done++rem).Perm (CO l):=r1;have r2:∀t∈done,HH t=false:=r2;have hdl:done.length+rem.length≤l.length:=by have:=r1.length_eq;rw[Ad]at this;omega
 have pf:=cw done;refine Yi ?_ ?_
 ·intro hr;have hr:rem.map MA=[]:=hr;have hr:rem=[]:=D3.1 hr;subst hr;rw[BP]at r1;refine Xi (.gen [(4,1000)] 0) (Yi rfl ((zn (Fe done) (by unfold CM;omega)).to ?_));intro s hq;have WQ:s.length=(Fe done).length:=hq.1.length_eq;have hc:=YW r1 r2 hq.1 hq.2;refine Xi ⟨[(4,.msl 4 (Fe done).length)],[(4,RU s)],Ab⟩ (Yi ⟨Z1,Z1,Fh,Tv⟩ ?_)
  refine Yi (by rw[Lm,WQ]) ?_;have e:AV.tup [sl AD s,vb true]=GD l:=by unfold GD PQ;rw[hc];rfl
  exact .of_eq e
 ·intro kv NP hp;refine CF (kJ hp) (fun t hp=>CF hp (fun r hp=>?_));have e1:=hp.1;have e2:=hp.2.1;subst e1;subst e2;have hp:=hp.2.2;have sY:t∈CO l:=r1.mem_iff.1 (Bd _ (hp.mem_iff.2 (Aa ..)));have vL:=OQ l t sY;have yu:=Ot vL;refine Xi ⟨[(4,.msl 4 (Fe done).length),(9,.ref 9 0)],[(4,RU (Fe done)),(9,.iter ((CO l).map MA) (r.map MA) (some (MA t)))],Ab⟩ (Yi ⟨Z2,Z2,Fh,Tv⟩ ?_)
  refine Yi (Nz rfl) (Yi (Nz rfl) ?_);have hv:PC 216 [.agg (AD t)] (vb (HH t)):=gJ vL▸zl t yu;have ha:PC 217 [.agg (AD t)] (vb (Gt t)):=bz vL▸zm t yu;refine Dp (Bt (HH t)) (fun h=>?_) (fun h=>?_)
  ·rw[h]at hv;refine Xi .pure (Xi _ (Yi (hv) ?_));have hc:=W6 sY h;have e:AV.tup [.slice .none [],vb false]=GD l:=by unfold GD PQ;rw[hc];rfl
   have e0:Hk (.tup [.v (.slice none 0 0),vb false]) (.tup [.slice .none [],vb false]):=Hk.tup ⟨.nil,.refl _,trivial⟩;exact e0.trans (.of_eq e)
  ·rw[h]at hv;refine Xi .pure (Xi _ (Yi (hv) ?_));refine Xi ⟨[(4,.msl 4 (Fe done).length),(6,.ref 6 0),(9,.ref 9 0)],[(4,RU (Fe done)),(6,.cells (AD t)),(9,.iter ((CO l).map MA) (r.map MA) (some (MA t)))],Ab⟩ (Yi ⟨Z3,Z3,Fh,Tv⟩ ?_)
   refine Yi (Nz rfl) ?_;have T0:((done++[t])++r).Perm (CO l):=by
    rw[BH];exact(List.Perm.append_left _ hp.symm).trans r1
   have yg:∀u∈done++[t],HH u=false:=fun u hu=>by
    rcases AU.1 hu with hu | hu
    ·exact r2 u hu
    ·rw[Am.1 hu];exact h
   have hrl:r.length<rem.length:=by rw[hp.length_eq,Av];omega
   refine Dp (Bt (Gt t)) (fun h2=>?_) (fun h2=>?_)
   rotate_left
   ·rw[h2]at ha;refine Xi .pure (Xi _ (Yi (ha) ?_));have Hl:Df 3 [AD t]∧((Fe done).map AD).length=(Fe done).length∧(((Fe done).map AD).length+[AD t].length)*48≤140737488355328∧((Fe done).map AD).length+[AD t].length≤9223372036854775807 :=
     ⟨⟨rfl,trivial⟩,by rw[Lm],by rw[Lm,A8];omega,by rw[Lm,A8];omega⟩
    refine Yi (Nz rfl) ?_;refine Yi Hl ?_;have hk:Fe (done++[t])=Fe done++[t]:=by unfold Fe;rw[De,Ci,Ao (by rw[h2];rfl)];rfl
    have e1:AV.msl 4 (((Fe done).map AD).length+[AD t].length)=.msl 4 (Fe (done++[t])).length:=by rw[hk];simp
    have e2:HO.arr 3 ((Fe done).map AD++[AD t])=RU (Fe (done++[t])):=by rw[hk];simp
    refine Xi ⟨(done++[t],r,some (MA t)),T0,yg⟩ ?_;exact⟨hrl,⟨⟨e1,rfl⟩,Zr,Tv⟩,⟨⟨e2,rfl⟩,Zr,Tv⟩,Fh,Tv⟩
   ·rw[h2]at ha;refine Xi .pure (Xi _ (Yi (ha) ?_));have hk:Fe (done++[t])=Fe done:=by unfold Fe;rw[De,Ci,Ah (by rw[h2];decide)];simp
    have e1:AV.msl 4 (Fe done).length=.msl 4 (Fe (done++[t])).length:=by rw[hk]
    have e2:RU (Fe done)=RU (Fe (done++[t])):=by rw[hk]
    refine Xi ⟨(done++[t],r,some (MA t)),T0,yg⟩ ?_;exact⟨hrl,⟨⟨e1,rfl⟩,Zr,Tv⟩,⟨⟨e2,rfl⟩,Zr,Tv⟩,Fh,Tv⟩
theorem m5(l:List Tm)(hl:CM l)(hs:∀t∈l,CM t.set):PC 174 [sl AD l] (sl AD (PQ l)):=by
 refine Ps Gn Tryz.func174 rfl (Nz rfl) ?_;refine Xi .pure (Xi _ (Yi (sA l hl hs) ?_));exact .refl _
theorem PB(s:Bh):CM (Eh s):=by
 unfold CM;have:=H4 (Ha s);omega
theorem nh{α:Type}(x:α):CM [x]:=by unfold CM;simp
theorem uo{α:Type}(x y:α):CM [x,y]:=by unfold CM;simp
theorem tY(q:Rq)(hq:CM q.set):PC 122 [.agg (AK q)] (sl AD (Jw q)):=by
 have hc:PC 174 [sl AD [Dy q]] (sl AD (Jw q)):=m5 [Dy q] (nh _) fun t ht=>by rw[Am.1 ht];exact PB _
 refine Ps Gn Tryz.func122 rfl (Nz rfl) ?_;refine Yi (Nz rfl) ?_;refine Xi .pure (Xi _ (Yi (pO q hq) ?_));refine Xi .pure (Xi _ (Yi (hc) ?_));exact .refl _
theorem tZ(p:ByteArray)(pl:Int)(q:Rq)(hp:BR (pl+1))(hq:CM q.set):PC 123 [vs p,vi pl,.agg (AK q)] (sl AD (Ef p pl q)):=by
 have hc:PC 174 [sl AD [⟨p,false,[(pl,pl+1)]⟩,Dy q]] (sl AD (Ef p pl q)):=m5 [⟨p,false,[(pl,pl+1)]⟩,Dy q] (uo _ _) fun t ht=>by
  rcases Au.1 ht with rfl | ht
  ·exact nh _
  ·rw[Am.1 ht];exact PB _
 refine Ps Gn Tryz.func123 rfl (Nz rfl) ?_;refine Yi hp ?_;refine Yi (Nz rfl) ?_;refine Xi .pure (Xi _ (Yi (pO q hq) ?_));refine Xi .pure (Xi _ (Yi (hc) ?_));exact .refl _
theorem pL(p:ByteArray)(s:Bh)(hs:CM s):PC 127 [vs p,sl Aq s] (sl AD (HJ p s)):=by
 have hc:PC 174 [sl AD [⟨p,false,Eh s⟩]] (sl AD (HJ p s)):=m5 [⟨p,false,Eh s⟩] (nh _) fun t ht=>by rw[Am.1 ht];exact PB _
 refine Ps Gn Tryz.func127 rfl (Nz rfl) ?_;refine Xi .pure (Xi _ (Yi (mQ s hs) ?_));refine Xi .pure (Xi _ (Yi (hc) ?_));exact .refl _
end Go.Eng
