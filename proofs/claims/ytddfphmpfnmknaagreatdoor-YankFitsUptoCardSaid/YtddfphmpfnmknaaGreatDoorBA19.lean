/- Lemmas for the claims of this seat, without a condition: part 19 (C17, C18, C19, C20, C21, C22, C23, C24). -/
import Derived.Test.YtddfphmpfnmknaaGreatDoorBA18
namespace Go.Eng
open Go.Proofs
abbrev xE(l:List (Nat×Nat))(cut:List Nat):Rk:=⟨[],[],l,[],[],[],[],[],[],[],cut⟩
abbrev IB(l:List (Int×Int)):HO:=.arr 2 (l.map Aq)
theorem Yd(l:Bi)(i:Nat):(CF (l.take i)).length≤i:=by
 unfold CF
 have:=BA (fun x:Int×Int=>decide (x.1<x.2)) ((l.take i).map Ha)
 rw[Lm,AB]at this;omega
theorem Ug{l:Bi}{i:Nat}(h:i<l.length)(h3:(Ha l[i]).1<(Ha l[i]).2):CF (l.take (i+1))=CF (l.take i)++[Ha l[i]]:=by
 rw[Bn,Ge h,NT];unfold CF;simp[h3]
theorem Wz{l:Bi}{i:Nat}(h:i<l.length)(h3:¬(Ha l[i]).1<(Ha l[i]).2):CF (l.take (i+1))=CF (l.take i):=by
 rw[Bn,Ge h,NT];unfold CF;simp[h3]
abbrev arr2(s j:Bi)(i:Nat):Bi:=(By (s.take i)).reverse++(j++s.drop i)
theorem iA(s j:Bi)(i:Nat)(h:i<s.length)(hj:(By (s.take i)).length+j.length=i):(arr2 s j i)[i]?=some s[i]:=by
 unfold arr2;rw[AZ (by rw[Di];omega),AZ (by rw[Di];omega),Di,Dq];rw[show i+(i-(By (List.take i s)).length-j.length)=i by omega,Ge h]
theorem aw(s j:Bi)(i:Nat){y:Int×Int}{t:Bi}(e:By (s.take i)=y::t):(arr2 s j i)[t.length]?=some y:=by
 unfold arr2;rw[e,PR,BH,AZ (by rw[Di];omega),Di,F3];rfl
theorem de(s j:Bi)(i:Nat)(h:i≤s.length)(hj:(By (s.take i)).length+j.length=i):(arr2 s j i).length=s.length:=by
 unfold arr2;simp only[Ac,Di,Dn];omega
theorem Zf{α:Type}(s:List α)(i:Nat)(h:i<s.length):s.drop i=s[i]::s.drop (i+1):=Bl h
theorem T4(s j:Bi)(i:Nat)(h:i<s.length)(e:Kx (By (s.take i)) s[i]=s[i]::By (s.take i)) :
  (arr2 s j i).set (By (s.take i)).length s[i]=arr2 s (j++[s[i]]).tail (i+1):=by
 unfold arr2;rw[F8 s i h,e,PR,List.set_append_right _ _ (by rw[Di];exact Am _),Di,F3,BH,Zf s i h]
 congr 1
 cases j with
 |nil=>rfl
 |cons a b=>simp
theorem au(s j:Bi)(i:Nat)(h:i<s.length){y:Int×Int}{t:Bi}(e:By (s.take i)=y::t)(Hb:s[i].1≤y.2) :
  (arr2 s j i).set t.length (y.1,max y.2 s[i].2)=arr2 s (j++[s[i]]) (i+1):=by
 unfold arr2;have e2:Kx (y::t) s[i]=(y.1,max y.2 s[i].2)::t:=by show(if s[i].1≤y.2 then _ else _)=_;rw[Ao Hb]
 rw[F8 s i h,e,e2,PR,PR,BH,List.set_append_right _ _ (by rw[Di];exact Am _),Di,F3,Zf s i h];simp
theorem Dp{α:Type}{enc:α→List AV}{l:List α}{i:Nat}{x:α}(h:l[i]?=some x):(l.map enc)[i]?=some (enc x):=by rw[AC,h];rfl
theorem Ww(l:List (Int×Int))(hl:CU l):PC 116 [sl Aq l] (sl Aq (canon l)):=by
 have hl:l.length≤1073741824:=hl;refine FQ (cH (xE [(3,2)] [5,14,15,16])) rfl Cs hm rfl Tryz.func116 (by kernel_rfl) rfl (Nz rfl) (by kernel_rfl) ?_;refine Xi {i:Nat // i≤l.length} (Xi (fun i=>⟨[(0,sl Aq l),(3,.msl 3 (CF (l.take i.1)).length),(9,sl Aq l),(10,vi (l.map Aq).length),(11,vi i.1)],[(3,IB (CF (l.take i.1)))],Aa⟩) (Xi (fun i=>l.length-i.1) (Yi (Xi ⟨0,by simp⟩ ?_) ?_)))
 ·exact⟨Z5,Z1,Fh,Tv⟩
 ·intro⟨i,h1⟩;have hn:=Yd l i;refine Yi ?_ ?_
  ·intro h;have h:(i:Int)<(l.map Aq).length:=h;have h:i<l.length:=by simpa using h
   have hg:l[i]?=some l[i]:=Ge h;refine Xi (Aq l[i]) (Yi (Yi (Nn i) (by simp[hg])) (Yi rfl ?_));refine Yi (Nz rfl) (Yi (Nz rfl) ?_);refine Xi ⟨[(0,sl Aq l),(3,.msl 3 (CF (l.take i)).length),(5,.ref 5 0),(9,sl Aq l),(10,vi (l.map Aq).length),(11,vi i)],[(3,IB (CF (l.take i))),(5,.cells (Aq l[i]))],Aa⟩ (Yi ⟨Z6,Z2,Fh,Tv⟩ ?_)
   refine Yi (Nz rfl) ?_;refine Yi ?_ ?_
   ·intro h3;have h3:(Ha l[i]).1<(Ha l[i]).2:=h3;refine Yi (Nz rfl) ?_;have G9:De 2 [[vi (max l[i].1 0),vi (min l[i].2 1000000)]]∧((CF (l.take i)).map Aq).length=(CF (l.take i)).length∧(((CF (l.take i)).map Aq).length+[[vi (max l[i].1 0),vi (min l[i].2 1000000)]].length)*16≤140737488355328∧((CF (l.take i)).map Aq).length+[[vi (max l[i].1 0),vi (min l[i].2 1000000)]].length≤9223372036854775807 :=
     ⟨⟨rfl,trivial⟩,by rw[Lm],by rw[Lm,A5];omega,by rw[Lm,A5];omega⟩
    refine Yi G9 ?_;refine Yi (Ii i (by omega)) ?_;refine Xi ⟨i+1,by omega⟩ ?_;have e1:AV.msl 3 (((CF (l.take i)).map Aq).length+[[vi (max l[i].1 0),vi (min l[i].2 1000000)]].length)=.msl 3 (CF (l.take (i+1))).length:=by rw[Ug h h3];simp
    have e2:HO.arr 2 ((CF (l.take i)).map Aq++[[vi (max l[i].1 0),vi (min l[i].2 1000000)]])=IB (CF (l.take (i+1))):=by rw[Ug h h3];simp[Ha]
    exact⟨Dl l.length i (by omega),⟨Zr,⟨e1,rfl⟩,Zr,Zr,Zr,Tv⟩,⟨⟨e2,rfl⟩,Tv⟩,Fh,Tv⟩
   ·intro h3;have h3:¬(Ha l[i]).1<(Ha l[i]).2:=h3;refine Yi (Ii i (by omega)) ?_;refine Xi ⟨i+1,by omega⟩ ?_;have e1:AV.msl 3 (CF (l.take i)).length=.msl 3 (CF (l.take (i+1))).length:=by rw[Wz h h3]
    have e2:IB (CF (l.take i))=IB (CF (l.take (i+1))):=by rw[Wz h h3]
    exact⟨Dl l.length i (by omega),⟨Zr,⟨e1,rfl⟩,Zr,Zr,Zr,Tv⟩,⟨⟨e2,rfl⟩,Tv⟩,Fh,Tv⟩
  ·intro h;have h:¬(i:Int)<(l.map Aq).length:=h;have h:¬i<l.length:=by simpa using h
   have ei:CF (l.take i)=CF l:=by rw[AD (by omega)]
   have hN:(CF (l.take i)).length=(CF l).length:=by rw[ei]
   refine Xi (.gen [(3,1000)] 0) (Yi rfl ((sE (CF (l.take i)) (by unfold CU;omega) (fun x hx=>by have:=Uf hx;omega)).to ?_));intro s hs;have Wh:s.length=(CF (l.take i)).length:=hs.1.length_eq;have hsN:s.length≤1073741824:=by omega
   have fin:(By s).reverse=canon l:=QA (by rw[←ei];exact hs.1) hs.2;refine Xi {p:Nat×Bi // p.1≤s.length∧(By (s.take p.1)).length+p.2.length=p.1} (Xi (fun p=>⟨[(3,.msl 3 (CF (l.take i)).length),(6,vi (By (s.take p.1.1)).length),(34,.msl 3 (CF (l.take i)).length),(35,vi (CF (l.take i)).length),(36,vi p.1.1)],[(3,IB (arr2 s p.1.2 p.1.1))],Aa⟩) (Xi (fun p=>s.length-p.1.1) (Yi (Xi ⟨(0,[]),AO _,rfl⟩ ?_) ?_)))
   ·exact⟨Z5,Z1,Fh,Tv⟩
   intro⟨⟨k,j⟩,k1,k2⟩;have k1:k≤s.length:=k1;have k2:(By (s.take k)).length+j.length=k:=k2;have Cw:=de s j k k1 k2;have Sg:(CF (l.take i)).length=((arr2 s j k).map Aq).length:=by rw[Lm,Cw,Wh]
   refine Yi ?_ ?_
   ·intro h2;have h2:(k:Int)<(CF (l.take i)).length:=h2;have hk:k<s.length:=by omega
    have kG:=Dp (enc:=Aq) (iA s j k hk k2);refine Yi ⟨by show(0:Int)≤k;omega,by show(k:Int)<_;omega⟩ ?_;refine Yi Sg (Xi (Aq s[k]) (Yi kG (Yi (Nz rfl) (Yi (Nz rfl) ?_))));refine Xi ⟨[(3,.msl 3 (CF (l.take i)).length),(6,vi (By (s.take k)).length),(7,vi k),(8,.ref 8 0),(34,.msl 3 (CF (l.take i)).length),(35,vi (CF (l.take i)).length),(36,vi k)],[(3,IB (arr2 s j k)),(8,.cells (Aq s[k]))],Aa⟩ (Yi ⟨Z7,Z2,Fh,Tv⟩ ?_)
    have hr:=SD s k k1;refine Dj (Nat.eq_zero_or_pos k) (fun k0=>?_) (fun k0=>?_)
    ·refine Yi ?_ ?_
     ·intro h4;have h4:(0:Int)<k:=h4;omega
     ·intro _;refine Yi (by kernel_rfl) ?_;have I7:Kx (By (s.take k)) s[k]=s[k]::By (s.take k):=by subst k0;rfl
      have cP:(By (s.take k)).length<(arr2 s j k).length:=by omega
      have hz:=Dp (enc:=Aq) (Ge cP);refine Xi ⟨[(3,.msl 3 (CF (l.take i)).length),(6,vi (By (s.take k)).length),(8,.ref 8 0),(34,.msl 3 (CF (l.take i)).length),(35,vi (CF (l.take i)).length),(36,vi k)],[(3,IB (arr2 s j k)),(8,.cells (Aq s[k]))],Aa⟩ (Yi ⟨⟨⟨rfl,rfl⟩,⟨rfl,rfl⟩,⟨rfl,rfl⟩,⟨rfl,rfl⟩,⟨rfl,rfl⟩,⟨rfl,rfl⟩,Tv⟩,⟨⟨rfl,rfl⟩,⟨rfl,rfl⟩,Tv⟩,Fh,Tv⟩ ?_);refine Yi (Nz rfl) (Yi ⟨by show(0:Int)≤((By (s.take k)).length:Int);omega,by show((By (s.take k)).length:Int)<_;omega⟩ ?_);refine Yi Sg (Xi (Aq (arr2 s j k)[(By (s.take k)).length]) (Yi hz (Yi (Nz rfl) ?_)));refine Yi (by show BM (((By (s.take k)).length:Int)+1);unfold BM;omega) ?_;refine Yi (Ii k (by omega)) ?_;have hm:=F8 s k hk;have e1:vi (((By (s.take k)).length:Int)+1)=vi (By (s.take (k+1))).length:=by rw[hm,I7];simp
      have e2:HO.arr 2 (((arr2 s j k).map Aq).set (By (s.take k)).length [vi s[k].1,vi s[k].2])=IB (arr2 s (j++[s[k]]).tail (k+1)):=by rw[←T4 s j k hk I7];simp only[IB,G7]
      refine Xi ⟨(k+1,(j++[s[k]]).tail),by show k+1≤s.length;omega,by show(By (s.take (k+1))).length+((j++[s[k]]).tail).length=k+1;rw[hm,I7];simp;omega⟩ ?_;exact⟨Dl s.length k (by omega),⟨Zr,⟨e1,rfl⟩,Zr,Zr,Zr,Tv⟩,⟨⟨e2,rfl⟩,Tv⟩,Fh,Tv⟩
    ·refine Yi ?_ ?_
     ·intro _;obtain⟨y,t,e⟩:∃y t,By (s.take k)=y::t:=by
       cases hc:By (s.take k)with
       |nil=>have:=hr.2 k0;rw[hc]at this;simp at this
       |cons y t=>exact⟨y,t,rfl⟩
      have ht:(((By (s.take k)).length:Int)-1).toNat=t.length:=by rw[e];simp
      have hy:((arr2 s j k).map Aq)[(((By (s.take k)).length:Int)-1).toNat]?=some (Aq y):=by rw[ht];exact Dp (aw s j k e)
      refine Yi (by show BM (((By (s.take k)).length:Int)-1);unfold BM;omega) ?_;have Yy:=hr.2 k0;refine Yi ⟨by show(0:Int)≤((By (s.take k)).length:Int)-1;omega,by show((By (s.take k)).length:Int)-1<_;omega⟩ ?_;refine Yi Sg (Xi (Aq y) (Yi hy ?_));refine Yi ?_ ?_
      ·intro h5;have h5:s[k].1≤y.2:=h5;refine Yi (by kernel_rfl) ?_;refine Xi ⟨[(3,.msl 3 (CF (l.take i)).length),(6,vi (By (s.take k)).length),(8,.ref 8 0),(34,.msl 3 (CF (l.take i)).length),(35,vi (CF (l.take i)).length),(36,vi k)],[(3,IB (arr2 s j k)),(8,.cells (Aq s[k]))],Aa⟩ (Yi ⟨⟨⟨rfl,rfl⟩,⟨rfl,rfl⟩,⟨rfl,rfl⟩,⟨rfl,rfl⟩,⟨rfl,rfl⟩,⟨rfl,rfl⟩,Tv⟩,⟨⟨rfl,rfl⟩,⟨rfl,rfl⟩,Tv⟩,Fh,Tv⟩ ?_);refine Yi (by show BM (((By (s.take k)).length:Int)-1);unfold BM;omega) (Yi (by show BM (((By (s.take k)).length:Int)-1);unfold BM;omega) ?_);refine Yi ⟨by show(0:Int)≤((By (s.take k)).length:Int)-1;omega,by show((By (s.take k)).length:Int)-1<_;omega⟩ ?_;refine Yi Sg (Xi (Aq y) (Yi hy ?_));refine Yi ⟨by show(0:Int)≤((By (s.take k)).length:Int)-1;omega,by show((By (s.take k)).length:Int)-1<_;omega⟩ ?_;refine Yi Sg (Xi (Aq y) (Yi hy (Yi (Nz rfl) ?_)));refine Yi (by kernel_rfl) ?_;refine Yi (Ii k (by omega)) ?_;have hm:=F8 s k hk;have I7:Kx (By (s.take k)) s[k]=(y.1,max y.2 s[k].2)::t:=by rw[e];show(if s[k].1≤y.2 then _ else _)=_;rw[Ao h5]
       have e1:vi (By (s.take k)).length=vi (By (s.take (k+1))).length:=by rw[hm,I7,e];simp
       have e2:HO.arr 2 (((arr2 s j k).map Aq).set (((By (s.take k)).length:Int)-1).toNat [vi y.1,vi (max y.2 s[k].2)])=IB (arr2 s (j++[s[k]]) (k+1)):=by rw[←au s j k hk e h5,ht];simp only[IB,G7]
       refine Xi ⟨(k+1,j++[s[k]]),by show k+1≤s.length;omega,by show(By (s.take (k+1))).length+(j++[s[k]]).length=k+1;rw[hm,I7,Ac,A5];rw[e]at k2;simp only[Ax]at k2⊢;omega⟩ ?_;exact⟨Dl s.length k (by omega),⟨Zr,⟨e1,rfl⟩,Zr,Zr,Zr,Tv⟩,⟨⟨e2,rfl⟩,Tv⟩,Fh,Tv⟩
      ·intro h5;have h5:¬s[k].1≤y.2:=h5;refine Yi (by kernel_rfl) ?_;have I7:Kx (By (s.take k)) s[k]=s[k]::By (s.take k):=by rw[e];show(if s[k].1≤y.2 then _ else _)=_;rw[Ai h5]
       have cP:(By (s.take k)).length<(arr2 s j k).length:=by omega
       have hz:=Dp (enc:=Aq) (Ge cP);refine Xi ⟨[(3,.msl 3 (CF (l.take i)).length),(6,vi (By (s.take k)).length),(8,.ref 8 0),(34,.msl 3 (CF (l.take i)).length),(35,vi (CF (l.take i)).length),(36,vi k)],[(3,IB (arr2 s j k)),(8,.cells (Aq s[k]))],Aa⟩ (Yi ⟨⟨⟨rfl,rfl⟩,⟨rfl,rfl⟩,⟨rfl,rfl⟩,⟨rfl,rfl⟩,⟨rfl,rfl⟩,⟨rfl,rfl⟩,Tv⟩,⟨⟨rfl,rfl⟩,⟨rfl,rfl⟩,Tv⟩,Fh,Tv⟩ ?_);refine Yi (Nz rfl) (Yi ⟨by show(0:Int)≤((By (s.take k)).length:Int);omega,by show((By (s.take k)).length:Int)<_;omega⟩ ?_);refine Yi Sg (Xi (Aq (arr2 s j k)[(By (s.take k)).length]) (Yi hz (Yi (Nz rfl) ?_)));refine Yi (by show BM (((By (s.take k)).length:Int)+1);unfold BM;omega) ?_;refine Yi (Ii k (by omega)) ?_;have hm:=F8 s k hk;have e1:vi (((By (s.take k)).length:Int)+1)=vi (By (s.take (k+1))).length:=by rw[hm,I7];simp
       have e2:HO.arr 2 (((arr2 s j k).map Aq).set (By (s.take k)).length [vi s[k].1,vi s[k].2])=IB (arr2 s (j++[s[k]]).tail (k+1)):=by rw[←T4 s j k hk I7];simp only[IB,G7]
       refine Xi ⟨(k+1,(j++[s[k]]).tail),by show k+1≤s.length;omega,by show(By (s.take (k+1))).length+((j++[s[k]]).tail).length=k+1;rw[hm,I7];simp;omega⟩ ?_;exact⟨Dl s.length k (by omega),⟨Zr,⟨e1,rfl⟩,Zr,Zr,Zr,Tv⟩,⟨⟨e2,rfl⟩,Tv⟩,Fh,Tv⟩
     ·intro h4;have h4:¬(0:Int)<k:=h4;omega
   ·intro h2;have h2:¬(k:Int)<(CF (l.take i)).length:=h2;have hk:k=s.length:=by omega
    have hr:=SD s k k1;have mJ:((((arr2 s j k).map Aq).take ((By (s.take k)).length:Int).toNat).drop 0)=(canon l).map Aq:=by
     rw[List.drop_zero,Cn,←List.map_take,←fin];unfold arr2
     have:(By (s.take k)).length=(By (s.take k)).reverse.length:=by rw[Di]
     rw[this,List.take_left,hk,DA]
    refine Yi ⟨Sg,by show(0:Int)≤0;omega,by show(0:Int)≤((By (s.take k)).length:Int);omega,by show((By (s.take k)).length:Int)≤(((arr2 s j k).map Aq).length:Int);omega,.inr ⟨rfl,by simp⟩⟩ ?_;exact .of_eq (Ad (AV.slice .none) mJ)
end Go.Eng
namespace Go.Eng
open Go.Proofs Go.Sort
abbrev Gi(z:Int):List AV:=[vi z]
theorem Pt{α:Type}[Inhabited α](enc:α→Value)(w:World)(b:Nat)(d:Array α):putRow enc w b 0 d=putRow id w b 0 (d.map enc):=by
 unfold putRow
 congr 1
 funext c
 unfold putCells;apply Array.ext
 ·simp
 ·intro i h1 h2;simp only[Array.getElem_mapIdx,Array.size_map]
  by_cases h:i<d.size
  ·rw[Ao (by omega),Ao (by omega)];rw[Dr d (i-0) (by omega),Dr (d.map enc) (i-0) (by simpa using h)];simp
  ·rw[Ai (by omega),Ai (by omega)]
theorem Um(zs:List Int):(zs.map Gi).flatten=(zs.map fun z=>Value.int .i64 z).map AV.v:=by
 induction zs with
 |nil=>rfl
 |cons z zs ih=>rw[AJ,Bv,ih];rfl
theorem Mt(g:Gh)(w:World)(U:Nat→Prop)(vs:List Value)(h:∀x∈vs,x.oneCell'=true):Cu g w U (vs.map .v) vs :=
 ⟨by simp,h,fun i av x q1 q2=>by
  rw[AC,q2]at q1;cases q1;exact .v _ _⟩
theorem KW{g:Gh}{w:World}{U:Nat→Prop}{vs us:List Value}(h:Cu g w U (vs.map .v) us):us=vs:=by
 apply CV;intro i;have hl:=h.1;rw[Lm]at hl
 by_cases hi:i<vs.length
 ·have:=h.2.2 i (.v vs[i]) us[i] (by rw[AC,Ge hi];rfl) (Ge (by omega))
  rw[Ge hi,Ge (by omega),this.v_eq]
 ·rw[A2 (by omega),A2 (by omega)]
theorem sK(zs:List Int)(hl:CU zs)(Dt:zs≠[]) :
  A3 Tryz.prog 242 [.msl 1000 zs.length] (Aj [(1000,.arr 1 (zs.map Gi))] Aa) fun r h' =>
   r=.tup []∧∃l' : List Int,(l'.Perm zs∧l'.Pairwise fun a b=>a≤b)∧h'=Aj [(1000,.arr 1 (l'.map Gi))] Aa:=by
 have hl:zs.length≤1073741824:=hl;have hE:FS Tryz.prog 242:=cI 242 Tryz.func242 (by kernel_rfl) rfl;have G1:=OU (P:=Tryz.prog) (f:=242) (es:=zs.map Gi) (sz:=1) (rest:=[]) (Q:=fun Fr=>∃l' : List Int,(l'.Perm zs∧l'.Pairwise fun a b=>a≤b)∧Fr=l'.map Gi) hE ?_ ?_
 ·rw[Lm]at G1;refine⟨hE,fun g w vals q1 q2 q3=>(G1.2 g w vals q1 q2 q3).mono fun _ _ ⟨v,r,h',g',e1,⟨e2,Fr,⟨l',p1,p2⟩,p3⟩,rest⟩=>⟨v,r,h',g',e1,⟨e2,l',p1,by rw[p3,p2]⟩,rest⟩⟩
 ·intro e
  have:zs=[]:=by simpa using e
  exact absurd this Dt
 ·intro g w b cap F hr hF hH hb;have pp:F.toList=zs.map fun z=>Value.int .i64 z:=KW (by rw[←Um];exact hr);have d6:F=zs.toArray.map fun z=>Value.int .i64 z:=Ir.1 (by rw[pp];simp);have pq:Holds (Value.int .i64) w b 0 zs.toArray:=fun j hj=>by
   have:=hH j (by rw[d6];simpa using hj)
   refine⟨this.1.trans ?_,this.2⟩;rw[d6,Dr _ j (by simpa using hj),Dr _ j hj];simp
  have hc:=Any.slices_Sort_int Tryz.laySortInts b 0 cap zs w pq hb (by omega);rw[Lm];refine hc.mono ?_
  rintro e w' ⟨rfl,n,os,rfl⟩
  have IE:(zs.mergeSort fun x y=>decide (x≤y)).Perm zs:=List.mergeSort_perm _ _;have Cw:=IE.length_eq;refine⟨rfl,(zs.mergeSort fun x y=>decide (x≤y)).toArray.map fun z=>Value.int .i64 z,(zs.mergeSort fun x y=>decide (x≤y)).map Gi,n,os,?_,⟨_,⟨IE,?_⟩,rfl⟩,by simp[Cw],fun cs hcs=>?_,fun g w _=>?_,by rw[Pt]⟩
  ·rw[d6];simp[Cw]
  ·have:=List.pairwise_mergeSort (le:=fun x y:Int=>decide (x≤y)) (fun a b c h1 h2=>by simp only[Av]at *;omega) (fun a b=>by simp only[Cp,Av];omega) zs
   exact this.imp fun h=>A8 h
  ·obtain⟨x,_,rfl⟩:=Al.1 hcs;rfl
  ·rw[Um];have e:((zs.mergeSort fun x y=>decide (x≤y)).toArray.map fun z=>Value.int .i64 z).toList=(zs.mergeSort fun x y=>decide (x≤y)).map fun z=>Value.int .i64 z:=by simp
   rw[e];exact Mt _ _ _ _ fun x hx=>by
    obtain⟨z,_,rfl⟩:=Al.1 hx;rfl
-- maps from numbers to numbers
abbrev VV:EA:=⟨false,[.int .i64]⟩
abbrev kI(z:Int):Value:=.int .i64 z
abbrev Lk(p:Int×Int):Value×AV:=(kI p.1,vi p.2)
abbrev Fa(s:Bi):List AV:=[sl Aq s]
theorem QV{m:List (Int×Int)}{k:Int}{a:AV}:(kI k,a)∈m.map Lk↔∃v,(k,v)∈m∧a=vi v:=by
 rw[Al];constructor
 ·rintro⟨⟨k',v⟩,h1,h2⟩
  simp only[FC,Value.int.injEq,true_and]at h2;obtain⟨rfl,rfl⟩:=h2;exact⟨v,h1,rfl⟩
 ·rintro⟨v,h1,rfl⟩
  exact⟨(k,v),h1,rfl⟩
theorem QX(m:List (Int×Int))(k v:Int):EK (m.map Lk) (kI k) (vi v)=(KV m k v).map Lk:=by
 unfold KV
 by_cases h:(m.any fun p=>decide (p.1=k))=true
 ·rw[Ao h];obtain⟨p,h1,h2⟩:=Bf.1 h;have h2:=A8 h2
  have:(kI k,vi p.2)∈m.map Lk:=QV.2 ⟨p.2,by rw[←h2];exact h1,rfl⟩
  rw[Pm this,BK,BK];apply Ba;intro q _;simp only[Function.comp]
  by_cases e:q.1=k
  ·simp[e]
  ·have:¬kI q.1=kI k:=fun c=>e (by injection c)
   simp[e]
 ·rw[Ai h]
  have:∀b,(kI k,b)∉m.map Lk:=fun b hb=>by
   obtain⟨v,h1,_⟩:=QV.1 hb;exact h (Bf.2 ⟨(k,v),h1,by simp⟩)
  rw[Kn this,Ay];rfl
theorem Od{T:Gf}{e:Nat}{BU:List (Value×AV)}{kx:Value}{K:AV→Prop}(a0 z0:AV)(h1:∀a,(kx,a)∈BU→a=a0)(hz:(∀a,(kx,a)∉BU)→a0=z0)(h2:K z0→JY T e K)(k:K a0) :
  (∀a,(kx,a)∈BU→K a)∧((∀a,(kx,a)∉BU)→JY T e K):=⟨fun a h=>by rw[h1 a h];exact k,fun hn=>h2 (hz hn▸k)⟩
theorem PK(m:List (Int×Int))(k:Int):(∀a,(kI k,a)∉m.map Lk)→vi (E7 m k)=vi 0:=fun QG=>by
 rw[gX fun hk=>by
  obtain⟨p,hp,e⟩:=Al.1 hk;exact QG (vi p.2) (QV.2 ⟨p.2,by rw[←e];exact hp,rfl⟩)]
theorem PJ{m:List (Int×Int)}(hn:(ES m).Nodup)(k:Int):∀a,(kI k,a)∈m.map Lk→a=vi (E7 m k):=fun a h=>by
 obtain⟨v,h1,rfl⟩:=QV.1 h;rw[gW hn h1]
theorem H9.bound{m:List (Int×Int)}{S:Bi}(h:H9 m S)(k:Int):-(S.length:Int)≤E7 m k∧E7 m k≤S.length:=by
 rw[h.val]
 have:cF S k≤S.length:=List.countP_le_length
 have:cT S k≤S.length:=List.countP_le_length
 omega
theorem Yl(l:List Bi):(l.map canon).flatten.length≤l.length*1000000:=by
 induction l with
 |nil=>simp
 |cons s l ih =>
  rw[AJ,Bv,Ac,Ax]
  have:=HR (Cb s)
  omega
theorem H9.few{m:List (Int×Int)}{S:Bi}(h:H9 m S):m.length≤1000001:=by
 have:=H7 (m:=(List.range 1000001).map Int.ofNat) h.nd fun k hk=>by
  have:=h.rng k hk
  exact Al.2 ⟨k.toNat,List.mem_range.2 (by omega),by show(k.toNat:Int)=k;omega⟩
 unfold ES at this;rw[Lm,Lm,PQ]at this;exact this
theorem Uw(keep:Nat→Bool)(m:List (Int×Int))(B:List Int):∀n,(El keep m B n).length≤n
 |0=>Am _
 |n+1=>by
  unfold El
  have:=Uw keep m B n
  rw[Ac];split
  ·split<;>simp<;>omega
  ·simp;omega
end Go.Eng
namespace Go.Eng
open Go.Proofs
abbrev zO:Rk:=⟨[],[(12,2)],[(44,1)],[],[],[],[],[],[],[],[8,9,15,23,25,26]⟩
theorem lP(F:AV)(keep:Nat→Bool)(l:List Bi)(hl:CU l)(hs:∀s∈l,CU s)(hid:∀h,TN h F=true)(hF:∀h (n:Int),0≤n→n≤l.length→OQ Tryz.prog (str h F) [vi n] (vb (keep n.toNat)))
  (R:Bi) (hR:Ev R) (yG:∀p,has R p=(Lj p&&keep (cG l p))):PC 209 [F,sl Fa l] (sl Aq R):=by
 have hl:l.length≤1073741824:=hl;refine Ps zO Tryz.func209 rfl (Nz rfl) ?_;refine Xi {p:Nat×List (Int×Int) // p.1≤l.length∧H9 p.2 ((l.take p.1).map canon).flatten} (Xi (fun p=>⟨[(0,F),(5,.mref 15),(17,sl Fa l),(18,vi (l.map Fa).length),(19,vi p.1.1)],[(15,.map VV (p.1.2.map Lk))],Aa⟩) (Xi (fun p=>l.length-p.1.1) (Yi (Xi ⟨(0,oX),AO _,iM⟩ ?_) ?_)))
 ·have e0:HO.map VV (EK (EK [] (kI 0) (vi 0)) (kI 1000000) (vi 0))=.map VV (oX.map Lk):=by
   have e1:=QX [] 0 0;have e2:=QX [(0,0)] 1000000 0;show HO.map VV (EK (EK (List.map Lk []) (kI 0) (vi 0)) (kI 1000000) (vi 0))=_;rw[e1];show HO.map VV (EK (List.map Lk [(0,0)]) (kI 1000000) (vi 0))=_;rw[e2];rfl
  exact⟨⟨⟨rfl,hid _⟩,Zr,Zr,Zr,Zr,Tv⟩,⟨⟨e0,rfl⟩,Tv⟩,Fh,Tv⟩
 intro⟨⟨i,cm⟩,i1,i2⟩;have i1:i≤l.length:=i1;have i2:H9 cm ((l.take i).map canon).flatten:=i2;refine Yi ?_ ?_
 ·intro h;have h:(i:Int)<(l.map Fa).length:=h;have h:i<l.length:=by simpa using h
  have hg:l[i]?=some l[i]:=Ge h;refine Xi (Fa l[i]) (Yi (Yi (Nn i) (by simp[hg])) (Yi rfl ?_));refine Xi .pure (Xi _ (Yi (Ww l[i] (hs _ (At h))) ?_));refine Xi {p:Nat×List (Int×Int) // p.1≤(canon l[i]).length∧H9 p.2 (((l.take i).map canon).flatten++(canon l[i]).take p.1)} (Xi (fun p=>⟨[(0,F),(5,.mref 15),(17,sl Fa l),(18,vi (l.map Fa).length),(19,vi i),(24,sl Aq (canon l[i])),(25,vi ((canon l[i]).map Aq).length),(26,vi p.1.1)],[(15,.map VV (p.1.2.map Lk))],Aa⟩) (Xi (fun p=>(canon l[i]).length-p.1.1) (Yi (Xi ⟨(0,cm),AO _,by rw[List.take_zero,BT];exact i2⟩ ?_) ?_)))
  ·exact⟨⟨⟨rfl,hid _⟩,Zr,Zr,Zr,Zr,Zr,Zr,Zr,Tv⟩,Z1,Fh,Tv⟩
  intro⟨⟨j,dm⟩,j1,j2⟩;have j1:j≤(canon l[i]).length:=j1;have j2:H9 dm (((l.take i).map canon).flatten++(canon l[i]).take j):=j2;have hS:(((l.take i).map canon).flatten++(canon l[i]).take j).length≤1073741825000000:=by
   have a1:=Yl (l.take i);have a2:=HR (Cb l[i]);rw[AB]at a1;rw[Ac,AB];omega
  refine Yi ?_ ?_
  ·intro hj;have hj:(j:Int)<((canon l[i]).map Aq).length:=hj;have hj:j<(canon l[i]).length:=by simpa using hj
   have t7:(canon l[i])[j]?=some (canon l[i])[j]:=Ge hj;have kX:=(Cb l[i]).low _ (At hj);have j3:H9 (XO dm (canon l[i])[j]) (((l.take i).map canon).flatten++(canon l[i]).take (j+1)):=by
    have:=cr j2 (x:=(canon l[i])[j]) kX
    rw[BH]at this;rw[Bn,t7];exact this
   generalize (canon l[i])[j]=x at t7 kX j3;have b1:=j2.bound x.1;have cP:=LK j2.nd x.1 (E7 dm x.1+1);refine Xi (Aq x) (Yi (Yi (Nn j) (by simp[t7])) (Yi rfl ?_));refine Yi (Nz rfl) (Yi (Nz rfl) ?_);refine Xi ⟨[(0,F),(5,.mref 15),(9,.ref 9 0),(17,sl Fa l),(18,vi (l.map Fa).length),(19,vi i),(24,sl Aq (canon l[i])),(25,vi ((canon l[i]).map Aq).length),(26,vi j)],[(9,.cells (Aq x)),(15,.map VV (dm.map Lk))],Aa⟩ (Yi ⟨⟨⟨rfl,hid _⟩,Zr,Zr,Zr,Zr,Zr,Zr,Zr,Zr,Tv⟩,Z2,Fh,Tv⟩ ?_)
   refine Od (vi (E7 dm x.1)) (vi 0) (PJ j2.nd x.1) (PK dm x.1) (fun q=>q) ?_;refine Yi (by show BM (E7 dm x.1+1);unfold BM;omega) ?_;have m1:HO.map VV (EK (dm.map Lk) (kI x.1) (vi (E7 dm x.1+1)))=.map VV ((KV dm x.1 (E7 dm x.1+1)).map Lk):=by rw[QX]
   refine Xi ⟨[(0,F),(5,.mref 15),(9,.ref 9 0),(17,sl Fa l),(18,vi (l.map Fa).length),(19,vi i),(24,sl Aq (canon l[i])),(25,vi ((canon l[i]).map Aq).length),(26,vi j)],[(9,.cells (Aq x)),(15,.map VV ((KV dm x.1 (E7 dm x.1+1)).map Lk))],Aa⟩ (Yi ⟨⟨⟨rfl,hid _⟩,Zr,Zr,Zr,Zr,Zr,Zr,Zr,Zr,Tv⟩,⟨Zr,⟨m1,rfl⟩,Tv⟩,Fh,Tv⟩ ?_)
   have b2:-(1073741825000001:Int)≤E7 (KV dm x.1 (E7 dm x.1+1)) x.2∧E7 (KV dm x.1 (E7 dm x.1+1)) x.2≤1073741825000001:=by
    have b3:=j2.bound x.2;rw[OL];split<;>omega
   refine Od (vi (E7 (KV dm x.1 (E7 dm x.1+1)) x.2)) (vi 0) (PJ cP x.2) (PK _ x.2) (fun q=>q) ?_;refine Yi (by show BM (E7 (KV dm x.1 (E7 dm x.1+1)) x.2-1);unfold BM;omega) ?_;have hcl:=HR (Cb l[i]);refine Yi (Ii j (by omega)) ?_;have m2:HO.map VV (EK ((KV dm x.1 (E7 dm x.1+1)).map Lk) (kI x.2) (vi (E7 (KV dm x.1 (E7 dm x.1+1)) x.2-1)))=.map VV ((XO dm x).map Lk):=by rw[QX];rfl
   refine Xi ⟨(j+1,XO dm x),by show j+1≤_;omega,j3⟩ ?_;exact⟨by show(canon l[i]).length-(j+1)<(canon l[i]).length-j;omega,⟨⟨rfl,hid _⟩,Zr,Zr,Zr,Zr,Zr,Zr,Zr,Tv⟩,⟨⟨m2,rfl⟩,Tv⟩,Fh,Tv⟩
  ·intro hj;have hj:¬(j:Int)<((canon l[i]).map Aq).length:=hj;have hj:¬j<(canon l[i]).length:=by simpa using hj
   refine Yi (Ii i (by omega)) ?_;have i3:H9 dm ((l.take (i+1)).map canon).flatten:=by
    have e1:(canon l[i]).take j=canon l[i]:=AD (by omega);rw[e1]at j2;have e2:((l.take (i+1)).map canon).flatten=((l.take i).map canon).flatten++canon l[i]:=by
     rw[Bn,hg,Ay,Cy];show _++(canon l[i]++[])=_;rw[BT]
    rw[e2];exact j2
   refine Xi ⟨(i+1,dm),by show i+1≤_;omega,i3⟩ ?_;exact⟨Dl l.length i (by omega),⟨⟨rfl,hid _⟩,Zr,Zr,Zr,Zr,Tv⟩,Z1,Fh,Tv⟩
 ·intro h;have h:¬(i:Int)<(l.map Fa).length:=h;have h:¬i<l.length:=by simpa using h
  have i3:H9 cm (l.map canon).flatten:=by
   rw[AD (by omega)]at i2;exact i2
  have yY:=i3.few;have zh:(0:Int)≤0∧(0:Int)≤((cm.map Lk).length:Int)∧((cm.map Lk).length:Int)*((8:Nat):Int)≤140737488355328∧((cm.map Lk).length:Int)≤9223372036854775807:=by rw[Lm];omega
  refine Yi zh ?_;refine Xi {p:List (Value×AV)×List Int×Option (Value×AV) // ((p.2.1.map kI)++p.1.map (·.1)).Perm ((cm.map Lk).map (·.1))∧∀kv∈p.1,kv∈cm.map Lk} (Xi (fun p=>⟨[(0,F),(5,.mref 15),(10,.msl 44 p.1.2.1.length),(46,.ref 46 0)],[(15,.rom VV (cm.map Lk)),(44,.arr 1 (p.1.2.1.map Gi)),(46,.iter (cm.map Lk) p.1.1 p.1.2.2)],Aa⟩) (Xi (fun p=>p.1.1.length) (Yi (Xi ⟨(cm.map Lk,[],none),.refl _,fun _ h=>h⟩ ?_) ?_)))
  ·exact⟨⟨⟨rfl,hid _⟩,Zr,Zr,Zr,Tv⟩,Z3,Fh,Tv⟩
  intro⟨⟨rem,bs,Fq⟩,r1,r2⟩;have r1:((bs.map kI)++rem.map (·.1)).Perm ((cm.map Lk).map (·.1)):=r1;have r2:∀kv∈rem,kv∈cm.map Lk:=r2;have hbl:bs.length≤1000001:=by
   have:=r1.length_eq
   simp only[Ac,Lm]at this;omega
  refine Yi ?_ ?_
  ·intro hr;have hr:rem=[]:=hr;subst hr;rw[ET,BT,BK]at r1;have ut:bs.Perm (ES cm):=by
    have r1:(bs.map kI).Perm ((ES cm).map kI):=by unfold ES;rw[BK];exact r1
    have:=r1.map (fun v:Value=>match v with | .int _ n=>n | _=>0)
    rw[BK,BK]at this;have e:((fun v:Value=>match v with | .int _ n=>n | _=>0) ∘ kI)=id:=rfl;rw[e,Jq,Jq]at this;exact this
   have Dt:bs≠[]:=fun e=>by
    subst e
    have:=ut.length_eq
    have h0:=i3.keys.1;rw[AM this.symm]at h0;cases h0
   refine Xi (.gen [(44,1000)] 0) (Yi rfl ((sK bs (by unfold CU;omega) Dt).to ?_));intro B po;have jb:B.length=bs.length:=po.1.length_eq;have yu:B.Nodup:=(po.1.trans ut).nodup_iff.2 i3.nd;have hB:iv B cm:=⟨po.1.trans ut,by
    rw[AT];intro a b ha hb ig;have h1:=(AT.1 po.2) a b ha hb ig;have h2:B[a]≠B[b]:=(AT.1 yu) a b ha hb ig;omega⟩
   have wI:0<B.length:=by
    rw[jb];exact ME.2 Dt
   have tv:bs.length=(B.map Gi).length:=by rw[Lm,jb]
   refine Yi (by show BM ((bs.length:Int)-1);unfold BM;omega) ?_;refine Xi {k:Nat // k≤B.length-1} (Xi (fun k=>⟨[(0,F),(5,.mref 15),(10,.msl 44 bs.length),(12,.slice (.id 12 2) ((El keep cm B k.1).map Aq)),(13,vi (Iq cm (B.take k.1))),(59,vi ((bs.length:Int)-1)),(60,vi k.1)],[(12,.tok 2 ((El keep cm B k.1).map Aq).length),(15,.rom VV (cm.map Lk)),(44,.arr 1 (B.map Gi))],Aa⟩) (Xi (fun k=>B.length-k.1) (Yi (Xi ⟨0,AO _⟩ ?_) ?_)))
   ·exact⟨⟨⟨rfl,hid _⟩,Zr,Zr,Zr,Zr,Zr,Zr,Tv⟩,Z3,Fh,Tv⟩
   intro⟨k,k1⟩;have n6:=Uw keep cm B k;refine Yi ?_ ?_
   ·intro hk;have hk:(k:Int)<(bs.length:Int)-1:=hk;have Ik:k+1<B.length:=by omega
    have Ur:k<B.length:=by omega
    have kG:(B.map Gi)[k]?=some (Gi B[k]):=Dp (Ge Ur);have tH:(B.map Gi)[k+1]?=some (Gi B[k+1]):=Dp (Ge Ik);have TK:=PH cm B k Ur;have qi:=gK i3 hB k Ur;have Sf:El keep cm B (k+1)=El keep cm B k++(if keep (Iq cm (B.take (k+1))).toNat then [(B[k],B[k+1])]else []):=by
     show _++(match B[k]?,B[k+1]? with | some a,some b=>if keep (Iq cm (B.take (k+1))).toNat then [(a,b)]else [] | _,_=>[])=_;rw[Ge Ur,Ge Ik]
    refine Xi ⟨[(0,F),(5,.mref 15),(10,.msl 44 bs.length),(12,.slice (.id 12 2) ((El keep cm B k).map Aq)),(13,vi (Iq cm (B.take k))),(14,vi k),(59,vi ((bs.length:Int)-1)),(60,vi k)],[(12,.tok 2 ((El keep cm B k).map Aq).length),(15,.rom VV (cm.map Lk)),(44,.arr 1 (B.map Gi))],Aa⟩ (Yi ⟨⟨⟨rfl,hid _⟩,Zr,Zr,Zr,Zr,Zr,Zr,Zr,Tv⟩,Z3,Fh,Tv⟩ ?_)
    refine Yi ⟨by show(0:Int)≤k;omega,by show(k:Int)<bs.length;omega⟩ ?_;refine Yi tv (Xi (Gi B[k]) (Yi kG ?_));refine Od (vi (E7 cm B[k])) (vi 0) (PJ i3.nd B[k]) (PK cm B[k]) (fun q=>q) ?_;refine Yi (by show BM (Iq cm (B.take k)+E7 cm B[k]);rw[←TK];unfold BM;omega) ?_;have DW:∀h,OQ Tryz.prog (str h F) [vi (Iq cm (B.take k)+E7 cm B[k])] (vb (keep (Iq cm (B.take (k+1))).toNat)):=fun h=>by
     rw[←TK];exact hF h _ qi.1 qi.2
    refine Dj (Bt (keep (Iq cm (B.take (k+1))).toNat)) (fun hp=>?_) (fun hp=>?_)
    ·rw[hp]at DW;rw[hp,Ao rfl]at Sf;refine Xi .pure (Xi (vb true) (Yi (DW _) ?_));refine Xi ⟨[(0,F),(5,.mref 15),(10,.msl 44 bs.length),(12,.slice (.id 12 2) ((El keep cm B k).map Aq)),(13,vi (Iq cm (B.take k)+E7 cm B[k])),(14,vi k),(59,vi ((bs.length:Int)-1)),(60,vi k)],[(12,.tok 2 ((El keep cm B k).map Aq).length),(15,.rom VV (cm.map Lk)),(44,.arr 1 (B.map Gi))],Aa⟩ (Yi ⟨⟨⟨rfl,hid _⟩,Zr,Zr,Zr,Zr,Zr,Zr,Zr,Tv⟩,Z3,Fh,Tv⟩ ?_)
     have b1:(0:Int)≤(k:Int)+1∧(k:Int)+1<bs.length:=by omega
     have tJ:(B.map Gi)[((k:Int)+1).toNat]?=some (Gi B[k+1]):=by rw[show((k:Int)+1).toNat=k+1 by omega];exact tH
     refine Yi ⟨by show(0:Int)≤k;omega,by show(k:Int)<bs.length;omega⟩ ?_;refine Yi tv (Xi (Gi B[k]) (Yi kG ?_));refine Yi (Ii k (by omega)) ?_;refine Yi b1 ?_;refine Yi tv (Xi (Gi B[k+1]) (Yi tJ ?_));have G9:De 2 [[vi B[k],vi B[k+1]]]∧((El keep cm B k).map Aq).length=((El keep cm B k).map Aq).length∧(((El keep cm B k).map Aq).length+[[vi B[k],vi B[k+1]]].length)*16≤140737488355328∧((El keep cm B k).map Aq).length+[[vi B[k],vi B[k+1]]].length≤9223372036854775807 :=
      ⟨⟨rfl,trivial⟩,rfl,by rw[Lm,A5];omega,by rw[Lm,A5];omega⟩
     refine Yi G9 ?_;refine Yi (by kernel_rfl) ?_;refine Xi ⟨[(0,F),(5,.mref 15),(10,.msl 44 bs.length),(12,.slice (.id 12 2) ((El keep cm B k).map Aq++[[vi B[k],vi B[k+1]]])),(13,vi (Iq cm (B.take k)+E7 cm B[k])),(59,vi ((bs.length:Int)-1)),(60,vi k)],[(12,.tok 2 (((El keep cm B k).map Aq).length+[[vi B[k],vi B[k+1]]].length)),(15,.rom VV (cm.map Lk)),(44,.arr 1 (B.map Gi))],Aa⟩ (Yi ⟨⟨⟨rfl,hid _⟩,Zr,Zr,Zr,Zr,Zr,Zr,Tv⟩,Z3,Fh,Tv⟩ ?_)
     refine Yi (Ii k (by omega)) ?_;refine Xi ⟨k+1,by omega⟩ ?_;have e1:AV.slice (.id 12 2) ((El keep cm B k).map Aq++[[vi B[k],vi B[k+1]]])=.slice (.id 12 2) ((El keep cm B (k+1)).map Aq):=by rw[Sf,Ay];rfl
     have e2:vi (Iq cm (B.take k)+E7 cm B[k])=vi (Iq cm (B.take (k+1))):=by rw[TK]
     have e3:HO.tok 2 (((El keep cm B k).map Aq).length+[[vi B[k],vi B[k+1]]].length)=.tok 2 ((El keep cm B (k+1)).map Aq).length:=by rw[Sf,Ay,Ac];rfl
     exact⟨Dl B.length k (by omega),⟨⟨rfl,hid _⟩,Zr,Zr,⟨e1,rfl⟩,⟨e2,rfl⟩,Zr,Zr,Tv⟩,⟨⟨e3,rfl⟩,Zr,Zr,Tv⟩,Fh,Tv⟩
    ·rw[hp]at DW;have Sf:El keep cm B (k+1)=El keep cm B k:=by rw[Sf,hp,Ai Bool.false_ne_true,BT]
     refine Xi .pure (Xi (vb false) (Yi (DW _) ?_));refine Xi ⟨[(0,F),(5,.mref 15),(10,.msl 44 bs.length),(12,.slice (.id 12 2) ((El keep cm B k).map Aq)),(13,vi (Iq cm (B.take k)+E7 cm B[k])),(59,vi ((bs.length:Int)-1)),(60,vi k)],[(12,.tok 2 ((El keep cm B k).map Aq).length),(15,.rom VV (cm.map Lk)),(44,.arr 1 (B.map Gi))],Aa⟩ (Yi ⟨⟨⟨rfl,hid _⟩,Zr,Zr,Zr,Zr,Zr,Zr,Tv⟩,Z3,Fh,Tv⟩ ?_)
     refine Yi (Ii k (by omega)) ?_;refine Xi ⟨k+1,by omega⟩ ?_;have e1:AV.slice (.id 12 2) ((El keep cm B k).map Aq)=.slice (.id 12 2) ((El keep cm B (k+1)).map Aq):=by rw[Sf]
     have e2:vi (Iq cm (B.take k)+E7 cm B[k])=vi (Iq cm (B.take (k+1))):=by rw[TK]
     have e3:HO.tok 2 ((El keep cm B k).map Aq).length=.tok 2 ((El keep cm B (k+1)).map Aq).length:=by rw[Sf]
     exact⟨Dl B.length k (by omega),⟨⟨rfl,hid _⟩,Zr,Zr,⟨e1,rfl⟩,⟨e2,rfl⟩,Zr,Zr,Tv⟩,⟨⟨e3,rfl⟩,Zr,Zr,Tv⟩,Fh,Tv⟩
   ·intro hk;have hk:¬(k:Int)<(bs.length:Int)-1:=hk;have Ik:k=B.length-1:=by omega
    have tO:canon (El keep cm B k)=R:=by
     refine(Rz hR fun p=>?_).symm;rw[Ik,yG,fq i3 hB]
    have hc:=Ww (El keep cm B k) (by unfold CU;omega);rw[tO]at hc;refine Xi .pure (Xi _ (Yi hc ?_));exact .refl _
  ·intro kv Nv hp;refine B4 (Al.1 (r2 kv (hp.mem_iff.2 (Ab ..)))) (fun q hq=>?_);have zu:=hq.2;subst zu;refine Xi ⟨[(0,F),(5,.mref 15),(10,.msl 44 bs.length),(46,.ref 46 0)],[(15,.rom VV (cm.map Lk)),(44,.arr 1 (bs.map Gi)),(46,.iter (cm.map Lk) Nv (some (Lk q)))],Aa⟩ (Yi ⟨⟨⟨rfl,hid _⟩,Zr,Zr,Zr,Tv⟩,Z3,Fh,Tv⟩ ?_)
   have G9:De 1 [Gi q.1]∧(bs.map Gi).length=bs.length∧((bs.map Gi).length+[Gi q.1].length)*8≤140737488355328∧(bs.map Gi).length+[Gi q.1].length≤9223372036854775807 :=
    ⟨⟨rfl,trivial⟩,by rw[Lm],by rw[Lm,A5];omega,by rw[Lm,A5];omega⟩
   refine Yi G9 ?_;have e1:AV.msl 44 ((bs.map Gi).length+[Gi q.1].length)=.msl 44 (bs++[q.1]).length:=by simp
   have e2:HO.arr 1 (bs.map Gi++[Gi q.1])=.arr 1 ((bs++[q.1]).map Gi):=by simp
   refine Xi ⟨(Nv,bs++[q.1],some (Lk q)),?_,fun kv OP=>r2 kv (hp.mem_iff.2 (Ag _ OP))⟩ ?_
   ·show(((bs++[q.1]).map kI)++Nv.map (·.1)).Perm _;have h1:=hp.map (fun x:Value×AV=>x.1);rw[AJ]at h1;rw[Ay,BH];exact(List.Perm.append_left _ h1.symm).trans r1
   ·exact⟨by show Nv.length<rem.length;rw[hp.length_eq];simp,⟨⟨rfl,hid _⟩,Zr,⟨e1,rfl⟩,Zr,Tv⟩,⟨Zr,⟨e2,rfl⟩,Zr,Tv⟩,Fh,Tv⟩
theorem sD(n:Int)(l:List Bi):PC 259 [vi n,.cptr [sl Fa l]] (vb (decide (n=l.length))):=by
 refine Ps Ga Tryz.func259 rfl (Nz rfl) ?_;have e:((l.map Fa).length:Int)=l.length:=by rw[Lm]
 refine Yi ?_ ?_
 ·intro h;have h:n=((l.map Fa).length:Int):=h;rw[show decide (n=(l.length:Int))=true from AE (h.trans e)];exact .refl _
 ·intro h;have h:¬n=((l.map Fa).length:Int):=h;rw[show decide (n=(l.length:Int))=false from AG (fun c=>h (c.trans e.symm))];exact .refl _
theorem sF(n:Int):PC 210 [vi n] (vb (decide (n=0))):=by
 refine Ps Ga Tryz.func210 rfl (Nz rfl) ?_;refine Yi ?_ ?_
 ·intro h;have h:n=0:=h;rw[AE h];exact .refl _
 ·intro h;have h:¬n=0:=h;rw[AG h];exact .refl _
theorem ta(n:Int):PC 245 [vi n] (vb (decide (0<n))):=by
 refine Ps Ga Tryz.func245 rfl (Nz rfl) ?_;refine Yi ?_ ?_
 ·intro h;have h:0<n:=h;rw[AE h];exact .refl _
 ·intro h;have h:¬0<n:=h;rw[AG h];exact .refl _
theorem fo(l:List Bi)(p:Int):decide (cG l p=l.length)=l.all fun s=>has s p:=by
 unfold cG;rw[BO,Av,List.countP_eq_length,Bs]
theorem fp(l:List Bi)(p:Int):decide (0<cG l p)=l.any fun s=>has s p:=by
 unfold cG;rw[BO,Av,List.countP_pos_iff,Bf]
theorem sq(l:List Bi)(hl:CU l)(hs:∀s∈l,CU s):PC 243 [sl Fa l] (sl Aq (Pi l)):=by
 have hc:=lP (.clo 259 [.cptr [sl Fa l]]) (fun n=>decide (n=l.length)) l hl hs (fun _=>rfl) (fun h n h0 _=>by
  have:=sD n l
  have e:decide (n=(l.length:Int))=decide (n.toNat=l.length):=by rw[decide_eq_decide];omega
  rw[e]at this;exact this) (Pi l) (VI l) fun p=>by rw[RZ,fo]
 refine Ps (iq [1]) Tryz.func243 rfl (Nz rfl) ?_;refine Xi .pure (Xi _ (Yi (hc) ?_));exact .refl _
theorem lK(s:Bi)(hs:CU s):PC 181 [sl Aq s] (sl Aq (Ec s)):=by
 have hc:=lP (.v (TE 210)) (fun n=>decide (n=0)) [s] (by unfold CU;simp) (fun t ht=>by rw[Ak.1 ht];exact hs) (fun _=>rfl) (fun h n h0 _=>by
  have:=sF n
  have e:decide (n=0)=decide (n.toNat=0):=by rw[decide_eq_decide];omega
  rw[e]at this;exact this) (Ec s) (GY s) fun p=>by
   rw[Fv]
   have:cG [s] p=if has s p then 1 else 0:=by unfold cG;rw[Iu];simp
   rw[this];cases has s p<;>rfl
 refine Ps Ga Tryz.func181 rfl (Nz rfl) ?_;refine Xi .pure (Xi _ (Yi (hc) ?_));exact .refl _
theorem s7(l:List Bi)(hl:CU l)(hs:∀s∈l,CU s):PC 220 [sl Fa l] (sl Aq (PI l)):=by
 have hc:=lP (.v (TE 245)) (fun n=>decide (0<n)) l hl hs (fun _=>rfl) (fun h n h0 _=>by
  have:=ta n
  have e:decide (0<n)=decide (0<n.toNat):=by rw[decide_eq_decide];omega
  rw[e]at this;exact this) (PI l) (VY l) fun p=>by
   rw[Sa,fp];cases h:l.any fun s=>has s p with
   |false=>simp
   |true =>
    obtain⟨s,_,h2⟩:=Bf.1 h
    have:=LD h2
    simp[Lj,this]
 refine Ps Ga Tryz.func220 rfl (Nz rfl) ?_;refine Xi .pure (Xi _ (Yi (hc) ?_));exact .refl _
-- terms
theorem yi(t:Tm)(ht:CU t.set):PC 216 [.agg (AA t)] (vb (!t.absent&&(canon t.set).isEmpty)):=by
 refine Ps Ga Tryz.func216 rfl (Nz rfl) ?_;refine Yi ?_ ?_
 ·intro h;have h:t.absent=true:=h;rw[h];exact .refl _
 ·intro h;have h:t.absent=false:=h;refine Xi .pure (Xi _ (Yi (Ww t.set ht) ?_));refine Yi ?_ ?_
  ·intro h2;have h2:(((canon t.set).map Aq).length:Int)=0:=h2;have h2:canon t.set=[]:=AM (by rw[Lm]at h2;omega);rw[h,h2];exact .refl _
  ·intro h2;have h2:¬(((canon t.set).map Aq).length:Int)=0:=h2;have h2:(canon t.set).isEmpty=false:=by
    cases hc:canon t.set with
    |nil=>rw[hc]at h2;exact absurd rfl h2
    |cons _ _=>rfl
   rw[h,h2];exact .refl _
theorem yj(t:Tm)(ht:CU t.set):PC 217 [.agg (AA t)] (vb (t.absent&&(Ec t.set).isEmpty)):=by
 refine Ps Ga Tryz.func217 rfl (Nz rfl) ?_;refine Yi ?_ ?_
 ·intro h;have h:t.absent=true:=h;refine Xi .pure (Xi _ (Yi (lK t.set ht) ?_));refine Yi ?_ ?_
  ·intro h2;have h2:(((Ec t.set).map Aq).length:Int)=0:=h2;have h2:Ec t.set=[]:=AM (by rw[Lm]at h2;omega);rw[h,h2];exact .refl _
  ·intro h2;have h2:¬(((Ec t.set).map Aq).length:Int)=0:=h2;have h2:(Ec t.set).isEmpty=false:=by
    cases hc:Ec t.set with
    |nil=>rw[hc]at h2;exact absurd rfl h2
    |cons _ _=>rfl
   rw[h,h2];exact .refl _
 ·intro h;have h:t.absent=false:=h;rw[h];exact .refl _
abbrev Jf(l:List Nat):Rk:=⟨[],[],[],[],[],[],[],[],[],[],l⟩
theorem wy(u t:Tm)(hu:CU u.set)(ht:CU t.set):PC 215 [.agg (AA u),.agg (AA t)] (.agg (AA (GC u t))):=by
 have hc:PC 243 [sl Fa [u.set,t.set]] (sl Aq (Ok u.set t.set)):=sq [u.set,t.set] (by unfold CU;simp) (fun s hs=>by
  rcases Au.1 hs with rfl | hs
  ·exact hu
  ·rw[Ak.1 hs];exact ht)
 refine Ps (Jf [1]) Tryz.func215 rfl (Nz rfl) ?_;refine Xi ⟨[(2,.ref 2 0),(3,.ref 3 0),(4,.ref 4 0)],[(2,.cells (AA u)),(3,.cells (AA t)),(4,.cells [vs ⟨#[]⟩,vb false,.v (.slice none 0 0)])],Aa⟩ (Yi ⟨Z3,Z3,Fh,Tv⟩ ?_)
 refine Yi ?_ ?_
 ·intro h;have h:u.absent=true:=h;refine Yi ?_ ?_
  ·intro h2;have h2:t.absent=true:=h2;have e:[vs u.path,vb true,sl Aq (Ok u.set t.set)]=AA (GC u t):=by unfold GC;rw[h,h2];rfl
   refine Xi _ (Yi (hc) ?_);refine Yi (Nz rfl) (Yi (by kernel_rfl) (Yi (Nz rfl) ?_));exact .of_eq (Ad AV.agg e)
  ·intro h2;have h2:t.absent=false:=h2;have e:[vs u.path,vb false,sl Aq (Ok u.set t.set)]=AA (GC u t):=by unfold GC;rw[h,h2];rfl
   refine Xi _ (Yi (hc) ?_);refine Yi (Nz rfl) (Yi (by kernel_rfl) (Yi (Nz rfl) ?_));exact .of_eq (Ad AV.agg e)
 ·intro h;have h:u.absent=false:=h;have e:[vs u.path,vb false,sl Aq (Ok u.set t.set)]=AA (GC u t):=by unfold GC;rw[h];rfl
  refine Xi _ (Yi (hc) ?_);refine Yi (Nz rfl) (Yi (by kernel_rfl) (Yi (Nz rfl) ?_));exact .of_eq (Ad AV.agg e)
theorem sW(u t:Tm)(hu:CU u.set)(ht:CU t.set):PC 184 [.agg (AA u),.agg (AA t)] (.agg (AA (C3 u t))):=by
 have hc:PC 220 [sl Fa [u.set,t.set]] (sl Aq (OK u.set t.set)):=s7 [u.set,t.set] (by unfold CU;simp) (fun s hs=>by
  rcases Au.1 hs with rfl | hs
  ·exact hu
  ·rw[Ak.1 hs];exact ht)
 refine Ps (Jf [1]) Tryz.func184 rfl (Nz rfl) ?_;refine Xi ⟨[(2,.ref 2 0),(3,.ref 3 0),(4,.ref 4 0)],[(2,.cells (AA u)),(3,.cells (AA t)),(4,.cells [vs ⟨#[]⟩,vb false,.v (.slice none 0 0)])],Aa⟩ (Yi ⟨Z3,Z3,Fh,Tv⟩ ?_)
 refine Yi ?_ ?_
 ·intro h;have h:u.absent=true:=h;have e:[vs u.path,vb true,sl Aq (OK u.set t.set)]=AA (C3 u t):=by unfold C3;rw[h];rfl
  refine Xi _ (Yi (hc) ?_);refine Yi (Nz rfl) (Yi (by kernel_rfl) (Yi (Nz rfl) ?_));exact .of_eq (Ad AV.agg e)
 ·intro h;have h:u.absent=false:=h;refine Yi ?_ ?_
  ·intro h2;have h2:t.absent=true:=h2;have e:[vs u.path,vb true,sl Aq (OK u.set t.set)]=AA (C3 u t):=by unfold C3;rw[h,h2];rfl
   refine Xi _ (Yi (hc) ?_);refine Yi (Nz rfl) (Yi (by kernel_rfl) (Yi (Nz rfl) ?_));exact .of_eq (Ad AV.agg e)
  ·intro h2;have h2:t.absent=false:=h2;have e:[vs u.path,vb false,sl Aq (OK u.set t.set)]=AA (C3 u t):=by unfold C3;rw[h,h2];rfl
   refine Xi _ (Yi (hc) ?_);refine Yi (Nz rfl) (Yi (by kernel_rfl) (Yi (Nz rfl) ?_));exact .of_eq (Ad AV.agg e)
theorem oQ(q:Rq)(hq:CU q.set):PC 175 [.agg (AN q)] (.agg (AA (Dw q))):=by
 refine Ps Ga Tryz.func175 rfl (Nz rfl) ?_;refine Xi _ (Yi (lK q.set hq) ?_);refine Yi (Nz rfl) (Yi (by kernel_rfl) (Yi (Nz rfl) ?_));exact .refl _
abbrev CL:EA:=⟨false,[.str]⟩
abbrev Mi(t:Tm):Value×AV:=(.string t.path,.agg (AA t))
abbrev qF(fin cut:List Nat):Rk:=⟨[],[],[],[],fin,[],[],[],[],[],cut⟩
theorem QW{m:List Tm}{p:ByteArray}{a:AV}:(Value.string p,a)∈m.map Mi↔∃t∈m,t.path=p∧a=.agg (AA t):=by
 rw[Al];constructor
 ·rintro⟨t,h1,h2⟩
  simp only[FC,Value.string.injEq]at h2;exact⟨t,h1,h2.1,h2.2.symm⟩
 ·rintro⟨t,h1,rfl,rfl⟩
  exact⟨t,h1,rfl⟩
theorem fH(m:List Tm)(t:Tm):EK (m.map Mi) (.string t.path) (.agg (AA t))=(VQ m t).map Mi:=by
 unfold VQ
 by_cases h:(m.any fun u=>decide (u.path=t.path))=true
 ·rw[Ao h];obtain⟨u,h1,h2⟩:=Bf.1 h;have h2:=A8 h2
  have:(Value.string t.path,AV.agg (AA u))∈m.map Mi:=QW.2 ⟨u,h1,h2,rfl⟩
  rw[Pm this,BK,BK];apply Ba;intro q _;simp only[Function.comp]
  by_cases e:q.path=t.path
  ·simp[e]
  ·have:¬Value.string q.path=.string t.path:=fun c=>e (by injection c)
   simp[e]
 ·rw[Ai h]
  have:∀b,(Value.string t.path,b)∉m.map Mi:=fun b hb=>by
   obtain⟨u,h1,h2,_⟩:=QW.1 hb;exact h (Bf.2 ⟨u,h1,by simp[h2]⟩)
  rw[Kn this,Ay];rfl
theorem dM{m:List Tm}(hn:(Em m).Nodup)(p:ByteArray){K:AV→Prop}{Z:Prop}(hy:∀u,Db m p=some u→K (.agg (AA u)))(QG:Db m p=none→Z) :
  (∀a,(Value.string p,a)∈m.map Mi→K a)∧((∀a,(Value.string p,a)∉m.map Mi)→Z) :=
 ⟨fun a h=>by
  obtain⟨t,h1,h2,rfl⟩:=QW.1 h;subst h2;exact hy t ((Ly hn).1 h1),fun h=>QG (by
  cases e:Db m p with
  |none=>rfl
  |some u=>exact absurd (QW.2 ⟨u,EY e,GO e,rfl⟩) (h _))⟩
theorem N3{t:Tm}(h:Ev t.set):CU t.set:=by
 unfold CU
 have:=HR h;omega
theorem yh(l:List Tm)(hl:CU l)(hs:∀t∈l,CU t.set):PC 214 [sl AA l,.v (TE 215)] (.cmap CL ((CK l).map Mi)):=by
 have hl:l.length≤1073741824:=hl;refine Ps (qF [10] [5,8]) Tryz.func214 rfl (Nz rfl) ?_;refine Xi {i:Nat // i≤l.length} (Xi (fun i=>⟨[(0,sl AA l),(1,.v (TE 215)),(5,.mref 10),(11,sl AA l),(12,vi (l.map AA).length),(13,vi i.1)],[(10,.map CL ((CK (l.take i.1)).map Mi))],Aa⟩) (Xi (fun i=>l.length-i.1) (Yi (Xi ⟨0,AO _⟩ ?_) ?_)))
 ·exact⟨Z6,Z1,Fh,Tv⟩
 intro⟨i,h1⟩;have hn:=Ht (l.take i);refine Yi ?_ ?_
 ·intro h;have h:(i:Int)<(l.map AA).length:=h;have h:i<l.length:=by simpa using h
  have hg:l[i]?=some l[i]:=Ge h;refine Xi (AA l[i]) (Yi (Yi (Nn i) (by simp[hg])) (Yi rfl ?_));refine Yi (Nz rfl) (Yi (Nz rfl) ?_);have E5:=hs l[i] (At h);refine Xi ⟨[(0,sl AA l),(1,.v (TE 215)),(5,.mref 10),(7,.ref 7 0),(11,sl AA l),(12,vi (l.map AA).length),(13,vi i)],[(7,.cells (AA l[i])),(10,.map CL ((CK (l.take i)).map Mi))],Aa⟩ (Yi ⟨Z7,Z2,Fh,Tv⟩ ?_)
  have tail:∀u:Tm,CU u.set→GC u l[i]=Nu (Db (CK (l.take i)) l[i].path) l[i]→EK ((CK (l.take i)).map Mi) (.string l[i].path) (.agg (AA (GC u l[i])))=(CK (l.take (i+1))).map Mi:=fun u hu e=>by
   have hp:(Nu (Db (CK (l.take i)) l[i].path) l[i]).path=l[i].path:=Pr _ _ fun u h=>GO h;have e2:=fH (CK (l.take i)) (GC u l[i]);have e3:(GC u l[i]).path=l[i].path:=by rw[e];exact hp
   rw[e3]at e2;rw[e2,Qn l i h,e];rfl
  refine dM hn l[i].path (fun u hu=>?_) (fun hu=>?_)
  ·have JZ:CU u.set:=N3 (Oo _ u (EY hu));refine Yi (Nz rfl) ?_;refine Xi ⟨[(0,sl AA l),(1,.v (TE 215)),(5,.mref 10),(7,.ref 7 0),(8,.ref 8 0),(11,sl AA l),(12,vi (l.map AA).length),(13,vi i)],[(7,.cells (AA l[i])),(8,.cells (AA u)),(10,.map CL ((CK (l.take i)).map Mi))],Aa⟩ (Yi ⟨Z8,Z3,Fh,Tv⟩ ?_)
   have AU:=tail u JZ (by rw[ZR,hu];rfl);refine Yi (Nz rfl) (Yi (Nz rfl) ?_);refine Xi _ (Yi (wy u l[i] JZ E5) ?_);refine Yi (by kernel_rfl) ?_;refine Yi (Ii i (by omega)) ?_;refine Xi ⟨i+1,by omega⟩ ?_;have e1:HO.map CL (EK ((CK (l.take i)).map Mi) (.string l[i].path) (.agg (AA (GC u l[i]))))=.map CL ((CK (l.take (i+1))).map Mi):=by rw[AU]
   exact⟨Dl l.length i (by omega),Z6,⟨⟨e1,rfl⟩,Tv⟩,Fh,Tv⟩
  ·refine Yi (Nz rfl) ?_;refine Yi (Nz rfl) (Yi (Nz rfl) ?_);refine Xi ⟨[(0,sl AA l),(1,.v (TE 215)),(5,.mref 10),(7,.ref 7 0),(8,.ref 8 0),(11,sl AA l),(12,vi (l.map AA).length),(13,vi i)],[(7,.cells (AA l[i])),(8,.cells (AA l[i])),(10,.map CL ((CK (l.take i)).map Mi))],Aa⟩ (Yi ⟨Z8,Z3,Fh,Tv⟩ ?_)
   have AU:=tail l[i] E5 (by rw[ZR,hu];rfl);refine Yi (Nz rfl) (Yi (Nz rfl) ?_);refine Xi _ (Yi (wy l[i] l[i] E5 E5) ?_);refine Yi (by kernel_rfl) ?_;refine Yi (Ii i (by omega)) ?_;refine Xi ⟨i+1,by omega⟩ ?_;have e1:HO.map CL (EK ((CK (l.take i)).map Mi) (.string l[i].path) (.agg (AA (GC l[i] l[i]))))=.map CL ((CK (l.take (i+1))).map Mi):=by rw[AU]
   exact⟨Dl l.length i (by omega),Z6,⟨⟨e1,rfl⟩,Tv⟩,Fh,Tv⟩
 ·intro h;have h:¬(i:Int)<(l.map AA).length:=h;have h:¬i<l.length:=by simpa using h
  have e:(CK (l.take i)).map Mi=(CK l).map Mi:=by rw[AD (by omega)]
  exact .of_eq (Ad (AV.cmap CL) e)
abbrev Gt(l:List Tm):AV:=.tup [sl AA (Po l),vb (CE l).isSome]
abbrev uW:Rk:=⟨[],[],[(4,3)],[],[],[],[],[],[],[(25,4)],[4,7,10]⟩
abbrev Rr(l:List Tm):HO:=.arr 3 (l.map AA)
abbrev E6(l:List Tm):List Tm:=l.filter fun t=>!Gg t
theorem jF{l:List Tm}{kv:Value×AV}{Nv : List (Value×AV)}(h:(l.map Mi).Perm (kv::Nv)):∃t r,kv=Mi t∧Nv=r.map Mi∧l.Perm (t::r):=by
 obtain⟨ps,h1,h2⟩:=LR h l rfl;cases ps with
 |nil=>cases h2
 |cons t r =>
  rw[AJ,Fk]at h2;exact⟨t,r,h2.1.symm,h2.2.symm,h1.symm⟩
theorem Wx{l:List Tm}{t:Tm}(h:t∈CK l)(hn:Hw t=true):CE l=none:=by
 unfold CE;rw[Ao (Bf.2 ⟨t,(IU l t).1 h,hn⟩)]
theorem X9{l done s:List Tm}(h:done.Perm (CK l))(hn:∀t∈done,Hw t=false)(hp:s.Perm (E6 done))(hs:s.Pairwise fun x y=>En y.path x.path=false):CE l=some s:=by
 unfold CE;rw[Ai]
 ·congr 1
  exact(OY _ (hp.trans (h.filter _)) hs).symm
 ·intro c;obtain⟨t,h1,h2⟩:=Bf.1 c
  have:=hn t (h.mem_iff.2 ((IU l t).2 h1))
  rw[h2]at this;cases this
theorem bq(l:List Tm):(E6 l).length≤l.length:=BA _ _
theorem rr(l:List Tm)(hl:CU l)(hs:∀t∈l,CU t.set):PC 183 [sl AA l] (Gt l):=by
 have bc:l.length≤1073741824:=hl;have xh:(CK l).length≤l.length:=by have:=Np l l.length (Am _);rwa [DA]at this
 refine Ps uW Tryz.func183 rfl (Nz rfl) ?_;refine Xi .pure (Xi _ (Yi (yh l hl hs) ?_));refine Xi {p:List Tm×List Tm×Option (Value×AV) // (p.1++p.2.1).Perm (CK l)∧∀t∈p.1,Hw t=false} (Xi (fun p=>⟨[(4,.msl 4 (E6 p.1.1).length),(9,.ref 9 0)],[(4,Rr (E6 p.1.1)),(9,.iter ((CK l).map Mi) (p.1.2.1.map Mi) p.1.2.2)],Aa⟩) (Xi (fun p=>p.1.2.1.length) (Yi (Xi ⟨([],CK l,none),.refl _,fun t ht=>by cases ht⟩ ?_) ?_)))
 ·exact⟨Z2,Z2,Fh,Tv⟩
 intro⟨⟨done,rem,Fq⟩,r1,r2⟩;have r1:(done++rem).Perm (CK l):=r1;have r2:∀t∈done,Hw t=false:=r2;have hdl:done.length+rem.length≤l.length:=by have:=r1.length_eq;rw[Ac]at this;omega
 have n6:=bq done;refine Yi ?_ ?_
 ·intro hr;have hr:rem.map Mi=[]:=hr;have hr:rem=[]:=DY.1 hr;subst hr;rw[BT]at r1;refine Xi (.gen [(4,1000)] 0) (Yi rfl ((ym (E6 done) (by unfold CU;omega)).to ?_));intro s hq;have Wh:s.length=(E6 done).length:=hq.1.length_eq;have hc:=X9 r1 r2 hq.1 hq.2;refine Xi ⟨[(4,.msl 4 (E6 done).length)],[(4,Rr s)],Aa⟩ (Yi ⟨Z1,Z1,Fh,Tv⟩ ?_)
  refine Yi (by rw[Lm,Wh]) ?_;have e:AV.tup [sl AA s,vb true]=Gt l:=by unfold Gt Po;rw[hc];rfl
  exact .of_eq e
 ·intro kv Nv hp;refine B4 (jF hp) (fun t hp=>B4 hp (fun r hp=>?_));have e1:=hp.1;have e2:=hp.2.1;subst e1;subst e2;have hp:=hp.2.2;have rS:t∈CK l:=r1.mem_iff.1 (Bc _ (hp.mem_iff.2 (Ab ..)));have uC:=Oo l t rS;have xu:=N3 uC;refine Xi ⟨[(4,.msl 4 (E6 done).length),(9,.ref 9 0)],[(4,Rr (E6 done)),(9,.iter ((CK l).map Mi) (r.map Mi) (some (Mi t)))],Aa⟩ (Yi ⟨Z2,Z2,Fh,Tv⟩ ?_)
  refine Yi (Nz rfl) (Yi (Nz rfl) ?_);have hv:PC 216 [.agg (AA t)] (vb (Hw t)):=fK uC▸yi t xu;have ha:PC 217 [.agg (AA t)] (vb (Gg t)):=ap uC▸yj t xu;refine Dj (Bt (Hw t)) (fun h=>?_) (fun h=>?_)
  ·rw[h]at hv;refine Xi .pure (Xi _ (Yi (hv) ?_));have hc:=Wx rS h;have e:AV.tup [.slice .none [],vb false]=Gt l:=by unfold Gt Po;rw[hc];rfl
   have e0:Hf (.tup [.v (.slice none 0 0),vb false]) (.tup [.slice .none [],vb false]):=Hf.tup ⟨.nil,.refl _,trivial⟩;exact e0.trans (.of_eq e)
  ·rw[h]at hv;refine Xi .pure (Xi _ (Yi (hv) ?_));refine Xi ⟨[(4,.msl 4 (E6 done).length),(6,.ref 6 0),(9,.ref 9 0)],[(4,Rr (E6 done)),(6,.cells (AA t)),(9,.iter ((CK l).map Mi) (r.map Mi) (some (Mi t)))],Aa⟩ (Yi ⟨Z3,Z3,Fh,Tv⟩ ?_)
   refine Yi (Nz rfl) ?_;have Tr:((done++[t])++r).Perm (CK l):=by
    rw[BH];exact(List.Perm.append_left _ hp.symm).trans r1
   have xi:∀u∈done++[t],Hw u=false:=fun u hu=>by
    rcases AL.1 hu with hu | hu
    ·exact r2 u hu
    ·rw[Ak.1 hu];exact h
   have Wf:r.length<rem.length:=by rw[hp.length_eq,Ax];omega
   refine Dj (Bt (Gg t)) (fun h2=>?_) (fun h2=>?_)
   rotate_left
   ·rw[h2]at ha;refine Xi .pure (Xi _ (Yi (ha) ?_));have G9:De 3 [AA t]∧((E6 done).map AA).length=(E6 done).length∧(((E6 done).map AA).length+[AA t].length)*48≤140737488355328∧((E6 done).map AA).length+[AA t].length≤9223372036854775807 :=
     ⟨⟨rfl,trivial⟩,by rw[Lm],by rw[Lm,A5];omega,by rw[Lm,A5];omega⟩
    refine Yi (Nz rfl) ?_;refine Yi G9 ?_;have hk:E6 (done++[t])=E6 done++[t]:=by unfold E6;rw[Dd,CT,Ao (by rw[h2];rfl)];rfl
    have e1:AV.msl 4 (((E6 done).map AA).length+[AA t].length)=.msl 4 (E6 (done++[t])).length:=by rw[hk];simp
    have e2:HO.arr 3 ((E6 done).map AA++[AA t])=Rr (E6 (done++[t])):=by rw[hk];simp
    refine Xi ⟨(done++[t],r,some (Mi t)),Tr,xi⟩ ?_;exact⟨Wf,⟨⟨e1,rfl⟩,Zr,Tv⟩,⟨⟨e2,rfl⟩,Zr,Tv⟩,Fh,Tv⟩
   ·rw[h2]at ha;refine Xi .pure (Xi _ (Yi (ha) ?_));have hk:E6 (done++[t])=E6 done:=by unfold E6;rw[Dd,CT,Ai (by rw[h2];decide)];simp
    have e1:AV.msl 4 (E6 done).length=.msl 4 (E6 (done++[t])).length:=by rw[hk]
    have e2:Rr (E6 done)=Rr (E6 (done++[t])):=by rw[hk]
    refine Xi ⟨(done++[t],r,some (Mi t)),Tr,xi⟩ ?_;exact⟨Wf,⟨⟨e1,rfl⟩,Zr,Tv⟩,⟨⟨e2,rfl⟩,Zr,Tv⟩,Fh,Tv⟩
theorem lV(l:List Tm)(hl:CU l)(hs:∀t∈l,CU t.set):PC 174 [sl AA l] (sl AA (Po l)):=by
 refine Ps Ga Tryz.func174 rfl (Nz rfl) ?_;refine Xi .pure (Xi _ (Yi (rr l hl hs) ?_));exact .refl _
theorem Pb(s:Bi):CU (Ec s):=by
 unfold CU;have:=HR (GY s);omega
theorem ma{α:Type}(x:α):CU [x]:=by unfold CU;simp
theorem te{α:Type}(x y:α):CU [x,y]:=by unfold CU;simp
theorem sO(q:Rq)(hq:CU q.set):PC 122 [.agg (AN q)] (sl AA (Jg q)):=by
 have hc:PC 174 [sl AA [Dw q]] (sl AA (Jg q)):=lV [Dw q] (ma _) fun t ht=>by rw[Ak.1 ht];exact Pb _
 refine Ps Ga Tryz.func122 rfl (Nz rfl) ?_;refine Yi (Nz rfl) ?_;refine Xi .pure (Xi _ (Yi (oQ q hq) ?_));refine Xi .pure (Xi _ (Yi (hc) ?_));exact .refl _
theorem sP(p:ByteArray)(pl:Int)(q:Rq)(hp:BM (pl+1))(hq:CU q.set):PC 123 [vs p,vi pl,.agg (AN q)] (sl AA (Eb p pl q)):=by
 have hc:PC 174 [sl AA [⟨p,false,[(pl,pl+1)]⟩,Dw q]] (sl AA (Eb p pl q)):=lV [⟨p,false,[(pl,pl+1)]⟩,Dw q] (te _ _) fun t ht=>by
  rcases Au.1 ht with rfl | ht
  ·exact ma _
  ·rw[Ak.1 ht];exact Pb _
 refine Ps Ga Tryz.func123 rfl (Nz rfl) ?_;refine Yi hp ?_;refine Yi (Nz rfl) ?_;refine Xi .pure (Xi _ (Yi (oQ q hq) ?_));refine Xi .pure (Xi _ (Yi (hc) ?_));exact .refl _
theorem oN(p:ByteArray)(s:Bi)(hs:CU s):PC 127 [vs p,sl Aq s] (sl AA (HM p s)):=by
 have hc:PC 174 [sl AA [⟨p,false,Ec s⟩]] (sl AA (HM p s)):=lV [⟨p,false,Ec s⟩] (ma _) fun t ht=>by rw[Ak.1 ht];exact Pb _
 refine Ps Ga Tryz.func127 rfl (Nz rfl) ?_;refine Xi .pure (Xi _ (Yi (lK s hs) ?_));refine Xi .pure (Xi _ (Yi (hc) ?_));exact .refl _
end Go.Eng
