/- Lemmas for the claims of this seat, without a condition: part 19 (C17, C18, C19, C20, C21, C22, C23, C24). -/
import Derived.Test.YtddfphmpfnmknaaGreatDoorCA18
namespace Go.Eng
open Go.Proofs
abbrev yt(l:List (Nat×Nat))(cut:List Nat):RK:=⟨[],[],l,[],[],[],[],[],[],[],cut⟩
abbrev IJ(l:List (Int×Int)):HO:=.arr 2 (l.map Aq)
theorem YR(l:Bg)(i:Nat):(CF (l.take i)).length≤i:=by
 unfold CF
 have:=BA (fun x:Int×Int=>decide (x.1<x.2)) ((l.take i).map Hf)
 rw[Lm,AD]at this;omega
theorem UG{l:Bg}{i:Nat}(h:i<l.length)(h3:(Hf l[i]).1<(Hf l[i]).2):CF (l.take (i+1))=CF (l.take i)++[Hf l[i]]:=by
 rw[Bq,Ge h,Of];unfold CF;simp[h3]
theorem W3{l:Bg}{i:Nat}(h:i<l.length)(h3:¬(Hf l[i]).1<(Hf l[i]).2):CF (l.take (i+1))=CF (l.take i):=by
 rw[Bq,Ge h,Of];unfold CF;simp[h3]
abbrev arr2(s j:Bg)(i:Nat):Bg:=(By (s.take i)).reverse++(j++s.drop i)
theorem ji(s j:Bg)(i:Nat)(h:i<s.length)(hj:(By (s.take i)).length+j.length=i):(arr2 s j i)[i]?=some s[i]:=by
 unfold arr2;rw[AZ (by rw[Dh];omega),AZ (by rw[Dh];omega),Dh,Dp];rw[show i+(i-(By (List.take i s)).length-j.length)=i by omega,Ge h]
theorem bt(s j:Bg)(i:Nat){y:Int×Int}{t:Bg}(e:By (s.take i)=y::t):(arr2 s j i)[t.length]?=some y:=by
 unfold arr2;rw[e,Qp,BI,AZ (by rw[Dh];omega),Dh,Gf];rfl
theorem dX(s j:Bg)(i:Nat)(h:i≤s.length)(hj:(By (s.take i)).length+j.length=i):(arr2 s j i).length=s.length:=by
 unfold arr2;simp only[Ad,Dh,Dk];omega
theorem ZU{α:Type}(s:List α)(i:Nat)(h:i<s.length):s.drop i=s[i]::s.drop (i+1):=Bj h
theorem Uu(s j:Bg)(i:Nat)(h:i<s.length)(e:KM (By (s.take i)) s[i]=s[i]::By (s.take i)) :
  (arr2 s j i).set (By (s.take i)).length s[i]=arr2 s (j++[s[i]]).tail (i+1):=by
 unfold arr2;rw[Gj s i h,e,Qp,List.set_append_right _ _ (by rw[Dh];exact Al _),Dh,Gf,BI,ZU s i h]
 congr 1
 cases j with
 |nil=>rfl
 |cons a b=>simp
theorem br(s j:Bg)(i:Nat)(h:i<s.length){y:Int×Int}{t:Bg}(e:By (s.take i)=y::t)(Hg:s[i].1≤y.2) :
  (arr2 s j i).set t.length (y.1,max y.2 s[i].2)=arr2 s (j++[s[i]]) (i+1):=by
 unfold arr2;have e2:KM (y::t) s[i]=(y.1,max y.2 s[i].2)::t:=by show(if s[i].1≤y.2 then _ else _)=_;rw[Ao Hg]
 rw[Gj s i h,e,e2,Qp,Qp,BI,List.set_append_right _ _ (by rw[Dh];exact Al _),Dh,Gf,ZU s i h];simp
theorem Do{α:Type}{enc:α→List AV}{l:List α}{i:Nat}{x:α}(h:l[i]?=some x):(l.map enc)[i]?=some (enc x):=by rw[AF,h];rfl
theorem WZ(l:List (Int×Int))(hl:CO l):PC 116 [sl Aq l] (sl Aq (canon l)):=by
 have hl:l.length≤1073741824:=hl;refine F0 (dC (yt [(3,2)] [5,14,15,16])) rfl Co hm rfl Tryz.func116 (by kernel_rfl) rfl (Nz rfl) (by kernel_rfl) ?_;refine Xi {i:Nat // i≤l.length} (Xi (fun i=>⟨[(0,sl Aq l),(3,.msl 3 (CF (l.take i.1)).length),(9,sl Aq l),(10,vi (l.map Aq).length),(11,vi i.1)],[(3,IJ (CF (l.take i.1)))],Aa⟩) (Xi (fun i=>l.length-i.1) (Yi (Xi ⟨0,by simp⟩ ?_) ?_)))
 ·exact⟨Z5,Z1,Fh,Tv⟩
 ·intro⟨i,h1⟩;have hn:=YR l i;refine Yi ?_ ?_
  ·intro h;have h:(i:Int)<(l.map Aq).length:=h;have h:i<l.length:=by simpa using h
   have hg:l[i]?=some l[i]:=Ge h;refine Xi (Aq l[i]) (Yi (Yi (Nn i) (by simp[hg])) (Yi rfl ?_));refine Yi (Nz rfl) (Yi (Nz rfl) ?_);refine Xi ⟨[(0,sl Aq l),(3,.msl 3 (CF (l.take i)).length),(5,.ref 5 0),(9,sl Aq l),(10,vi (l.map Aq).length),(11,vi i)],[(3,IJ (CF (l.take i))),(5,.cells (Aq l[i]))],Aa⟩ (Yi ⟨Z6,Z2,Fh,Tv⟩ ?_)
   refine Yi (Nz rfl) ?_;refine Yi ?_ ?_
   ·intro h3;have h3:(Hf l[i]).1<(Hf l[i]).2:=h3;refine Yi (Nz rfl) ?_;have He:De 2 [[vi (max l[i].1 0),vi (min l[i].2 1000000)]]∧((CF (l.take i)).map Aq).length=(CF (l.take i)).length∧(((CF (l.take i)).map Aq).length+[[vi (max l[i].1 0),vi (min l[i].2 1000000)]].length)*16≤140737488355328∧((CF (l.take i)).map Aq).length+[[vi (max l[i].1 0),vi (min l[i].2 1000000)]].length≤9223372036854775807 :=
     ⟨⟨rfl,trivial⟩,by rw[Lm],by rw[Lm,A6];omega,by rw[Lm,A6];omega⟩
    refine Yi He ?_;refine Yi (Ii i (by omega)) ?_;refine Xi ⟨i+1,by omega⟩ ?_;have e1:AV.msl 3 (((CF (l.take i)).map Aq).length+[[vi (max l[i].1 0),vi (min l[i].2 1000000)]].length)=.msl 3 (CF (l.take (i+1))).length:=by rw[UG h h3];simp
    have e2:HO.arr 2 ((CF (l.take i)).map Aq++[[vi (max l[i].1 0),vi (min l[i].2 1000000)]])=IJ (CF (l.take (i+1))):=by rw[UG h h3];simp[Hf]
    exact⟨Dl l.length i (by omega),⟨Zr,⟨e1,rfl⟩,Zr,Zr,Zr,Tv⟩,⟨⟨e2,rfl⟩,Tv⟩,Fh,Tv⟩
   ·intro h3;have h3:¬(Hf l[i]).1<(Hf l[i]).2:=h3;refine Yi (Ii i (by omega)) ?_;refine Xi ⟨i+1,by omega⟩ ?_;have e1:AV.msl 3 (CF (l.take i)).length=.msl 3 (CF (l.take (i+1))).length:=by rw[W3 h h3]
    have e2:IJ (CF (l.take i))=IJ (CF (l.take (i+1))):=by rw[W3 h h3]
    exact⟨Dl l.length i (by omega),⟨Zr,⟨e1,rfl⟩,Zr,Zr,Zr,Tv⟩,⟨⟨e2,rfl⟩,Tv⟩,Fh,Tv⟩
  ·intro h;have h:¬(i:Int)<(l.map Aq).length:=h;have h:¬i<l.length:=by simpa using h
   have ei:CF (l.take i)=CF l:=by rw[AG (by omega)]
   have hN:(CF (l.take i)).length=(CF l).length:=by rw[ei]
   refine Xi (.gen [(3,1000)] 0) (Yi rfl ((tA (CF (l.take i)) (by unfold CO;omega) (fun x hx=>by have:=UF hx;omega)).to ?_));intro s hs;have WL:s.length=(CF (l.take i)).length:=hs.1.length_eq;have hsN:s.length≤1073741824:=by omega
   have fin:(By s).reverse=canon l:=QY (by rw[←ei];exact hs.1) hs.2;refine Xi {p:Nat×Bg // p.1≤s.length∧(By (s.take p.1)).length+p.2.length=p.1} (Xi (fun p=>⟨[(3,.msl 3 (CF (l.take i)).length),(6,vi (By (s.take p.1.1)).length),(34,.msl 3 (CF (l.take i)).length),(35,vi (CF (l.take i)).length),(36,vi p.1.1)],[(3,IJ (arr2 s p.1.2 p.1.1))],Aa⟩) (Xi (fun p=>s.length-p.1.1) (Yi (Xi ⟨(0,[]),AL _,rfl⟩ ?_) ?_)))
   ·exact⟨Z5,Z1,Fh,Tv⟩
   intro⟨⟨k,j⟩,k1,k2⟩;have k1:k≤s.length:=k1;have k2:(By (s.take k)).length+j.length=k:=k2;have Cn:=dX s j k k1 k2;have SJ:(CF (l.take i)).length=((arr2 s j k).map Aq).length:=by rw[Lm,Cn,WL]
   refine Yi ?_ ?_
   ·intro h2;have h2:(k:Int)<(CF (l.take i)).length:=h2;have hk:k<s.length:=by omega
    have lB:=Do (enc:=Aq) (ji s j k hk k2);refine Yi ⟨by show(0:Int)≤k;omega,by show(k:Int)<_;omega⟩ ?_;refine Yi SJ (Xi (Aq s[k]) (Yi lB (Yi (Nz rfl) (Yi (Nz rfl) ?_))));refine Xi ⟨[(3,.msl 3 (CF (l.take i)).length),(6,vi (By (s.take k)).length),(7,vi k),(8,.ref 8 0),(34,.msl 3 (CF (l.take i)).length),(35,vi (CF (l.take i)).length),(36,vi k)],[(3,IJ (arr2 s j k)),(8,.cells (Aq s[k]))],Aa⟩ (Yi ⟨Z7,Z2,Fh,Tv⟩ ?_)
    have hr:=Td s k k1;refine Dd (Nat.eq_zero_or_pos k) (fun k0=>?_) (fun k0=>?_)
    ·refine Yi ?_ ?_
     ·intro h4;have h4:(0:Int)<k:=h4;omega
     ·intro _;refine Yi (by kernel_rfl) ?_;have Jf:KM (By (s.take k)) s[k]=s[k]::By (s.take k):=by subst k0;rfl
      have dJ:(By (s.take k)).length<(arr2 s j k).length:=by omega
      have hz:=Do (enc:=Aq) (Ge dJ);refine Xi ⟨[(3,.msl 3 (CF (l.take i)).length),(6,vi (By (s.take k)).length),(8,.ref 8 0),(34,.msl 3 (CF (l.take i)).length),(35,vi (CF (l.take i)).length),(36,vi k)],[(3,IJ (arr2 s j k)),(8,.cells (Aq s[k]))],Aa⟩ (Yi ⟨⟨⟨rfl,rfl⟩,⟨rfl,rfl⟩,⟨rfl,rfl⟩,⟨rfl,rfl⟩,⟨rfl,rfl⟩,⟨rfl,rfl⟩,Tv⟩,⟨⟨rfl,rfl⟩,⟨rfl,rfl⟩,Tv⟩,Fh,Tv⟩ ?_);refine Yi (Nz rfl) (Yi ⟨by show(0:Int)≤((By (s.take k)).length:Int);omega,by show((By (s.take k)).length:Int)<_;omega⟩ ?_);refine Yi SJ (Xi (Aq (arr2 s j k)[(By (s.take k)).length]) (Yi hz (Yi (Nz rfl) ?_)));refine Yi (by show BQ (((By (s.take k)).length:Int)+1);unfold BQ;omega) ?_;refine Yi (Ii k (by omega)) ?_;have hm:=Gj s k hk;have e1:vi (((By (s.take k)).length:Int)+1)=vi (By (s.take (k+1))).length:=by rw[hm,Jf];simp
      have e2:HO.arr 2 (((arr2 s j k).map Aq).set (By (s.take k)).length [vi s[k].1,vi s[k].2])=IJ (arr2 s (j++[s[k]]).tail (k+1)):=by rw[←Uu s j k hk Jf];simp only[IJ,Hd]
      refine Xi ⟨(k+1,(j++[s[k]]).tail),by show k+1≤s.length;omega,by show(By (s.take (k+1))).length+((j++[s[k]]).tail).length=k+1;rw[hm,Jf];simp;omega⟩ ?_;exact⟨Dl s.length k (by omega),⟨Zr,⟨e1,rfl⟩,Zr,Zr,Zr,Tv⟩,⟨⟨e2,rfl⟩,Tv⟩,Fh,Tv⟩
    ·refine Yi ?_ ?_
     ·intro _;obtain⟨y,t,e⟩:∃y t,By (s.take k)=y::t:=by
       cases hc:By (s.take k)with
       |nil=>have:=hr.2 k0;rw[hc]at this;simp at this
       |cons y t=>exact⟨y,t,rfl⟩
      have ht:(((By (s.take k)).length:Int)-1).toNat=t.length:=by rw[e];simp
      have hy:((arr2 s j k).map Aq)[(((By (s.take k)).length:Int)-1).toNat]?=some (Aq y):=by rw[ht];exact Do (bt s j k e)
      refine Yi (by show BQ (((By (s.take k)).length:Int)-1);unfold BQ;omega) ?_;have Y8:=hr.2 k0;refine Yi ⟨by show(0:Int)≤((By (s.take k)).length:Int)-1;omega,by show((By (s.take k)).length:Int)-1<_;omega⟩ ?_;refine Yi SJ (Xi (Aq y) (Yi hy ?_));refine Yi ?_ ?_
      ·intro h5;have h5:s[k].1≤y.2:=h5;refine Yi (by kernel_rfl) ?_;refine Xi ⟨[(3,.msl 3 (CF (l.take i)).length),(6,vi (By (s.take k)).length),(8,.ref 8 0),(34,.msl 3 (CF (l.take i)).length),(35,vi (CF (l.take i)).length),(36,vi k)],[(3,IJ (arr2 s j k)),(8,.cells (Aq s[k]))],Aa⟩ (Yi ⟨⟨⟨rfl,rfl⟩,⟨rfl,rfl⟩,⟨rfl,rfl⟩,⟨rfl,rfl⟩,⟨rfl,rfl⟩,⟨rfl,rfl⟩,Tv⟩,⟨⟨rfl,rfl⟩,⟨rfl,rfl⟩,Tv⟩,Fh,Tv⟩ ?_);refine Yi (by show BQ (((By (s.take k)).length:Int)-1);unfold BQ;omega) (Yi (by show BQ (((By (s.take k)).length:Int)-1);unfold BQ;omega) ?_);refine Yi ⟨by show(0:Int)≤((By (s.take k)).length:Int)-1;omega,by show((By (s.take k)).length:Int)-1<_;omega⟩ ?_;refine Yi SJ (Xi (Aq y) (Yi hy ?_));refine Yi ⟨by show(0:Int)≤((By (s.take k)).length:Int)-1;omega,by show((By (s.take k)).length:Int)-1<_;omega⟩ ?_;refine Yi SJ (Xi (Aq y) (Yi hy (Yi (Nz rfl) ?_)));refine Yi (by kernel_rfl) ?_;refine Yi (Ii k (by omega)) ?_;have hm:=Gj s k hk;have Jf:KM (By (s.take k)) s[k]=(y.1,max y.2 s[k].2)::t:=by rw[e];show(if s[k].1≤y.2 then _ else _)=_;rw[Ao h5]
       have e1:vi (By (s.take k)).length=vi (By (s.take (k+1))).length:=by rw[hm,Jf,e];simp
       have e2:HO.arr 2 (((arr2 s j k).map Aq).set (((By (s.take k)).length:Int)-1).toNat [vi y.1,vi (max y.2 s[k].2)])=IJ (arr2 s (j++[s[k]]) (k+1)):=by rw[←br s j k hk e h5,ht];simp only[IJ,Hd]
       refine Xi ⟨(k+1,j++[s[k]]),by show k+1≤s.length;omega,by show(By (s.take (k+1))).length+(j++[s[k]]).length=k+1;rw[hm,Jf,Ad,A6];rw[e]at k2;simp only[Au]at k2⊢;omega⟩ ?_;exact⟨Dl s.length k (by omega),⟨Zr,⟨e1,rfl⟩,Zr,Zr,Zr,Tv⟩,⟨⟨e2,rfl⟩,Tv⟩,Fh,Tv⟩
      ·intro h5;have h5:¬s[k].1≤y.2:=h5;refine Yi (by kernel_rfl) ?_;have Jf:KM (By (s.take k)) s[k]=s[k]::By (s.take k):=by rw[e];show(if s[k].1≤y.2 then _ else _)=_;rw[Ah h5]
       have dJ:(By (s.take k)).length<(arr2 s j k).length:=by omega
       have hz:=Do (enc:=Aq) (Ge dJ);refine Xi ⟨[(3,.msl 3 (CF (l.take i)).length),(6,vi (By (s.take k)).length),(8,.ref 8 0),(34,.msl 3 (CF (l.take i)).length),(35,vi (CF (l.take i)).length),(36,vi k)],[(3,IJ (arr2 s j k)),(8,.cells (Aq s[k]))],Aa⟩ (Yi ⟨⟨⟨rfl,rfl⟩,⟨rfl,rfl⟩,⟨rfl,rfl⟩,⟨rfl,rfl⟩,⟨rfl,rfl⟩,⟨rfl,rfl⟩,Tv⟩,⟨⟨rfl,rfl⟩,⟨rfl,rfl⟩,Tv⟩,Fh,Tv⟩ ?_);refine Yi (Nz rfl) (Yi ⟨by show(0:Int)≤((By (s.take k)).length:Int);omega,by show((By (s.take k)).length:Int)<_;omega⟩ ?_);refine Yi SJ (Xi (Aq (arr2 s j k)[(By (s.take k)).length]) (Yi hz (Yi (Nz rfl) ?_)));refine Yi (by show BQ (((By (s.take k)).length:Int)+1);unfold BQ;omega) ?_;refine Yi (Ii k (by omega)) ?_;have hm:=Gj s k hk;have e1:vi (((By (s.take k)).length:Int)+1)=vi (By (s.take (k+1))).length:=by rw[hm,Jf];simp
       have e2:HO.arr 2 (((arr2 s j k).map Aq).set (By (s.take k)).length [vi s[k].1,vi s[k].2])=IJ (arr2 s (j++[s[k]]).tail (k+1)):=by rw[←Uu s j k hk Jf];simp only[IJ,Hd]
       refine Xi ⟨(k+1,(j++[s[k]]).tail),by show k+1≤s.length;omega,by show(By (s.take (k+1))).length+((j++[s[k]]).tail).length=k+1;rw[hm,Jf];simp;omega⟩ ?_;exact⟨Dl s.length k (by omega),⟨Zr,⟨e1,rfl⟩,Zr,Zr,Zr,Tv⟩,⟨⟨e2,rfl⟩,Tv⟩,Fh,Tv⟩
     ·intro h4;have h4:¬(0:Int)<k:=h4;omega
   ·intro h2;have h2:¬(k:Int)<(CF (l.take i)).length:=h2;have hk:k=s.length:=by omega
    have hr:=Td s k k1;have nH:((((arr2 s j k).map Aq).take ((By (s.take k)).length:Int).toNat).drop 0)=(canon l).map Aq:=by
     rw[List.drop_zero,Ch,←List.map_take,←fin];unfold arr2
     have:(By (s.take k)).length=(By (s.take k)).reverse.length:=by rw[Dh]
     rw[this,List.take_left,hk,DZ]
    refine Yi ⟨SJ,by show(0:Int)≤0;omega,by show(0:Int)≤((By (s.take k)).length:Int);omega,by show((By (s.take k)).length:Int)≤(((arr2 s j k).map Aq).length:Int);omega,.inr ⟨rfl,by simp⟩⟩ ?_;exact .of_eq (Ac (AV.slice .none) nH)
end Go.Eng
namespace Go.Eng
open Go.Proofs Go.Sort
abbrev Gt(z:Int):List AV:=[vi z]
theorem PQ{α:Type}[Inhabited α](enc:α→Value)(w:World)(b:Nat)(d:Array α):putRow enc w b 0 d=putRow id w b 0 (d.map enc):=by
 unfold putRow
 congr 1
 funext c
 unfold putCells;apply Array.ext
 ·simp
 ·intro i h1 h2;simp only[Array.getElem_mapIdx,Array.size_map]
  by_cases h:i<d.size
  ·rw[Ao (by omega),Ao (by omega)];rw[Dq d (i-0) (by omega),Dq (d.map enc) (i-0) (by simpa using h)];simp
  ·rw[Ah (by omega),Ah (by omega)]
theorem UM(zs:List Int):(zs.map Gt).flatten=(zs.map fun z=>Value.int .i64 z).map AV.v:=by
 induction zs with
 |nil=>rfl
 |cons z zs ih=>rw[AH,Bm,ih];rfl
theorem MP(g:Gh)(w:World)(U:Nat→Prop)(vs:List Value)(h:∀x∈vs,x.oneCell'=true):Ct g w U (vs.map .v) vs :=
 ⟨by simp,h,fun i av x q1 q2=>by
  rw[AF,q2]at q1;cases q1;exact .v _ _⟩
theorem Lg{g:Gh}{w:World}{U:Nat→Prop}{vs us:List Value}(h:Ct g w U (vs.map .v) us):us=vs:=by
 apply CU;intro i;have hl:=h.1;rw[Lm]at hl
 by_cases hi:i<vs.length
 ·have:=h.2.2 i (.v vs[i]) us[i] (by rw[AF,Ge hi];rfl) (Ge (by omega))
  rw[Ge hi,Ge (by omega),this.v_eq]
 ·rw[A2 (by omega),A2 (by omega)]
theorem tH(zs:List Int)(hl:CO zs)(Dr:zs≠[]) :
  A3 Tryz.prog 242 [.msl 1000 zs.length] (Ai [(1000,.arr 1 (zs.map Gt))] Aa) fun r h' =>
   r=.tup []∧∃l' : List Int,(l'.Perm zs∧l'.Pairwise fun a b=>a≤b)∧h'=Ai [(1000,.arr 1 (l'.map Gt))] Aa:=by
 have hl:zs.length≤1073741824:=hl;have hE:F3 Tryz.prog 242:=dD 242 Tryz.func242 (by kernel_rfl) rfl;have G8:=Pp (P:=Tryz.prog) (f:=242) (es:=zs.map Gt) (sz:=1) (rest:=[]) (Q:=fun Fy=>∃l' : List Int,(l'.Perm zs∧l'.Pairwise fun a b=>a≤b)∧Fy=l'.map Gt) hE ?_ ?_
 ·rw[Lm]at G8;refine⟨hE,fun g w vals q1 q2 q3=>(G8.2 g w vals q1 q2 q3).mono fun _ _ ⟨v,r,h',g',e1,⟨e2,Fy,⟨l',p1,p2⟩,p3⟩,rest⟩=>⟨v,r,h',g',e1,⟨e2,l',p1,by rw[p3,p2]⟩,rest⟩⟩
 ·intro e
  have:zs=[]:=by simpa using e
  exact absurd this Dr
 ·intro g w b cap F hr hF hH hb;have qb:F.toList=zs.map fun z=>Value.int .i64 z:=Lg (by rw[←UM];exact hr);have fu:F=zs.toArray.map fun z=>Value.int .i64 z:=Ix.1 (by rw[qb];simp);have qc:Holds (Value.int .i64) w b 0 zs.toArray:=fun j hj=>by
   have:=hH j (by rw[fu];simpa using hj)
   refine⟨this.1.trans ?_,this.2⟩;rw[fu,Dq _ j (by simpa using hj),Dq _ j hj];simp
  have hc:=Any.slices_Sort_int Tryz.laySortInts b 0 cap zs w qc hb (by omega);rw[Lm];refine hc.mono ?_
  rintro e w' ⟨rfl,n,os,rfl⟩
  have IM:(zs.mergeSort fun x y=>decide (x≤y)).Perm zs:=List.mergeSort_perm _ _;have Cn:=IM.length_eq;refine⟨rfl,(zs.mergeSort fun x y=>decide (x≤y)).toArray.map fun z=>Value.int .i64 z,(zs.mergeSort fun x y=>decide (x≤y)).map Gt,n,os,?_,⟨_,⟨IM,?_⟩,rfl⟩,by simp[Cn],fun cs hcs=>?_,fun g w _=>?_,by rw[PQ]⟩
  ·rw[fu];simp[Cn]
  ·have:=List.pairwise_mergeSort (le:=fun x y:Int=>decide (x≤y)) (fun a b c h1 h2=>by simp only[As]at *;omega) (fun a b=>by simp only[Cj,As];omega) zs
   exact this.imp fun h=>Bv h
  ·obtain⟨x,_,rfl⟩:=Aj.1 hcs;rfl
  ·rw[UM];have e:((zs.mergeSort fun x y=>decide (x≤y)).toArray.map fun z=>Value.int .i64 z).toList=(zs.mergeSort fun x y=>decide (x≤y)).map fun z=>Value.int .i64 z:=by simp
   rw[e];exact MP _ _ _ _ fun x hx=>by
    obtain⟨z,_,rfl⟩:=Aj.1 hx;rfl
-- maps from numbers to numbers
abbrev Wz:EG:=⟨false,[.int .i64]⟩
abbrev kI(z:Int):Value:=.int .i64 z
abbrev LF(p:Int×Int):Value×AV:=(kI p.1,vi p.2)
abbrev Fj(s:Bg):List AV:=[sl Aq s]
theorem Rt{m:List (Int×Int)}{k:Int}{a:AV}:(kI k,a)∈m.map LF↔∃v,(k,v)∈m∧a=vi v:=by
 rw[Aj];constructor
 ·rintro⟨⟨k',v⟩,h1,h2⟩
  simp only[FK,Value.int.injEq,true_and]at h2;obtain⟨rfl,rfl⟩:=h2;exact⟨v,h1,rfl⟩
 ·rintro⟨v,h1,rfl⟩
  exact⟨(k,v),h1,rfl⟩
theorem Rv(m:List (Int×Int))(k v:Int):ET (m.map LF) (kI k) (vi v)=(Ld m k v).map LF:=by
 unfold Ld
 by_cases h:(m.any fun p=>decide (p.1=k))=true
 ·rw[Ao h];obtain⟨p,h1,h2⟩:=Ba.1 h;have h2:=Bv h2
  have:(kI k,vi p.2)∈m.map LF:=Rt.2 ⟨p.2,by rw[←h2];exact h1,rfl⟩
  rw[PJ this,BB,BB];apply A9;intro q _;simp only[Function.comp]
  by_cases e:q.1=k
  ·simp[e]
  ·have:¬kI q.1=kI k:=fun c=>e (by injection c)
   simp[e]
 ·rw[Ah h]
  have:∀b,(kI k,b)∉m.map LF:=fun b hb=>by
   obtain⟨v,h1,_⟩:=Rt.1 hb;exact h (Ba.2 ⟨(k,v),h1,by simp⟩)
  rw[KB this,Ax];rfl
theorem OB{T:Gr}{e:Nat}{BW:List (Value×AV)}{kx:Value}{K:AV→Prop}(a0 z0:AV)(h1:∀a,(kx,a)∈BW→a=a0)(hz:(∀a,(kx,a)∉BW)→a0=z0)(h2:K z0→Ke T e K)(k:K a0) :
  (∀a,(kx,a)∈BW→K a)∧((∀a,(kx,a)∉BW)→Ke T e K):=⟨fun a h=>by rw[h1 a h];exact k,fun hn=>h2 (hz hn▸k)⟩
theorem Qh(m:List (Int×Int))(k:Int):(∀a,(kI k,a)∉m.map LF)→vi (Ff m k)=vi 0:=fun Rc=>by
 rw[iK fun hk=>by
  obtain⟨p,hp,e⟩:=Aj.1 hk;exact Rc (vi p.2) (Rt.2 ⟨p.2,by rw[←e];exact hp,rfl⟩)]
theorem Qg{m:List (Int×Int)}(hn:(E0 m).Nodup)(k:Int):∀a,(kI k,a)∈m.map LF→a=vi (Ff m k):=fun a h=>by
 obtain⟨v,h1,rfl⟩:=Rt.1 h;rw[iJ hn h1]
theorem Ig.bound{m:List (Int×Int)}{S:Bg}(h:Ig m S)(k:Int):-(S.length:Int)≤Ff m k∧Ff m k≤S.length:=by
 rw[h.val]
 have:cF S k≤S.length:=List.countP_le_length
 have:cT S k≤S.length:=List.countP_le_length
 omega
theorem YY(l:List Bg):(l.map canon).flatten.length≤l.length*1000000:=by
 induction l with
 |nil=>simp
 |cons s l ih =>
  rw[AH,Bm,Ad,Au]
  have:=HY (Cb s)
  omega
theorem Ig.few{m:List (Int×Int)}{S:Bg}(h:Ig m S):m.length≤1000001:=by
 have:=Ie (m:=(List.range 1000001).map Int.ofNat) h.nd fun k hk=>by
  have:=h.rng k hk
  exact Aj.2 ⟨k.toNat,List.mem_range.2 (by omega),by show(k.toNat:Int)=k;omega⟩
 unfold E0 at this;rw[Lm,Lm,Qn]at this;exact this
theorem UX(keep:Nat→Bool)(m:List (Int×Int))(B:List Int):∀n,(Et keep m B n).length≤n
 |0=>Al _
 |n+1=>by
  unfold Et
  have:=UX keep m B n
  rw[Ad];split
  ·split<;>simp<;>omega
  ·simp;omega
end Go.Eng
namespace Go.Eng
open Go.Proofs
abbrev plC:RK:=⟨[],[(12,2)],[(44,1)],[],[],[],[],[],[],[],[8,9,15,23,25,26]⟩
theorem mJ(F:AV)(keep:Nat→Bool)(l:List Bg)(hl:CO l)(hs:∀s∈l,CO s)(hid:∀h,Ue h F=true)(hF:∀h (n:Int),0≤n→n≤l.length→Pm Tryz.prog (str h F) [vi n] (vb (keep n.toNat)))
  (R:Bg) (hR:ED R) (zu:∀p,has R p=(LD p&&keep (dB l p))):PC 209 [F,sl Fj l] (sl Aq R):=by
 have hl:l.length≤1073741824:=hl;refine Ps plC Tryz.func209 rfl (Nz rfl) ?_;refine Xi {p:Nat×List (Int×Int) // p.1≤l.length∧Ig p.2 ((l.take p.1).map canon).flatten} (Xi (fun p=>⟨[(0,F),(5,.mref 15),(17,sl Fj l),(18,vi (l.map Fj).length),(19,vi p.1.1)],[(15,.map Wz (p.1.2.map LF))],Aa⟩) (Xi (fun p=>l.length-p.1.1) (Yi (Xi ⟨(0,pO),AL _,ju⟩ ?_) ?_)))
 ·have e0:HO.map Wz (ET (ET [] (kI 0) (vi 0)) (kI 1000000) (vi 0))=.map Wz (pO.map LF):=by
   have e1:=Rv [] 0 0;have e2:=Rv [(0,0)] 1000000 0;show HO.map Wz (ET (ET (List.map LF []) (kI 0) (vi 0)) (kI 1000000) (vi 0))=_;rw[e1];show HO.map Wz (ET (List.map LF [(0,0)]) (kI 1000000) (vi 0))=_;rw[e2];rfl
  exact⟨⟨⟨rfl,hid _⟩,Zr,Zr,Zr,Zr,Tv⟩,⟨⟨e0,rfl⟩,Tv⟩,Fh,Tv⟩
 intro⟨⟨i,cm⟩,i1,i2⟩;have i1:i≤l.length:=i1;have i2:Ig cm ((l.take i).map canon).flatten:=i2;refine Yi ?_ ?_
 ·intro h;have h:(i:Int)<(l.map Fj).length:=h;have h:i<l.length:=by simpa using h
  have hg:l[i]?=some l[i]:=Ge h;refine Xi (Fj l[i]) (Yi (Yi (Nn i) (by simp[hg])) (Yi rfl ?_));refine Xi .pure (Xi _ (Yi (WZ l[i] (hs _ (AC h))) ?_));refine Xi {p:Nat×List (Int×Int) // p.1≤(canon l[i]).length∧Ig p.2 (((l.take i).map canon).flatten++(canon l[i]).take p.1)} (Xi (fun p=>⟨[(0,F),(5,.mref 15),(17,sl Fj l),(18,vi (l.map Fj).length),(19,vi i),(24,sl Aq (canon l[i])),(25,vi ((canon l[i]).map Aq).length),(26,vi p.1.1)],[(15,.map Wz (p.1.2.map LF))],Aa⟩) (Xi (fun p=>(canon l[i]).length-p.1.1) (Yi (Xi ⟨(0,cm),AL _,by rw[List.take_zero,BV];exact i2⟩ ?_) ?_)))
  ·exact⟨⟨⟨rfl,hid _⟩,Zr,Zr,Zr,Zr,Zr,Zr,Zr,Tv⟩,Z1,Fh,Tv⟩
  intro⟨⟨j,dm⟩,j1,j2⟩;have j1:j≤(canon l[i]).length:=j1;have j2:Ig dm (((l.take i).map canon).flatten++(canon l[i]).take j):=j2;have hS:(((l.take i).map canon).flatten++(canon l[i]).take j).length≤1073741825000000:=by
   have a1:=YY (l.take i);have a2:=HY (Cb l[i]);rw[AD]at a1;rw[Ad,AD];omega
  refine Yi ?_ ?_
  ·intro hj;have hj:(j:Int)<((canon l[i]).map Aq).length:=hj;have hj:j<(canon l[i]).length:=by simpa using hj
   have uR:(canon l[i])[j]?=some (canon l[i])[j]:=Ge hj;have lS:=(Cb l[i]).low _ (AC hj);have j3:Ig (Yp dm (canon l[i])[j]) (((l.take i).map canon).flatten++(canon l[i]).take (j+1)):=by
    have:=dp j2 (x:=(canon l[i])[j]) lS
    rw[BI]at this;rw[Bq,uR];exact this
   generalize (canon l[i])[j]=x at uR lS j3;have b1:=j2.bound x.1;have dJ:=L8 j2.nd x.1 (Ff dm x.1+1);refine Xi (Aq x) (Yi (Yi (Nn j) (by simp[uR])) (Yi rfl ?_));refine Yi (Nz rfl) (Yi (Nz rfl) ?_);refine Xi ⟨[(0,F),(5,.mref 15),(9,.ref 9 0),(17,sl Fj l),(18,vi (l.map Fj).length),(19,vi i),(24,sl Aq (canon l[i])),(25,vi ((canon l[i]).map Aq).length),(26,vi j)],[(9,.cells (Aq x)),(15,.map Wz (dm.map LF))],Aa⟩ (Yi ⟨⟨⟨rfl,hid _⟩,Zr,Zr,Zr,Zr,Zr,Zr,Zr,Zr,Tv⟩,Z2,Fh,Tv⟩ ?_)
   refine OB (vi (Ff dm x.1)) (vi 0) (Qg j2.nd x.1) (Qh dm x.1) (fun q=>q) ?_;refine Yi (by show BQ (Ff dm x.1+1);unfold BQ;omega) ?_;have m1:HO.map Wz (ET (dm.map LF) (kI x.1) (vi (Ff dm x.1+1)))=.map Wz ((Ld dm x.1 (Ff dm x.1+1)).map LF):=by rw[Rv]
   refine Xi ⟨[(0,F),(5,.mref 15),(9,.ref 9 0),(17,sl Fj l),(18,vi (l.map Fj).length),(19,vi i),(24,sl Aq (canon l[i])),(25,vi ((canon l[i]).map Aq).length),(26,vi j)],[(9,.cells (Aq x)),(15,.map Wz ((Ld dm x.1 (Ff dm x.1+1)).map LF))],Aa⟩ (Yi ⟨⟨⟨rfl,hid _⟩,Zr,Zr,Zr,Zr,Zr,Zr,Zr,Zr,Tv⟩,⟨Zr,⟨m1,rfl⟩,Tv⟩,Fh,Tv⟩ ?_)
   have b2:-(1073741825000001:Int)≤Ff (Ld dm x.1 (Ff dm x.1+1)) x.2∧Ff (Ld dm x.1 (Ff dm x.1+1)) x.2≤1073741825000001:=by
    have b3:=j2.bound x.2;rw[Ph];split<;>omega
   refine OB (vi (Ff (Ld dm x.1 (Ff dm x.1+1)) x.2)) (vi 0) (Qg dJ x.2) (Qh _ x.2) (fun q=>q) ?_;refine Yi (by show BQ (Ff (Ld dm x.1 (Ff dm x.1+1)) x.2-1);unfold BQ;omega) ?_;have hcl:=HY (Cb l[i]);refine Yi (Ii j (by omega)) ?_;have m2:HO.map Wz (ET ((Ld dm x.1 (Ff dm x.1+1)).map LF) (kI x.2) (vi (Ff (Ld dm x.1 (Ff dm x.1+1)) x.2-1)))=.map Wz ((Yp dm x).map LF):=by rw[Rv];rfl
   refine Xi ⟨(j+1,Yp dm x),by show j+1≤_;omega,j3⟩ ?_;exact⟨by show(canon l[i]).length-(j+1)<(canon l[i]).length-j;omega,⟨⟨rfl,hid _⟩,Zr,Zr,Zr,Zr,Zr,Zr,Zr,Tv⟩,⟨⟨m2,rfl⟩,Tv⟩,Fh,Tv⟩
  ·intro hj;have hj:¬(j:Int)<((canon l[i]).map Aq).length:=hj;have hj:¬j<(canon l[i]).length:=by simpa using hj
   refine Yi (Ii i (by omega)) ?_;have i3:Ig dm ((l.take (i+1)).map canon).flatten:=by
    have e1:(canon l[i]).take j=canon l[i]:=AG (by omega);rw[e1]at j2;have e2:((l.take (i+1)).map canon).flatten=((l.take i).map canon).flatten++canon l[i]:=by
     rw[Bq,hg,Ax,Cv];show _++(canon l[i]++[])=_;rw[BV]
    rw[e2];exact j2
   refine Xi ⟨(i+1,dm),by show i+1≤_;omega,i3⟩ ?_;exact⟨Dl l.length i (by omega),⟨⟨rfl,hid _⟩,Zr,Zr,Zr,Zr,Tv⟩,Z1,Fh,Tv⟩
 ·intro h;have h:¬(i:Int)<(l.map Fj).length:=h;have h:¬i<l.length:=by simpa using h
  have i3:Ig cm (l.map canon).flatten:=by
   rw[AG (by omega)]at i2;exact i2
  have zK:=i3.few;have zY:(0:Int)≤0∧(0:Int)≤((cm.map LF).length:Int)∧((cm.map LF).length:Int)*((8:Nat):Int)≤140737488355328∧((cm.map LF).length:Int)≤9223372036854775807:=by rw[Lm];omega
  refine Yi zY ?_;refine Xi {p:List (Value×AV)×List Int×Option (Value×AV) // ((p.2.1.map kI)++p.1.map (·.1)).Perm ((cm.map LF).map (·.1))∧∀kv∈p.1,kv∈cm.map LF} (Xi (fun p=>⟨[(0,F),(5,.mref 15),(10,.msl 44 p.1.2.1.length),(46,.ref 46 0)],[(15,.rom Wz (cm.map LF)),(44,.arr 1 (p.1.2.1.map Gt)),(46,.iter (cm.map LF) p.1.1 p.1.2.2)],Aa⟩) (Xi (fun p=>p.1.1.length) (Yi (Xi ⟨(cm.map LF,[],none),.refl _,fun _ h=>h⟩ ?_) ?_)))
  ·exact⟨⟨⟨rfl,hid _⟩,Zr,Zr,Zr,Tv⟩,Z3,Fh,Tv⟩
  intro⟨⟨rem,bs,Fx⟩,r1,r2⟩;have r1:((bs.map kI)++rem.map (·.1)).Perm ((cm.map LF).map (·.1)):=r1;have r2:∀kv∈rem,kv∈cm.map LF:=r2;have hbl:bs.length≤1000001:=by
   have:=r1.length_eq
   simp only[Ad,Lm]at this;omega
  refine Yi ?_ ?_
  ·intro hr;have hr:rem=[]:=hr;subst hr;rw[E1,BV,BB]at r1;have vl:bs.Perm (E0 cm):=by
    have r1:(bs.map kI).Perm ((E0 cm).map kI):=by unfold E0;rw[BB];exact r1
    have:=r1.map (fun v:Value=>match v with | .int _ n=>n | _=>0)
    rw[BB,BB]at this;have e:((fun v:Value=>match v with | .int _ n=>n | _=>0) ∘ kI)=id:=rfl;rw[e,JD,JD]at this;exact this
   have Dr:bs≠[]:=fun e=>by
    subst e
    have:=vl.length_eq
    have h0:=i3.keys.1;rw[AN this.symm]at h0;cases h0
   refine Xi (.gen [(44,1000)] 0) (Yi rfl ((tH bs (by unfold CO;omega) Dr).to ?_));intro B qa;have jK:B.length=bs.length:=qa.1.length_eq;have zh:B.Nodup:=(qa.1.trans vl).nodup_iff.2 i3.nd;have hB:jd B cm:=⟨qa.1.trans vl,by
    rw[AY];intro a b ha hb iV;have h1:=(AY.1 qa.2) a b ha hb iV;have h2:B[a]≠B[b]:=(AY.1 zh) a b ha hb iV;omega⟩
   have xw:0<B.length:=by
    rw[jK];exact MY.2 Dr
   have uo:bs.length=(B.map Gt).length:=by rw[Lm,jK]
   refine Yi (by show BQ ((bs.length:Int)-1);unfold BQ;omega) ?_;refine Xi {k:Nat // k≤B.length-1} (Xi (fun k=>⟨[(0,F),(5,.mref 15),(10,.msl 44 bs.length),(12,.slice (.id 12 2) ((Et keep cm B k.1).map Aq)),(13,vi (Iw cm (B.take k.1))),(59,vi ((bs.length:Int)-1)),(60,vi k.1)],[(12,.tok 2 ((Et keep cm B k.1).map Aq).length),(15,.rom Wz (cm.map LF)),(44,.arr 1 (B.map Gt))],Aa⟩) (Xi (fun k=>B.length-k.1) (Yi (Xi ⟨0,AL _⟩ ?_) ?_)))
   ·exact⟨⟨⟨rfl,hid _⟩,Zr,Zr,Zr,Zr,Zr,Zr,Tv⟩,Z3,Fh,Tv⟩
   intro⟨k,k1⟩;have o7:=UX keep cm B k;refine Yi ?_ ?_
   ·intro hk;have hk:(k:Int)<(bs.length:Int)-1:=hk;have Ir:k+1<B.length:=by omega
    have UR:k<B.length:=by omega
    have lB:(B.map Gt)[k]?=some (Gt B[k]):=Do (Ge UR);have uA:(B.map Gt)[k+1]?=some (Gt B[k+1]):=Do (Ge Ir);have Ub:=Qe cm B k UR;have qW:=iw i3 hB k UR;have SI:Et keep cm B (k+1)=Et keep cm B k++(if keep (Iw cm (B.take (k+1))).toNat then [(B[k],B[k+1])]else []):=by
     show _++(match B[k]?,B[k+1]? with | some a,some b=>if keep (Iw cm (B.take (k+1))).toNat then [(a,b)]else [] | _,_=>[])=_;rw[Ge UR,Ge Ir]
    refine Xi ⟨[(0,F),(5,.mref 15),(10,.msl 44 bs.length),(12,.slice (.id 12 2) ((Et keep cm B k).map Aq)),(13,vi (Iw cm (B.take k))),(14,vi k),(59,vi ((bs.length:Int)-1)),(60,vi k)],[(12,.tok 2 ((Et keep cm B k).map Aq).length),(15,.rom Wz (cm.map LF)),(44,.arr 1 (B.map Gt))],Aa⟩ (Yi ⟨⟨⟨rfl,hid _⟩,Zr,Zr,Zr,Zr,Zr,Zr,Zr,Tv⟩,Z3,Fh,Tv⟩ ?_)
    refine Yi ⟨by show(0:Int)≤k;omega,by show(k:Int)<bs.length;omega⟩ ?_;refine Yi uo (Xi (Gt B[k]) (Yi lB ?_));refine OB (vi (Ff cm B[k])) (vi 0) (Qg i3.nd B[k]) (Qh cm B[k]) (fun q=>q) ?_;refine Yi (by show BQ (Iw cm (B.take k)+Ff cm B[k]);rw[←Ub];unfold BQ;omega) ?_;have D3:∀h,Pm Tryz.prog (str h F) [vi (Iw cm (B.take k)+Ff cm B[k])] (vb (keep (Iw cm (B.take (k+1))).toNat)):=fun h=>by
     rw[←Ub];exact hF h _ qW.1 qW.2
    refine Dd (Bt (keep (Iw cm (B.take (k+1))).toNat)) (fun hp=>?_) (fun hp=>?_)
    ·rw[hp]at D3;rw[hp,Ao rfl]at SI;refine Xi .pure (Xi (vb true) (Yi (D3 _) ?_));refine Xi ⟨[(0,F),(5,.mref 15),(10,.msl 44 bs.length),(12,.slice (.id 12 2) ((Et keep cm B k).map Aq)),(13,vi (Iw cm (B.take k)+Ff cm B[k])),(14,vi k),(59,vi ((bs.length:Int)-1)),(60,vi k)],[(12,.tok 2 ((Et keep cm B k).map Aq).length),(15,.rom Wz (cm.map LF)),(44,.arr 1 (B.map Gt))],Aa⟩ (Yi ⟨⟨⟨rfl,hid _⟩,Zr,Zr,Zr,Zr,Zr,Zr,Zr,Tv⟩,Z3,Fh,Tv⟩ ?_)
     have b1:(0:Int)≤(k:Int)+1∧(k:Int)+1<bs.length:=by omega
     have uB:(B.map Gt)[((k:Int)+1).toNat]?=some (Gt B[k+1]):=by rw[show((k:Int)+1).toNat=k+1 by omega];exact uA
     refine Yi ⟨by show(0:Int)≤k;omega,by show(k:Int)<bs.length;omega⟩ ?_;refine Yi uo (Xi (Gt B[k]) (Yi lB ?_));refine Yi (Ii k (by omega)) ?_;refine Yi b1 ?_;refine Yi uo (Xi (Gt B[k+1]) (Yi uB ?_));have He:De 2 [[vi B[k],vi B[k+1]]]∧((Et keep cm B k).map Aq).length=((Et keep cm B k).map Aq).length∧(((Et keep cm B k).map Aq).length+[[vi B[k],vi B[k+1]]].length)*16≤140737488355328∧((Et keep cm B k).map Aq).length+[[vi B[k],vi B[k+1]]].length≤9223372036854775807 :=
      ⟨⟨rfl,trivial⟩,rfl,by rw[Lm,A6];omega,by rw[Lm,A6];omega⟩
     refine Yi He ?_;refine Yi (by kernel_rfl) ?_;refine Xi ⟨[(0,F),(5,.mref 15),(10,.msl 44 bs.length),(12,.slice (.id 12 2) ((Et keep cm B k).map Aq++[[vi B[k],vi B[k+1]]])),(13,vi (Iw cm (B.take k)+Ff cm B[k])),(59,vi ((bs.length:Int)-1)),(60,vi k)],[(12,.tok 2 (((Et keep cm B k).map Aq).length+[[vi B[k],vi B[k+1]]].length)),(15,.rom Wz (cm.map LF)),(44,.arr 1 (B.map Gt))],Aa⟩ (Yi ⟨⟨⟨rfl,hid _⟩,Zr,Zr,Zr,Zr,Zr,Zr,Tv⟩,Z3,Fh,Tv⟩ ?_)
     refine Yi (Ii k (by omega)) ?_;refine Xi ⟨k+1,by omega⟩ ?_;have e1:AV.slice (.id 12 2) ((Et keep cm B k).map Aq++[[vi B[k],vi B[k+1]]])=.slice (.id 12 2) ((Et keep cm B (k+1)).map Aq):=by rw[SI,Ax];rfl
     have e2:vi (Iw cm (B.take k)+Ff cm B[k])=vi (Iw cm (B.take (k+1))):=by rw[Ub]
     have e3:HO.tok 2 (((Et keep cm B k).map Aq).length+[[vi B[k],vi B[k+1]]].length)=.tok 2 ((Et keep cm B (k+1)).map Aq).length:=by rw[SI,Ax,Ad];rfl
     exact⟨Dl B.length k (by omega),⟨⟨rfl,hid _⟩,Zr,Zr,⟨e1,rfl⟩,⟨e2,rfl⟩,Zr,Zr,Tv⟩,⟨⟨e3,rfl⟩,Zr,Zr,Tv⟩,Fh,Tv⟩
    ·rw[hp]at D3;have SI:Et keep cm B (k+1)=Et keep cm B k:=by rw[SI,hp,Ah Bool.false_ne_true,BV]
     refine Xi .pure (Xi (vb false) (Yi (D3 _) ?_));refine Xi ⟨[(0,F),(5,.mref 15),(10,.msl 44 bs.length),(12,.slice (.id 12 2) ((Et keep cm B k).map Aq)),(13,vi (Iw cm (B.take k)+Ff cm B[k])),(59,vi ((bs.length:Int)-1)),(60,vi k)],[(12,.tok 2 ((Et keep cm B k).map Aq).length),(15,.rom Wz (cm.map LF)),(44,.arr 1 (B.map Gt))],Aa⟩ (Yi ⟨⟨⟨rfl,hid _⟩,Zr,Zr,Zr,Zr,Zr,Zr,Tv⟩,Z3,Fh,Tv⟩ ?_)
     refine Yi (Ii k (by omega)) ?_;refine Xi ⟨k+1,by omega⟩ ?_;have e1:AV.slice (.id 12 2) ((Et keep cm B k).map Aq)=.slice (.id 12 2) ((Et keep cm B (k+1)).map Aq):=by rw[SI]
     have e2:vi (Iw cm (B.take k)+Ff cm B[k])=vi (Iw cm (B.take (k+1))):=by rw[Ub]
     have e3:HO.tok 2 ((Et keep cm B k).map Aq).length=.tok 2 ((Et keep cm B (k+1)).map Aq).length:=by rw[SI]
     exact⟨Dl B.length k (by omega),⟨⟨rfl,hid _⟩,Zr,Zr,⟨e1,rfl⟩,⟨e2,rfl⟩,Zr,Zr,Tv⟩,⟨⟨e3,rfl⟩,Zr,Zr,Tv⟩,Fh,Tv⟩
   ·intro hk;have hk:¬(k:Int)<(bs.length:Int)-1:=hk;have Ir:k=B.length-1:=by omega
    have uG:canon (Et keep cm B k)=R:=by
     refine(RZ hR fun p=>?_).symm;rw[Ir,zu,gj i3 hB]
    have hc:=WZ (Et keep cm B k) (by unfold CO;omega);rw[uG]at hc;refine Xi .pure (Xi _ (Yi hc ?_));exact .refl _
  ·intro kv NR hp;refine CD (Aj.1 (r2 kv (hp.mem_iff.2 (Ab ..)))) (fun q hq=>?_);have hq2:=hq.2;subst hq2;refine Xi ⟨[(0,F),(5,.mref 15),(10,.msl 44 bs.length),(46,.ref 46 0)],[(15,.rom Wz (cm.map LF)),(44,.arr 1 (bs.map Gt)),(46,.iter (cm.map LF) NR (some (LF q)))],Aa⟩ (Yi ⟨⟨⟨rfl,hid _⟩,Zr,Zr,Zr,Tv⟩,Z3,Fh,Tv⟩ ?_)
   have He:De 1 [Gt q.1]∧(bs.map Gt).length=bs.length∧((bs.map Gt).length+[Gt q.1].length)*8≤140737488355328∧(bs.map Gt).length+[Gt q.1].length≤9223372036854775807 :=
    ⟨⟨rfl,trivial⟩,by rw[Lm],by rw[Lm,A6];omega,by rw[Lm,A6];omega⟩
   refine Yi He ?_;have e1:AV.msl 44 ((bs.map Gt).length+[Gt q.1].length)=.msl 44 (bs++[q.1]).length:=by simp
   have e2:HO.arr 1 (bs.map Gt++[Gt q.1])=.arr 1 ((bs++[q.1]).map Gt):=by simp
   refine Xi ⟨(NR,bs++[q.1],some (LF q)),?_,fun kv Pl=>r2 kv (hp.mem_iff.2 (Ag _ Pl))⟩ ?_
   ·show(((bs++[q.1]).map kI)++NR.map (·.1)).Perm _;have h1:=hp.map (fun x:Value×AV=>x.1);rw[AH]at h1;rw[Ax,BI];exact(List.Perm.append_left _ h1.symm).trans r1
   ·exact⟨by show NR.length<rem.length;rw[hp.length_eq];simp,⟨⟨rfl,hid _⟩,Zr,⟨e1,rfl⟩,Zr,Tv⟩,⟨Zr,⟨e2,rfl⟩,Zr,Tv⟩,Fh,Tv⟩
theorem tx(n:Int)(l:List Bg):PC 259 [vi n,.cptr [sl Fj l]] (vb (decide (n=l.length))):=by
 refine Ps Gl Tryz.func259 rfl (Nz rfl) ?_;have e:((l.map Fj).length:Int)=l.length:=by rw[Lm]
 refine Yi ?_ ?_
 ·intro h;have h:n=((l.map Fj).length:Int):=h;rw[show decide (n=(l.length:Int))=true from AA (h.trans e)];exact .refl _
 ·intro h;have h:¬n=((l.map Fj).length:Int):=h;rw[show decide (n=(l.length:Int))=false from Ay (fun c=>h (c.trans e.symm))];exact .refl _
theorem tB(n:Int):PC 210 [vi n] (vb (decide (n=0))):=by
 refine Ps Gl Tryz.func210 rfl (Nz rfl) ?_;refine Yi ?_ ?_
 ·intro h;have h:n=0:=h;rw[AA h];exact .refl _
 ·intro h;have h:¬n=0:=h;rw[Ay h];exact .refl _
theorem ua(n:Int):PC 245 [vi n] (vb (decide (0<n))):=by
 refine Ps Gl Tryz.func245 rfl (Nz rfl) ?_;refine Yi ?_ ?_
 ·intro h;have h:0<n:=h;rw[AA h];exact .refl _
 ·intro h;have h:¬0<n:=h;rw[Ay h];exact .refl _
theorem ge(l:List Bg)(p:Int):decide (dB l p=l.length)=l.all fun s=>has s p:=by
 unfold dB;rw[BP,As,List.countP_eq_length,Bk]
theorem gg(l:List Bg)(p:Int):decide (0<dB l p)=l.any fun s=>has s p:=by
 unfold dB;rw[BP,As,List.countP_pos_iff,Ba]
theorem tj(l:List Bg)(hl:CO l)(hs:∀s∈l,CO s):PC 243 [sl Fj l] (sl Aq (PF l)):=by
 have hc:=mJ (.clo 259 [.cptr [sl Fj l]]) (fun n=>decide (n=l.length)) l hl hs (fun _=>rfl) (fun h n h0 _=>by
  have:=tx n l
  have e:decide (n=(l.length:Int))=decide (n.toNat=l.length):=by rw[decide_eq_decide];omega
  rw[e]at this;exact this) (PF l) (Wl l) fun p=>by rw[SC,ge]
 refine Ps (ja [1]) Tryz.func243 rfl (Nz rfl) ?_;refine Xi .pure (Xi _ (Yi (hc) ?_));exact .refl _
theorem mE(s:Bg)(hs:CO s):PC 181 [sl Aq s] (sl Aq (Ej s)):=by
 have hc:=mJ (.v (T5 210)) (fun n=>decide (n=0)) [s] (by unfold CO;simp) (fun t ht=>by rw[Am.1 ht];exact hs) (fun _=>rfl) (fun h n h0 _=>by
  have:=tB n
  have e:decide (n=0)=decide (n.toNat=0):=by rw[decide_eq_decide];omega
  rw[e]at this;exact this) (Ej s) (G5 s) fun p=>by
   rw[FC]
   have:dB [s] p=if has s p then 1 else 0:=by unfold dB;rw[IB];simp
   rw[this];cases has s p<;>rfl
 refine Ps Gl Tryz.func181 rfl (Nz rfl) ?_;refine Xi .pure (Xi _ (Yi (hc) ?_));exact .refl _
theorem t6(l:List Bg)(hl:CO l)(hs:∀s∈l,CO s):PC 220 [sl Fj l] (sl Aq (Qf l)):=by
 have hc:=mJ (.v (T5 245)) (fun n=>decide (0<n)) l hl hs (fun _=>rfl) (fun h n h0 _=>by
  have:=ua n
  have e:decide (0<n)=decide (0<n.toNat):=by rw[decide_eq_decide];omega
  rw[e]at this;exact this) (Qf l) (WC l) fun p=>by
   rw[SD,gg];cases h:l.any fun s=>has s p with
   |false=>simp
   |true =>
    obtain⟨s,_,h2⟩:=Ba.1 h
    have:=L0 h2
    simp[LD,this]
 refine Ps Gl Tryz.func220 rfl (Nz rfl) ?_;refine Xi .pure (Xi _ (Yi (hc) ?_));exact .refl _
-- terms
theorem y8(t:Tm)(ht:CO t.set):PC 216 [.agg (AB t)] (vb (!t.absent&&(canon t.set).isEmpty)):=by
 refine Ps Gl Tryz.func216 rfl (Nz rfl) ?_;refine Yi ?_ ?_
 ·intro h;have h:t.absent=true:=h;rw[h];exact .refl _
 ·intro h;have h:t.absent=false:=h;refine Xi .pure (Xi _ (Yi (WZ t.set ht) ?_));refine Yi ?_ ?_
  ·intro h2;have h2:(((canon t.set).map Aq).length:Int)=0:=h2;have h2:canon t.set=[]:=AN (by rw[Lm]at h2;omega);rw[h,h2];exact .refl _
  ·intro h2;have h2:¬(((canon t.set).map Aq).length:Int)=0:=h2;have h2:(canon t.set).isEmpty=false:=by
    cases hc:canon t.set with
    |nil=>rw[hc]at h2;exact absurd rfl h2
    |cons _ _=>rfl
   rw[h,h2];exact .refl _
theorem y9(t:Tm)(ht:CO t.set):PC 217 [.agg (AB t)] (vb (t.absent&&(Ej t.set).isEmpty)):=by
 refine Ps Gl Tryz.func217 rfl (Nz rfl) ?_;refine Yi ?_ ?_
 ·intro h;have h:t.absent=true:=h;refine Xi .pure (Xi _ (Yi (mE t.set ht) ?_));refine Yi ?_ ?_
  ·intro h2;have h2:(((Ej t.set).map Aq).length:Int)=0:=h2;have h2:Ej t.set=[]:=AN (by rw[Lm]at h2;omega);rw[h,h2];exact .refl _
  ·intro h2;have h2:¬(((Ej t.set).map Aq).length:Int)=0:=h2;have h2:(Ej t.set).isEmpty=false:=by
    cases hc:Ej t.set with
    |nil=>rw[hc]at h2;exact absurd rfl h2
    |cons _ _=>rfl
   rw[h,h2];exact .refl _
 ·intro h;have h:t.absent=false:=h;rw[h];exact .refl _
abbrev Jo(l:List Nat):RK:=⟨[],[],[],[],[],[],[],[],[],[],l⟩
theorem xi(u t:Tm)(hu:CO u.set)(ht:CO t.set):PC 215 [.agg (AB u),.agg (AB t)] (.agg (AB (GK u t))):=by
 have hc:PC 243 [sl Fj [u.set,t.set]] (sl Aq (OK u.set t.set)):=tj [u.set,t.set] (by unfold CO;simp) (fun s hs=>by
  rcases Av.1 hs with rfl | hs
  ·exact hu
  ·rw[Am.1 hs];exact ht)
 refine Ps (Jo [1]) Tryz.func215 rfl (Nz rfl) ?_;refine Xi ⟨[(2,.ref 2 0),(3,.ref 3 0),(4,.ref 4 0)],[(2,.cells (AB u)),(3,.cells (AB t)),(4,.cells [vs ⟨#[]⟩,vb false,.v (.slice none 0 0)])],Aa⟩ (Yi ⟨Z3,Z3,Fh,Tv⟩ ?_)
 refine Yi ?_ ?_
 ·intro h;have h:u.absent=true:=h;refine Yi ?_ ?_
  ·intro h2;have h2:t.absent=true:=h2;have e:[vs u.path,vb true,sl Aq (OK u.set t.set)]=AB (GK u t):=by unfold GK;rw[h,h2];rfl
   refine Xi _ (Yi (hc) ?_);refine Yi (Nz rfl) (Yi (by kernel_rfl) (Yi (Nz rfl) ?_));exact .of_eq (Ac AV.agg e)
  ·intro h2;have h2:t.absent=false:=h2;have e:[vs u.path,vb false,sl Aq (OK u.set t.set)]=AB (GK u t):=by unfold GK;rw[h,h2];rfl
   refine Xi _ (Yi (hc) ?_);refine Yi (Nz rfl) (Yi (by kernel_rfl) (Yi (Nz rfl) ?_));exact .of_eq (Ac AV.agg e)
 ·intro h;have h:u.absent=false:=h;have e:[vs u.path,vb false,sl Aq (OK u.set t.set)]=AB (GK u t):=by unfold GK;rw[h];rfl
  refine Xi _ (Yi (hc) ?_);refine Yi (Nz rfl) (Yi (by kernel_rfl) (Yi (Nz rfl) ?_));exact .of_eq (Ac AV.agg e)
theorem tV(u t:Tm)(hu:CO u.set)(ht:CO t.set):PC 184 [.agg (AB u),.agg (AB t)] (.agg (AB (C3 u t))):=by
 have hc:PC 220 [sl Fj [u.set,t.set]] (sl Aq (Pg u.set t.set)):=t6 [u.set,t.set] (by unfold CO;simp) (fun s hs=>by
  rcases Av.1 hs with rfl | hs
  ·exact hu
  ·rw[Am.1 hs];exact ht)
 refine Ps (Jo [1]) Tryz.func184 rfl (Nz rfl) ?_;refine Xi ⟨[(2,.ref 2 0),(3,.ref 3 0),(4,.ref 4 0)],[(2,.cells (AB u)),(3,.cells (AB t)),(4,.cells [vs ⟨#[]⟩,vb false,.v (.slice none 0 0)])],Aa⟩ (Yi ⟨Z3,Z3,Fh,Tv⟩ ?_)
 refine Yi ?_ ?_
 ·intro h;have h:u.absent=true:=h;have e:[vs u.path,vb true,sl Aq (Pg u.set t.set)]=AB (C3 u t):=by unfold C3;rw[h];rfl
  refine Xi _ (Yi (hc) ?_);refine Yi (Nz rfl) (Yi (by kernel_rfl) (Yi (Nz rfl) ?_));exact .of_eq (Ac AV.agg e)
 ·intro h;have h:u.absent=false:=h;refine Yi ?_ ?_
  ·intro h2;have h2:t.absent=true:=h2;have e:[vs u.path,vb true,sl Aq (Pg u.set t.set)]=AB (C3 u t):=by unfold C3;rw[h,h2];rfl
   refine Xi _ (Yi (hc) ?_);refine Yi (Nz rfl) (Yi (by kernel_rfl) (Yi (Nz rfl) ?_));exact .of_eq (Ac AV.agg e)
  ·intro h2;have h2:t.absent=false:=h2;have e:[vs u.path,vb false,sl Aq (Pg u.set t.set)]=AB (C3 u t):=by unfold C3;rw[h,h2];rfl
   refine Xi _ (Yi (hc) ?_);refine Yi (Nz rfl) (Yi (by kernel_rfl) (Yi (Nz rfl) ?_));exact .of_eq (Ac AV.agg e)
theorem pI(q:Rq)(hq:CO q.set):PC 175 [.agg (AK q)] (.agg (AB (Dw q))):=by
 refine Ps Gl Tryz.func175 rfl (Nz rfl) ?_;refine Xi _ (Yi (mE q.set hq) ?_);refine Yi (Nz rfl) (Yi (by kernel_rfl) (Yi (Nz rfl) ?_));exact .refl _
abbrev CM:EG:=⟨false,[.str]⟩
abbrev ME(t:Tm):Value×AV:=(.string t.path,.agg (AB t))
abbrev ru(fin cut:List Nat):RK:=⟨[],[],[],[],fin,[],[],[],[],[],cut⟩
theorem Ru{m:List Tm}{p:ByteArray}{a:AV}:(Value.string p,a)∈m.map ME↔∃t∈m,t.path=p∧a=.agg (AB t):=by
 rw[Aj];constructor
 ·rintro⟨t,h1,h2⟩
  simp only[FK,Value.string.injEq]at h2;exact⟨t,h1,h2.1,h2.2.symm⟩
 ·rintro⟨t,h1,rfl,rfl⟩
  exact⟨t,h1,rfl⟩
theorem gw(m:List Tm)(t:Tm):ET (m.map ME) (.string t.path) (.agg (AB t))=(Wt m t).map ME:=by
 unfold Wt
 by_cases h:(m.any fun u=>decide (u.path=t.path))=true
 ·rw[Ao h];obtain⟨u,h1,h2⟩:=Ba.1 h;have h2:=Bv h2
  have:(Value.string t.path,AV.agg (AB u))∈m.map ME:=Ru.2 ⟨u,h1,h2,rfl⟩
  rw[PJ this,BB,BB];apply A9;intro q _;simp only[Function.comp]
  by_cases e:q.path=t.path
  ·simp[e]
  ·have:¬Value.string q.path=.string t.path:=fun c=>e (by injection c)
   simp[e]
 ·rw[Ah h]
  have:∀b,(Value.string t.path,b)∉m.map ME:=fun b hb=>by
   obtain⟨u,h1,h2,_⟩:=Ru.1 hb;exact h (Ba.2 ⟨u,h1,by simp[h2]⟩)
  rw[KB this,Ax];rfl
theorem fe{m:List Tm}(hn:(Ev m).Nodup)(p:ByteArray){K:AV→Prop}{Z:Prop}(hy:∀u,Db m p=some u→K (.agg (AB u)))(Rc:Db m p=none→Z) :
  (∀a,(Value.string p,a)∈m.map ME→K a)∧((∀a,(Value.string p,a)∉m.map ME)→Z) :=
 ⟨fun a h=>by
  obtain⟨t,h1,h2,rfl⟩:=Ru.1 h;subst h2;exact hy t ((LV hn).1 h1),fun h=>Rc (by
  cases e:Db m p with
  |none=>rfl
  |some u=>exact absurd (Ru.2 ⟨u,E6 e,GV e,rfl⟩) (h _))⟩
theorem Oo{t:Tm}(h:ED t.set):CO t.set:=by
 unfold CO
 have:=HY h;omega
theorem y7(l:List Tm)(hl:CO l)(hs:∀t∈l,CO t.set):PC 214 [sl AB l,.v (T5 215)] (.cmap CM ((CL l).map ME)):=by
 have hl:l.length≤1073741824:=hl;refine Ps (ru [10] [5,8]) Tryz.func214 rfl (Nz rfl) ?_;refine Xi {i:Nat // i≤l.length} (Xi (fun i=>⟨[(0,sl AB l),(1,.v (T5 215)),(5,.mref 10),(11,sl AB l),(12,vi (l.map AB).length),(13,vi i.1)],[(10,.map CM ((CL (l.take i.1)).map ME))],Aa⟩) (Xi (fun i=>l.length-i.1) (Yi (Xi ⟨0,AL _⟩ ?_) ?_)))
 ·exact⟨Z6,Z1,Fh,Tv⟩
 intro⟨i,h1⟩;have hn:=Hz (l.take i);refine Yi ?_ ?_
 ·intro h;have h:(i:Int)<(l.map AB).length:=h;have h:i<l.length:=by simpa using h
  have hg:l[i]?=some l[i]:=Ge h;refine Xi (AB l[i]) (Yi (Yi (Nn i) (by simp[hg])) (Yi rfl ?_));refine Yi (Nz rfl) (Yi (Nz rfl) ?_);have Fc:=hs l[i] (AC h);refine Xi ⟨[(0,sl AB l),(1,.v (T5 215)),(5,.mref 10),(7,.ref 7 0),(11,sl AB l),(12,vi (l.map AB).length),(13,vi i)],[(7,.cells (AB l[i])),(10,.map CM ((CL (l.take i)).map ME))],Aa⟩ (Yi ⟨Z7,Z2,Fh,Tv⟩ ?_)
  have tail:∀u:Tm,CO u.set→GK u l[i]=NQ (Db (CL (l.take i)) l[i].path) l[i]→ET ((CL (l.take i)).map ME) (.string l[i].path) (.agg (AB (GK u l[i])))=(CL (l.take (i+1))).map ME:=fun u hu e=>by
   have hp:(NQ (Db (CL (l.take i)) l[i].path) l[i]).path=l[i].path:=PP _ _ fun u h=>GV h;have e2:=gw (CL (l.take i)) (GK u l[i]);have e3:(GK u l[i]).path=l[i].path:=by rw[e];exact hp
   rw[e3]at e2;rw[e2,QL l i h,e];rfl
  refine fe hn l[i].path (fun u hu=>?_) (fun hu=>?_)
  ·have Kf:CO u.set:=Oo (OO _ u (E6 hu));refine Yi (Nz rfl) ?_;refine Xi ⟨[(0,sl AB l),(1,.v (T5 215)),(5,.mref 10),(7,.ref 7 0),(8,.ref 8 0),(11,sl AB l),(12,vi (l.map AB).length),(13,vi i)],[(7,.cells (AB l[i])),(8,.cells (AB u)),(10,.map CM ((CL (l.take i)).map ME))],Aa⟩ (Yi ⟨Z8,Z3,Fh,Tv⟩ ?_)
   have AR:=tail u Kf (by rw[aN,hu];rfl);refine Yi (Nz rfl) (Yi (Nz rfl) ?_);refine Xi _ (Yi (xi u l[i] Kf Fc) ?_);refine Yi (by kernel_rfl) ?_;refine Yi (Ii i (by omega)) ?_;refine Xi ⟨i+1,by omega⟩ ?_;have e1:HO.map CM (ET ((CL (l.take i)).map ME) (.string l[i].path) (.agg (AB (GK u l[i]))))=.map CM ((CL (l.take (i+1))).map ME):=by rw[AR]
   exact⟨Dl l.length i (by omega),Z6,⟨⟨e1,rfl⟩,Tv⟩,Fh,Tv⟩
  ·refine Yi (Nz rfl) ?_;refine Yi (Nz rfl) (Yi (Nz rfl) ?_);refine Xi ⟨[(0,sl AB l),(1,.v (T5 215)),(5,.mref 10),(7,.ref 7 0),(8,.ref 8 0),(11,sl AB l),(12,vi (l.map AB).length),(13,vi i)],[(7,.cells (AB l[i])),(8,.cells (AB l[i])),(10,.map CM ((CL (l.take i)).map ME))],Aa⟩ (Yi ⟨Z8,Z3,Fh,Tv⟩ ?_)
   have AR:=tail l[i] Fc (by rw[aN,hu];rfl);refine Yi (Nz rfl) (Yi (Nz rfl) ?_);refine Xi _ (Yi (xi l[i] l[i] Fc Fc) ?_);refine Yi (by kernel_rfl) ?_;refine Yi (Ii i (by omega)) ?_;refine Xi ⟨i+1,by omega⟩ ?_;have e1:HO.map CM (ET ((CL (l.take i)).map ME) (.string l[i].path) (.agg (AB (GK l[i] l[i]))))=.map CM ((CL (l.take (i+1))).map ME):=by rw[AR]
   exact⟨Dl l.length i (by omega),Z6,⟨⟨e1,rfl⟩,Tv⟩,Fh,Tv⟩
 ·intro h;have h:¬(i:Int)<(l.map AB).length:=h;have h:¬i<l.length:=by simpa using h
  have e:(CL (l.take i)).map ME=(CL l).map ME:=by rw[AG (by omega)]
  exact .of_eq (Ac (AV.cmap CM) e)
abbrev GB(l:List Tm):AV:=.tup [sl AB (PM l),vb (CE l).isSome]
abbrev vV:RK:=⟨[],[],[(4,3)],[],[],[],[],[],[],[(25,4)],[4,7,10]⟩
abbrev RQ(l:List Tm):HO:=.arr 3 (l.map AB)
abbrev Fe(l:List Tm):List Tm:=l.filter fun t=>!Gs t
theorem ko{l:List Tm}{kv:Value×AV}{NR : List (Value×AV)}(h:(l.map ME).Perm (kv::NR)):∃t r,kv=ME t∧NR=r.map ME∧l.Perm (t::r):=by
 obtain⟨ps,h1,h2⟩:=Mg h l rfl;cases ps with
 |nil=>cases h2
 |cons t r =>
  rw[AH,Ft]at h2;exact⟨t,r,h2.1.symm,h2.2.symm,h1.symm⟩
theorem W0{l:List Tm}{t:Tm}(h:t∈CL l)(hn:HC t=true):CE l=none:=by
 unfold CE;rw[Ao (Ba.2 ⟨t,(I1 l t).1 h,hn⟩)]
theorem YN{l done s:List Tm}(h:done.Perm (CL l))(hn:∀t∈done,HC t=false)(hp:s.Perm (Fe done))(hs:s.Pairwise fun x y=>Ew y.path x.path=false):CE l=some s:=by
 unfold CE;rw[Ah]
 ·congr 1
  exact(Pu _ (hp.trans (h.filter _)) hs).symm
 ·intro c;obtain⟨t,h1,h2⟩:=Ba.1 c
  have:=hn t (h.mem_iff.2 ((I1 l t).2 h1))
  rw[h2]at this;cases this
theorem cn(l:List Tm):(Fe l).length≤l.length:=BA _ _
theorem sn(l:List Tm)(hl:CO l)(hs:∀t∈l,CO t.set):PC 183 [sl AB l] (GB l):=by
 have bZ:l.length≤1073741824:=hl;have xZ:(CL l).length≤l.length:=by have:=NM l l.length (Al _);rwa [DZ]at this
 refine Ps vV Tryz.func183 rfl (Nz rfl) ?_;refine Xi .pure (Xi _ (Yi (y7 l hl hs) ?_));refine Xi {p:List Tm×List Tm×Option (Value×AV) // (p.1++p.2.1).Perm (CL l)∧∀t∈p.1,HC t=false} (Xi (fun p=>⟨[(4,.msl 4 (Fe p.1.1).length),(9,.ref 9 0)],[(4,RQ (Fe p.1.1)),(9,.iter ((CL l).map ME) (p.1.2.1.map ME) p.1.2.2)],Aa⟩) (Xi (fun p=>p.1.2.1.length) (Yi (Xi ⟨([],CL l,none),.refl _,fun t ht=>by cases ht⟩ ?_) ?_)))
 ·exact⟨Z2,Z2,Fh,Tv⟩
 intro⟨⟨done,rem,Fx⟩,r1,r2⟩;have r1:(done++rem).Perm (CL l):=r1;have r2:∀t∈done,HC t=false:=r2;have hdl:done.length+rem.length≤l.length:=by have:=r1.length_eq;rw[Ad]at this;omega
 have o7:=cn done;refine Yi ?_ ?_
 ·intro hr;have hr:rem.map ME=[]:=hr;have hr:rem=[]:=D5.1 hr;subst hr;rw[BV]at r1;refine Xi (.gen [(4,1000)] 0) (Yi rfl ((za (Fe done) (by unfold CO;omega)).to ?_));intro s hq;have WL:s.length=(Fe done).length:=hq.1.length_eq;have hc:=YN r1 r2 hq.1 hq.2;refine Xi ⟨[(4,.msl 4 (Fe done).length)],[(4,RQ s)],Aa⟩ (Yi ⟨Z1,Z1,Fh,Tv⟩ ?_)
  refine Yi (by rw[Lm,WL]) ?_;have e:AV.tup [sl AB s,vb true]=GB l:=by unfold GB PM;rw[hc];rfl
  exact .of_eq e
 ·intro kv NR hp;refine CD (ko hp) (fun t hp=>CD hp (fun r hp=>?_));have e1:=hp.1;have e2:=hp.2.1;subst e1;subst e2;have hp:=hp.2.2;have sP:t∈CL l:=r1.mem_iff.1 (Bf _ (hp.mem_iff.2 (Ab ..)));have vB:=OO l t sP;have yf:=Oo vB;refine Xi ⟨[(4,.msl 4 (Fe done).length),(9,.ref 9 0)],[(4,RQ (Fe done)),(9,.iter ((CL l).map ME) (r.map ME) (some (ME t)))],Aa⟩ (Yi ⟨Z2,Z2,Fh,Tv⟩ ?_)
  refine Yi (Nz rfl) (Yi (Nz rfl) ?_);have hv:PC 216 [.agg (AB t)] (vb (HC t)):=gA vB▸y8 t yf;have ha:PC 217 [.agg (AB t)] (vb (Gs t)):=bo vB▸y9 t yf;refine Dd (Bt (HC t)) (fun h=>?_) (fun h=>?_)
  ·rw[h]at hv;refine Xi .pure (Xi _ (Yi (hv) ?_));have hc:=W0 sP h;have e:AV.tup [.slice .none [],vb false]=GB l:=by unfold GB PM;rw[hc];rfl
   have e0:Hl (.tup [.v (.slice none 0 0),vb false]) (.tup [.slice .none [],vb false]):=Hl.tup ⟨.nil,.refl _,trivial⟩;exact e0.trans (.of_eq e)
  ·rw[h]at hv;refine Xi .pure (Xi _ (Yi (hv) ?_));refine Xi ⟨[(4,.msl 4 (Fe done).length),(6,.ref 6 0),(9,.ref 9 0)],[(4,RQ (Fe done)),(6,.cells (AB t)),(9,.iter ((CL l).map ME) (r.map ME) (some (ME t)))],Aa⟩ (Yi ⟨Z3,Z3,Fh,Tv⟩ ?_)
   refine Yi (Nz rfl) ?_;have TT:((done++[t])++r).Perm (CL l):=by
    rw[BI];exact(List.Perm.append_left _ hp.symm).trans r1
   have x5:∀u∈done++[t],HC u=false:=fun u hu=>by
    rcases AU.1 hu with hu | hu
    ·exact r2 u hu
    ·rw[Am.1 hu];exact h
   have WJ:r.length<rem.length:=by rw[hp.length_eq,Au];omega
   refine Dd (Bt (Gs t)) (fun h2=>?_) (fun h2=>?_)
   rotate_left
   ·rw[h2]at ha;refine Xi .pure (Xi _ (Yi (ha) ?_));have He:De 3 [AB t]∧((Fe done).map AB).length=(Fe done).length∧(((Fe done).map AB).length+[AB t].length)*48≤140737488355328∧((Fe done).map AB).length+[AB t].length≤9223372036854775807 :=
     ⟨⟨rfl,trivial⟩,by rw[Lm],by rw[Lm,A6];omega,by rw[Lm,A6];omega⟩
    refine Yi (Nz rfl) ?_;refine Yi He ?_;have hk:Fe (done++[t])=Fe done++[t]:=by unfold Fe;rw[Dc,BN,Ao (by rw[h2];rfl)];rfl
    have e1:AV.msl 4 (((Fe done).map AB).length+[AB t].length)=.msl 4 (Fe (done++[t])).length:=by rw[hk];simp
    have e2:HO.arr 3 ((Fe done).map AB++[AB t])=RQ (Fe (done++[t])):=by rw[hk];simp
    refine Xi ⟨(done++[t],r,some (ME t)),TT,x5⟩ ?_;exact⟨WJ,⟨⟨e1,rfl⟩,Zr,Tv⟩,⟨⟨e2,rfl⟩,Zr,Tv⟩,Fh,Tv⟩
   ·rw[h2]at ha;refine Xi .pure (Xi _ (Yi (ha) ?_));have hk:Fe (done++[t])=Fe done:=by unfold Fe;rw[Dc,BN,Ah (by rw[h2];decide)];simp
    have e1:AV.msl 4 (Fe done).length=.msl 4 (Fe (done++[t])).length:=by rw[hk]
    have e2:RQ (Fe done)=RQ (Fe (done++[t])):=by rw[hk]
    refine Xi ⟨(done++[t],r,some (ME t)),TT,x5⟩ ?_;exact⟨WJ,⟨⟨e1,rfl⟩,Zr,Tv⟩,⟨⟨e2,rfl⟩,Zr,Tv⟩,Fh,Tv⟩
theorem mO(l:List Tm)(hl:CO l)(hs:∀t∈l,CO t.set):PC 174 [sl AB l] (sl AB (PM l)):=by
 refine Ps Gl Tryz.func174 rfl (Nz rfl) ?_;refine Xi .pure (Xi _ (Yi (sn l hl hs) ?_));exact .refl _
theorem Py(s:Bg):CO (Ej s):=by
 unfold CO;have:=HY (G5 s);omega
theorem mX{α:Type}(x:α):CO [x]:=by unfold CO;simp
theorem ue{α:Type}(x y:α):CO [x,y]:=by unfold CO;simp
theorem tM(q:Rq)(hq:CO q.set):PC 122 [.agg (AK q)] (sl AB (Jp q)):=by
 have hc:PC 174 [sl AB [Dw q]] (sl AB (Jp q)):=mO [Dw q] (mX _) fun t ht=>by rw[Am.1 ht];exact Py _
 refine Ps Gl Tryz.func122 rfl (Nz rfl) ?_;refine Yi (Nz rfl) ?_;refine Xi .pure (Xi _ (Yi (pI q hq) ?_));refine Xi .pure (Xi _ (Yi (hc) ?_));exact .refl _
theorem tN(p:ByteArray)(pl:Int)(q:Rq)(hp:BQ (pl+1))(hq:CO q.set):PC 123 [vs p,vi pl,.agg (AK q)] (sl AB (Ei p pl q)):=by
 have hc:PC 174 [sl AB [⟨p,false,[(pl,pl+1)]⟩,Dw q]] (sl AB (Ei p pl q)):=mO [⟨p,false,[(pl,pl+1)]⟩,Dw q] (ue _ _) fun t ht=>by
  rcases Av.1 ht with rfl | ht
  ·exact mX _
  ·rw[Am.1 ht];exact Py _
 refine Ps Gl Tryz.func123 rfl (Nz rfl) ?_;refine Yi hp ?_;refine Yi (Nz rfl) ?_;refine Xi .pure (Xi _ (Yi (pI q hq) ?_));refine Xi .pure (Xi _ (Yi (hc) ?_));exact .refl _
theorem pF(p:ByteArray)(s:Bg)(hs:CO s):PC 127 [vs p,sl Aq s] (sl AB (HE p s)):=by
 have hc:PC 174 [sl AB [⟨p,false,Ej s⟩]] (sl AB (HE p s)):=mO [⟨p,false,Ej s⟩] (mX _) fun t ht=>by rw[Am.1 ht];exact Py _
 refine Ps Gl Tryz.func127 rfl (Nz rfl) ?_;refine Xi .pure (Xi _ (Yi (mE s hs) ?_));refine Xi .pure (Xi _ (Yi (hc) ?_));exact .refl _
end Go.Eng
