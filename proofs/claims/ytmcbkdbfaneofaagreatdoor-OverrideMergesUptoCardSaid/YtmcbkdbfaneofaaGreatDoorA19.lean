/- Lemmas for the claims of this seat, without a condition: part 19 (C16, C17, C18, C19, C20, C21, C22, C23). -/
import Derived.Test.YtmcbkdbfaneofaaGreatDoorA18
import Derived.Test.YtmcbkdbfaneofaaGreatDoorA02
namespace Go.Eng
open Go.Proofs
theorem Bm.imp{P:Program}{f:Nat}{args:List AV}{h0:Nat→HO}{Q Q' : AV→(Nat→HO)→Prop}(h:Bm P f args h0 Q)(hq:∀r h',Q r h'→Q' r h'):Bm P f args h0 Q':=h.mono fun r h' q=>⟨r,.refl _,hq r h' q⟩
theorem Bm.to{P:Program}{f:Nat}{args:List AV}{h0:Nat→HO}{α:Type}{r0:AV}{p:α→Prop}{H:α→Nat→HO}{Q' : AV→(Nat→HO)→Prop}(h:Bm P f args h0 fun r h'=>r=r0∧∃x,p x∧h'=H x)(k:∀x,p x→Q' r0 (H x)):Bm P f args h0 Q' :=
 h.imp fun r h' ⟨e1,x,e2,e3⟩=>by subst e1;subst e3;exact k x e2
theorem ol(n:Nat)(h:n≤1073741824):∃lim:Nat,lim<100∧PC 130 [.v (.int .u64 (IntKind.u64.wrap (n:Int)))] (vi lim):=by
 refine⟨Lib.bitLen n,Nat.lt_of_le_of_lt (Lib.bitLen_le n 62 (by omega) (by omega)) (by omega),?_⟩;have wr:IntKind.u64.wrap (n:Int)=n:=by simp[IntKind.wrap,IntKind.bits,IntKind.signed];omega
 rw[wr];refine LF [.int .u64 n] (.int .i64 (Lib.bitLen n:Nat)) (fp 130 Tryz.func130 (by kernel_rfl) rfl) rfl (fun _ _=>.v _ _) fun w _=>?_
 have:=Any.bits_Len Tryz.layBits (n:Int) w (by omega) (by omega)
 rw[Ba]at this;exact this
theorem vC(l:List (Int×Int))(hl:Co l)(h:∀x∈l,0≤x.1∧x.1≤1000000) :
  Bm Tryz.prog 190 [.msl 1000 l.length,.v (UU 191)] (Aq [(1000,.arr 2 (l.map Ag))] Aa) fun r h' =>
   r=.tup []∧∃l' : List (Int×Int),(l'.Perm l∧l'.Pairwise (fun x y=>x.1≤y.1))∧h'=Aq [(1000,.arr 2 (l'.map Ag))] Aa:=by
 obtain⟨lim,Ym,hb⟩:=ol l.length hl;refine Ct (MZ E8) [(1000,1000)] rfl CY hm rfl Tryz.func190 (by kernel_rfl) rfl (Nz rfl) (by kernel_rfl) rfl ?_;refine Xi .pure (Xi _ (Yi (hb) ?_));refine Xi (.gen [(1000,1000)] 0) (Yi rfl ((vG l hl h lim Ym).imp ?_));intro r h' hq;refine BN hq.2 (fun l' Qu=>?_);refine Xi (.tup []) (Yi ?_ (Yi rfl (Xi l' (Yi ⟨Qu.1,Qu.2.1⟩ ?_))))
 ·exact .refl _
 ·rw[Qu.2.2];rfl
theorem c61(l:List Tm)(hl:Co l) :
  Bm Tryz.prog 235 [.msl 1000 l.length,.v (UU 236)] (Aq [(1000,.arr 3 (l.map AL))] Aa) fun r h' =>
   r=.tup []∧∃l' : List Tm,(l'.Perm l∧l'.Pairwise (fun x y=>EM y.path x.path=false))∧h'=Aq [(1000,.arr 3 (l'.map AL))] Aa:=by
 obtain⟨lim,Ym,hb⟩:=ol l.length hl;refine Ct (MZ E8) [(1000,1000)] rfl CY hm rfl Tryz.func235 (by kernel_rfl) rfl (Nz rfl) (by kernel_rfl) rfl ?_;refine Xi .pure (Xi _ (Yi (hb) ?_));refine Xi (.gen [(1000,1000)] 0) (Yi rfl ((vg l hl lim Ym).imp ?_));intro r h' hq;refine BN hq.2 (fun l' Qu=>?_);refine Xi (.tup []) (Yi ?_ (Yi rfl (Xi l' (Yi ⟨Qu.1,Qu.2.1⟩ ?_))))
 ·exact .refl _
 ·rw[Qu.2.2];rfl
abbrev pla(l:List (Nat×Nat))(cut:List Nat):Sj:=⟨[],[],l,[],[],[],[],[],[],[],cut⟩
abbrev FX(l:List (Int×Int)):HO:=.arr 2 (l.map Ag)
theorem Tb(l:Bg)(i:Nat):(CL (l.take i)).length≤i:=by
 unfold CL
 have:=BB (fun x:Int×Int=>decide (x.1<x.2)) ((l.take i).map Ee)
 rw[Lm,AC]at this;omega
theorem Qm{l:Bg}{i:Nat}(h:i<l.length)(h3:(Ee l[i]).1<(Ee l[i]).2):CL (l.take (i+1))=CL (l.take i)++[Ee l[i]]:=by
 rw[BC,Ge h,OV];unfold CL;simp[h3]
theorem Ta{l:Bg}{i:Nat}(h:i<l.length)(h3:¬(Ee l[i]).1<(Ee l[i]).2):CL (l.take (i+1))=CL (l.take i):=by
 rw[BC,Ge h,OV];unfold CL;simp[h3]
abbrev arr2(s j:Bg)(i:Nat):Bg:=(Bz (s.take i)).reverse++(j++s.drop i)
theorem kF(s j:Bg)(i:Nat)(h:i<s.length)(hj:(Bz (s.take i)).length+j.length=i):(arr2 s j i)[i]?=some s[i]:=by
 unfold arr2;rw[A1 (by rw[Di];omega),A1 (by rw[Di];omega),Di,BZ];rw[show i+(i-(Bz (List.take i s)).length-j.length)=i by omega,Ge h]
theorem cH(s j:Bg)(i:Nat){y:Int×Int}{t:Bg}(e:Bz (s.take i)=y::t):(arr2 s j i)[t.length]?=some y:=by
 unfold arr2;rw[e,EU,AM,A1 (by rw[Di];omega),Di,EW];rfl
theorem fT(s j:Bg)(i:Nat)(h:i≤s.length)(hj:(Bz (s.take i)).length+j.length=i):(arr2 s j i).length=s.length:=by
 unfold arr2;simp only[Ad,Di,Ap];omega
theorem bj{α:Type}(s:List α)(i:Nat)(h:i<s.length):s.drop i=s[i]::s.drop (i+1):=Be h
theorem Vi(s j:Bg)(i:Nat)(h:i<s.length)(e:JY (Bz (s.take i)) s[i]=s[i]::Bz (s.take i)) :
  (arr2 s j i).set (Bz (s.take i)).length s[i]=arr2 s (j++[s[i]]).tail (i+1):=by
 unfold arr2;rw[FB s i h,e,EU,List.set_append_right _ _ (by rw[Di];exact Al _),Di,EW,AM,bj s i h]
 congr 1
 cases j with
 |nil=>rfl
 |cons a b=>simp
theorem cG(s j:Bg)(i:Nat)(h:i<s.length){y:Int×Int}{t:Bg}(e:Bz (s.take i)=y::t)(Hr:s[i].1≤y.2) :
  (arr2 s j i).set t.length (y.1,max y.2 s[i].2)=arr2 s (j++[s[i]]) (i+1):=by
 unfold arr2;have e2:JY (y::t) s[i]=(y.1,max y.2 s[i].2)::t:=by show(if s[i].1≤y.2 then _ else _)=_;rw[Ax Hr]
 rw[FB s i h,e,e2,EU,EU,AM,List.set_append_right _ _ (by rw[Di];exact Al _),Di,EW,bj s i h];simp
theorem B4{α:Type}{enc:α→List AV}{l:List α}{i:Nat}{x:α}(h:l[i]?=some x):(l.map enc)[i]?=some (enc x):=by rw[AK,h];rfl
theorem XN(l:List (Int×Int))(hl:Co l):PC 148 [sl Ag l] (sl Ag (canon l)):=by
 have hl:l.length≤1073741824:=hl;refine Gq (fo (pla [(3,2)] [5,14,15,16])) rfl CY hm rfl Tryz.func148 (by kernel_rfl) rfl (Nz rfl) (by kernel_rfl) ?_;refine Xi {i:Nat // i≤l.length} (Xi (fun i=>⟨[(0,sl Ag l),(3,.msl 3 (CL (l.take i.1)).length),(9,sl Ag l),(10,vi (l.map Ag).length),(11,vi i.1)],[(3,FX (CL (l.take i.1)))],Aa⟩) (Xi (fun i=>l.length-i.1) (Yi (Xi ⟨0,by simp⟩ ?_) ?_)))
 ·exact⟨Z5,Z1,Fh,Tv⟩
 ·intro⟨i,h1⟩;have hn:=Tb l i;refine Yi ?_ ?_
  ·intro h;have h:(i:Int)<(l.map Ag).length:=h;have h:i<l.length:=by simpa using h
   have hg:l[i]?=some l[i]:=Ge h;refine Xi (Ag l[i]) (Yi (Yi (Nn i) (by simp[hg])) (Yi rfl ?_));refine Yi (Nz rfl) (Yi (Nz rfl) ?_);refine Xi ⟨[(0,sl Ag l),(3,.msl 3 (CL (l.take i)).length),(5,.ref 5 0),(9,sl Ag l),(10,vi (l.map Ag).length),(11,vi i)],[(3,FX (CL (l.take i))),(5,.cells (Ag l[i]))],Aa⟩ (Yi ⟨Z6,Z2,Fh,Tv⟩ ?_)
   refine Yi (Nz rfl) ?_;refine Yi ?_ ?_
   ·intro h3;have h3:(Ee l[i]).1<(Ee l[i]).2:=h3;refine Yi (Nz rfl) ?_;have F8:CT 2 [[vi (max l[i].1 0),vi (min l[i].2 1000000)]]∧((CL (l.take i)).map Ag).length=(CL (l.take i)).length∧(((CL (l.take i)).map Ag).length+[[vi (max l[i].1 0),vi (min l[i].2 1000000)]].length)*16≤140737488355328∧((CL (l.take i)).map Ag).length+[[vi (max l[i].1 0),vi (min l[i].2 1000000)]].length≤9223372036854775807 :=
     ⟨⟨rfl,trivial⟩,by rw[Lm],by rw[Lm,Am];omega,by rw[Lm,Am];omega⟩
    refine Yi F8 ?_;refine Yi (Ii i (by omega)) ?_;refine Xi ⟨i+1,by omega⟩ ?_;have e1:AV.msl 3 (((CL (l.take i)).map Ag).length+[[vi (max l[i].1 0),vi (min l[i].2 1000000)]].length)=.msl 3 (CL (l.take (i+1))).length:=by rw[Qm h h3];simp
    have e2:HO.arr 2 ((CL (l.take i)).map Ag++[[vi (max l[i].1 0),vi (min l[i].2 1000000)]])=FX (CL (l.take (i+1))):=by rw[Qm h h3];simp[Ee]
    exact⟨Dl l.length i (by omega),⟨Zr,⟨e1,rfl⟩,Zr,Zr,Zr,Tv⟩,⟨⟨e2,rfl⟩,Tv⟩,Fh,Tv⟩
   ·intro h3;have h3:¬(Ee l[i]).1<(Ee l[i]).2:=h3;refine Yi (Ii i (by omega)) ?_;refine Xi ⟨i+1,by omega⟩ ?_;have e1:AV.msl 3 (CL (l.take i)).length=.msl 3 (CL (l.take (i+1))).length:=by rw[Ta h h3]
    have e2:FX (CL (l.take i))=FX (CL (l.take (i+1))):=by rw[Ta h h3]
    exact⟨Dl l.length i (by omega),⟨Zr,⟨e1,rfl⟩,Zr,Zr,Zr,Tv⟩,⟨⟨e2,rfl⟩,Tv⟩,Fh,Tv⟩
  ·intro h;have h:¬(i:Int)<(l.map Ag).length:=h;have h:¬i<l.length:=by simpa using h
   have ei:CL (l.take i)=CL l:=by rw[AJ (by omega)]
   have hN:(CL (l.take i)).length=(CL l).length:=by rw[ei]
   refine Xi (.gen [(3,1000)] 0) (Yi rfl ((vC (CL (l.take i)) (by unfold Co;omega) (fun x hx=>by have:=Vs hx;omega)).to ?_));intro s hs;have VH:s.length=(CL (l.take i)).length:=hs.1.length_eq;have hsN:s.length≤1073741824:=by omega
   have fin:(Bz s).reverse=canon l:=LP (by rw[←ei];exact hs.1) hs.2;refine Xi {p:Nat×Bg // p.1≤s.length∧(Bz (s.take p.1)).length+p.2.length=p.1} (Xi (fun p=>⟨[(3,.msl 3 (CL (l.take i)).length),(6,vi (Bz (s.take p.1.1)).length),(34,.msl 3 (CL (l.take i)).length),(35,vi (CL (l.take i)).length),(36,vi p.1.1)],[(3,FX (arr2 s p.1.2 p.1.1))],Aa⟩) (Xi (fun p=>s.length-p.1.1) (Yi (Xi ⟨(0,[]),AG _,rfl⟩ ?_) ?_)))
   ·exact⟨Z5,Z1,Fh,Tv⟩
   intro⟨⟨k,j⟩,k1,k2⟩;have k1:k≤s.length:=k1;have k2:(Bz (s.take k)).length+j.length=k:=k2;have CJ:=fT s j k k1 k2;have TK:(CL (l.take i)).length=((arr2 s j k).map Ag).length:=by rw[Lm,CJ,VH]
   refine Yi ?_ ?_
   ·intro h2;have h2:(k:Int)<(CL (l.take i)).length:=h2;have hk:k<s.length:=by omega
    have RZ:=B4 (enc:=Ag) (kF s j k hk k2);refine Yi ⟨by show(0:Int)≤k;omega,by show(k:Int)<_;omega⟩ ?_;refine Yi TK (Xi (Ag s[k]) (Yi RZ (Yi (Nz rfl) (Yi (Nz rfl) ?_))));refine Xi ⟨[(3,.msl 3 (CL (l.take i)).length),(6,vi (Bz (s.take k)).length),(7,vi k),(8,.ref 8 0),(34,.msl 3 (CL (l.take i)).length),(35,vi (CL (l.take i)).length),(36,vi k)],[(3,FX (arr2 s j k)),(8,.cells (Ag s[k]))],Aa⟩ (Yi ⟨Z7,Z2,Fh,Tv⟩ ?_)
    have hr:=Ok s k k1;refine Bq (Nat.eq_zero_or_pos k) (fun k0=>?_) (fun k0=>?_)
    ·refine Yi ?_ ?_
     ·intro h4;have h4:(0:Int)<k:=h4;omega
     ·intro _;refine Yi (by kernel_rfl) ?_;have JM:JY (Bz (s.take k)) s[k]=s[k]::Bz (s.take k):=by subst k0;rfl
      have fu:(Bz (s.take k)).length<(arr2 s j k).length:=by omega
      have hz:=B4 (enc:=Ag) (Ge fu);refine Xi ⟨[(3,.msl 3 (CL (l.take i)).length),(6,vi (Bz (s.take k)).length),(8,.ref 8 0),(34,.msl 3 (CL (l.take i)).length),(35,vi (CL (l.take i)).length),(36,vi k)],[(3,FX (arr2 s j k)),(8,.cells (Ag s[k]))],Aa⟩ (Yi ⟨⟨⟨rfl,rfl⟩,⟨rfl,rfl⟩,⟨rfl,rfl⟩,⟨rfl,rfl⟩,⟨rfl,rfl⟩,⟨rfl,rfl⟩,Tv⟩,⟨⟨rfl,rfl⟩,⟨rfl,rfl⟩,Tv⟩,Fh,Tv⟩ ?_);refine Yi (Nz rfl) (Yi ⟨by show(0:Int)≤((Bz (s.take k)).length:Int);omega,by show((Bz (s.take k)).length:Int)<_;omega⟩ ?_);refine Yi TK (Xi (Ag (arr2 s j k)[(Bz (s.take k)).length]) (Yi hz (Yi (Nz rfl) ?_)));refine Yi (by show Bu (((Bz (s.take k)).length:Int)+1);unfold Bu;omega) ?_;refine Yi (Ii k (by omega)) ?_;have hm:=FB s k hk;have e1:vi (((Bz (s.take k)).length:Int)+1)=vi (Bz (s.take (k+1))).length:=by rw[hm,JM];simp
      have e2:HO.arr 2 (((arr2 s j k).map Ag).set (Bz (s.take k)).length [vi s[k].1,vi s[k].2])=FX (arr2 s (j++[s[k]]).tail (k+1)):=by rw[←Vi s j k hk JM];simp only[FX,HJ]
      refine Xi ⟨(k+1,(j++[s[k]]).tail),by show k+1≤s.length;omega,by show(Bz (s.take (k+1))).length+((j++[s[k]]).tail).length=k+1;rw[hm,JM];simp;omega⟩ ?_;exact⟨Dl s.length k (by omega),⟨Zr,⟨e1,rfl⟩,Zr,Zr,Zr,Tv⟩,⟨⟨e2,rfl⟩,Tv⟩,Fh,Tv⟩
    ·refine Yi ?_ ?_
     ·intro _;obtain⟨y,t,e⟩:∃y t,Bz (s.take k)=y::t:=by
       cases hc:Bz (s.take k)with
       |nil=>have:=hr.2 k0;rw[hc]at this;simp at this
       |cons y t=>exact⟨y,t,rfl⟩
      have ht:(((Bz (s.take k)).length:Int)-1).toNat=t.length:=by rw[e];simp
      have hy:((arr2 s j k).map Ag)[(((Bz (s.take k)).length:Int)-1).toNat]?=some (Ag y):=by rw[ht];exact B4 (cH s j k e)
      refine Yi (by show Bu (((Bz (s.take k)).length:Int)-1);unfold Bu;omega) ?_;have ai:=hr.2 k0;refine Yi ⟨by show(0:Int)≤((Bz (s.take k)).length:Int)-1;omega,by show((Bz (s.take k)).length:Int)-1<_;omega⟩ ?_;refine Yi TK (Xi (Ag y) (Yi hy ?_));refine Yi ?_ ?_
      ·intro h5;have h5:s[k].1≤y.2:=h5;refine Yi (by kernel_rfl) ?_;refine Xi ⟨[(3,.msl 3 (CL (l.take i)).length),(6,vi (Bz (s.take k)).length),(8,.ref 8 0),(34,.msl 3 (CL (l.take i)).length),(35,vi (CL (l.take i)).length),(36,vi k)],[(3,FX (arr2 s j k)),(8,.cells (Ag s[k]))],Aa⟩ (Yi ⟨⟨⟨rfl,rfl⟩,⟨rfl,rfl⟩,⟨rfl,rfl⟩,⟨rfl,rfl⟩,⟨rfl,rfl⟩,⟨rfl,rfl⟩,Tv⟩,⟨⟨rfl,rfl⟩,⟨rfl,rfl⟩,Tv⟩,Fh,Tv⟩ ?_);refine Yi (by show Bu (((Bz (s.take k)).length:Int)-1);unfold Bu;omega) (Yi (by show Bu (((Bz (s.take k)).length:Int)-1);unfold Bu;omega) ?_);refine Yi ⟨by show(0:Int)≤((Bz (s.take k)).length:Int)-1;omega,by show((Bz (s.take k)).length:Int)-1<_;omega⟩ ?_;refine Yi TK (Xi (Ag y) (Yi hy ?_));refine Yi ⟨by show(0:Int)≤((Bz (s.take k)).length:Int)-1;omega,by show((Bz (s.take k)).length:Int)-1<_;omega⟩ ?_;refine Yi TK (Xi (Ag y) (Yi hy (Yi (Nz rfl) ?_)));refine Yi (by kernel_rfl) ?_;refine Yi (Ii k (by omega)) ?_;have hm:=FB s k hk;have JM:JY (Bz (s.take k)) s[k]=(y.1,max y.2 s[k].2)::t:=by rw[e];show(if s[k].1≤y.2 then _ else _)=_;rw[Ax h5]
       have e1:vi (Bz (s.take k)).length=vi (Bz (s.take (k+1))).length:=by rw[hm,JM,e];simp
       have e2:HO.arr 2 (((arr2 s j k).map Ag).set (((Bz (s.take k)).length:Int)-1).toNat [vi y.1,vi (max y.2 s[k].2)])=FX (arr2 s (j++[s[k]]) (k+1)):=by rw[←cG s j k hk e h5,ht];simp only[FX,HJ]
       refine Xi ⟨(k+1,j++[s[k]]),by show k+1≤s.length;omega,by show(Bz (s.take (k+1))).length+(j++[s[k]]).length=k+1;rw[hm,JM,Ad,Am];rw[e]at k2;simp only[Au]at k2⊢;omega⟩ ?_;exact⟨Dl s.length k (by omega),⟨Zr,⟨e1,rfl⟩,Zr,Zr,Zr,Tv⟩,⟨⟨e2,rfl⟩,Tv⟩,Fh,Tv⟩
      ·intro h5;have h5:¬s[k].1≤y.2:=h5;refine Yi (by kernel_rfl) ?_;have JM:JY (Bz (s.take k)) s[k]=s[k]::Bz (s.take k):=by rw[e];show(if s[k].1≤y.2 then _ else _)=_;rw[Ao h5]
       have fu:(Bz (s.take k)).length<(arr2 s j k).length:=by omega
       have hz:=B4 (enc:=Ag) (Ge fu);refine Xi ⟨[(3,.msl 3 (CL (l.take i)).length),(6,vi (Bz (s.take k)).length),(8,.ref 8 0),(34,.msl 3 (CL (l.take i)).length),(35,vi (CL (l.take i)).length),(36,vi k)],[(3,FX (arr2 s j k)),(8,.cells (Ag s[k]))],Aa⟩ (Yi ⟨⟨⟨rfl,rfl⟩,⟨rfl,rfl⟩,⟨rfl,rfl⟩,⟨rfl,rfl⟩,⟨rfl,rfl⟩,⟨rfl,rfl⟩,Tv⟩,⟨⟨rfl,rfl⟩,⟨rfl,rfl⟩,Tv⟩,Fh,Tv⟩ ?_);refine Yi (Nz rfl) (Yi ⟨by show(0:Int)≤((Bz (s.take k)).length:Int);omega,by show((Bz (s.take k)).length:Int)<_;omega⟩ ?_);refine Yi TK (Xi (Ag (arr2 s j k)[(Bz (s.take k)).length]) (Yi hz (Yi (Nz rfl) ?_)));refine Yi (by show Bu (((Bz (s.take k)).length:Int)+1);unfold Bu;omega) ?_;refine Yi (Ii k (by omega)) ?_;have hm:=FB s k hk;have e1:vi (((Bz (s.take k)).length:Int)+1)=vi (Bz (s.take (k+1))).length:=by rw[hm,JM];simp
       have e2:HO.arr 2 (((arr2 s j k).map Ag).set (Bz (s.take k)).length [vi s[k].1,vi s[k].2])=FX (arr2 s (j++[s[k]]).tail (k+1)):=by rw[←Vi s j k hk JM];simp only[FX,HJ]
       refine Xi ⟨(k+1,(j++[s[k]]).tail),by show k+1≤s.length;omega,by show(Bz (s.take (k+1))).length+((j++[s[k]]).tail).length=k+1;rw[hm,JM];simp;omega⟩ ?_;exact⟨Dl s.length k (by omega),⟨Zr,⟨e1,rfl⟩,Zr,Zr,Zr,Tv⟩,⟨⟨e2,rfl⟩,Tv⟩,Fh,Tv⟩
     ·intro h4;have h4:¬(0:Int)<k:=h4;omega
   ·intro h2;have h2:¬(k:Int)<(CL (l.take i)).length:=h2;have hk:k=s.length:=by omega
    have hr:=Ok s k k1;have pp:((((arr2 s j k).map Ag).take ((Bz (s.take k)).length:Int).toNat).drop 0)=(canon l).map Ag:=by
     rw[KG,Ba,←JE,←fin];unfold arr2
     have:(Bz (s.take k)).length=(Bz (s.take k)).reverse.length:=by rw[Di]
     rw[this,List.take_left,hk,Dp]
    refine Yi ⟨TK,by show(0:Int)≤0;omega,by show(0:Int)≤((Bz (s.take k)).length:Int);omega,by show((Bz (s.take k)).length:Int)≤(((arr2 s j k).map Ag).length:Int);omega,.inr ⟨rfl,by simp⟩⟩ ?_;exact .of_eq (Ab (AV.slice .none) pp)
end Go.Eng
namespace Go.Eng
open Go.Proofs Go.Sort
abbrev GU(z:Int):List AV:=[vi z]
theorem QO{α:Type}[Inhabited α](enc:α→Value)(w:World)(b:Nat)(d:Array α):putRow enc w b 0 d=putRow id w b 0 (d.map enc):=by
 unfold putRow
 congr 1
 funext c
 unfold putCells;apply Array.ext
 ·simp
 ·intro i h1 h2;simp only[Array.getElem_mapIdx,Array.size_map]
  by_cases h:i<d.size
  ·rw[Ax (by omega),Ax (by omega)];rw[DK d (i-0) (by omega),DK (d.map enc) (i-0) (by simpa using h)];simp
  ·rw[Ao (by omega),Ao (by omega)]
theorem VA(zs:List Int):(zs.map GU).flatten=(zs.map fun z=>Value.int .i64 z).map AV.v:=by
 induction zs with
 |nil=>rfl
 |cons z zs ih=>rw[AS,BJ,ih];rfl
theorem Nk(g:Gh)(w:World)(U:Nat→Prop)(vs:List Value)(h:∀x∈vs,x.oneCell'=true):CP g w U (vs.map .v) vs :=
 ⟨by simp,h,fun i av x q1 q2=>by
  rw[AK,q2]at q1;cases q1;exact .v _ _⟩
theorem LH{g:Gh}{w:World}{U:Nat→Prop}{vs us:List Value}(h:CP g w U (vs.map .v) us):us=vs:=by
 apply CM;intro i;have hl:=h.1;rw[Lm]at hl
 by_cases hi:i<vs.length
 ·have:=h.2.2 i (.v vs[i]) us[i] (by rw[AK,Ge hi];rfl) (Ge (by omega))
  rw[Ge hi,Ge (by omega),this.v_eq]
 ·rw[A8 (by omega),A8 (by omega)]
theorem vF(zs:List Int)(hl:Co zs)(DL:zs≠[]) :
  Bm Tryz.prog 255 [.msl 1000 zs.length] (Aq [(1000,.arr 1 (zs.map GU))] Aa) fun r h' =>
   r=.tup []∧∃l' : List Int,(l'.Perm zs∧l'.Pairwise fun a b=>a≤b)∧h'=Aq [(1000,.arr 1 (l'.map GU))] Aa:=by
 have hl:zs.length≤1073741824:=hl;have hE:Gs Tryz.prog 255:=fp 255 Tryz.func255 (by kernel_rfl) rfl;have HB:=Qf (P:=Tryz.prog) (f:=255) (es:=zs.map GU) (sz:=1) (rest:=[]) (Q:=fun FW=>∃l' : List Int,(l'.Perm zs∧l'.Pairwise fun a b=>a≤b)∧FW=l'.map GU) hE ?_ ?_
 ·rw[Lm]at HB;refine⟨hE,fun g w vals q1 q2 q3=>(HB.2 g w vals q1 q2 q3).mono fun _ _ ⟨v,r,h',g',e1,⟨e2,FW,⟨l',p1,p2⟩,p3⟩,rest⟩=>⟨v,r,h',g',e1,⟨e2,l',p1,by rw[p3,p2]⟩,rest⟩⟩
 ·intro e
  have:zs=[]:=by simpa using e
  exact absurd this DL
 ·intro g w b cap F hr hF hH hb;have rM:F.toList=zs.map fun z=>Value.int .i64 z:=LH (by rw[←VA];exact hr);have gT:F=zs.toArray.map fun z=>Value.int .i64 z:=I0.1 (by rw[rM];simp);have rN:Holds (Value.int .i64) w b 0 zs.toArray:=fun j hj=>by
   have:=hH j (by rw[gT];simpa using hj)
   refine⟨this.1.trans ?_,this.2⟩;rw[gT,DK _ j (by simpa using hj),DK _ j hj];simp
  have hc:=Any.slices_Sort_int Tryz.laySortInts b 0 cap zs w rN hb (by omega);rw[Lm];refine hc.mono ?_
  rintro e w' ⟨rfl,n,os,rfl⟩
  have Je:(zs.mergeSort fun x y=>decide (x≤y)).Perm zs:=List.mergeSort_perm _ _;have CJ:=Je.length_eq;refine⟨rfl,(zs.mergeSort fun x y=>decide (x≤y)).toArray.map fun z=>Value.int .i64 z,(zs.mergeSort fun x y=>decide (x≤y)).map GU,n,os,?_,⟨_,⟨Je,?_⟩,rfl⟩,by simp[CJ],fun cs hcs=>?_,fun g w _=>?_,by rw[QO]⟩
  ·rw[gT];simp[CJ]
  ·have:=List.pairwise_mergeSort (le:=fun x y:Int=>decide (x≤y)) (fun a b c h1 h2=>by simp only[AB]at *;omega) (fun a b=>by simp only[CF,AB];omega) zs
   exact this.imp fun h=>BD h
  ·obtain⟨x,_,rfl⟩:=Ar.1 hcs;rfl
  ·rw[VA];have e:((zs.mergeSort fun x y=>decide (x≤y)).toArray.map fun z=>Value.int .i64 z).toList=(zs.mergeSort fun x y=>decide (x≤y)).map fun z=>Value.int .i64 z:=by simp
   rw[e];exact Nk _ _ _ _ fun x hx=>by
    obtain⟨z,_,rfl⟩:=Ar.1 hx;rfl
-- maps from numbers to numbers
abbrev Xo:EX:=⟨false,[.int .i64]⟩
abbrev kI(z:Int):Value:=.int .i64 z
abbrev L5(p:Int×Int):Value×AV:=(kI p.1,vi p.2)
abbrev FE(s:Bg):List AV:=[sl Ag s]
theorem Sw{m:List (Int×Int)}{k:Int}{a:AV}:(kI k,a)∈m.map L5↔∃v,(k,v)∈m∧a=vi v:=by
 rw[Ar];constructor
 ·rintro⟨⟨k',v⟩,h1,h2⟩
  simp only[F9,Value.int.injEq,true_and]at h2;obtain⟨rfl,rfl⟩:=h2;exact⟨v,h1,rfl⟩
 ·rintro⟨v,h1,rfl⟩
  exact⟨(k,v),h1,rfl⟩
theorem Sz(m:List (Int×Int))(k v:Int):E7 (m.map L5) (kI k) (vi v)=(LG m k v).map L5:=by
 unfold LG
 by_cases h:(m.any fun p=>decide (p.1=k))=true
 ·rw[Ax h];obtain⟨p,h1,h2⟩:=Bb.1 h;have h2:=BD h2
  have:(kI k,vi p.2)∈m.map L5:=Sw.2 ⟨p.2,by rw[←h2];exact h1,rfl⟩
  rw[QH this,BW,BW];apply Bn;intro q _;simp only[Function.comp]
  by_cases e:q.1=k
  ·simp[e]
  ·have:¬kI q.1=kI k:=fun c=>e (by injection c)
   simp[e]
 ·rw[Ao h]
  have:∀b,(kI k,b)∉m.map L5:=fun b hb=>by
   obtain⟨v,h1,_⟩:=Sw.1 hb;exact h (Bb.2 ⟨(k,v),h1,by simp⟩)
  rw[K3 this,AH];rfl
theorem Pn{T:GS}{e:Nat}{Ca:List (Value×AV)}{kx:Value}{K:AV→Prop}(a0 z0:AV)(h1:∀a,(kx,a)∈Ca→a=a0)(hz:(∀a,(kx,a)∉Ca)→a0=z0)(h2:K z0→KE T e K)(k:K a0) :
  (∀a,(kx,a)∈Ca→K a)∧((∀a,(kx,a)∉Ca)→KE T e K):=⟨fun a h=>by rw[h1 a h];exact k,fun hn=>h2 (hz hn▸k)⟩
theorem Re(m:List (Int×Int))(k:Int):(∀a,(kI k,a)∉m.map L5)→vi (FD m k)=vi 0:=fun Sc=>by
 rw[kc fun hk=>by
  obtain⟨p,hp,e⟩:=Ar.1 hk;exact Sc (vi p.2) (Sw.2 ⟨p.2,by rw[←e];exact hp,rfl⟩)]
theorem Rd{m:List (Int×Int)}(hn:(Fk m).Nodup)(k:Int):∀a,(kI k,a)∈m.map L5→a=vi (FD m k):=fun a h=>by
 obtain⟨v,h1,rfl⟩:=Sw.1 h;rw[kb hn h1]
theorem IL.bound{m:List (Int×Int)}{S:Bg}(h:IL m S)(k:Int):-(S.length:Int)≤FD m k∧FD m k≤S.length:=by
 rw[h.val]
 have:cF S k≤S.length:=List.countP_le_length
 have:cT S k≤S.length:=List.countP_le_length
 omega
theorem ZT(l:List Bg):(l.map canon).flatten.length≤l.length*1000000:=by
 induction l with
 |nil=>simp
 |cons s l ih =>
  rw[AS,BJ,Ad,Au]
  have:=Iu (Cv s)
  omega
theorem IL.few{m:List (Int×Int)}{S:Bg}(h:IL m S):m.length≤1000001:=by
 have:=IJ (m:=(List.range 1000001).map Int.ofNat) h.nd fun k hk=>by
  have:=h.rng k hk
  exact Ar.2 ⟨k.toNat,List.mem_range.2 (by omega),by show(k.toNat:Int)=k;omega⟩
 unfold Fk at this;rw[Lm,Lm,Rm]at this;exact this
theorem VO(keep:Nat→Bool)(m:List (Int×Int))(B:List Int):∀n,(EI keep m B n).length≤n
 |0=>Al _
 |n+1=>by
  unfold EI
  have:=VO keep m B n
  rw[Ad];split
  ·split<;>simp<;>omega
  ·simp;omega
end Go.Eng
namespace Go.Eng
open Go.Proofs
abbrev plC:Sj:=⟨[],[(12,2)],[(44,1)],[],[],[],[],[],[],[],[8,9,15,23,25,26]⟩
theorem ot(F:AV)(keep:Nat→Bool)(l:List Bg)(hl:Co l)(hs:∀s∈l,Co s)(hid:∀h,U0 h F=true)(hF:∀h (n:Int),0≤n→n≤l.length→Qd Tryz.prog (str h F) [vi n] (vb (keep n.toNat)))
  (R:Bg) (hR:EQ R) (hRh:∀p,has R p=(L4 p&&keep (fm l p))):PC 226 [F,sl FE l] (sl Ag R):=by
 have hl:l.length≤1073741824:=hl;refine Ps plC Tryz.func226 rfl (Nz rfl) ?_;refine Xi {p:Nat×List (Int×Int) // p.1≤l.length∧IL p.2 ((l.take p.1).map canon).flatten} (Xi (fun p=>⟨[(0,F),(5,.mref 15),(17,sl FE l),(18,vi (l.map FE).length),(19,vi p.1.1)],[(15,.map Xo (p.1.2.map L5))],Aa⟩) (Xi (fun p=>l.length-p.1.1) (Yi (Xi ⟨(0,ry),AG _,kU⟩ ?_) ?_)))
 ·have e0:HO.map Xo (E7 (E7 [] (kI 0) (vi 0)) (kI 1000000) (vi 0))=.map Xo (ry.map L5):=by
   have e1:=Sz [] 0 0;have e2:=Sz [(0,0)] 1000000 0;show HO.map Xo (E7 (E7 (List.map L5 []) (kI 0) (vi 0)) (kI 1000000) (vi 0))=_;rw[e1];show HO.map Xo (E7 (List.map L5 [(0,0)]) (kI 1000000) (vi 0))=_;rw[e2];rfl
  exact⟨⟨⟨rfl,hid _⟩,Zr,Zr,Zr,Zr,Tv⟩,⟨⟨e0,rfl⟩,Tv⟩,Fh,Tv⟩
 intro⟨⟨i,cm⟩,i1,i2⟩;have i1:i≤l.length:=i1;have i2:IL cm ((l.take i).map canon).flatten:=i2;refine Yi ?_ ?_
 ·intro h;have h:(i:Int)<(l.map FE).length:=h;have h:i<l.length:=by simpa using h
  have hg:l[i]?=some l[i]:=Ge h;refine Xi (FE l[i]) (Yi (Yi (Nn i) (by simp[hg])) (Yi rfl ?_));refine Xi .pure (Xi _ (Yi (XN l[i] (hs _ (Ak h))) ?_));refine Xi {p:Nat×List (Int×Int) // p.1≤(canon l[i]).length∧IL p.2 (((l.take i).map canon).flatten++(canon l[i]).take p.1)} (Xi (fun p=>⟨[(0,F),(5,.mref 15),(17,sl FE l),(18,vi (l.map FE).length),(19,vi i),(24,sl Ag (canon l[i])),(25,vi ((canon l[i]).map Ag).length),(26,vi p.1.1)],[(15,.map Xo (p.1.2.map L5))],Aa⟩) (Xi (fun p=>(canon l[i]).length-p.1.1) (Yi (Xi ⟨(0,cm),AG _,by rw[List.take_zero,BE];exact i2⟩ ?_) ?_)))
  ·exact⟨⟨⟨rfl,hid _⟩,Zr,Zr,Zr,Zr,Zr,Zr,Zr,Tv⟩,Z1,Fh,Tv⟩
  intro⟨⟨j,dm⟩,j1,j2⟩;have j1:j≤(canon l[i]).length:=j1;have j2:IL dm (((l.take i).map canon).flatten++(canon l[i]).take j):=j2;have hS:(((l.take i).map canon).flatten++(canon l[i]).take j).length≤1073741825000000:=by
   have a1:=ZT (l.take i);have a2:=Iu (Cv l[i]);rw[AC]at a1;rw[Ad,AC];omega
  refine Yi ?_ ?_
  ·intro hj;have hj:(j:Int)<((canon l[i]).map Ag).length:=hj;have hj:j<(canon l[i]).length:=by simpa using hj
   have qt:(canon l[i])[j]?=some (canon l[i])[j]:=Ge hj;have nC:=(Cv l[i]).low _ (Ak hj);have j3:IL (Zg dm (canon l[i])[j]) (((l.take i).map canon).flatten++(canon l[i]).take (j+1)):=by
    have:=eY j2 (x:=(canon l[i])[j]) nC
    rw[AM]at this;rw[BC,qt];exact this
   generalize (canon l[i])[j]=x at qt nC j3;have b1:=j2.bound x.1;have fu:=My j2.nd x.1 (FD dm x.1+1);refine Xi (Ag x) (Yi (Yi (Nn j) (by simp[qt])) (Yi rfl ?_));refine Yi (Nz rfl) (Yi (Nz rfl) ?_);refine Xi ⟨[(0,F),(5,.mref 15),(9,.ref 9 0),(17,sl FE l),(18,vi (l.map FE).length),(19,vi i),(24,sl Ag (canon l[i])),(25,vi ((canon l[i]).map Ag).length),(26,vi j)],[(9,.cells (Ag x)),(15,.map Xo (dm.map L5))],Aa⟩ (Yi ⟨⟨⟨rfl,hid _⟩,Zr,Zr,Zr,Zr,Zr,Zr,Zr,Zr,Tv⟩,Z2,Fh,Tv⟩ ?_)
   refine Pn (vi (FD dm x.1)) (vi 0) (Rd j2.nd x.1) (Re dm x.1) (fun q=>q) ?_;refine Yi (by show Bu (FD dm x.1+1);unfold Bu;omega) ?_;have m1:HO.map Xo (E7 (dm.map L5) (kI x.1) (vi (FD dm x.1+1)))=.map Xo ((LG dm x.1 (FD dm x.1+1)).map L5):=by rw[Sz]
   refine Xi ⟨[(0,F),(5,.mref 15),(9,.ref 9 0),(17,sl FE l),(18,vi (l.map FE).length),(19,vi i),(24,sl Ag (canon l[i])),(25,vi ((canon l[i]).map Ag).length),(26,vi j)],[(9,.cells (Ag x)),(15,.map Xo ((LG dm x.1 (FD dm x.1+1)).map L5))],Aa⟩ (Yi ⟨⟨⟨rfl,hid _⟩,Zr,Zr,Zr,Zr,Zr,Zr,Zr,Zr,Tv⟩,⟨Zr,⟨m1,rfl⟩,Tv⟩,Fh,Tv⟩ ?_)
   have b2:-(1073741825000001:Int)≤FD (LG dm x.1 (FD dm x.1+1)) x.2∧FD (LG dm x.1 (FD dm x.1+1)) x.2≤1073741825000001:=by
    have b3:=j2.bound x.2;rw[PV];split<;>omega
   refine Pn (vi (FD (LG dm x.1 (FD dm x.1+1)) x.2)) (vi 0) (Rd fu x.2) (Re _ x.2) (fun q=>q) ?_;refine Yi (by show Bu (FD (LG dm x.1 (FD dm x.1+1)) x.2-1);unfold Bu;omega) ?_;have hcl:=Iu (Cv l[i]);refine Yi (Ii j (by omega)) ?_;have m2:HO.map Xo (E7 ((LG dm x.1 (FD dm x.1+1)).map L5) (kI x.2) (vi (FD (LG dm x.1 (FD dm x.1+1)) x.2-1)))=.map Xo ((Zg dm x).map L5):=by rw[Sz];rfl
   refine Xi ⟨(j+1,Zg dm x),by show j+1≤_;omega,j3⟩ ?_;exact⟨by show(canon l[i]).length-(j+1)<(canon l[i]).length-j;omega,⟨⟨rfl,hid _⟩,Zr,Zr,Zr,Zr,Zr,Zr,Zr,Tv⟩,⟨⟨m2,rfl⟩,Tv⟩,Fh,Tv⟩
  ·intro hj;have hj:¬(j:Int)<((canon l[i]).map Ag).length:=hj;have hj:¬j<(canon l[i]).length:=by simpa using hj
   refine Yi (Ii i (by omega)) ?_;have i3:IL dm ((l.take (i+1)).map canon).flatten:=by
    have e1:(canon l[i]).take j=canon l[i]:=AJ (by omega);rw[e1]at j2;have e2:((l.take (i+1)).map canon).flatten=((l.take i).map canon).flatten++canon l[i]:=by
     rw[BC,hg,AH,CU];show _++(canon l[i]++[])=_;rw[BE]
    rw[e2];exact j2
   refine Xi ⟨(i+1,dm),by show i+1≤_;omega,i3⟩ ?_;exact⟨Dl l.length i (by omega),⟨⟨rfl,hid _⟩,Zr,Zr,Zr,Zr,Tv⟩,Z1,Fh,Tv⟩
 ·intro h;have h:¬(i:Int)<(l.map FE).length:=h;have h:¬i<l.length:=by simpa using h
  have i3:IL cm (l.map canon).flatten:=by
   rw[AJ (by omega)]at i2;exact i2
  have sa:=i3.few;have hmk:(0:Int)≤0∧(0:Int)≤((cm.map L5).length:Int)∧((cm.map L5).length:Int)*((8:Nat):Int)≤140737488355328∧((cm.map L5).length:Int)≤9223372036854775807:=by rw[Lm];omega
  refine Yi hmk ?_;refine Xi {p:List (Value×AV)×List Int×Option (Value×AV) // ((p.2.1.map kI)++p.1.map (·.1)).Perm ((cm.map L5).map (·.1))∧∀kv∈p.1,kv∈cm.map L5} (Xi (fun p=>⟨[(0,F),(5,.mref 15),(10,.msl 44 p.1.2.1.length),(46,.ref 46 0)],[(15,.rom Xo (cm.map L5)),(44,.arr 1 (p.1.2.1.map GU)),(46,.iter (cm.map L5) p.1.1 p.1.2.2)],Aa⟩) (Xi (fun p=>p.1.1.length) (Yi (Xi ⟨(cm.map L5,[],none),.refl _,fun _ h=>h⟩ ?_) ?_)))
  ·exact⟨⟨⟨rfl,hid _⟩,Zr,Zr,Zr,Tv⟩,Z3,Fh,Tv⟩
  intro⟨⟨rem,bs,FV⟩,r1,r2⟩;have r1:((bs.map kI)++rem.map (·.1)).Perm ((cm.map L5).map (·.1)):=r1;have r2:∀kv∈rem,kv∈cm.map L5:=r2;have hbl:bs.length≤1000001:=by
   have:=r1.length_eq
   simp only[Ad,Lm]at this;omega
  refine Yi ?_ ?_
  ·intro hr;have hr:rem=[]:=hr;subst hr;rw[Fm,BE,BW]at r1;have xm:bs.Perm (Fk cm):=by
    have r1:(bs.map kI).Perm ((Fk cm).map kI):=by unfold Fk;rw[BW];exact r1
    have:=r1.map (fun v:Value=>match v with | .int _ n=>n | _=>0)
    rw[BW,BW]at this;have e:((fun v:Value=>match v with | .int _ n=>n | _=>0) ∘ kI)=id:=rfl;rw[e,J9,J9]at this;exact this
   have DL:bs≠[]:=fun e=>by
    subst e
    have:=xm.length_eq
    have h0:=i3.keys.1;rw[Az this.symm]at h0;cases h0
   refine Xi (.gen [(44,1000)] 0) (Yi rfl ((vF bs (by unfold Co;omega) DL).to ?_));intro B rK;have gR:B.length=bs.length:=rK.1.length_eq;have hBn:B.Nodup:=(rK.1.trans xm).nodup_iff.2 i3.nd;have hB:kz B cm:=⟨rK.1.trans xm,by
    rw[A7];intro a b ha hb na;have h1:=(A7.1 rK.2) a b ha hb na;have h2:B[a]≠B[b]:=(A7.1 hBn) a b ha hb na;omega⟩
   have zn:0<B.length:=by
    rw[gR];exact G7.2 DL
   have wC:bs.length=(B.map GU).length:=by rw[Lm,gR]
   refine Yi (by show Bu ((bs.length:Int)-1);unfold Bu;omega) ?_;refine Xi {k:Nat // k≤B.length-1} (Xi (fun k=>⟨[(0,F),(5,.mref 15),(10,.msl 44 bs.length),(12,.slice (.id 12 2) ((EI keep cm B k.1).map Ag)),(13,vi (IY cm (B.take k.1))),(59,vi ((bs.length:Int)-1)),(60,vi k.1)],[(12,.tok 2 ((EI keep cm B k.1).map Ag).length),(15,.rom Xo (cm.map L5)),(44,.arr 1 (B.map GU))],Aa⟩) (Xi (fun k=>B.length-k.1) (Yi (Xi ⟨0,AG _⟩ ?_) ?_)))
   ·exact⟨⟨⟨rfl,hid _⟩,Zr,Zr,Zr,Zr,Zr,Zr,Tv⟩,Z3,Fh,Tv⟩
   intro⟨k,k1⟩;have qw:=VO keep cm B k;refine Yi ?_ ?_
   ·intro hk;have hk:(k:Int)<(bs.length:Int)-1:=hk;have HL:k+1<B.length:=by omega
    have VG:k<B.length:=by omega
    have RZ:(B.map GU)[k]?=some (GU B[k]):=B4 (Ge VG);have wJ:(B.map GU)[k+1]?=some (GU B[k+1]):=B4 (Ge HL);have L1:=Rb cm B k VG;have sN:=jU i3 hB k VG;have TJ:EI keep cm B (k+1)=EI keep cm B k++(if keep (IY cm (B.take (k+1))).toNat then [(B[k],B[k+1])]else []):=by
     show _++(match B[k]?,B[k+1]? with | some a,some b=>if keep (IY cm (B.take (k+1))).toNat then [(a,b)]else [] | _,_=>[])=_;rw[Ge VG,Ge HL]
    refine Xi ⟨[(0,F),(5,.mref 15),(10,.msl 44 bs.length),(12,.slice (.id 12 2) ((EI keep cm B k).map Ag)),(13,vi (IY cm (B.take k))),(14,vi k),(59,vi ((bs.length:Int)-1)),(60,vi k)],[(12,.tok 2 ((EI keep cm B k).map Ag).length),(15,.rom Xo (cm.map L5)),(44,.arr 1 (B.map GU))],Aa⟩ (Yi ⟨⟨⟨rfl,hid _⟩,Zr,Zr,Zr,Zr,Zr,Zr,Zr,Tv⟩,Z3,Fh,Tv⟩ ?_)
    refine Yi ⟨by show(0:Int)≤k;omega,by show(k:Int)<bs.length;omega⟩ ?_;refine Yi wC (Xi (GU B[k]) (Yi RZ ?_));refine Pn (vi (FD cm B[k])) (vi 0) (Rd i3.nd B[k]) (Re cm B[k]) (fun q=>q) ?_;refine Yi (by show Bu (IY cm (B.take k)+FD cm B[k]);rw[←L1];unfold Bu;omega) ?_;have DM:∀h,Qd Tryz.prog (str h F) [vi (IY cm (B.take k)+FD cm B[k])] (vb (keep (IY cm (B.take (k+1))).toNat)):=fun h=>by
     rw[←L1];exact hF h _ sN.1 sN.2
    refine Bq (Bt (keep (IY cm (B.take (k+1))).toNat)) (fun hp=>?_) (fun hp=>?_)
    ·rw[hp]at DM;rw[hp,Ax rfl]at TJ;refine Xi .pure (Xi (vb true) (Yi (DM _) ?_));refine Xi ⟨[(0,F),(5,.mref 15),(10,.msl 44 bs.length),(12,.slice (.id 12 2) ((EI keep cm B k).map Ag)),(13,vi (IY cm (B.take k)+FD cm B[k])),(14,vi k),(59,vi ((bs.length:Int)-1)),(60,vi k)],[(12,.tok 2 ((EI keep cm B k).map Ag).length),(15,.rom Xo (cm.map L5)),(44,.arr 1 (B.map GU))],Aa⟩ (Yi ⟨⟨⟨rfl,hid _⟩,Zr,Zr,Zr,Zr,Zr,Zr,Zr,Tv⟩,Z3,Fh,Tv⟩ ?_)
     have b1:(0:Int)≤(k:Int)+1∧(k:Int)+1<bs.length:=by omega
     have wK:(B.map GU)[((k:Int)+1).toNat]?=some (GU B[k+1]):=by rw[show((k:Int)+1).toNat=k+1 by omega];exact wJ
     refine Yi ⟨by show(0:Int)≤k;omega,by show(k:Int)<bs.length;omega⟩ ?_;refine Yi wC (Xi (GU B[k]) (Yi RZ ?_));refine Yi (Ii k (by omega)) ?_;refine Yi b1 ?_;refine Yi wC (Xi (GU B[k+1]) (Yi wK ?_));have F8:CT 2 [[vi B[k],vi B[k+1]]]∧((EI keep cm B k).map Ag).length=((EI keep cm B k).map Ag).length∧(((EI keep cm B k).map Ag).length+[[vi B[k],vi B[k+1]]].length)*16≤140737488355328∧((EI keep cm B k).map Ag).length+[[vi B[k],vi B[k+1]]].length≤9223372036854775807 :=
      ⟨⟨rfl,trivial⟩,rfl,by rw[Lm,Am];omega,by rw[Lm,Am];omega⟩
     refine Yi F8 ?_;refine Yi (by kernel_rfl) ?_;refine Xi ⟨[(0,F),(5,.mref 15),(10,.msl 44 bs.length),(12,.slice (.id 12 2) ((EI keep cm B k).map Ag++[[vi B[k],vi B[k+1]]])),(13,vi (IY cm (B.take k)+FD cm B[k])),(59,vi ((bs.length:Int)-1)),(60,vi k)],[(12,.tok 2 (((EI keep cm B k).map Ag).length+[[vi B[k],vi B[k+1]]].length)),(15,.rom Xo (cm.map L5)),(44,.arr 1 (B.map GU))],Aa⟩ (Yi ⟨⟨⟨rfl,hid _⟩,Zr,Zr,Zr,Zr,Zr,Zr,Tv⟩,Z3,Fh,Tv⟩ ?_)
     refine Yi (Ii k (by omega)) ?_;refine Xi ⟨k+1,by omega⟩ ?_;have e1:AV.slice (.id 12 2) ((EI keep cm B k).map Ag++[[vi B[k],vi B[k+1]]])=.slice (.id 12 2) ((EI keep cm B (k+1)).map Ag):=by rw[TJ,AH];rfl
     have e2:vi (IY cm (B.take k)+FD cm B[k])=vi (IY cm (B.take (k+1))):=by rw[L1]
     have e3:HO.tok 2 (((EI keep cm B k).map Ag).length+[[vi B[k],vi B[k+1]]].length)=.tok 2 ((EI keep cm B (k+1)).map Ag).length:=by rw[TJ,AH,Ad];rfl
     exact⟨Dl B.length k (by omega),⟨⟨rfl,hid _⟩,Zr,Zr,⟨e1,rfl⟩,⟨e2,rfl⟩,Zr,Zr,Tv⟩,⟨⟨e3,rfl⟩,Zr,Zr,Tv⟩,Fh,Tv⟩
    ·rw[hp]at DM;have TJ:EI keep cm B (k+1)=EI keep cm B k:=by rw[TJ,hp,Ao Bool.false_ne_true,BE]
     refine Xi .pure (Xi (vb false) (Yi (DM _) ?_));refine Xi ⟨[(0,F),(5,.mref 15),(10,.msl 44 bs.length),(12,.slice (.id 12 2) ((EI keep cm B k).map Ag)),(13,vi (IY cm (B.take k)+FD cm B[k])),(59,vi ((bs.length:Int)-1)),(60,vi k)],[(12,.tok 2 ((EI keep cm B k).map Ag).length),(15,.rom Xo (cm.map L5)),(44,.arr 1 (B.map GU))],Aa⟩ (Yi ⟨⟨⟨rfl,hid _⟩,Zr,Zr,Zr,Zr,Zr,Zr,Tv⟩,Z3,Fh,Tv⟩ ?_)
     refine Yi (Ii k (by omega)) ?_;refine Xi ⟨k+1,by omega⟩ ?_;have e1:AV.slice (.id 12 2) ((EI keep cm B k).map Ag)=.slice (.id 12 2) ((EI keep cm B (k+1)).map Ag):=by rw[TJ]
     have e2:vi (IY cm (B.take k)+FD cm B[k])=vi (IY cm (B.take (k+1))):=by rw[L1]
     have e3:HO.tok 2 ((EI keep cm B k).map Ag).length=.tok 2 ((EI keep cm B (k+1)).map Ag).length:=by rw[TJ]
     exact⟨Dl B.length k (by omega),⟨⟨rfl,hid _⟩,Zr,Zr,⟨e1,rfl⟩,⟨e2,rfl⟩,Zr,Zr,Tv⟩,⟨⟨e3,rfl⟩,Zr,Zr,Tv⟩,Fh,Tv⟩
   ·intro hk;have hk:¬(k:Int)<(bs.length:Int)-1:=hk;have HL:k=B.length-1:=by omega
    have wP:canon (EI keep cm B k)=R:=by
     refine(S7 hR fun p=>?_).symm;rw[HL,hRh,iJ i3 hB]
    have hc:=XN (EI keep cm B k) (by unfold Co;omega);rw[wP]at hc;refine Xi .pure (Xi _ (Yi hc ?_));exact .refl _
  ·intro kv Ou hp;refine BN (Ar.1 (r2 kv (hp.mem_iff.2 (Ac ..)))) (fun q hq=>?_);have hq2:=hq.2;subst hq2;refine Xi ⟨[(0,F),(5,.mref 15),(10,.msl 44 bs.length),(46,.ref 46 0)],[(15,.rom Xo (cm.map L5)),(44,.arr 1 (bs.map GU)),(46,.iter (cm.map L5) Ou (some (L5 q)))],Aa⟩ (Yi ⟨⟨⟨rfl,hid _⟩,Zr,Zr,Zr,Tv⟩,Z3,Fh,Tv⟩ ?_)
   have F8:CT 1 [GU q.1]∧(bs.map GU).length=bs.length∧((bs.map GU).length+[GU q.1].length)*8≤140737488355328∧(bs.map GU).length+[GU q.1].length≤9223372036854775807 :=
    ⟨⟨rfl,trivial⟩,by rw[Lm],by rw[Lm,Am];omega,by rw[Lm,Am];omega⟩
   refine Yi F8 ?_;have e1:AV.msl 44 ((bs.map GU).length+[GU q.1].length)=.msl 44 (bs++[q.1]).length:=by simp
   have e2:HO.arr 1 (bs.map GU++[GU q.1])=.arr 1 ((bs++[q.1]).map GU):=by simp
   refine Xi ⟨(Ou,bs++[q.1],some (L5 q)),?_,fun kv P0=>r2 kv (hp.mem_iff.2 (Af _ P0))⟩ ?_
   ·show(((bs++[q.1]).map kI)++Ou.map (·.1)).Perm _;have h1:=hp.map (fun x:Value×AV=>x.1);rw[AS]at h1;rw[AH,AM];exact(List.Perm.append_left _ h1.symm).trans r1
   ·exact⟨by show Ou.length<rem.length;rw[hp.length_eq];simp,⟨⟨rfl,hid _⟩,Zr,⟨e1,rfl⟩,Zr,Tv⟩,⟨Zr,⟨e2,rfl⟩,Zr,Tv⟩,Fh,Tv⟩
theorem vB(n:Int)(l:List Bg):PC 269 [vi n,.cptr [sl FE l]] (vb (decide (n=l.length))):=by
 refine Ps E8 Tryz.func269 rfl (Nz rfl) ?_;have e:((l.map FE).length:Int)=l.length:=by rw[Lm]
 refine Yi ?_ ?_
 ·intro h;have h:n=((l.map FE).length:Int):=h;rw[show decide (n=(l.length:Int))=true from At (h.trans e)];exact .refl _
 ·intro h;have h:¬n=((l.map FE).length:Int):=h;rw[show decide (n=(l.length:Int))=false from Aj (fun c=>h (c.trans e.symm))];exact .refl _
theorem vD(n:Int):PC 227 [vi n] (vb (decide (n=0))):=by
 refine Ps E8 Tryz.func227 rfl (Nz rfl) ?_;refine Yi ?_ ?_
 ·intro h;have h:n=0:=h;rw[At h];exact .refl _
 ·intro h;have h:¬n=0:=h;rw[Aj h];exact .refl _
theorem wd(n:Int):PC 258 [vi n] (vb (decide (0<n))):=by
 refine Ps E8 Tryz.func258 rfl (Nz rfl) ?_;refine Yi ?_ ?_
 ·intro h;have h:0<n:=h;rw[At h];exact .refl _
 ·intro h;have h:¬0<n:=h;rw[Aj h];exact .refl _
theorem iH(l:List Bg)(p:Int):decide (fm l p=l.length)=l.all fun s=>has s p:=by
 unfold fm;rw[B1,AB,List.countP_eq_length,AR]
theorem iI(l:List Bg)(p:Int):decide (0<fm l p)=l.any fun s=>has s p:=by
 unfold fm;rw[B1,AB,List.countP_pos_iff,Bb]
theorem vf(l:List Bg)(hl:Co l)(hs:∀s∈l,Co s):PC 256 [sl FE l] (sl Ag (Qx l)):=by
 have hc:=ot (.clo 269 [.cptr [sl FE l]]) (fun n=>decide (n=l.length)) l hl hs (fun _=>rfl) (fun h n h0 _=>by
  have:=vB n l
  have e:decide (n=(l.length:Int))=decide (n.toNat=l.length):=by rw[Tg];omega
  rw[e]at this;exact this) (Qx l) (W7 l) fun p=>by rw[TE,iH]
 refine Ps (ks [1]) Tryz.func256 rfl (Nz rfl) ?_;refine Xi .pure (Xi _ (Yi (hc) ?_));exact .refl _
theorem oh(s:Bg)(hs:Co s):PC 202 [sl Ag s] (sl Ag (Ev s)):=by
 have hc:=ot (.v (UU 227)) (fun n=>decide (n=0)) [s] (by unfold Co;simp) (fun t ht=>by rw[As.1 ht];exact hs) (fun _=>rfl) (fun h n h0 _=>by
  have:=vD n
  have e:decide (n=0)=decide (n.toNat=0):=by rw[Tg];omega
  rw[e]at this;exact this) (Ev s) (Hy s) fun p=>by
   rw[F0]
   have:fm [s] p=if has s p then 1 else 0:=by unfold fm;rw[I2];simp
   rw[this];cases has s p<;>rfl
 refine Ps E8 Tryz.func202 rfl (Nz rfl) ?_;refine Xi .pure (Xi _ (Yi (hc) ?_));exact .refl _
theorem vZ(l:List Bg)(hl:Co l)(hs:∀s∈l,Co s):PC 237 [sl FE l] (sl Ag (Rc l)):=by
 have hc:=ot (.v (UU 258)) (fun n=>decide (0<n)) l hl hs (fun _=>rfl) (fun h n h0 _=>by
  have:=wd n
  have e:decide (0<n)=decide (0<n.toNat):=by rw[Tg];omega
  rw[e]at this;exact this) (Rc l) (Xq l) fun p=>by
   rw[TF,iI];cases h:l.any fun s=>has s p with
   |false=>simp
   |true =>
    obtain⟨s,_,h2⟩:=Bb.1 h
    have:=Ms h2
    simp[L4,this]
 refine Ps E8 Tryz.func237 rfl (Nz rfl) ?_;refine Xi .pure (Xi _ (Yi (hc) ?_));exact .refl _
-- terms
theorem c59(t:Tm)(ht:Co t.set):PC 233 [.agg (AL t)] (vb (!t.absent&&(canon t.set).isEmpty)):=by
 refine Ps E8 Tryz.func233 rfl (Nz rfl) ?_;refine Yi ?_ ?_
 ·intro h;have h:t.absent=true:=h;rw[h];exact .refl _
 ·intro h;have h:t.absent=false:=h;refine Xi .pure (Xi _ (Yi (XN t.set ht) ?_));refine Yi ?_ ?_
  ·intro h2;have h2:(((canon t.set).map Ag).length:Int)=0:=h2;have h2:canon t.set=[]:=Az (by rw[Lm]at h2;omega);rw[h,h2];exact .refl _
  ·intro h2;have h2:¬(((canon t.set).map Ag).length:Int)=0:=h2;have h2:(canon t.set).isEmpty=false:=by
    cases hc:canon t.set with
    |nil=>rw[hc]at h2;exact absurd rfl h2
    |cons _ _=>rfl
   rw[h,h2];exact .refl _
theorem c60(t:Tm)(ht:Co t.set):PC 234 [.agg (AL t)] (vb (t.absent&&(Ev t.set).isEmpty)):=by
 refine Ps E8 Tryz.func234 rfl (Nz rfl) ?_;refine Yi ?_ ?_
 ·intro h;have h:t.absent=true:=h;refine Xi .pure (Xi _ (Yi (oh t.set ht) ?_));refine Yi ?_ ?_
  ·intro h2;have h2:(((Ev t.set).map Ag).length:Int)=0:=h2;have h2:Ev t.set=[]:=Az (by rw[Lm]at h2;omega);rw[h,h2];exact .refl _
  ·intro h2;have h2:¬(((Ev t.set).map Ag).length:Int)=0:=h2;have h2:(Ev t.set).isEmpty=false:=by
    cases hc:Ev t.set with
    |nil=>rw[hc]at h2;exact absurd rfl h2
    |cons _ _=>rfl
   rw[h,h2];exact .refl _
 ·intro h;have h:t.absent=false:=h;rw[h];exact .refl _
abbrev Iq(l:List Nat):Sj:=⟨[],[],[],[],[],[],[],[],[],[],l⟩
theorem y9(u t:Tm)(hu:Co u.set)(ht:Co t.set):PC 232 [.agg (AL u),.agg (AL t)] (.agg (AL (Hc u t))):=by
 have hc:PC 256 [sl FE [u.set,t.set]] (sl Ag (Pv u.set t.set)):=vf [u.set,t.set] (by unfold Co;simp) (fun s hs=>by
  rcases Av.1 hs with rfl | hs
  ·exact hu
  ·rw[As.1 hs];exact ht)
 refine Ps (Iq [1]) Tryz.func232 rfl (Nz rfl) ?_;refine Xi ⟨[(2,.ref 2 0),(3,.ref 3 0),(4,.ref 4 0)],[(2,.cells (AL u)),(3,.cells (AL t)),(4,.cells [vs ⟨#[]⟩,vb false,.v (.slice none 0 0)])],Aa⟩ (Yi ⟨Z3,Z3,Fh,Tv⟩ ?_)
 refine Yi ?_ ?_
 ·intro h;have h:u.absent=true:=h;refine Yi ?_ ?_
  ·intro h2;have h2:t.absent=true:=h2;have e:[vs u.path,vb true,sl Ag (Pv u.set t.set)]=AL (Hc u t):=by unfold Hc;rw[h,h2];rfl
   refine Xi _ (Yi (hc) ?_);refine Yi (Nz rfl) (Yi (by kernel_rfl) (Yi (Nz rfl) ?_));exact .of_eq (Ab AV.agg e)
  ·intro h2;have h2:t.absent=false:=h2;have e:[vs u.path,vb false,sl Ag (Pv u.set t.set)]=AL (Hc u t):=by unfold Hc;rw[h,h2];rfl
   refine Xi _ (Yi (hc) ?_);refine Yi (Nz rfl) (Yi (by kernel_rfl) (Yi (Nz rfl) ?_));exact .of_eq (Ab AV.agg e)
 ·intro h;have h:u.absent=false:=h;have e:[vs u.path,vb false,sl Ag (Pv u.set t.set)]=AL (Hc u t):=by unfold Hc;rw[h];rfl
  refine Xi _ (Yi (hc) ?_);refine Yi (Nz rfl) (Yi (by kernel_rfl) (Yi (Nz rfl) ?_));exact .of_eq (Ab AV.agg e)
theorem vR(u t:Tm)(hu:Co u.set)(ht:Co t.set):PC 205 [.agg (AL u),.agg (AL t)] (.agg (AL (Dv u t))):=by
 have hc:PC 237 [sl FE [u.set,t.set]] (sl Ag (PU u.set t.set)):=vZ [u.set,t.set] (by unfold Co;simp) (fun s hs=>by
  rcases Av.1 hs with rfl | hs
  ·exact hu
  ·rw[As.1 hs];exact ht)
 refine Ps (Iq [1]) Tryz.func205 rfl (Nz rfl) ?_;refine Xi ⟨[(2,.ref 2 0),(3,.ref 3 0),(4,.ref 4 0)],[(2,.cells (AL u)),(3,.cells (AL t)),(4,.cells [vs ⟨#[]⟩,vb false,.v (.slice none 0 0)])],Aa⟩ (Yi ⟨Z3,Z3,Fh,Tv⟩ ?_)
 refine Yi ?_ ?_
 ·intro h;have h:u.absent=true:=h;have e:[vs u.path,vb true,sl Ag (PU u.set t.set)]=AL (Dv u t):=by unfold Dv;rw[h];rfl
  refine Xi _ (Yi (hc) ?_);refine Yi (Nz rfl) (Yi (by kernel_rfl) (Yi (Nz rfl) ?_));exact .of_eq (Ab AV.agg e)
 ·intro h;have h:u.absent=false:=h;refine Yi ?_ ?_
  ·intro h2;have h2:t.absent=true:=h2;have e:[vs u.path,vb true,sl Ag (PU u.set t.set)]=AL (Dv u t):=by unfold Dv;rw[h,h2];rfl
   refine Xi _ (Yi (hc) ?_);refine Yi (Nz rfl) (Yi (by kernel_rfl) (Yi (Nz rfl) ?_));exact .of_eq (Ab AV.agg e)
  ·intro h2;have h2:t.absent=false:=h2;have e:[vs u.path,vb false,sl Ag (PU u.set t.set)]=AL (Dv u t):=by unfold Dv;rw[h,h2];rfl
   refine Xi _ (Yi (hc) ?_);refine Yi (Nz rfl) (Yi (by kernel_rfl) (Yi (Nz rfl) ?_));exact .of_eq (Ab AV.agg e)
theorem rp(q:Rq)(hq:Co q.set):PC 197 [.agg (AN q)] (.agg (AL (DP q))):=by
 refine Ps E8 Tryz.func197 rfl (Nz rfl) ?_;refine Xi _ (Yi (oh q.set hq) ?_);refine Yi (Nz rfl) (Yi (by kernel_rfl) (Yi (Nz rfl) ?_));exact .refl _
abbrev Dm:EX:=⟨false,[.str]⟩
abbrev M6(t:Tm):Value×AV:=(.string t.path,.agg (AL t))
abbrev tq(fin cut:List Nat):Sj:=⟨[],[],[],[],fin,[],[],[],[],[],cut⟩
theorem Sx{m:List Tm}{p:ByteArray}{a:AV}:(Value.string p,a)∈m.map M6↔∃t∈m,t.path=p∧a=.agg (AL t):=by
 rw[Ar];constructor
 ·rintro⟨t,h1,h2⟩
  simp only[F9,Value.string.injEq]at h2;exact⟨t,h1,h2.1,h2.2.symm⟩
 ·rintro⟨t,h1,rfl,rfl⟩
  exact⟨t,h1,rfl⟩
theorem iT(m:List Tm)(t:Tm):E7 (m.map M6) (.string t.path) (.agg (AL t))=(Xh m t).map M6:=by
 unfold Xh
 by_cases h:(m.any fun u=>decide (u.path=t.path))=true
 ·rw[Ax h];obtain⟨u,h1,h2⟩:=Bb.1 h;have h2:=BD h2
  have:(Value.string t.path,AV.agg (AL u))∈m.map M6:=Sx.2 ⟨u,h1,h2,rfl⟩
  rw[QH this,BW,BW];apply Bn;intro q _;simp only[Function.comp]
  by_cases e:q.path=t.path
  ·simp[e]
  ·have:¬Value.string q.path=.string t.path:=fun c=>e (by injection c)
   simp[e]
 ·rw[Ao h]
  have:∀b,(Value.string t.path,b)∉m.map M6:=fun b hb=>by
   obtain⟨u,h1,h2,_⟩:=Sx.1 hb;exact h (Bb.2 ⟨u,h1,by simp[h2]⟩)
  rw[K3 this,AH];rfl
theorem gI{m:List Tm}(hn:(EJ m).Nodup)(p:ByteArray){K:AV→Prop}{Z:Prop}(hy:∀u,Dy m p=some u→K (.agg (AL u)))(Sc:Dy m p=none→Z) :
  (∀a,(Value.string p,a)∈m.map M6→K a)∧((∀a,(Value.string p,a)∉m.map M6)→Z) :=
 ⟨fun a h=>by
  obtain⟨t,h1,h2,rfl⟩:=Sx.1 h;subst h2;exact hy t ((Mn hn).1 h1),fun h=>Sc (by
  cases e:Dy m p with
  |none=>rfl
  |some u=>exact absurd (Sx.2 ⟨u,Fs e,Hq e,rfl⟩) (h _))⟩
theorem Pd{t:Tm}(h:EQ t.set):Co t.set:=by
 unfold Co
 have:=Iu h;omega
theorem c57(l:List Tm)(hl:Co l)(hs:∀t∈l,Co t.set):PC 231 [sl AL l,.v (UU 232)] (.cmap Dm ((Dh l).map M6)):=by
 have hl:l.length≤1073741824:=hl;refine Ps (tq [10] [5,8]) Tryz.func231 rfl (Nz rfl) ?_;refine Xi {i:Nat // i≤l.length} (Xi (fun i=>⟨[(0,sl AL l),(1,.v (UU 232)),(5,.mref 10),(11,sl AL l),(12,vi (l.map AL).length),(13,vi i.1)],[(10,.map Dm ((Dh (l.take i.1)).map M6))],Aa⟩) (Xi (fun i=>l.length-i.1) (Yi (Xi ⟨0,AG _⟩ ?_) ?_)))
 ·exact⟨Z6,Z1,Fh,Tv⟩
 intro⟨i,h1⟩;have hn:=H7 (l.take i);refine Yi ?_ ?_
 ·intro h;have h:(i:Int)<(l.map AL).length:=h;have h:i<l.length:=by simpa using h
  have hg:l[i]?=some l[i]:=Ge h;refine Xi (AL l[i]) (Yi (Yi (Nn i) (by simp[hg])) (Yi rfl ?_));refine Yi (Nz rfl) (Yi (Nz rfl) ?_);have Fy:=hs l[i] (Ak h);refine Xi ⟨[(0,sl AL l),(1,.v (UU 232)),(5,.mref 10),(7,.ref 7 0),(11,sl AL l),(12,vi (l.map AL).length),(13,vi i)],[(7,.cells (AL l[i])),(10,.map Dm ((Dh (l.take i)).map M6))],Aa⟩ (Yi ⟨Z7,Z2,Fh,Tv⟩ ?_)
  have tail:∀u:Tm,Co u.set→Hc u l[i]=Ot (Dy (Dh (l.take i)) l[i].path) l[i]→E7 ((Dh (l.take i)).map M6) (.string l[i].path) (.agg (AL (Hc u l[i])))=(Dh (l.take (i+1))).map M6:=fun u hu e=>by
   have hp:(Ot (Dy (Dh (l.take i)) l[i].path) l[i]).path=l[i].path:=QN _ _ fun u h=>Hq h;have e2:=iT (Dh (l.take i)) (Hc u l[i]);have e3:(Hc u l[i]).path=l[i].path:=by rw[e];exact hp
   rw[e3]at e2;rw[e2,RK l i h,e];rfl
  refine gI hn l[i].path (fun u hu=>?_) (fun hu=>?_)
  ·have Ly:Co u.set:=Pd (PA _ u (Fs hu));refine Yi (Nz rfl) ?_;refine Xi ⟨[(0,sl AL l),(1,.v (UU 232)),(5,.mref 10),(7,.ref 7 0),(8,.ref 8 0),(11,sl AL l),(12,vi (l.map AL).length),(13,vi i)],[(7,.cells (AL l[i])),(8,.cells (AL u)),(10,.map Dm ((Dh (l.take i)).map M6))],Aa⟩ (Yi ⟨Z8,Z3,Fh,Tv⟩ ?_)
   have A2:=tail u Ly (by rw[bZ,hu];rfl);refine Yi (Nz rfl) (Yi (Nz rfl) ?_);refine Xi _ (Yi (y9 u l[i] Ly Fy) ?_);refine Yi (by kernel_rfl) ?_;refine Yi (Ii i (by omega)) ?_;refine Xi ⟨i+1,by omega⟩ ?_;have e1:HO.map Dm (E7 ((Dh (l.take i)).map M6) (.string l[i].path) (.agg (AL (Hc u l[i]))))=.map Dm ((Dh (l.take (i+1))).map M6):=by rw[A2]
   exact⟨Dl l.length i (by omega),Z6,⟨⟨e1,rfl⟩,Tv⟩,Fh,Tv⟩
  ·refine Yi (Nz rfl) ?_;refine Yi (Nz rfl) (Yi (Nz rfl) ?_);refine Xi ⟨[(0,sl AL l),(1,.v (UU 232)),(5,.mref 10),(7,.ref 7 0),(8,.ref 8 0),(11,sl AL l),(12,vi (l.map AL).length),(13,vi i)],[(7,.cells (AL l[i])),(8,.cells (AL l[i])),(10,.map Dm ((Dh (l.take i)).map M6))],Aa⟩ (Yi ⟨Z8,Z3,Fh,Tv⟩ ?_)
   have A2:=tail l[i] Fy (by rw[bZ,hu];rfl);refine Yi (Nz rfl) (Yi (Nz rfl) ?_);refine Xi _ (Yi (y9 l[i] l[i] Fy Fy) ?_);refine Yi (by kernel_rfl) ?_;refine Yi (Ii i (by omega)) ?_;refine Xi ⟨i+1,by omega⟩ ?_;have e1:HO.map Dm (E7 ((Dh (l.take i)).map M6) (.string l[i].path) (.agg (AL (Hc l[i] l[i]))))=.map Dm ((Dh (l.take (i+1))).map M6):=by rw[A2]
   exact⟨Dl l.length i (by omega),Z6,⟨⟨e1,rfl⟩,Tv⟩,Fh,Tv⟩
 ·intro h;have h:¬(i:Int)<(l.map AL).length:=h;have h:¬i<l.length:=by simpa using h
  have e:(Dh (l.take i)).map M6=(Dh l).map M6:=by rw[AJ (by omega)]
  exact .of_eq (Ab (AV.cmap Dm) e)
abbrev G2(l:List Tm):AV:=.tup [sl AL (QJ l),vb (C3 l).isSome]
abbrev x5:Sj:=⟨[],[],[(4,3)],[],[],[],[],[],[],[(25,4)],[4,7,10]⟩
abbrev SU(l:List Tm):HO:=.arr 3 (l.map AL)
abbrev Fz(l:List Tm):List Tm:=l.filter fun t=>!GT t
theorem l7{l:List Tm}{kv:Value×AV}{Ou : List (Value×AV)}(h:(l.map M6).Perm (kv::Ou)):∃t r,kv=M6 t∧Ou=r.map M6∧l.Perm (t::r):=by
 obtain⟨ps,h1,h2⟩:=MI h l rfl;cases ps with
 |nil=>cases h2
 |cons t r =>
  rw[AS,FN]at h2;exact⟨t,r,h2.1.symm,h2.2.symm,h1.symm⟩
theorem XO{l:List Tm}{t:Tm}(h:t∈Dh l)(hn:H8 t=true):C3 l=none:=by
 unfold C3;rw[Ax (Bb.2 ⟨t,(Jy l t).1 h,hn⟩)]
theorem ZI{l done s:List Tm}(h:done.Perm (Dh l))(hn:∀t∈done,H8 t=false)(hp:s.Perm (Fz done))(hs:s.Pairwise fun x y=>EM y.path x.path=false):C3 l=some s:=by
 unfold C3;rw[Ao]
 ·congr 1
  exact(Ql _ (hp.trans (h.filter _)) hs).symm
 ·intro c;obtain⟨t,h1,h2⟩:=Bb.1 c
  have:=hn t (h.mem_iff.2 ((Jy l t).2 h1))
  rw[h2]at this;cases this
theorem dz(l:List Tm):(Fz l).length≤l.length:=BB _ _
theorem t7(l:List Tm)(hl:Co l)(hs:∀t∈l,Co t.set):PC 204 [sl AL l] (G2 l):=by
 have dj:l.length≤1073741824:=hl;have zR:(Dh l).length≤l.length:=by have:=Oj l l.length (Al _);rwa [Dp]at this
 refine Ps x5 Tryz.func204 rfl (Nz rfl) ?_;refine Xi .pure (Xi _ (Yi (c57 l hl hs) ?_));refine Xi {p:List Tm×List Tm×Option (Value×AV) // (p.1++p.2.1).Perm (Dh l)∧∀t∈p.1,H8 t=false} (Xi (fun p=>⟨[(4,.msl 4 (Fz p.1.1).length),(9,.ref 9 0)],[(4,SU (Fz p.1.1)),(9,.iter ((Dh l).map M6) (p.1.2.1.map M6) p.1.2.2)],Aa⟩) (Xi (fun p=>p.1.2.1.length) (Yi (Xi ⟨([],Dh l,none),.refl _,fun t ht=>by cases ht⟩ ?_) ?_)))
 ·exact⟨Z2,Z2,Fh,Tv⟩
 intro⟨⟨done,rem,FV⟩,r1,r2⟩;have r1:(done++rem).Perm (Dh l):=r1;have r2:∀t∈done,H8 t=false:=r2;have hdl:done.length+rem.length≤l.length:=by have:=r1.length_eq;rw[Ad]at this;omega
 have qw:=dz done;refine Yi ?_ ?_
 ·intro hr;have hr:rem.map M6=[]:=hr;have hr:rem=[]:=DC.1 hr;subst hr;rw[BE]at r1;refine Xi (.gen [(4,1000)] 0) (Yi rfl ((c61 (Fz done) (by unfold Co;omega)).to ?_));intro s hq;have VH:s.length=(Fz done).length:=hq.1.length_eq;have hc:=ZI r1 r2 hq.1 hq.2;refine Xi ⟨[(4,.msl 4 (Fz done).length)],[(4,SU s)],Aa⟩ (Yi ⟨Z1,Z1,Fh,Tv⟩ ?_)
  refine Yi (by rw[Lm,VH]) ?_;have e:AV.tup [sl AL s,vb true]=G2 l:=by unfold G2 QJ;rw[hc];rfl
  exact .of_eq e
 ·intro kv Ou hp;refine BN (l7 hp) (fun t hp=>BN hp (fun r hp=>?_));have e1:=hp.1;have e2:=hp.2.1;subst e1;subst e2;have hp:=hp.2.2;have ux:t∈Dh l:=r1.mem_iff.1 (Bv _ (hp.mem_iff.2 (Ac ..)));have xv:=PA l t ux;have z8:=Pd xv;refine Xi ⟨[(4,.msl 4 (Fz done).length),(9,.ref 9 0)],[(4,SU (Fz done)),(9,.iter ((Dh l).map M6) (r.map M6) (some (M6 t)))],Aa⟩ (Yi ⟨Z2,Z2,Fh,Tv⟩ ?_)
  refine Yi (Nz rfl) (Yi (Nz rfl) ?_);have hv:PC 233 [.agg (AL t)] (vb (H8 t)):=iX xv▸c59 t z8;have ha:PC 234 [.agg (AL t)] (vb (GT t)):=cC xv▸c60 t z8;refine Bq (Bt (H8 t)) (fun h=>?_) (fun h=>?_)
  ·rw[h]at hv;refine Xi .pure (Xi _ (Yi (hv) ?_));have hc:=XO ux h;have e:AV.tup [.slice .none [],vb false]=G2 l:=by unfold G2 QJ;rw[hc];rfl
   have e0:Hm (.tup [.v (.slice none 0 0),vb false]) (.tup [.slice .none [],vb false]):=Hm.tup ⟨.nil,.refl _,trivial⟩;exact e0.trans (.of_eq e)
  ·rw[h]at hv;refine Xi .pure (Xi _ (Yi (hv) ?_));refine Xi ⟨[(4,.msl 4 (Fz done).length),(6,.ref 6 0),(9,.ref 9 0)],[(4,SU (Fz done)),(6,.cells (AL t)),(9,.iter ((Dh l).map M6) (r.map M6) (some (M6 t)))],Aa⟩ (Yi ⟨Z3,Z3,Fh,Tv⟩ ?_)
   refine Yi (Nz rfl) ?_;have UJ:((done++[t])++r).Perm (Dh l):=by
    rw[AM];exact(List.Perm.append_left _ hp.symm).trans r1
   have zS:∀u∈done++[t],H8 u=false:=fun u hu=>by
    rcases A6.1 hu with hu | hu
    ·exact r2 u hu
    ·rw[As.1 hu];exact h
   have W4:r.length<rem.length:=by rw[hp.length_eq,Au];omega
   refine Bq (Bt (GT t)) (fun h2=>?_) (fun h2=>?_)
   rotate_left
   ·rw[h2]at ha;refine Xi .pure (Xi _ (Yi (ha) ?_));have F8:CT 3 [AL t]∧((Fz done).map AL).length=(Fz done).length∧(((Fz done).map AL).length+[AL t].length)*48≤140737488355328∧((Fz done).map AL).length+[AL t].length≤9223372036854775807 :=
     ⟨⟨rfl,trivial⟩,by rw[Lm],by rw[Lm,Am];omega,by rw[Lm,Am];omega⟩
    refine Yi (Nz rfl) ?_;refine Yi F8 ?_;have hk:Fz (done++[t])=Fz done++[t]:=by unfold Fz;rw[DZ,ED,Ax (by rw[h2];rfl)];rfl
    have e1:AV.msl 4 (((Fz done).map AL).length+[AL t].length)=.msl 4 (Fz (done++[t])).length:=by rw[hk];simp
    have e2:HO.arr 3 ((Fz done).map AL++[AL t])=SU (Fz (done++[t])):=by rw[hk];simp
    refine Xi ⟨(done++[t],r,some (M6 t)),UJ,zS⟩ ?_;exact⟨W4,⟨⟨e1,rfl⟩,Zr,Tv⟩,⟨⟨e2,rfl⟩,Zr,Tv⟩,Fh,Tv⟩
   ·rw[h2]at ha;refine Xi .pure (Xi _ (Yi (ha) ?_));have hk:Fz (done++[t])=Fz done:=by unfold Fz;rw[DZ,ED,Ao (by rw[h2];decide)];simp
    have e1:AV.msl 4 (Fz done).length=.msl 4 (Fz (done++[t])).length:=by rw[hk]
    have e2:SU (Fz done)=SU (Fz (done++[t])):=by rw[hk]
    refine Xi ⟨(done++[t],r,some (M6 t)),UJ,zS⟩ ?_;exact⟨W4,⟨⟨e1,rfl⟩,Zr,Tv⟩,⟨⟨e2,rfl⟩,Zr,Tv⟩,Fh,Tv⟩
end Go.Eng
