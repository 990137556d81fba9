/- Lemmas for the claims of this seat, without a condition: part 19 (C16, C17, C18, C19, C20, C21, C22, C23). -/
import Derived.Test.YtddfphmpfnmknaaGreatDoorA18
import Derived.Test.YtddfphmpfnmknaaGreatDoorA02
namespace Go.Eng
open Go.Proofs
theorem A3.imp{P:Program}{f:Nat}{args:List AV}{h0:Nat→HO}{Q Q' : AV→(Nat→HO)→Prop}(h:A3 P f args h0 Q)(hq:∀r h',Q r h'→Q' r h'):A3 P f args h0 Q':=h.mono fun r h' q=>⟨r,.refl _,hq r h' q⟩
theorem A3.to{P:Program}{f:Nat}{args:List AV}{h0:Nat→HO}{α:Type}{r0:AV}{p:α→Prop}{H:α→Nat→HO}{Q' : AV→(Nat→HO)→Prop}(h:A3 P f args h0 fun r h'=>r=r0∧∃x,p x∧h'=H x)(k:∀x,p x→Q' r0 (H x)):A3 P f args h0 Q' :=
 h.imp fun r h' ⟨e1,x,e2,e3⟩=>by subst e1;subst e3;exact k x e2
theorem lO(n:Nat)(h:n≤1073741824):∃lim:Nat,lim<100∧PC 98 [.v (.int .u64 (IntKind.u64.wrap (n:Int)))] (vi lim):=by
 refine⟨Lib.bitLen n,Nat.lt_of_le_of_lt (Lib.bitLen_le n 62 (by omega) (by omega)) (by omega),?_⟩;have wr:IntKind.u64.wrap (n:Int)=n:=by simp[IntKind.wrap,IntKind.bits,IntKind.signed];omega
 rw[wr];refine KX [.int .u64 n] (.int .i64 (Lib.bitLen n:Nat)) (cK 98 Tryz.func98 (by kernel_rfl) rfl) rfl (fun _ _=>.v _ _) fun w _=>?_
 have:=Any.bits_Len Tryz.layBits (n:Int) w (by omega) (by omega)
 rw[Cg]at this;exact this
theorem sF(l:List (Int×Int))(hl:CJ l)(h:∀x∈l,0≤x.1∧x.1≤1000000) :
  A3 Tryz.prog 168 [.msl 1000 l.length,.v (TH 169)] (Aj [(1000,.arr 2 (l.map Ao))] Aa) fun r h' =>
   r=.tup []∧∃l' : List (Int×Int),(l'.Perm l∧l'.Pairwise (fun x y=>x.1≤y.1))∧h'=Aj [(1000,.arr 2 (l'.map Ao))] Aa:=by
 obtain⟨lim,W3,hb⟩:=lO l.length hl;refine BV (Ll F1) [(1000,1000)] rfl Cn hm rfl Tryz.func168 (by kernel_rfl) rfl (Nz rfl) (by kernel_rfl) rfl ?_;refine Xi .pure (Xi _ (Yi (hb) ?_));refine Xi (.gen [(1000,1000)] 0) (Yi rfl ((sM l hl h lim W3).imp ?_));intro r h' hq;refine CC hq.2 (fun l' Ph=>?_);refine Xi (.tup []) (Yi ?_ (Yi rfl (Xi l' (Yi ⟨Ph.1,Ph.2.1⟩ ?_))))
 ·exact .refl _
 ·rw[Ph.2.2];rfl
theorem yn(l:List Tm)(hl:CJ l) :
  A3 Tryz.prog 218 [.msl 1000 l.length,.v (TH 219)] (Aj [(1000,.arr 3 (l.map AC))] Aa) fun r h' =>
   r=.tup []∧∃l' : List Tm,(l'.Perm l∧l'.Pairwise (fun x y=>Ep y.path x.path=false))∧h'=Aj [(1000,.arr 3 (l'.map AC))] Aa:=by
 obtain⟨lim,W3,hb⟩:=lO l.length hl;refine BV (Ll F1) [(1000,1000)] rfl Cn hm rfl Tryz.func218 (by kernel_rfl) rfl (Nz rfl) (by kernel_rfl) rfl ?_;refine Xi .pure (Xi _ (Yi (hb) ?_));refine Xi (.gen [(1000,1000)] 0) (Yi rfl ((su l hl lim W3).imp ?_));intro r h' hq;refine CC hq.2 (fun l' Ph=>?_);refine Xi (.tup []) (Yi ?_ (Yi rfl (Xi l' (Yi ⟨Ph.1,Ph.2.1⟩ ?_))))
 ·exact .refl _
 ·rw[Ph.2.2];rfl
abbrev xE(l:List (Nat×Nat))(cut:List Nat):Ro:=⟨[],[],l,[],[],[],[],[],[],[],cut⟩
abbrev IE(l:List (Int×Int)):HO:=.arr 2 (l.map Ao)
theorem Yh(l:Bh)(i:Nat):(CE (l.take i)).length≤i:=by
 unfold CE
 have:=BA (fun x:Int×Int=>decide (x.1<x.2)) ((l.take i).map Ha)
 rw[Lm,AE]at this;omega
theorem Ui{l:Bh}{i:Nat}(h:i<l.length)(h3:(Ha l[i]).1<(Ha l[i]).2):CE (l.take (i+1))=CE (l.take i)++[Ha l[i]]:=by
 rw[Bi,Ge h,NV];unfold CE;simp[h3]
theorem Wy{l:Bh}{i:Nat}(h:i<l.length)(h3:¬(Ha l[i]).1<(Ha l[i]).2):CE (l.take (i+1))=CE (l.take i):=by
 rw[Bi,Ge h,NV];unfold CE;simp[h3]
abbrev arr2(s j:Bh)(i:Nat):Bh:=(By (s.take i)).reverse++(j++s.drop i)
theorem iB(s j:Bh)(i:Nat)(h:i<s.length)(hj:(By (s.take i)).length+j.length=i):(arr2 s j i)[i]?=some s[i]:=by
 unfold arr2;rw[AZ (by rw[Di];omega),AZ (by rw[Di];omega),Di,Dr];rw[show i+(i-(By (List.take i s)).length-j.length)=i by omega,Ge h]
theorem ay(s j:Bh)(i:Nat){y:Int×Int}{t:Bh}(e:By (s.take i)=y::t):(arr2 s j i)[t.length]?=some y:=by
 unfold arr2;rw[e,PS,BF,AZ (by rw[Di];omega),Di,F5];rfl
theorem dj(s j:Bh)(i:Nat)(h:i≤s.length)(hj:(By (s.take i)).length+j.length=i):(arr2 s j i).length=s.length:=by
 unfold arr2;simp only[Ad,Di,Dm];omega
theorem Zi{α:Type}(s:List α)(i:Nat)(h:i<s.length):s.drop i=s[i]::s.drop (i+1):=Bl h
theorem T7(s j:Bh)(i:Nat)(h:i<s.length)(e:KA (By (s.take i)) s[i]=s[i]::By (s.take i)) :
  (arr2 s j i).set (By (s.take i)).length s[i]=arr2 s (j++[s[i]]).tail (i+1):=by
 unfold arr2;rw[Ga s i h,e,PS,List.set_append_right _ _ (by rw[Di];exact Al _),Di,F5,BF,Zi s i h]
 congr 1
 cases j with
 |nil=>rfl
 |cons a b=>simp
theorem ax(s j:Bh)(i:Nat)(h:i<s.length){y:Int×Int}{t:Bh}(e:By (s.take i)=y::t)(Hb:s[i].1≤y.2) :
  (arr2 s j i).set t.length (y.1,max y.2 s[i].2)=arr2 s (j++[s[i]]) (i+1):=by
 unfold arr2;have e2:KA (y::t) s[i]=(y.1,max y.2 s[i].2)::t:=by show(if s[i].1≤y.2 then _ else _)=_;rw[Aq Hb]
 rw[Ga s i h,e,e2,PS,PS,BF,List.set_append_right _ _ (by rw[Di];exact Al _),Di,F5,Zi s i h];simp
theorem Dp{α:Type}{enc:α→List AV}{l:List α}{i:Nat}{x:α}(h:l[i]?=some x):(l.map enc)[i]?=some (enc x):=by rw[AF,h];rfl
theorem Wv(l:List (Int×Int))(hl:CJ l):PC 116 [sl Ao l] (sl Ao (canon l)):=by
 have hl:l.length≤1073741824:=hl;refine FR (cJ (xE [(3,2)] [5,14,15,16])) rfl Cn hm rfl Tryz.func116 (by kernel_rfl) rfl (Nz rfl) (by kernel_rfl) ?_;refine Xi {i:Nat // i≤l.length} (Xi (fun i=>⟨[(0,sl Ao l),(3,.msl 3 (CE (l.take i.1)).length),(9,sl Ao l),(10,vi (l.map Ao).length),(11,vi i.1)],[(3,IE (CE (l.take i.1)))],Aa⟩) (Xi (fun i=>l.length-i.1) (Yi (Xi ⟨0,by simp⟩ ?_) ?_)))
 ·exact⟨Z5,Z1,Fh,Tv⟩
 ·intro⟨i,h1⟩;have hn:=Yh l i;refine Yi ?_ ?_
  ·intro h;have h:(i:Int)<(l.map Ao).length:=h;have h:i<l.length:=by simpa using h
   have hg:l[i]?=some l[i]:=Ge h;refine Xi (Ao l[i]) (Yi (Yi (Nn i) (by simp[hg])) (Yi rfl ?_));refine Yi (Nz rfl) (Yi (Nz rfl) ?_);refine Xi ⟨[(0,sl Ao l),(3,.msl 3 (CE (l.take i)).length),(5,.ref 5 0),(9,sl Ao l),(10,vi (l.map Ao).length),(11,vi i)],[(3,IE (CE (l.take i))),(5,.cells (Ao l[i]))],Aa⟩ (Yi ⟨Z6,Z2,Fh,Tv⟩ ?_)
   refine Yi (Nz rfl) ?_;refine Yi ?_ ?_
   ·intro h3;have h3:(Ha l[i]).1<(Ha l[i]).2:=h3;refine Yi (Nz rfl) ?_;have G9:Df 2 [[vi (max l[i].1 0),vi (min l[i].2 1000000)]]∧((CE (l.take i)).map Ao).length=(CE (l.take i)).length∧(((CE (l.take i)).map Ao).length+[[vi (max l[i].1 0),vi (min l[i].2 1000000)]].length)*16≤140737488355328∧((CE (l.take i)).map Ao).length+[[vi (max l[i].1 0),vi (min l[i].2 1000000)]].length≤9223372036854775807 :=
     ⟨⟨rfl,trivial⟩,by rw[Lm],by rw[Lm,A5];omega,by rw[Lm,A5];omega⟩
    refine Yi G9 ?_;refine Yi (Ii i (by omega)) ?_;refine Xi ⟨i+1,by omega⟩ ?_;have e1:AV.msl 3 (((CE (l.take i)).map Ao).length+[[vi (max l[i].1 0),vi (min l[i].2 1000000)]].length)=.msl 3 (CE (l.take (i+1))).length:=by rw[Ui h h3];simp
    have e2:HO.arr 2 ((CE (l.take i)).map Ao++[[vi (max l[i].1 0),vi (min l[i].2 1000000)]])=IE (CE (l.take (i+1))):=by rw[Ui h h3];simp[Ha]
    exact⟨Dl l.length i (by omega),⟨Zr,⟨e1,rfl⟩,Zr,Zr,Zr,Tv⟩,⟨⟨e2,rfl⟩,Tv⟩,Fh,Tv⟩
   ·intro h3;have h3:¬(Ha l[i]).1<(Ha l[i]).2:=h3;refine Yi (Ii i (by omega)) ?_;refine Xi ⟨i+1,by omega⟩ ?_;have e1:AV.msl 3 (CE (l.take i)).length=.msl 3 (CE (l.take (i+1))).length:=by rw[Wy h h3]
    have e2:IE (CE (l.take i))=IE (CE (l.take (i+1))):=by rw[Wy h h3]
    exact⟨Dl l.length i (by omega),⟨Zr,⟨e1,rfl⟩,Zr,Zr,Zr,Tv⟩,⟨⟨e2,rfl⟩,Tv⟩,Fh,Tv⟩
  ·intro h;have h:¬(i:Int)<(l.map Ao).length:=h;have h:¬i<l.length:=by simpa using h
   have ei:CE (l.take i)=CE l:=by rw[AD (by omega)]
   have hN:(CE (l.take i)).length=(CE l).length:=by rw[ei]
   refine Xi (.gen [(3,1000)] 0) (Yi rfl ((sF (CE (l.take i)) (by unfold CJ;omega) (fun x hx=>by have:=Uh hx;omega)).to ?_));intro s hs;have Wh:s.length=(CE (l.take i)).length:=hs.1.length_eq;have hsN:s.length≤1073741824:=by omega
   have fin:(By s).reverse=canon l:=QB (by rw[←ei];exact hs.1) hs.2;refine Xi {p:Nat×Bh // p.1≤s.length∧(By (s.take p.1)).length+p.2.length=p.1} (Xi (fun p=>⟨[(3,.msl 3 (CE (l.take i)).length),(6,vi (By (s.take p.1.1)).length),(34,.msl 3 (CE (l.take i)).length),(35,vi (CE (l.take i)).length),(36,vi p.1.1)],[(3,IE (arr2 s p.1.2 p.1.1))],Aa⟩) (Xi (fun p=>s.length-p.1.1) (Yi (Xi ⟨(0,[]),AL _,rfl⟩ ?_) ?_)))
   ·exact⟨Z5,Z1,Fh,Tv⟩
   intro⟨⟨k,j⟩,k1,k2⟩;have k1:k≤s.length:=k1;have k2:(By (s.take k)).length+j.length=k:=k2;have Cu:=dj s j k k1 k2;have Sm:(CE (l.take i)).length=((arr2 s j k).map Ao).length:=by rw[Lm,Cu,Wh]
   refine Yi ?_ ?_
   ·intro h2;have h2:(k:Int)<(CE (l.take i)).length:=h2;have hk:k<s.length:=by omega
    have kE:=Dp (enc:=Ao) (iB s j k hk k2);refine Yi ⟨by show(0:Int)≤k;omega,by show(k:Int)<_;omega⟩ ?_;refine Yi Sm (Xi (Ao s[k]) (Yi kE (Yi (Nz rfl) (Yi (Nz rfl) ?_))));refine Xi ⟨[(3,.msl 3 (CE (l.take i)).length),(6,vi (By (s.take k)).length),(7,vi k),(8,.ref 8 0),(34,.msl 3 (CE (l.take i)).length),(35,vi (CE (l.take i)).length),(36,vi k)],[(3,IE (arr2 s j k)),(8,.cells (Ao s[k]))],Aa⟩ (Yi ⟨Z7,Z2,Fh,Tv⟩ ?_)
    have hr:=SI s k k1;refine CQ (Nat.eq_zero_or_pos k) (fun k0=>?_) (fun k0=>?_)
    ·refine Yi ?_ ?_
     ·intro h4;have h4:(0:Int)<k:=h4;omega
     ·intro _;refine Yi (by kernel_rfl) ?_;have Ja:KA (By (s.take k)) s[k]=s[k]::By (s.take k):=by subst k0;rfl
      have cV:(By (s.take k)).length<(arr2 s j k).length:=by omega
      have hz:=Dp (enc:=Ao) (Ge cV);refine Xi ⟨[(3,.msl 3 (CE (l.take i)).length),(6,vi (By (s.take k)).length),(8,.ref 8 0),(34,.msl 3 (CE (l.take i)).length),(35,vi (CE (l.take i)).length),(36,vi k)],[(3,IE (arr2 s j k)),(8,.cells (Ao s[k]))],Aa⟩ (Yi ⟨⟨⟨rfl,rfl⟩,⟨rfl,rfl⟩,⟨rfl,rfl⟩,⟨rfl,rfl⟩,⟨rfl,rfl⟩,⟨rfl,rfl⟩,Tv⟩,⟨⟨rfl,rfl⟩,⟨rfl,rfl⟩,Tv⟩,Fh,Tv⟩ ?_);refine Yi (Nz rfl) (Yi ⟨by show(0:Int)≤((By (s.take k)).length:Int);omega,by show((By (s.take k)).length:Int)<_;omega⟩ ?_);refine Yi Sm (Xi (Ao (arr2 s j k)[(By (s.take k)).length]) (Yi hz (Yi (Nz rfl) ?_)));refine Yi (by show BK (((By (s.take k)).length:Int)+1);unfold BK;omega) ?_;refine Yi (Ii k (by omega)) ?_;have hm:=Ga s k hk;have e1:vi (((By (s.take k)).length:Int)+1)=vi (By (s.take (k+1))).length:=by rw[hm,Ja];simp
      have e2:HO.arr 2 (((arr2 s j k).map Ao).set (By (s.take k)).length [vi s[k].1,vi s[k].2])=IE (arr2 s (j++[s[k]]).tail (k+1)):=by rw[←T7 s j k hk Ja];simp only[IE,G7]
      refine Xi ⟨(k+1,(j++[s[k]]).tail),by show k+1≤s.length;omega,by show(By (s.take (k+1))).length+((j++[s[k]]).tail).length=k+1;rw[hm,Ja];simp;omega⟩ ?_;exact⟨Dl s.length k (by omega),⟨Zr,⟨e1,rfl⟩,Zr,Zr,Zr,Tv⟩,⟨⟨e2,rfl⟩,Tv⟩,Fh,Tv⟩
    ·refine Yi ?_ ?_
     ·intro _;obtain⟨y,t,e⟩:∃y t,By (s.take k)=y::t:=by
       cases hc:By (s.take k)with
       |nil=>have:=hr.2 k0;rw[hc]at this;simp at this
       |cons y t=>exact⟨y,t,rfl⟩
      have ht:(((By (s.take k)).length:Int)-1).toNat=t.length:=by rw[e];simp
      have hy:((arr2 s j k).map Ao)[(((By (s.take k)).length:Int)-1).toNat]?=some (Ao y):=by rw[ht];exact Dp (ay s j k e)
      refine Yi (by show BK (((By (s.take k)).length:Int)-1);unfold BK;omega) ?_;have YA:=hr.2 k0;refine Yi ⟨by show(0:Int)≤((By (s.take k)).length:Int)-1;omega,by show((By (s.take k)).length:Int)-1<_;omega⟩ ?_;refine Yi Sm (Xi (Ao y) (Yi hy ?_));refine Yi ?_ ?_
      ·intro h5;have h5:s[k].1≤y.2:=h5;refine Yi (by kernel_rfl) ?_;refine Xi ⟨[(3,.msl 3 (CE (l.take i)).length),(6,vi (By (s.take k)).length),(8,.ref 8 0),(34,.msl 3 (CE (l.take i)).length),(35,vi (CE (l.take i)).length),(36,vi k)],[(3,IE (arr2 s j k)),(8,.cells (Ao s[k]))],Aa⟩ (Yi ⟨⟨⟨rfl,rfl⟩,⟨rfl,rfl⟩,⟨rfl,rfl⟩,⟨rfl,rfl⟩,⟨rfl,rfl⟩,⟨rfl,rfl⟩,Tv⟩,⟨⟨rfl,rfl⟩,⟨rfl,rfl⟩,Tv⟩,Fh,Tv⟩ ?_);refine Yi (by show BK (((By (s.take k)).length:Int)-1);unfold BK;omega) (Yi (by show BK (((By (s.take k)).length:Int)-1);unfold BK;omega) ?_);refine Yi ⟨by show(0:Int)≤((By (s.take k)).length:Int)-1;omega,by show((By (s.take k)).length:Int)-1<_;omega⟩ ?_;refine Yi Sm (Xi (Ao y) (Yi hy ?_));refine Yi ⟨by show(0:Int)≤((By (s.take k)).length:Int)-1;omega,by show((By (s.take k)).length:Int)-1<_;omega⟩ ?_;refine Yi Sm (Xi (Ao y) (Yi hy (Yi (Nz rfl) ?_)));refine Yi (by kernel_rfl) ?_;refine Yi (Ii k (by omega)) ?_;have hm:=Ga s k hk;have Ja:KA (By (s.take k)) s[k]=(y.1,max y.2 s[k].2)::t:=by rw[e];show(if s[k].1≤y.2 then _ else _)=_;rw[Aq h5]
       have e1:vi (By (s.take k)).length=vi (By (s.take (k+1))).length:=by rw[hm,Ja,e];simp
       have e2:HO.arr 2 (((arr2 s j k).map Ao).set (((By (s.take k)).length:Int)-1).toNat [vi y.1,vi (max y.2 s[k].2)])=IE (arr2 s (j++[s[k]]) (k+1)):=by rw[←ax s j k hk e h5,ht];simp only[IE,G7]
       refine Xi ⟨(k+1,j++[s[k]]),by show k+1≤s.length;omega,by show(By (s.take (k+1))).length+(j++[s[k]]).length=k+1;rw[hm,Ja,Ad,A5];rw[e]at k2;simp only[Ay]at k2⊢;omega⟩ ?_;exact⟨Dl s.length k (by omega),⟨Zr,⟨e1,rfl⟩,Zr,Zr,Zr,Tv⟩,⟨⟨e2,rfl⟩,Tv⟩,Fh,Tv⟩
      ·intro h5;have h5:¬s[k].1≤y.2:=h5;refine Yi (by kernel_rfl) ?_;have Ja:KA (By (s.take k)) s[k]=s[k]::By (s.take k):=by rw[e];show(if s[k].1≤y.2 then _ else _)=_;rw[Ai h5]
       have cV:(By (s.take k)).length<(arr2 s j k).length:=by omega
       have hz:=Dp (enc:=Ao) (Ge cV);refine Xi ⟨[(3,.msl 3 (CE (l.take i)).length),(6,vi (By (s.take k)).length),(8,.ref 8 0),(34,.msl 3 (CE (l.take i)).length),(35,vi (CE (l.take i)).length),(36,vi k)],[(3,IE (arr2 s j k)),(8,.cells (Ao s[k]))],Aa⟩ (Yi ⟨⟨⟨rfl,rfl⟩,⟨rfl,rfl⟩,⟨rfl,rfl⟩,⟨rfl,rfl⟩,⟨rfl,rfl⟩,⟨rfl,rfl⟩,Tv⟩,⟨⟨rfl,rfl⟩,⟨rfl,rfl⟩,Tv⟩,Fh,Tv⟩ ?_);refine Yi (Nz rfl) (Yi ⟨by show(0:Int)≤((By (s.take k)).length:Int);omega,by show((By (s.take k)).length:Int)<_;omega⟩ ?_);refine Yi Sm (Xi (Ao (arr2 s j k)[(By (s.take k)).length]) (Yi hz (Yi (Nz rfl) ?_)));refine Yi (by show BK (((By (s.take k)).length:Int)+1);unfold BK;omega) ?_;refine Yi (Ii k (by omega)) ?_;have hm:=Ga s k hk;have e1:vi (((By (s.take k)).length:Int)+1)=vi (By (s.take (k+1))).length:=by rw[hm,Ja];simp
       have e2:HO.arr 2 (((arr2 s j k).map Ao).set (By (s.take k)).length [vi s[k].1,vi s[k].2])=IE (arr2 s (j++[s[k]]).tail (k+1)):=by rw[←T7 s j k hk Ja];simp only[IE,G7]
       refine Xi ⟨(k+1,(j++[s[k]]).tail),by show k+1≤s.length;omega,by show(By (s.take (k+1))).length+((j++[s[k]]).tail).length=k+1;rw[hm,Ja];simp;omega⟩ ?_;exact⟨Dl s.length k (by omega),⟨Zr,⟨e1,rfl⟩,Zr,Zr,Zr,Tv⟩,⟨⟨e2,rfl⟩,Tv⟩,Fh,Tv⟩
     ·intro h4;have h4:¬(0:Int)<k:=h4;omega
   ·intro h2;have h2:¬(k:Int)<(CE (l.take i)).length:=h2;have hk:k=s.length:=by omega
    have hr:=SI s k k1;have mM:((((arr2 s j k).map Ao).take ((By (s.take k)).length:Int).toNat).drop 0)=(canon l).map Ao:=by
     rw[List.drop_zero,Cg,←List.map_take,←fin];unfold arr2
     have:(By (s.take k)).length=(By (s.take k)).reverse.length:=by rw[Di]
     rw[this,List.take_left,hk,DU]
    refine Yi ⟨Sm,by show(0:Int)≤0;omega,by show(0:Int)≤((By (s.take k)).length:Int);omega,by show((By (s.take k)).length:Int)≤(((arr2 s j k).map Ao).length:Int);omega,.inr ⟨rfl,by simp⟩⟩ ?_;exact .of_eq (Ac (AV.slice .none) mM)
end Go.Eng
namespace Go.Eng
open Go.Proofs Go.Sort
abbrev Gj(z:Int):List AV:=[vi z]
theorem Pv{α:Type}[Inhabited α](enc:α→Value)(w:World)(b:Nat)(d:Array α):putRow enc w b 0 d=putRow id w b 0 (d.map enc):=by
 unfold putRow
 congr 1
 funext c
 unfold putCells;apply Array.ext
 ·simp
 ·intro i h1 h2;simp only[Array.getElem_mapIdx,Array.size_map]
  by_cases h:i<d.size
  ·rw[Aq (by omega),Aq (by omega)];rw[Ds d (i-0) (by omega),Ds (d.map enc) (i-0) (by simpa using h)];simp
  ·rw[Ai (by omega),Ai (by omega)]
theorem Uo(zs:List Int):(zs.map Gj).flatten=(zs.map fun z=>Value.int .i64 z).map AV.v:=by
 induction zs with
 |nil=>rfl
 |cons z zs ih=>rw[AK,Bv,ih];rfl
theorem MB(g:Gh)(w:World)(U:Nat→Prop)(vs:List Value)(h:∀x∈vs,x.oneCell'=true):Cs g w U (vs.map .v) vs :=
 ⟨by simp,h,fun i av x q1 q2=>by
  rw[AF,q2]at q1;cases q1;exact .v _ _⟩
theorem KZ{g:Gh}{w:World}{U:Nat→Prop}{vs us:List Value}(h:Cs g w U (vs.map .v) us):us=vs:=by
 apply CU;intro i;have hl:=h.1;rw[Lm]at hl
 by_cases hi:i<vs.length
 ·have:=h.2.2 i (.v vs[i]) us[i] (by rw[AF,Ge hi];rfl) (Ge (by omega))
  rw[Ge hi,Ge (by omega),this.v_eq]
 ·rw[A2 (by omega),A2 (by omega)]
theorem sL(zs:List Int)(hl:CJ zs)(Dt:zs≠[]) :
  A3 Tryz.prog 242 [.msl 1000 zs.length] (Aj [(1000,.arr 1 (zs.map Gj))] Aa) fun r h' =>
   r=.tup []∧∃l' : List Int,(l'.Perm zs∧l'.Pairwise fun a b=>a≤b)∧h'=Aj [(1000,.arr 1 (l'.map Gj))] Aa:=by
 have hl:zs.length≤1073741824:=hl;have hE:FU Tryz.prog 242:=cK 242 Tryz.func242 (by kernel_rfl) rfl;have G1:=OX (P:=Tryz.prog) (f:=242) (es:=zs.map Gj) (sz:=1) (rest:=[]) (Q:=fun Ft=>∃l' : List Int,(l'.Perm zs∧l'.Pairwise fun a b=>a≤b)∧Ft=l'.map Gj) hE ?_ ?_
 ·rw[Lm]at G1;refine⟨hE,fun g w vals q1 q2 q3=>(G1.2 g w vals q1 q2 q3).mono fun _ _ ⟨v,r,h',g',e1,⟨e2,Ft,⟨l',p1,p2⟩,p3⟩,rest⟩=>⟨v,r,h',g',e1,⟨e2,l',p1,by rw[p3,p2]⟩,rest⟩⟩
 ·intro e
  have:zs=[]:=by simpa using e
  exact absurd this Dt
 ·intro g w b cap F hr hF hH hb;have pn:F.toList=zs.map fun z=>Value.int .i64 z:=KZ (by rw[←Uo];exact hr);have d6:F=zs.toArray.map fun z=>Value.int .i64 z:=It.1 (by rw[pn];simp);have po:Holds (Value.int .i64) w b 0 zs.toArray:=fun j hj=>by
   have:=hH j (by rw[d6];simpa using hj)
   refine⟨this.1.trans ?_,this.2⟩;rw[d6,Ds _ j (by simpa using hj),Ds _ j hj];simp
  have hc:=Any.slices_Sort_int Tryz.laySortInts b 0 cap zs w po hb (by omega);rw[Lm];refine hc.mono ?_
  rintro e w' ⟨rfl,n,os,rfl⟩
  have II:(zs.mergeSort fun x y=>decide (x≤y)).Perm zs:=List.mergeSort_perm _ _;have Cu:=II.length_eq;refine⟨rfl,(zs.mergeSort fun x y=>decide (x≤y)).toArray.map fun z=>Value.int .i64 z,(zs.mergeSort fun x y=>decide (x≤y)).map Gj,n,os,?_,⟨_,⟨II,?_⟩,rfl⟩,by simp[Cu],fun cs hcs=>?_,fun g w _=>?_,by rw[Pv]⟩
  ·rw[d6];simp[Cu]
  ·have:=List.pairwise_mergeSort (le:=fun x y:Int=>decide (x≤y)) (fun a b c h1 h2=>by simp only[Au]at *;omega) (fun a b=>by simp only[Ci,Au];omega) zs
   exact this.imp fun h=>Ba h
  ·obtain⟨x,_,rfl⟩:=Ak.1 hcs;rfl
  ·rw[Uo];have e:((zs.mergeSort fun x y=>decide (x≤y)).toArray.map fun z=>Value.int .i64 z).toList=(zs.mergeSort fun x y=>decide (x≤y)).map fun z=>Value.int .i64 z:=by simp
   rw[e];exact MB _ _ _ _ fun x hx=>by
    obtain⟨z,_,rfl⟩:=Ak.1 hx;rfl
-- maps from numbers to numbers
abbrev VW:EB:=⟨false,[.int .i64]⟩
abbrev kI(z:Int):Value:=.int .i64 z
abbrev Lp(p:Int×Int):Value×AV:=(kI p.1,vi p.2)
abbrev Fb(s:Bh):List AV:=[sl Ao s]
theorem QY{m:List (Int×Int)}{k:Int}{a:AV}:(kI k,a)∈m.map Lp↔∃v,(k,v)∈m∧a=vi v:=by
 rw[Ak];constructor
 ·rintro⟨⟨k',v⟩,h1,h2⟩
  simp only[FE,Value.int.injEq,true_and]at h2;obtain⟨rfl,rfl⟩:=h2;exact⟨v,h1,rfl⟩
 ·rintro⟨v,h1,rfl⟩
  exact⟨(k,v),h1,rfl⟩
theorem Q0(m:List (Int×Int))(k v:Int):EL (m.map Lp) (kI k) (vi v)=(KY m k v).map Lp:=by
 unfold KY
 by_cases h:(m.any fun p=>decide (p.1=k))=true
 ·rw[Aq h];obtain⟨p,h1,h2⟩:=Bd.1 h;have h2:=Ba h2
  have:(kI k,vi p.2)∈m.map Lp:=QY.2 ⟨p.2,by rw[←h2];exact h1,rfl⟩
  rw[Po this,BG,BG];apply A8;intro q _;simp only[Function.comp]
  by_cases e:q.1=k
  ·simp[e]
  ·have:¬kI q.1=kI k:=fun c=>e (by injection c)
   simp[e]
 ·rw[Ai h]
  have:∀b,(kI k,b)∉m.map Lp:=fun b hb=>by
   obtain⟨v,h1,_⟩:=QY.1 hb;exact h (Bd.2 ⟨(k,v),h1,by simp⟩)
  rw[Kq this,Az];rfl
theorem Of{T:Gg}{e:Nat}{BU:List (Value×AV)}{kx:Value}{K:AV→Prop}(a0 z0:AV)(h1:∀a,(kx,a)∈BU→a=a0)(hz:(∀a,(kx,a)∉BU)→a0=z0)(h2:K z0→J3 T e K)(k:K a0) :
  (∀a,(kx,a)∈BU→K a)∧((∀a,(kx,a)∉BU)→J3 T e K):=⟨fun a h=>by rw[h1 a h];exact k,fun hn=>h2 (hz hn▸k)⟩
theorem PL(m:List (Int×Int))(k:Int):(∀a,(kI k,a)∉m.map Lp)→vi (E8 m k)=vi 0:=fun QI=>by
 rw[gV fun hk=>by
  obtain⟨p,hp,e⟩:=Ak.1 hk;exact QI (vi p.2) (QY.2 ⟨p.2,by rw[←e];exact hp,rfl⟩)]
theorem PK{m:List (Int×Int)}(hn:(ET m).Nodup)(k:Int):∀a,(kI k,a)∈m.map Lp→a=vi (E8 m k):=fun a h=>by
 obtain⟨v,h1,rfl⟩:=QY.1 h;rw[gU hn h1]
theorem Ib.bound{m:List (Int×Int)}{S:Bh}(h:Ib m S)(k:Int):-(S.length:Int)≤E8 m k∧E8 m k≤S.length:=by
 rw[h.val]
 have:cF S k≤S.length:=List.countP_le_length
 have:cT S k≤S.length:=List.countP_le_length
 omega
theorem Yp(l:List Bh):(l.map canon).flatten.length≤l.length*1000000:=by
 induction l with
 |nil=>simp
 |cons s l ih =>
  rw[AK,Bv,Ad,Ay]
  have:=HR (B9 s)
  omega
theorem Ib.few{m:List (Int×Int)}{S:Bh}(h:Ib m S):m.length≤1000001:=by
 have:=H9 (m:=(List.range 1000001).map Int.ofNat) h.nd fun k hk=>by
  have:=h.rng k hk
  exact Ak.2 ⟨k.toNat,List.mem_range.2 (by omega),by show(k.toNat:Int)=k;omega⟩
 unfold ET at this;rw[Lm,Lm,PR]at this;exact this
theorem Uy(keep:Nat→Bool)(m:List (Int×Int))(B:List Int):∀n,(En keep m B n).length≤n
 |0=>Al _
 |n+1=>by
  unfold En
  have:=Uy keep m B n
  rw[Ad];split
  ·split<;>simp<;>omega
  ·simp;omega
end Go.Eng
namespace Go.Eng
open Go.Proofs
abbrev zP:Ro:=⟨[],[(12,2)],[(44,1)],[],[],[],[],[],[],[],[8,9,15,23,25,26]⟩
theorem lS(F:AV)(keep:Nat→Bool)(l:List Bh)(hl:CJ l)(hs:∀s∈l,CJ s)(hid:∀h,TR h F=true)(hF:∀h (n:Int),0≤n→n≤l.length→OU Tryz.prog (str h F) [vi n] (vb (keep n.toNat)))
  (R:Bh) (hR:Ew R) (yH:∀p,has R p=(Lo p&&keep (cI l p))):PC 209 [F,sl Fb l] (sl Ao R):=by
 have hl:l.length≤1073741824:=hl;refine Ps zP Tryz.func209 rfl (Nz rfl) ?_;refine Xi {p:Nat×List (Int×Int) // p.1≤l.length∧Ib p.2 ((l.take p.1).map canon).flatten} (Xi (fun p=>⟨[(0,F),(5,.mref 15),(17,sl Fb l),(18,vi (l.map Fb).length),(19,vi p.1.1)],[(15,.map VW (p.1.2.map Lp))],Aa⟩) (Xi (fun p=>l.length-p.1.1) (Yi (Xi ⟨(0,oY),AL _,iO⟩ ?_) ?_)))
 ·have e0:HO.map VW (EL (EL [] (kI 0) (vi 0)) (kI 1000000) (vi 0))=.map VW (oY.map Lp):=by
   have e1:=Q0 [] 0 0;have e2:=Q0 [(0,0)] 1000000 0;show HO.map VW (EL (EL (List.map Lp []) (kI 0) (vi 0)) (kI 1000000) (vi 0))=_;rw[e1];show HO.map VW (EL (List.map Lp [(0,0)]) (kI 1000000) (vi 0))=_;rw[e2];rfl
  exact⟨⟨⟨rfl,hid _⟩,Zr,Zr,Zr,Zr,Tv⟩,⟨⟨e0,rfl⟩,Tv⟩,Fh,Tv⟩
 intro⟨⟨i,cm⟩,i1,i2⟩;have i1:i≤l.length:=i1;have i2:Ib cm ((l.take i).map canon).flatten:=i2;refine Yi ?_ ?_
 ·intro h;have h:(i:Int)<(l.map Fb).length:=h;have h:i<l.length:=by simpa using h
  have hg:l[i]?=some l[i]:=Ge h;refine Xi (Fb l[i]) (Yi (Yi (Nn i) (by simp[hg])) (Yi rfl ?_));refine Xi .pure (Xi _ (Yi (Wv l[i] (hs _ (Ax h))) ?_));refine Xi {p:Nat×List (Int×Int) // p.1≤(canon l[i]).length∧Ib p.2 (((l.take i).map canon).flatten++(canon l[i]).take p.1)} (Xi (fun p=>⟨[(0,F),(5,.mref 15),(17,sl Fb l),(18,vi (l.map Fb).length),(19,vi i),(24,sl Ao (canon l[i])),(25,vi ((canon l[i]).map Ao).length),(26,vi p.1.1)],[(15,.map VW (p.1.2.map Lp))],Aa⟩) (Xi (fun p=>(canon l[i]).length-p.1.1) (Yi (Xi ⟨(0,cm),AL _,by rw[List.take_zero,BT];exact i2⟩ ?_) ?_)))
  ·exact⟨⟨⟨rfl,hid _⟩,Zr,Zr,Zr,Zr,Zr,Zr,Zr,Tv⟩,Z1,Fh,Tv⟩
  intro⟨⟨j,dm⟩,j1,j2⟩;have j1:j≤(canon l[i]).length:=j1;have j2:Ib dm (((l.take i).map canon).flatten++(canon l[i]).take j):=j2;have hS:(((l.take i).map canon).flatten++(canon l[i]).take j).length≤1073741825000000:=by
   have a1:=Yp (l.take i);have a2:=HR (B9 l[i]);rw[AE]at a1;rw[Ad,AE];omega
  refine Yi ?_ ?_
  ·intro hj;have hj:(j:Int)<((canon l[i]).map Ao).length:=hj;have hj:j<(canon l[i]).length:=by simpa using hj
   have ua:(canon l[i])[j]?=some (canon l[i])[j]:=Ge hj;have kW:=(B9 l[i]).low _ (Ax hj);have j3:Ib (XQ dm (canon l[i])[j]) (((l.take i).map canon).flatten++(canon l[i]).take (j+1)):=by
    have:=cw j2 (x:=(canon l[i])[j]) kW
    rw[BF]at this;rw[Bi,ua];exact this
   generalize (canon l[i])[j]=x at ua kW j3;have b1:=j2.bound x.1;have cV:=LP j2.nd x.1 (E8 dm x.1+1);refine Xi (Ao x) (Yi (Yi (Nn j) (by simp[ua])) (Yi rfl ?_));refine Yi (Nz rfl) (Yi (Nz rfl) ?_);refine Xi ⟨[(0,F),(5,.mref 15),(9,.ref 9 0),(17,sl Fb l),(18,vi (l.map Fb).length),(19,vi i),(24,sl Ao (canon l[i])),(25,vi ((canon l[i]).map Ao).length),(26,vi j)],[(9,.cells (Ao x)),(15,.map VW (dm.map Lp))],Aa⟩ (Yi ⟨⟨⟨rfl,hid _⟩,Zr,Zr,Zr,Zr,Zr,Zr,Zr,Zr,Tv⟩,Z2,Fh,Tv⟩ ?_)
   refine Of (vi (E8 dm x.1)) (vi 0) (PK j2.nd x.1) (PL dm x.1) (fun q=>q) ?_;refine Yi (by show BK (E8 dm x.1+1);unfold BK;omega) ?_;have m1:HO.map VW (EL (dm.map Lp) (kI x.1) (vi (E8 dm x.1+1)))=.map VW ((KY dm x.1 (E8 dm x.1+1)).map Lp):=by rw[Q0]
   refine Xi ⟨[(0,F),(5,.mref 15),(9,.ref 9 0),(17,sl Fb l),(18,vi (l.map Fb).length),(19,vi i),(24,sl Ao (canon l[i])),(25,vi ((canon l[i]).map Ao).length),(26,vi j)],[(9,.cells (Ao x)),(15,.map VW ((KY dm x.1 (E8 dm x.1+1)).map Lp))],Aa⟩ (Yi ⟨⟨⟨rfl,hid _⟩,Zr,Zr,Zr,Zr,Zr,Zr,Zr,Zr,Tv⟩,⟨Zr,⟨m1,rfl⟩,Tv⟩,Fh,Tv⟩ ?_)
   have b2:-(1073741825000001:Int)≤E8 (KY dm x.1 (E8 dm x.1+1)) x.2∧E8 (KY dm x.1 (E8 dm x.1+1)) x.2≤1073741825000001:=by
    have b3:=j2.bound x.2;rw[OP];split<;>omega
   refine Of (vi (E8 (KY dm x.1 (E8 dm x.1+1)) x.2)) (vi 0) (PK cV x.2) (PL _ x.2) (fun q=>q) ?_;refine Yi (by show BK (E8 (KY dm x.1 (E8 dm x.1+1)) x.2-1);unfold BK;omega) ?_;have hcl:=HR (B9 l[i]);refine Yi (Ii j (by omega)) ?_;have m2:HO.map VW (EL ((KY dm x.1 (E8 dm x.1+1)).map Lp) (kI x.2) (vi (E8 (KY dm x.1 (E8 dm x.1+1)) x.2-1)))=.map VW ((XQ dm x).map Lp):=by rw[Q0];rfl
   refine Xi ⟨(j+1,XQ dm x),by show j+1≤_;omega,j3⟩ ?_;exact⟨by show(canon l[i]).length-(j+1)<(canon l[i]).length-j;omega,⟨⟨rfl,hid _⟩,Zr,Zr,Zr,Zr,Zr,Zr,Zr,Tv⟩,⟨⟨m2,rfl⟩,Tv⟩,Fh,Tv⟩
  ·intro hj;have hj:¬(j:Int)<((canon l[i]).map Ao).length:=hj;have hj:¬j<(canon l[i]).length:=by simpa using hj
   refine Yi (Ii i (by omega)) ?_;have i3:Ib dm ((l.take (i+1)).map canon).flatten:=by
    have e1:(canon l[i]).take j=canon l[i]:=AD (by omega);rw[e1]at j2;have e2:((l.take (i+1)).map canon).flatten=((l.take i).map canon).flatten++canon l[i]:=by
     rw[Bi,hg,Az,Cv];show _++(canon l[i]++[])=_;rw[BT]
    rw[e2];exact j2
   refine Xi ⟨(i+1,dm),by show i+1≤_;omega,i3⟩ ?_;exact⟨Dl l.length i (by omega),⟨⟨rfl,hid _⟩,Zr,Zr,Zr,Zr,Tv⟩,Z1,Fh,Tv⟩
 ·intro h;have h:¬(i:Int)<(l.map Fb).length:=h;have h:¬i<l.length:=by simpa using h
  have i3:Ib cm (l.map canon).flatten:=by
   rw[AD (by omega)]at i2;exact i2
  have yY:=i3.few;have zh:(0:Int)≤0∧(0:Int)≤((cm.map Lp).length:Int)∧((cm.map Lp).length:Int)*((8:Nat):Int)≤140737488355328∧((cm.map Lp).length:Int)≤9223372036854775807:=by rw[Lm];omega
  refine Yi zh ?_;refine Xi {p:List (Value×AV)×List Int×Option (Value×AV) // ((p.2.1.map kI)++p.1.map (·.1)).Perm ((cm.map Lp).map (·.1))∧∀kv∈p.1,kv∈cm.map Lp} (Xi (fun p=>⟨[(0,F),(5,.mref 15),(10,.msl 44 p.1.2.1.length),(46,.ref 46 0)],[(15,.rom VW (cm.map Lp)),(44,.arr 1 (p.1.2.1.map Gj)),(46,.iter (cm.map Lp) p.1.1 p.1.2.2)],Aa⟩) (Xi (fun p=>p.1.1.length) (Yi (Xi ⟨(cm.map Lp,[],none),.refl _,fun _ h=>h⟩ ?_) ?_)))
  ·exact⟨⟨⟨rfl,hid _⟩,Zr,Zr,Zr,Tv⟩,Z3,Fh,Tv⟩
  intro⟨⟨rem,bs,Fs⟩,r1,r2⟩;have r1:((bs.map kI)++rem.map (·.1)).Perm ((cm.map Lp).map (·.1)):=r1;have r2:∀kv∈rem,kv∈cm.map Lp:=r2;have hbl:bs.length≤1000001:=by
   have:=r1.length_eq
   simp only[Ad,Lm]at this;omega
  refine Yi ?_ ?_
  ·intro hr;have hr:rem=[]:=hr;subst hr;rw[EU,BT,BG]at r1;have uv:bs.Perm (ET cm):=by
    have r1:(bs.map kI).Perm ((ET cm).map kI):=by unfold ET;rw[BG];exact r1
    have:=r1.map (fun v:Value=>match v with | .int _ n=>n | _=>0)
    rw[BG,BG]at this;have e:((fun v:Value=>match v with | .int _ n=>n | _=>0) ∘ kI)=id:=rfl;rw[e,Ie,Ie]at this;exact this
   have Dt:bs≠[]:=fun e=>by
    subst e
    have:=uv.length_eq
    have h0:=i3.keys.1;rw[AN this.symm]at h0;cases h0
   refine Xi (.gen [(44,1000)] 0) (Yi rfl ((sL bs (by unfold CJ;omega) Dt).to ?_));intro B pm;have jd:B.length=bs.length:=pm.1.length_eq;have yv:B.Nodup:=(pm.1.trans uv).nodup_iff.2 i3.nd;have hB:iw B cm:=⟨pm.1.trans uv,by
    rw[AY];intro a b ha hb ie;have h1:=(AY.1 pm.2) a b ha hb ie;have h2:B[a]≠B[b]:=(AY.1 yv) a b ha hb ie;omega⟩
   have wJ:0<B.length:=by
    rw[jd];exact MJ.2 Dt
   have tA:bs.length=(B.map Gj).length:=by rw[Lm,jd]
   refine Yi (by show BK ((bs.length:Int)-1);unfold BK;omega) ?_;refine Xi {k:Nat // k≤B.length-1} (Xi (fun k=>⟨[(0,F),(5,.mref 15),(10,.msl 44 bs.length),(12,.slice (.id 12 2) ((En keep cm B k.1).map Ao)),(13,vi (Is cm (B.take k.1))),(59,vi ((bs.length:Int)-1)),(60,vi k.1)],[(12,.tok 2 ((En keep cm B k.1).map Ao).length),(15,.rom VW (cm.map Lp)),(44,.arr 1 (B.map Gj))],Aa⟩) (Xi (fun k=>B.length-k.1) (Yi (Xi ⟨0,AL _⟩ ?_) ?_)))
   ·exact⟨⟨⟨rfl,hid _⟩,Zr,Zr,Zr,Zr,Zr,Zr,Tv⟩,Z3,Fh,Tv⟩
   intro⟨k,k1⟩;have n9:=Uy keep cm B k;refine Yi ?_ ?_
   ·intro hk;have hk:(k:Int)<(bs.length:Int)-1:=hk;have In:k+1<B.length:=by omega
    have Ut:k<B.length:=by omega
    have kE:(B.map Gj)[k]?=some (Gj B[k]):=Dp (Ge Ut);have tL:(B.map Gj)[k+1]?=some (Gj B[k+1]):=Dp (Ge In);have TO:=PI cm B k Ut;have qe:=gI i3 hB k Ut;have Sj:En keep cm B (k+1)=En keep cm B k++(if keep (Is cm (B.take (k+1))).toNat then [(B[k],B[k+1])]else []):=by
     show _++(match B[k]?,B[k+1]? with | some a,some b=>if keep (Is cm (B.take (k+1))).toNat then [(a,b)]else [] | _,_=>[])=_;rw[Ge Ut,Ge In]
    refine Xi ⟨[(0,F),(5,.mref 15),(10,.msl 44 bs.length),(12,.slice (.id 12 2) ((En keep cm B k).map Ao)),(13,vi (Is cm (B.take k))),(14,vi k),(59,vi ((bs.length:Int)-1)),(60,vi k)],[(12,.tok 2 ((En keep cm B k).map Ao).length),(15,.rom VW (cm.map Lp)),(44,.arr 1 (B.map Gj))],Aa⟩ (Yi ⟨⟨⟨rfl,hid _⟩,Zr,Zr,Zr,Zr,Zr,Zr,Zr,Tv⟩,Z3,Fh,Tv⟩ ?_)
    refine Yi ⟨by show(0:Int)≤k;omega,by show(k:Int)<bs.length;omega⟩ ?_;refine Yi tA (Xi (Gj B[k]) (Yi kE ?_));refine Of (vi (E8 cm B[k])) (vi 0) (PK i3.nd B[k]) (PL cm B[k]) (fun q=>q) ?_;refine Yi (by show BK (Is cm (B.take k)+E8 cm B[k]);rw[←TO];unfold BK;omega) ?_;have DY:∀h,OU Tryz.prog (str h F) [vi (Is cm (B.take k)+E8 cm B[k])] (vb (keep (Is cm (B.take (k+1))).toNat)):=fun h=>by
     rw[←TO];exact hF h _ qe.1 qe.2
    refine CQ (Bt (keep (Is cm (B.take (k+1))).toNat)) (fun hp=>?_) (fun hp=>?_)
    ·rw[hp]at DY;rw[hp,Aq rfl]at Sj;refine Xi .pure (Xi (vb true) (Yi (DY _) ?_));refine Xi ⟨[(0,F),(5,.mref 15),(10,.msl 44 bs.length),(12,.slice (.id 12 2) ((En keep cm B k).map Ao)),(13,vi (Is cm (B.take k)+E8 cm B[k])),(14,vi k),(59,vi ((bs.length:Int)-1)),(60,vi k)],[(12,.tok 2 ((En keep cm B k).map Ao).length),(15,.rom VW (cm.map Lp)),(44,.arr 1 (B.map Gj))],Aa⟩ (Yi ⟨⟨⟨rfl,hid _⟩,Zr,Zr,Zr,Zr,Zr,Zr,Zr,Tv⟩,Z3,Fh,Tv⟩ ?_)
     have b1:(0:Int)≤(k:Int)+1∧(k:Int)+1<bs.length:=by omega
     have tM:(B.map Gj)[((k:Int)+1).toNat]?=some (Gj B[k+1]):=by rw[show((k:Int)+1).toNat=k+1 by omega];exact tL
     refine Yi ⟨by show(0:Int)≤k;omega,by show(k:Int)<bs.length;omega⟩ ?_;refine Yi tA (Xi (Gj B[k]) (Yi kE ?_));refine Yi (Ii k (by omega)) ?_;refine Yi b1 ?_;refine Yi tA (Xi (Gj B[k+1]) (Yi tM ?_));have G9:Df 2 [[vi B[k],vi B[k+1]]]∧((En keep cm B k).map Ao).length=((En keep cm B k).map Ao).length∧(((En keep cm B k).map Ao).length+[[vi B[k],vi B[k+1]]].length)*16≤140737488355328∧((En keep cm B k).map Ao).length+[[vi B[k],vi B[k+1]]].length≤9223372036854775807 :=
      ⟨⟨rfl,trivial⟩,rfl,by rw[Lm,A5];omega,by rw[Lm,A5];omega⟩
     refine Yi G9 ?_;refine Yi (by kernel_rfl) ?_;refine Xi ⟨[(0,F),(5,.mref 15),(10,.msl 44 bs.length),(12,.slice (.id 12 2) ((En keep cm B k).map Ao++[[vi B[k],vi B[k+1]]])),(13,vi (Is cm (B.take k)+E8 cm B[k])),(59,vi ((bs.length:Int)-1)),(60,vi k)],[(12,.tok 2 (((En keep cm B k).map Ao).length+[[vi B[k],vi B[k+1]]].length)),(15,.rom VW (cm.map Lp)),(44,.arr 1 (B.map Gj))],Aa⟩ (Yi ⟨⟨⟨rfl,hid _⟩,Zr,Zr,Zr,Zr,Zr,Zr,Tv⟩,Z3,Fh,Tv⟩ ?_)
     refine Yi (Ii k (by omega)) ?_;refine Xi ⟨k+1,by omega⟩ ?_;have e1:AV.slice (.id 12 2) ((En keep cm B k).map Ao++[[vi B[k],vi B[k+1]]])=.slice (.id 12 2) ((En keep cm B (k+1)).map Ao):=by rw[Sj,Az];rfl
     have e2:vi (Is cm (B.take k)+E8 cm B[k])=vi (Is cm (B.take (k+1))):=by rw[TO]
     have e3:HO.tok 2 (((En keep cm B k).map Ao).length+[[vi B[k],vi B[k+1]]].length)=.tok 2 ((En keep cm B (k+1)).map Ao).length:=by rw[Sj,Az,Ad];rfl
     exact⟨Dl B.length k (by omega),⟨⟨rfl,hid _⟩,Zr,Zr,⟨e1,rfl⟩,⟨e2,rfl⟩,Zr,Zr,Tv⟩,⟨⟨e3,rfl⟩,Zr,Zr,Tv⟩,Fh,Tv⟩
    ·rw[hp]at DY;have Sj:En keep cm B (k+1)=En keep cm B k:=by rw[Sj,hp,Ai Bool.false_ne_true,BT]
     refine Xi .pure (Xi (vb false) (Yi (DY _) ?_));refine Xi ⟨[(0,F),(5,.mref 15),(10,.msl 44 bs.length),(12,.slice (.id 12 2) ((En keep cm B k).map Ao)),(13,vi (Is cm (B.take k)+E8 cm B[k])),(59,vi ((bs.length:Int)-1)),(60,vi k)],[(12,.tok 2 ((En keep cm B k).map Ao).length),(15,.rom VW (cm.map Lp)),(44,.arr 1 (B.map Gj))],Aa⟩ (Yi ⟨⟨⟨rfl,hid _⟩,Zr,Zr,Zr,Zr,Zr,Zr,Tv⟩,Z3,Fh,Tv⟩ ?_)
     refine Yi (Ii k (by omega)) ?_;refine Xi ⟨k+1,by omega⟩ ?_;have e1:AV.slice (.id 12 2) ((En keep cm B k).map Ao)=.slice (.id 12 2) ((En keep cm B (k+1)).map Ao):=by rw[Sj]
     have e2:vi (Is cm (B.take k)+E8 cm B[k])=vi (Is cm (B.take (k+1))):=by rw[TO]
     have e3:HO.tok 2 ((En keep cm B k).map Ao).length=.tok 2 ((En keep cm B (k+1)).map Ao).length:=by rw[Sj]
     exact⟨Dl B.length k (by omega),⟨⟨rfl,hid _⟩,Zr,Zr,⟨e1,rfl⟩,⟨e2,rfl⟩,Zr,Zr,Tv⟩,⟨⟨e3,rfl⟩,Zr,Zr,Tv⟩,Fh,Tv⟩
   ·intro hk;have hk:¬(k:Int)<(bs.length:Int)-1:=hk;have In:k=B.length-1:=by omega
    have tR:canon (En keep cm B k)=R:=by
     refine(RD hR fun p=>?_).symm;rw[In,yH,fp i3 hB]
    have hc:=Wv (En keep cm B k) (by unfold CJ;omega);rw[tR]at hc;refine Xi .pure (Xi _ (Yi hc ?_));exact .refl _
  ·intro kv Ny hp;refine CC (Ak.1 (r2 kv (hp.mem_iff.2 (Ab ..)))) (fun q hq=>?_);have zu:=hq.2;subst zu;refine Xi ⟨[(0,F),(5,.mref 15),(10,.msl 44 bs.length),(46,.ref 46 0)],[(15,.rom VW (cm.map Lp)),(44,.arr 1 (bs.map Gj)),(46,.iter (cm.map Lp) Ny (some (Lp q)))],Aa⟩ (Yi ⟨⟨⟨rfl,hid _⟩,Zr,Zr,Zr,Tv⟩,Z3,Fh,Tv⟩ ?_)
   have G9:Df 1 [Gj q.1]∧(bs.map Gj).length=bs.length∧((bs.map Gj).length+[Gj q.1].length)*8≤140737488355328∧(bs.map Gj).length+[Gj q.1].length≤9223372036854775807 :=
    ⟨⟨rfl,trivial⟩,by rw[Lm],by rw[Lm,A5];omega,by rw[Lm,A5];omega⟩
   refine Yi G9 ?_;have e1:AV.msl 44 ((bs.map Gj).length+[Gj q.1].length)=.msl 44 (bs++[q.1]).length:=by simp
   have e2:HO.arr 1 (bs.map Gj++[Gj q.1])=.arr 1 ((bs++[q.1]).map Gj):=by simp
   refine Xi ⟨(Ny,bs++[q.1],some (Lp q)),?_,fun kv OT=>r2 kv (hp.mem_iff.2 (Ah _ OT))⟩ ?_
   ·show(((bs++[q.1]).map kI)++Ny.map (·.1)).Perm _;have h1:=hp.map (fun x:Value×AV=>x.1);rw[AK]at h1;rw[Az,BF];exact(List.Perm.append_left _ h1.symm).trans r1
   ·exact⟨by show Ny.length<rem.length;rw[hp.length_eq];simp,⟨⟨rfl,hid _⟩,Zr,⟨e1,rfl⟩,Zr,Tv⟩,⟨Zr,⟨e2,rfl⟩,Zr,Tv⟩,Fh,Tv⟩
theorem sE(n:Int)(l:List Bh):PC 259 [vi n,.cptr [sl Fb l]] (vb (decide (n=l.length))):=by
 refine Ps F1 Tryz.func259 rfl (Nz rfl) ?_;have e:((l.map Fb).length:Int)=l.length:=by rw[Lm]
 refine Yi ?_ ?_
 ·intro h;have h:n=((l.map Fb).length:Int):=h;rw[show decide (n=(l.length:Int))=true from AA (h.trans e)];exact .refl _
 ·intro h;have h:¬n=((l.map Fb).length:Int):=h;rw[show decide (n=(l.length:Int))=false from At (fun c=>h (c.trans e.symm))];exact .refl _
theorem sG(n:Int):PC 210 [vi n] (vb (decide (n=0))):=by
 refine Ps F1 Tryz.func210 rfl (Nz rfl) ?_;refine Yi ?_ ?_
 ·intro h;have h:n=0:=h;rw[AA h];exact .refl _
 ·intro h;have h:¬n=0:=h;rw[At h];exact .refl _
theorem tb(n:Int):PC 245 [vi n] (vb (decide (0<n))):=by
 refine Ps F1 Tryz.func245 rfl (Nz rfl) ?_;refine Yi ?_ ?_
 ·intro h;have h:0<n:=h;rw[AA h];exact .refl _
 ·intro h;have h:¬0<n:=h;rw[At h];exact .refl _
theorem fm(l:List Bh)(p:Int):decide (cI l p=l.length)=l.all fun s=>has s p:=by
 unfold cI;rw[BN,Au,List.countP_eq_length,Bp]
theorem fo(l:List Bh)(p:Int):decide (0<cI l p)=l.any fun s=>has s p:=by
 unfold cI;rw[BN,Au,List.countP_pos_iff,Bd]
theorem sr(l:List Bh)(hl:CJ l)(hs:∀s∈l,CJ s):PC 243 [sl Fb l] (sl Ao (Pk l)):=by
 have hc:=lS (.clo 259 [.cptr [sl Fb l]]) (fun n=>decide (n=l.length)) l hl hs (fun _=>rfl) (fun h n h0 _=>by
  have:=sE n l
  have e:decide (n=(l.length:Int))=decide (n.toNat=l.length):=by rw[decide_eq_decide];omega
  rw[e]at this;exact this) (Pk l) (VI l) fun p=>by rw[Sd,fm]
 refine Ps (ir [1]) Tryz.func243 rfl (Nz rfl) ?_;refine Xi .pure (Xi _ (Yi (hc) ?_));exact .refl _
theorem lN(s:Bh)(hs:CJ s):PC 181 [sl Ao s] (sl Ao (Ee s)):=by
 have hc:=lS (.v (TH 210)) (fun n=>decide (n=0)) [s] (by unfold CJ;simp) (fun t ht=>by rw[Am.1 ht];exact hs) (fun _=>rfl) (fun h n h0 _=>by
  have:=sG n
  have e:decide (n=0)=decide (n.toNat=0):=by rw[decide_eq_decide];omega
  rw[e]at this;exact this) (Ee s) (GY s) fun p=>by
   rw[Fx]
   have:cI [s] p=if has s p then 1 else 0:=by unfold cI;rw[Iw];simp
   rw[this];cases has s p<;>rfl
 refine Ps F1 Tryz.func181 rfl (Nz rfl) ?_;refine Xi .pure (Xi _ (Yi (hc) ?_));exact .refl _
theorem s8(l:List Bh)(hl:CJ l)(hs:∀s∈l,CJ s):PC 220 [sl Fb l] (sl Ao (PJ l)):=by
 have hc:=lS (.v (TH 245)) (fun n=>decide (0<n)) l hl hs (fun _=>rfl) (fun h n h0 _=>by
  have:=tb n
  have e:decide (0<n)=decide (0<n.toNat):=by rw[decide_eq_decide];omega
  rw[e]at this;exact this) (PJ l) (VZ l) fun p=>by
   rw[Se,fo];cases h:l.any fun s=>has s p with
   |false=>simp
   |true =>
    obtain⟨s,_,h2⟩:=Bd.1 h
    have:=LI h2
    simp[Lo,this]
 refine Ps F1 Tryz.func220 rfl (Nz rfl) ?_;refine Xi .pure (Xi _ (Yi (hc) ?_));exact .refl _
-- terms
theorem yj(t:Tm)(ht:CJ t.set):PC 216 [.agg (AC t)] (vb (!t.absent&&(canon t.set).isEmpty)):=by
 refine Ps F1 Tryz.func216 rfl (Nz rfl) ?_;refine Yi ?_ ?_
 ·intro h;have h:t.absent=true:=h;rw[h];exact .refl _
 ·intro h;have h:t.absent=false:=h;refine Xi .pure (Xi _ (Yi (Wv t.set ht) ?_));refine Yi ?_ ?_
  ·intro h2;have h2:(((canon t.set).map Ao).length:Int)=0:=h2;have h2:canon t.set=[]:=AN (by rw[Lm]at h2;omega);rw[h,h2];exact .refl _
  ·intro h2;have h2:¬(((canon t.set).map Ao).length:Int)=0:=h2;have h2:(canon t.set).isEmpty=false:=by
    cases hc:canon t.set with
    |nil=>rw[hc]at h2;exact absurd rfl h2
    |cons _ _=>rfl
   rw[h,h2];exact .refl _
theorem ym(t:Tm)(ht:CJ t.set):PC 217 [.agg (AC t)] (vb (t.absent&&(Ee t.set).isEmpty)):=by
 refine Ps F1 Tryz.func217 rfl (Nz rfl) ?_;refine Yi ?_ ?_
 ·intro h;have h:t.absent=true:=h;refine Xi .pure (Xi _ (Yi (lN t.set ht) ?_));refine Yi ?_ ?_
  ·intro h2;have h2:(((Ee t.set).map Ao).length:Int)=0:=h2;have h2:Ee t.set=[]:=AN (by rw[Lm]at h2;omega);rw[h,h2];exact .refl _
  ·intro h2;have h2:¬(((Ee t.set).map Ao).length:Int)=0:=h2;have h2:(Ee t.set).isEmpty=false:=by
    cases hc:Ee t.set with
    |nil=>rw[hc]at h2;exact absurd rfl h2
    |cons _ _=>rfl
   rw[h,h2];exact .refl _
 ·intro h;have h:t.absent=false:=h;rw[h];exact .refl _
abbrev Ji(l:List Nat):Ro:=⟨[],[],[],[],[],[],[],[],[],[],l⟩
theorem wx(u t:Tm)(hu:CJ u.set)(ht:CJ t.set):PC 215 [.agg (AC u),.agg (AC t)] (.agg (AC (GD u t))):=by
 have hc:PC 243 [sl Fb [u.set,t.set]] (sl Ao (Om u.set t.set)):=sr [u.set,t.set] (by unfold CJ;simp) (fun s hs=>by
  rcases Av.1 hs with rfl | hs
  ·exact hu
  ·rw[Am.1 hs];exact ht)
 refine Ps (Ji [1]) Tryz.func215 rfl (Nz rfl) ?_;refine Xi ⟨[(2,.ref 2 0),(3,.ref 3 0),(4,.ref 4 0)],[(2,.cells (AC u)),(3,.cells (AC t)),(4,.cells [vs ⟨#[]⟩,vb false,.v (.slice none 0 0)])],Aa⟩ (Yi ⟨Z3,Z3,Fh,Tv⟩ ?_)
 refine Yi ?_ ?_
 ·intro h;have h:u.absent=true:=h;refine Yi ?_ ?_
  ·intro h2;have h2:t.absent=true:=h2;have e:[vs u.path,vb true,sl Ao (Om u.set t.set)]=AC (GD u t):=by unfold GD;rw[h,h2];rfl
   refine Xi _ (Yi (hc) ?_);refine Yi (Nz rfl) (Yi (by kernel_rfl) (Yi (Nz rfl) ?_));exact .of_eq (Ac AV.agg e)
  ·intro h2;have h2:t.absent=false:=h2;have e:[vs u.path,vb false,sl Ao (Om u.set t.set)]=AC (GD u t):=by unfold GD;rw[h,h2];rfl
   refine Xi _ (Yi (hc) ?_);refine Yi (Nz rfl) (Yi (by kernel_rfl) (Yi (Nz rfl) ?_));exact .of_eq (Ac AV.agg e)
 ·intro h;have h:u.absent=false:=h;have e:[vs u.path,vb false,sl Ao (Om u.set t.set)]=AC (GD u t):=by unfold GD;rw[h];rfl
  refine Xi _ (Yi (hc) ?_);refine Yi (Nz rfl) (Yi (by kernel_rfl) (Yi (Nz rfl) ?_));exact .of_eq (Ac AV.agg e)
theorem sX(u t:Tm)(hu:CJ u.set)(ht:CJ t.set):PC 184 [.agg (AC u),.agg (AC t)] (.agg (AC (Da u t))):=by
 have hc:PC 220 [sl Fb [u.set,t.set]] (sl Ao (OO u.set t.set)):=s8 [u.set,t.set] (by unfold CJ;simp) (fun s hs=>by
  rcases Av.1 hs with rfl | hs
  ·exact hu
  ·rw[Am.1 hs];exact ht)
 refine Ps (Ji [1]) Tryz.func184 rfl (Nz rfl) ?_;refine Xi ⟨[(2,.ref 2 0),(3,.ref 3 0),(4,.ref 4 0)],[(2,.cells (AC u)),(3,.cells (AC t)),(4,.cells [vs ⟨#[]⟩,vb false,.v (.slice none 0 0)])],Aa⟩ (Yi ⟨Z3,Z3,Fh,Tv⟩ ?_)
 refine Yi ?_ ?_
 ·intro h;have h:u.absent=true:=h;have e:[vs u.path,vb true,sl Ao (OO u.set t.set)]=AC (Da u t):=by unfold Da;rw[h];rfl
  refine Xi _ (Yi (hc) ?_);refine Yi (Nz rfl) (Yi (by kernel_rfl) (Yi (Nz rfl) ?_));exact .of_eq (Ac AV.agg e)
 ·intro h;have h:u.absent=false:=h;refine Yi ?_ ?_
  ·intro h2;have h2:t.absent=true:=h2;have e:[vs u.path,vb true,sl Ao (OO u.set t.set)]=AC (Da u t):=by unfold Da;rw[h,h2];rfl
   refine Xi _ (Yi (hc) ?_);refine Yi (Nz rfl) (Yi (by kernel_rfl) (Yi (Nz rfl) ?_));exact .of_eq (Ac AV.agg e)
  ·intro h2;have h2:t.absent=false:=h2;have e:[vs u.path,vb false,sl Ao (OO u.set t.set)]=AC (Da u t):=by unfold Da;rw[h,h2];rfl
   refine Xi _ (Yi (hc) ?_);refine Yi (Nz rfl) (Yi (by kernel_rfl) (Yi (Nz rfl) ?_));exact .of_eq (Ac AV.agg e)
theorem oR(q:Rq)(hq:CJ q.set):PC 175 [.agg (AI q)] (.agg (AC (Dx q))):=by
 refine Ps F1 Tryz.func175 rfl (Nz rfl) ?_;refine Xi _ (Yi (lN q.set hq) ?_);refine Yi (Nz rfl) (Yi (by kernel_rfl) (Yi (Nz rfl) ?_));exact .refl _
abbrev CM:EB:=⟨false,[.str]⟩
abbrev Mp(t:Tm):Value×AV:=(.string t.path,.agg (AC t))
abbrev qB(fin cut:List Nat):Ro:=⟨[],[],[],[],fin,[],[],[],[],[],cut⟩
theorem QZ{m:List Tm}{p:ByteArray}{a:AV}:(Value.string p,a)∈m.map Mp↔∃t∈m,t.path=p∧a=.agg (AC t):=by
 rw[Ak];constructor
 ·rintro⟨t,h1,h2⟩
  simp only[FE,Value.string.injEq]at h2;exact⟨t,h1,h2.1,h2.2.symm⟩
 ·rintro⟨t,h1,rfl,rfl⟩
  exact⟨t,h1,rfl⟩
theorem fE(m:List Tm)(t:Tm):EL (m.map Mp) (.string t.path) (.agg (AC t))=(VR m t).map Mp:=by
 unfold VR
 by_cases h:(m.any fun u=>decide (u.path=t.path))=true
 ·rw[Aq h];obtain⟨u,h1,h2⟩:=Bd.1 h;have h2:=Ba h2
  have:(Value.string t.path,AV.agg (AC u))∈m.map Mp:=QZ.2 ⟨u,h1,h2,rfl⟩
  rw[Po this,BG,BG];apply A8;intro q _;simp only[Function.comp]
  by_cases e:q.path=t.path
  ·simp[e]
  ·have:¬Value.string q.path=.string t.path:=fun c=>e (by injection c)
   simp[e]
 ·rw[Ai h]
  have:∀b,(Value.string t.path,b)∉m.map Mp:=fun b hb=>by
   obtain⟨u,h1,h2,_⟩:=QZ.1 hb;exact h (Bd.2 ⟨u,h1,by simp[h2]⟩)
  rw[Kq this,Az];rfl
theorem dR{m:List Tm}(hn:(Eo m).Nodup)(p:ByteArray){K:AV→Prop}{Z:Prop}(hy:∀u,Dc m p=some u→K (.agg (AC u)))(QI:Dc m p=none→Z) :
  (∀a,(Value.string p,a)∈m.map Mp→K a)∧((∀a,(Value.string p,a)∉m.map Mp)→Z) :=
 ⟨fun a h=>by
  obtain⟨t,h1,h2,rfl⟩:=QZ.1 h;subst h2;exact hy t ((LC hn).1 h1),fun h=>QI (by
  cases e:Dc m p with
  |none=>rfl
  |some u=>exact absurd (QZ.2 ⟨u,EZ e,GO e,rfl⟩) (h _))⟩
theorem N5{t:Tm}(h:Ew t.set):CJ t.set:=by
 unfold CJ
 have:=HR h;omega
theorem yi(l:List Tm)(hl:CJ l)(hs:∀t∈l,CJ t.set):PC 214 [sl AC l,.v (TH 215)] (.cmap CM ((CL l).map Mp)):=by
 have hl:l.length≤1073741824:=hl;refine Ps (qB [10] [5,8]) Tryz.func214 rfl (Nz rfl) ?_;refine Xi {i:Nat // i≤l.length} (Xi (fun i=>⟨[(0,sl AC l),(1,.v (TH 215)),(5,.mref 10),(11,sl AC l),(12,vi (l.map AC).length),(13,vi i.1)],[(10,.map CM ((CL (l.take i.1)).map Mp))],Aa⟩) (Xi (fun i=>l.length-i.1) (Yi (Xi ⟨0,AL _⟩ ?_) ?_)))
 ·exact⟨Z6,Z1,Fh,Tv⟩
 intro⟨i,h1⟩;have hn:=Ht (l.take i);refine Yi ?_ ?_
 ·intro h;have h:(i:Int)<(l.map AC).length:=h;have h:i<l.length:=by simpa using h
  have hg:l[i]?=some l[i]:=Ge h;refine Xi (AC l[i]) (Yi (Yi (Nn i) (by simp[hg])) (Yi rfl ?_));refine Yi (Nz rfl) (Yi (Nz rfl) ?_);have E6:=hs l[i] (Ax h);refine Xi ⟨[(0,sl AC l),(1,.v (TH 215)),(5,.mref 10),(7,.ref 7 0),(11,sl AC l),(12,vi (l.map AC).length),(13,vi i)],[(7,.cells (AC l[i])),(10,.map CM ((CL (l.take i)).map Mp))],Aa⟩ (Yi ⟨Z7,Z2,Fh,Tv⟩ ?_)
  have tail:∀u:Tm,CJ u.set→GD u l[i]=Nx (Dc (CL (l.take i)) l[i].path) l[i]→EL ((CL (l.take i)).map Mp) (.string l[i].path) (.agg (AC (GD u l[i])))=(CL (l.take (i+1))).map Mp:=fun u hu e=>by
   have hp:(Nx (Dc (CL (l.take i)) l[i].path) l[i]).path=l[i].path:=Pu _ _ fun u h=>GO h;have e2:=fE (CL (l.take i)) (GD u l[i]);have e3:(GD u l[i]).path=l[i].path:=by rw[e];exact hp
   rw[e3]at e2;rw[e2,Qo l i h,e];rfl
  refine dR hn l[i].path (fun u hu=>?_) (fun hu=>?_)
  ·have J4:CJ u.set:=N5 (Ot _ u (EZ hu));refine Yi (Nz rfl) ?_;refine Xi ⟨[(0,sl AC l),(1,.v (TH 215)),(5,.mref 10),(7,.ref 7 0),(8,.ref 8 0),(11,sl AC l),(12,vi (l.map AC).length),(13,vi i)],[(7,.cells (AC l[i])),(8,.cells (AC u)),(10,.map CM ((CL (l.take i)).map Mp))],Aa⟩ (Yi ⟨Z8,Z3,Fh,Tv⟩ ?_)
   have AS:=tail u J4 (by rw[ZS,hu];rfl);refine Yi (Nz rfl) (Yi (Nz rfl) ?_);refine Xi _ (Yi (wx u l[i] J4 E6) ?_);refine Yi (by kernel_rfl) ?_;refine Yi (Ii i (by omega)) ?_;refine Xi ⟨i+1,by omega⟩ ?_;have e1:HO.map CM (EL ((CL (l.take i)).map Mp) (.string l[i].path) (.agg (AC (GD u l[i]))))=.map CM ((CL (l.take (i+1))).map Mp):=by rw[AS]
   exact⟨Dl l.length i (by omega),Z6,⟨⟨e1,rfl⟩,Tv⟩,Fh,Tv⟩
  ·refine Yi (Nz rfl) ?_;refine Yi (Nz rfl) (Yi (Nz rfl) ?_);refine Xi ⟨[(0,sl AC l),(1,.v (TH 215)),(5,.mref 10),(7,.ref 7 0),(8,.ref 8 0),(11,sl AC l),(12,vi (l.map AC).length),(13,vi i)],[(7,.cells (AC l[i])),(8,.cells (AC l[i])),(10,.map CM ((CL (l.take i)).map Mp))],Aa⟩ (Yi ⟨Z8,Z3,Fh,Tv⟩ ?_)
   have AS:=tail l[i] E6 (by rw[ZS,hu];rfl);refine Yi (Nz rfl) (Yi (Nz rfl) ?_);refine Xi _ (Yi (wx l[i] l[i] E6 E6) ?_);refine Yi (by kernel_rfl) ?_;refine Yi (Ii i (by omega)) ?_;refine Xi ⟨i+1,by omega⟩ ?_;have e1:HO.map CM (EL ((CL (l.take i)).map Mp) (.string l[i].path) (.agg (AC (GD l[i] l[i]))))=.map CM ((CL (l.take (i+1))).map Mp):=by rw[AS]
   exact⟨Dl l.length i (by omega),Z6,⟨⟨e1,rfl⟩,Tv⟩,Fh,Tv⟩
 ·intro h;have h:¬(i:Int)<(l.map AC).length:=h;have h:¬i<l.length:=by simpa using h
  have e:(CL (l.take i)).map Mp=(CL l).map Mp:=by rw[AD (by omega)]
  exact .of_eq (Ac (AV.cmap CM) e)
abbrev Gt(l:List Tm):AV:=.tup [sl AC (Pq l),vb (CD l).isSome]
abbrev uY:Ro:=⟨[],[],[(4,3)],[],[],[],[],[],[],[(25,4)],[4,7,10]⟩
abbrev Rv(l:List Tm):HO:=.arr 3 (l.map AC)
abbrev E7(l:List Tm):List Tm:=l.filter fun t=>!Gi t
theorem jF{l:List Tm}{kv:Value×AV}{Ny : List (Value×AV)}(h:(l.map Mp).Perm (kv::Ny)):∃t r,kv=Mp t∧Ny=r.map Mp∧l.Perm (t::r):=by
 obtain⟨ps,h1,h2⟩:=LZ h l rfl;cases ps with
 |nil=>cases h2
 |cons t r =>
  rw[AK,Fm]at h2;exact⟨t,r,h2.1.symm,h2.2.symm,h1.symm⟩
theorem Ww{l:List Tm}{t:Tm}(h:t∈CL l)(hn:Hw t=true):CD l=none:=by
 unfold CD;rw[Aq (Bd.2 ⟨t,(IX l t).1 h,hn⟩)]
theorem Yd{l done s:List Tm}(h:done.Perm (CL l))(hn:∀t∈done,Hw t=false)(hp:s.Perm (E7 done))(hs:s.Pairwise fun x y=>Ep y.path x.path=false):CD l=some s:=by
 unfold CD;rw[Ai]
 ·congr 1
  exact(Pa _ (hp.trans (h.filter _)) hs).symm
 ·intro c;obtain⟨t,h1,h2⟩:=Bd.1 c
  have:=hn t (h.mem_iff.2 ((IX l t).2 h1))
  rw[h2]at this;cases this
theorem bt(l:List Tm):(E7 l).length≤l.length:=BA _ _
theorem rp(l:List Tm)(hl:CJ l)(hs:∀t∈l,CJ t.set):PC 183 [sl AC l] (Gt l):=by
 have bh:l.length≤1073741824:=hl;have xh:(CL l).length≤l.length:=by have:=Ns l l.length (Al _);rwa [DU]at this
 refine Ps uY Tryz.func183 rfl (Nz rfl) ?_;refine Xi .pure (Xi _ (Yi (yi l hl hs) ?_));refine Xi {p:List Tm×List Tm×Option (Value×AV) // (p.1++p.2.1).Perm (CL l)∧∀t∈p.1,Hw t=false} (Xi (fun p=>⟨[(4,.msl 4 (E7 p.1.1).length),(9,.ref 9 0)],[(4,Rv (E7 p.1.1)),(9,.iter ((CL l).map Mp) (p.1.2.1.map Mp) p.1.2.2)],Aa⟩) (Xi (fun p=>p.1.2.1.length) (Yi (Xi ⟨([],CL l,none),.refl _,fun t ht=>by cases ht⟩ ?_) ?_)))
 ·exact⟨Z2,Z2,Fh,Tv⟩
 intro⟨⟨done,rem,Fs⟩,r1,r2⟩;have r1:(done++rem).Perm (CL l):=r1;have r2:∀t∈done,Hw t=false:=r2;have hdl:done.length+rem.length≤l.length:=by have:=r1.length_eq;rw[Ad]at this;omega
 have n9:=bt done;refine Yi ?_ ?_
 ·intro hr;have hr:rem.map Mp=[]:=hr;have hr:rem=[]:=D0.1 hr;subst hr;rw[BT]at r1;refine Xi (.gen [(4,1000)] 0) (Yi rfl ((yn (E7 done) (by unfold CJ;omega)).to ?_));intro s hq;have Wh:s.length=(E7 done).length:=hq.1.length_eq;have hc:=Yd r1 r2 hq.1 hq.2;refine Xi ⟨[(4,.msl 4 (E7 done).length)],[(4,Rv s)],Aa⟩ (Yi ⟨Z1,Z1,Fh,Tv⟩ ?_)
  refine Yi (by rw[Lm,Wh]) ?_;have e:AV.tup [sl AC s,vb true]=Gt l:=by unfold Gt Pq;rw[hc];rfl
  exact .of_eq e
 ·intro kv Ny hp;refine CC (jF hp) (fun t hp=>CC hp (fun r hp=>?_));have e1:=hp.1;have e2:=hp.2.1;subst e1;subst e2;have hp:=hp.2.2;have rS:t∈CL l:=r1.mem_iff.1 (Bf _ (hp.mem_iff.2 (Ab ..)));have uE:=Ot l t rS;have xt:=N5 uE;refine Xi ⟨[(4,.msl 4 (E7 done).length),(9,.ref 9 0)],[(4,Rv (E7 done)),(9,.iter ((CL l).map Mp) (r.map Mp) (some (Mp t)))],Aa⟩ (Yi ⟨Z2,Z2,Fh,Tv⟩ ?_)
  refine Yi (Nz rfl) (Yi (Nz rfl) ?_);have hv:PC 216 [.agg (AC t)] (vb (Hw t)):=fI uE▸yj t xt;have ha:PC 217 [.agg (AC t)] (vb (Gi t)):=ar uE▸ym t xt;refine CQ (Bt (Hw t)) (fun h=>?_) (fun h=>?_)
  ·rw[h]at hv;refine Xi .pure (Xi _ (Yi (hv) ?_));have hc:=Ww rS h;have e:AV.tup [.slice .none [],vb false]=Gt l:=by unfold Gt Pq;rw[hc];rfl
   have e0:Hg (.tup [.v (.slice none 0 0),vb false]) (.tup [.slice .none [],vb false]):=Hg.tup ⟨.nil,.refl _,trivial⟩;exact e0.trans (.of_eq e)
  ·rw[h]at hv;refine Xi .pure (Xi _ (Yi (hv) ?_));refine Xi ⟨[(4,.msl 4 (E7 done).length),(6,.ref 6 0),(9,.ref 9 0)],[(4,Rv (E7 done)),(6,.cells (AC t)),(9,.iter ((CL l).map Mp) (r.map Mp) (some (Mp t)))],Aa⟩ (Yi ⟨Z3,Z3,Fh,Tv⟩ ?_)
   refine Yi (Nz rfl) ?_;have Tu:((done++[t])++r).Perm (CL l):=by
    rw[BF];exact(List.Perm.append_left _ hp.symm).trans r1
   have xi:∀u∈done++[t],Hw u=false:=fun u hu=>by
    rcases AW.1 hu with hu | hu
    ·exact r2 u hu
    ·rw[Am.1 hu];exact h
   have Wf:r.length<rem.length:=by rw[hp.length_eq,Ay];omega
   refine CQ (Bt (Gi t)) (fun h2=>?_) (fun h2=>?_)
   rotate_left
   ·rw[h2]at ha;refine Xi .pure (Xi _ (Yi (ha) ?_));have G9:Df 3 [AC t]∧((E7 done).map AC).length=(E7 done).length∧(((E7 done).map AC).length+[AC t].length)*48≤140737488355328∧((E7 done).map AC).length+[AC t].length≤9223372036854775807 :=
     ⟨⟨rfl,trivial⟩,by rw[Lm],by rw[Lm,A5];omega,by rw[Lm,A5];omega⟩
    refine Yi (Nz rfl) ?_;refine Yi G9 ?_;have hk:E7 (done++[t])=E7 done++[t]:=by unfold E7;rw[De,CT,Aq (by rw[h2];rfl)];rfl
    have e1:AV.msl 4 (((E7 done).map AC).length+[AC t].length)=.msl 4 (E7 (done++[t])).length:=by rw[hk];simp
    have e2:HO.arr 3 ((E7 done).map AC++[AC t])=Rv (E7 (done++[t])):=by rw[hk];simp
    refine Xi ⟨(done++[t],r,some (Mp t)),Tu,xi⟩ ?_;exact⟨Wf,⟨⟨e1,rfl⟩,Zr,Tv⟩,⟨⟨e2,rfl⟩,Zr,Tv⟩,Fh,Tv⟩
   ·rw[h2]at ha;refine Xi .pure (Xi _ (Yi (ha) ?_));have hk:E7 (done++[t])=E7 done:=by unfold E7;rw[De,CT,Ai (by rw[h2];decide)];simp
    have e1:AV.msl 4 (E7 done).length=.msl 4 (E7 (done++[t])).length:=by rw[hk]
    have e2:Rv (E7 done)=Rv (E7 (done++[t])):=by rw[hk]
    refine Xi ⟨(done++[t],r,some (Mp t)),Tu,xi⟩ ?_;exact⟨Wf,⟨⟨e1,rfl⟩,Zr,Tv⟩,⟨⟨e2,rfl⟩,Zr,Tv⟩,Fh,Tv⟩
end Go.Eng
