/- Lemmas for the claims of this seat, without a condition: part 18 (C16, C17, C18, C19, C20, C21, C22, C23). -/
import Derived.Test.YtmcbkdbfaneofaaGreatDoorFA17
import Derived.Test.YtmcbkdbfaneofaaGreatDoorFA02
namespace Go.Eng
open Go.Proofs
theorem Be.imp{P:Program}{f:Nat}{args:List AV}{h0:Nat→HO}{Q Q' : AV→(Nat→HO)→Prop}(h:Be P f args h0 Q)(hq:∀r h',Q r h'→Q' r h'):Be P f args h0 Q':=h.mono fun r h' q=>⟨r,.refl _,hq r h' q⟩
theorem Be.to{P:Program}{f:Nat}{args:List AV}{h0:Nat→HO}{α:Type}{r0:AV}{p:α→Prop}{H:α→Nat→HO}{Q' : AV→(Nat→HO)→Prop}(h:Be P f args h0 fun r h'=>r=r0∧∃x,p x∧h'=H x)(k:∀x,p x→Q' r0 (H x)):Be P f args h0 Q' :=
 h.imp fun r h' ⟨e1,x,e2,e3⟩=>by subst e1;subst e3;exact k x e2
theorem m0(n:Nat)(h:n≤1073741824):∃lim:Nat,lim<100∧PC 130 [.v (.int .u64 (IntKind.u64.wrap (n:Int)))] (vi lim):=by
 refine⟨Lib.bitLen n,Nat.lt_of_le_of_lt (Lib.bitLen_le n 62 (by omega) (by omega)) (by omega),?_⟩;have wr:IntKind.u64.wrap (n:Int)=n:=by simp[IntKind.wrap,IntKind.bits,IntKind.signed];omega
 rw[wr];refine Lk [.int .u64 n] (.int .i64 (Lib.bitLen n:Nat)) (dP 130 Tryz.func130 (by kernel_rfl) rfl) rfl (fun _ _=>.v _ _) fun w _=>?_
 have:=Any.bits_Len Tryz.layBits (n:Int) w (by omega) (by omega)
 rw[Cj]at this;exact this
theorem tZ(l:List (Int×Int))(hl:Ci l)(h:∀x∈l,0≤x.1∧x.1≤1000000) :
  Be Tryz.prog 190 [.msl 1000 l.length,.v (Ud 191)] (Aj [(1000,.arr 2 (l.map Ao))] Aa) fun r h' =>
   r=.tup []∧∃l' : List (Int×Int),(l'.Perm l∧l'.Pairwise (fun x y=>x.1≤y.1))∧h'=Aj [(1000,.arr 2 (l'.map Ao))] Aa:=by
 obtain⟨lim,XE,hb⟩:=m0 l.length hl;refine Co (MA F6) [(1000,1000)] rfl CD hm rfl Tryz.func190 (by kernel_rfl) rfl (Nz rfl) (by kernel_rfl) rfl ?_;refine Xi .pure (Xi _ (Yi (hb) ?_));refine Xi (.gen [(1000,1000)] 0) (Yi rfl ((ua l hl h lim XE).imp ?_));intro r h' hq;refine CK hq.2 (fun l' PK=>?_);refine Xi (.tup []) (Yi ?_ (Yi rfl (Xi l' (Yi ⟨PK.1,PK.2.1⟩ ?_))))
 ·exact .refl _
 ·rw[PK.2.2];rfl
theorem zy(l:List Tm)(hl:Ci l) :
  Be Tryz.prog 235 [.msl 1000 l.length,.v (Ud 236)] (Aj [(1000,.arr 3 (l.map AG))] Aa) fun r h' =>
   r=.tup []∧∃l' : List Tm,(l'.Perm l∧l'.Pairwise (fun x y=>Fl y.path x.path=false))∧h'=Aj [(1000,.arr 3 (l'.map AG))] Aa:=by
 obtain⟨lim,XE,hb⟩:=m0 l.length hl;refine Co (MA F6) [(1000,1000)] rfl CD hm rfl Tryz.func235 (by kernel_rfl) rfl (Nz rfl) (by kernel_rfl) rfl ?_;refine Xi .pure (Xi _ (Yi (hb) ?_));refine Xi (.gen [(1000,1000)] 0) (Yi rfl ((tQ l hl lim XE).imp ?_));intro r h' hq;refine CK hq.2 (fun l' PK=>?_);refine Xi (.tup []) (Yi ?_ (Yi rfl (Xi l' (Yi ⟨PK.1,PK.2.1⟩ ?_))))
 ·exact .refl _
 ·rw[PK.2.2];rfl
abbrev yS(l:List (Nat×Nat))(cut:List Nat):RS:=⟨[],[],l,[],[],[],[],[],[],[],cut⟩
abbrev IM(l:List (Int×Int)):HO:=.arr 2 (l.map Ao)
theorem YV(l:Bj)(i:Nat):(CT (l.take i)).length≤i:=by
 unfold CT
 have:=BF (fun x:Int×Int=>decide (x.1<x.2)) ((l.take i).map Hk)
 rw[Lm,AJ]at this;omega
theorem UO{l:Bj}{i:Nat}(h:i<l.length)(h3:(Hk l[i]).1<(Hk l[i]).2):CT (l.take (i+1))=CT (l.take i)++[Hk l[i]]:=by
 rw[Bp,Ge h,Ok];unfold CT;simp[h3]
theorem W6{l:Bj}{i:Nat}(h:i<l.length)(h3:¬(Hk l[i]).1<(Hk l[i]).2):CT (l.take (i+1))=CT (l.take i):=by
 rw[Bp,Ge h,Ok];unfold CT;simp[h3]
abbrev arr2(s j:Bj)(i:Nat):Bj:=(BD (s.take i)).reverse++(j++s.drop i)
theorem jK(s j:Bj)(i:Nat)(h:i<s.length)(hj:(BD (s.take i)).length+j.length=i):(arr2 s j i)[i]?=some s[i]:=by
 unfold arr2;rw[A4 (by rw[Dq];omega),A4 (by rw[Dq];omega),Dq,BT];rw[show i+(i-(BD (List.take i s)).length-j.length)=i by omega,Ge h]
theorem bN(s j:Bj)(i:Nat){y:Int×Int}{t:Bj}(e:BD (s.take i)=y::t):(arr2 s j i)[t.length]?=some y:=by
 unfold arr2;rw[e,Qx,AP,A4 (by rw[Dq];omega),Dq,Gd];rfl
theorem eH(s j:Bj)(i:Nat)(h:i≤s.length)(hj:(BD (s.take i)).length+j.length=i):(arr2 s j i).length=s.length:=by
 unfold arr2;simp only[Ad,Dq,Ar];omega
theorem ap{α:Type}(s:List α)(i:Nat)(h:i<s.length):s.drop i=s[i]::s.drop (i+1):=Bv h
theorem UD(s j:Bj)(i:Nat)(h:i<s.length)(e:KM (BD (s.take i)) s[i]=s[i]::BD (s.take i)) :
  (arr2 s j i).set (BD (s.take i)).length s[i]=arr2 s (j++[s[i]]).tail (i+1):=by
 unfold arr2;rw[Gl s i h,e,Qx,List.set_append_right _ _ (by rw[Dq];exact Ak _),Dq,Gd,AP,ap s i h]
 congr 1
 cases j with
 |nil=>rfl
 |cons a b=>simp
theorem bM(s j:Bj)(i:Nat)(h:i<s.length){y:Int×Int}{t:Bj}(e:BD (s.take i)=y::t)(Hl:s[i].1≤y.2) :
  (arr2 s j i).set t.length (y.1,max y.2 s[i].2)=arr2 s (j++[s[i]]) (i+1):=by
 unfold arr2;have e2:KM (y::t) s[i]=(y.1,max y.2 s[i].2)::t:=by show(if s[i].1≤y.2 then _ else _)=_;rw[Aw Hl]
 rw[Gl s i h,e,e2,Qx,Qx,AP,List.set_append_right _ _ (by rw[Dq];exact Ak _),Dq,Gd,ap s i h];simp
theorem Ch{α:Type}{enc:α→List AV}{l:List α}{i:Nat}{x:α}(h:l[i]?=some x):(l.map enc)[i]?=some (enc x):=by rw[AI,h];rfl
theorem W2(l:List (Int×Int))(hl:Ci l):PC 148 [sl Ao l] (sl Ao (canon l)):=by
 have hl:l.length≤1073741824:=hl;refine EU (YZ (yS [(3,2)] [5,14,15,16])) rfl CD hm rfl Tryz.func148 (by kernel_rfl) rfl (Nz rfl) (by kernel_rfl) ?_;refine Xi {i:Nat // i≤l.length} (Xi (fun i=>⟨[(0,sl Ao l),(3,.msl 3 (CT (l.take i.1)).length),(9,sl Ao l),(10,vi (l.map Ao).length),(11,vi i.1)],[(3,IM (CT (l.take i.1)))],Aa⟩) (Xi (fun i=>l.length-i.1) (Yi (Xi ⟨0,by simp⟩ ?_) ?_)))
 ·exact⟨Z5,Z1,Fh,Tv⟩
 ·intro⟨i,h1⟩;have hn:=YV l i;refine Yi ?_ ?_
  ·intro h;have h:(i:Int)<(l.map Ao).length:=h;have h:i<l.length:=by simpa using h
   have hg:l[i]?=some l[i]:=Ge h;refine Xi (Ao l[i]) (Yi (Yi (Nn i) (by simp[hg])) (Yi rfl ?_));refine Yi (Nz rfl) (Yi (Nz rfl) ?_);refine Xi ⟨[(0,sl Ao l),(3,.msl 3 (CT (l.take i)).length),(5,.ref 5 0),(9,sl Ao l),(10,vi (l.map Ao).length),(11,vi i)],[(3,IM (CT (l.take i))),(5,.cells (Ao l[i]))],Aa⟩ (Yi ⟨Z6,Z2,Fh,Tv⟩ ?_)
   refine Yi (Nz rfl) ?_;refine Yi ?_ ?_
   ·intro h3;have h3:(Hk l[i]).1<(Hk l[i]).2:=h3;refine Yi (Nz rfl) ?_;have Ga:Dn 2 [[vi (max l[i].1 0),vi (min l[i].2 1000000)]]∧((CT (l.take i)).map Ao).length=(CT (l.take i)).length∧(((CT (l.take i)).map Ao).length+[[vi (max l[i].1 0),vi (min l[i].2 1000000)]].length)*16≤140737488355328∧((CT (l.take i)).map Ao).length+[[vi (max l[i].1 0),vi (min l[i].2 1000000)]].length≤9223372036854775807 :=
     ⟨⟨rfl,trivial⟩,by rw[Lm],by rw[Lm,AB];omega,by rw[Lm,AB];omega⟩
    refine Yi Ga ?_;refine Yi (Ii i (by omega)) ?_;refine Xi ⟨i+1,by omega⟩ ?_;have e1:AV.msl 3 (((CT (l.take i)).map Ao).length+[[vi (max l[i].1 0),vi (min l[i].2 1000000)]].length)=.msl 3 (CT (l.take (i+1))).length:=by rw[UO h h3];simp
    have e2:HO.arr 2 ((CT (l.take i)).map Ao++[[vi (max l[i].1 0),vi (min l[i].2 1000000)]])=IM (CT (l.take (i+1))):=by rw[UO h h3];simp[Hk]
    exact⟨Dl l.length i (by omega),⟨Zr,⟨e1,rfl⟩,Zr,Zr,Zr,Tv⟩,⟨⟨e2,rfl⟩,Tv⟩,Fh,Tv⟩
   ·intro h3;have h3:¬(Hk l[i]).1<(Hk l[i]).2:=h3;refine Yi (Ii i (by omega)) ?_;refine Xi ⟨i+1,by omega⟩ ?_;have e1:AV.msl 3 (CT (l.take i)).length=.msl 3 (CT (l.take (i+1))).length:=by rw[W6 h h3]
    have e2:IM (CT (l.take i))=IM (CT (l.take (i+1))):=by rw[W6 h h3]
    exact⟨Dl l.length i (by omega),⟨Zr,⟨e1,rfl⟩,Zr,Zr,Zr,Tv⟩,⟨⟨e2,rfl⟩,Tv⟩,Fh,Tv⟩
  ·intro h;have h:¬(i:Int)<(l.map Ao).length:=h;have h:¬i<l.length:=by simpa using h
   have ei:CT (l.take i)=CT l:=by rw[AS (by omega)]
   have hN:(CT (l.take i)).length=(CT l).length:=by rw[ei]
   refine Xi (.gen [(3,1000)] 0) (Yi rfl ((tZ (CT (l.take i)) (by unfold Ci;omega) (fun x hx=>by have:=UN hx;omega)).to ?_));intro s hs;have WM:s.length=(CT (l.take i)).length:=hs.1.length_eq;have hsN:s.length≤1073741824:=by omega
   have fin:(BD s).reverse=canon l:=Rg (by rw[←ei];exact hs.1) hs.2;refine Xi {p:Nat×Bj // p.1≤s.length∧(BD (s.take p.1)).length+p.2.length=p.1} (Xi (fun p=>⟨[(3,.msl 3 (CT (l.take i)).length),(6,vi (BD (s.take p.1.1)).length),(34,.msl 3 (CT (l.take i)).length),(35,vi (CT (l.take i)).length),(36,vi p.1.1)],[(3,IM (arr2 s p.1.2 p.1.1))],Aa⟩) (Xi (fun p=>s.length-p.1.1) (Yi (Xi ⟨(0,[]),AL _,rfl⟩ ?_) ?_)))
   ·exact⟨Z5,Z1,Fh,Tv⟩
   intro⟨⟨k,j⟩,k1,k2⟩;have k1:k≤s.length:=k1;have k2:(BD (s.take k)).length+j.length=k:=k2;have CJ:=eH s j k k1 k2;have SQ:(CT (l.take i)).length=((arr2 s j k).map Ao).length:=by rw[Lm,CJ,WM]
   refine Yi ?_ ?_
   ·intro h2;have h2:(k:Int)<(CT (l.take i)).length:=h2;have hk:k<s.length:=by omega
    have l8:=Ch (enc:=Ao) (jK s j k hk k2);refine Yi ⟨by show(0:Int)≤k;omega,by show(k:Int)<_;omega⟩ ?_;refine Yi SQ (Xi (Ao s[k]) (Yi l8 (Yi (Nz rfl) (Yi (Nz rfl) ?_))));refine Xi ⟨[(3,.msl 3 (CT (l.take i)).length),(6,vi (BD (s.take k)).length),(7,vi k),(8,.ref 8 0),(34,.msl 3 (CT (l.take i)).length),(35,vi (CT (l.take i)).length),(36,vi k)],[(3,IM (arr2 s j k)),(8,.cells (Ao s[k]))],Aa⟩ (Yi ⟨Z7,Z2,Fh,Tv⟩ ?_)
    have hr:=Tp s k k1;refine BH (Nat.eq_zero_or_pos k) (fun k0=>?_) (fun k0=>?_)
    ·refine Yi ?_ ?_
     ·intro h4;have h4:(0:Int)<k:=h4;omega
     ·intro _;refine Yi (by kernel_rfl) ?_;have Jh:KM (BD (s.take k)) s[k]=s[k]::BD (s.take k):=by subst k0;rfl
      have dS:(BD (s.take k)).length<(arr2 s j k).length:=by omega
      have hz:=Ch (enc:=Ao) (Ge dS);refine Xi ⟨[(3,.msl 3 (CT (l.take i)).length),(6,vi (BD (s.take k)).length),(8,.ref 8 0),(34,.msl 3 (CT (l.take i)).length),(35,vi (CT (l.take i)).length),(36,vi k)],[(3,IM (arr2 s j k)),(8,.cells (Ao s[k]))],Aa⟩ (Yi ⟨⟨⟨rfl,rfl⟩,⟨rfl,rfl⟩,⟨rfl,rfl⟩,⟨rfl,rfl⟩,⟨rfl,rfl⟩,⟨rfl,rfl⟩,Tv⟩,⟨⟨rfl,rfl⟩,⟨rfl,rfl⟩,Tv⟩,Fh,Tv⟩ ?_);refine Yi (Nz rfl) (Yi ⟨by show(0:Int)≤((BD (s.take k)).length:Int);omega,by show((BD (s.take k)).length:Int)<_;omega⟩ ?_);refine Yi SQ (Xi (Ao (arr2 s j k)[(BD (s.take k)).length]) (Yi hz (Yi (Nz rfl) ?_)));refine Yi (by show B3 (((BD (s.take k)).length:Int)+1);unfold B3;omega) ?_;refine Yi (Ii k (by omega)) ?_;have hm:=Gl s k hk;have e1:vi (((BD (s.take k)).length:Int)+1)=vi (BD (s.take (k+1))).length:=by rw[hm,Jh];simp
      have e2:HO.arr 2 (((arr2 s j k).map Ao).set (BD (s.take k)).length [vi s[k].1,vi s[k].2])=IM (arr2 s (j++[s[k]]).tail (k+1)):=by rw[←UD s j k hk Jh];simp only[IM,Nt]
      refine Xi ⟨(k+1,(j++[s[k]]).tail),by show k+1≤s.length;omega,by show(BD (s.take (k+1))).length+((j++[s[k]]).tail).length=k+1;rw[hm,Jh];simp;omega⟩ ?_;exact⟨Dl s.length k (by omega),⟨Zr,⟨e1,rfl⟩,Zr,Zr,Zr,Tv⟩,⟨⟨e2,rfl⟩,Tv⟩,Fh,Tv⟩
    ·refine Yi ?_ ?_
     ·intro _;obtain⟨y,t,e⟩:∃y t,BD (s.take k)=y::t:=by
       cases hc:BD (s.take k)with
       |nil=>have:=hr.2 k0;rw[hc]at this;simp at this
       |cons y t=>exact⟨y,t,rfl⟩
      have ht:(((BD (s.take k)).length:Int)-1).toNat=t.length:=by rw[e];simp
      have hy:((arr2 s j k).map Ao)[(((BD (s.take k)).length:Int)-1).toNat]?=some (Ao y):=by rw[ht];exact Ch (bN s j k e)
      refine Yi (by show B3 (((BD (s.take k)).length:Int)-1);unfold B3;omega) ?_;have Zk:=hr.2 k0;refine Yi ⟨by show(0:Int)≤((BD (s.take k)).length:Int)-1;omega,by show((BD (s.take k)).length:Int)-1<_;omega⟩ ?_;refine Yi SQ (Xi (Ao y) (Yi hy ?_));refine Yi ?_ ?_
      ·intro h5;have h5:s[k].1≤y.2:=h5;refine Yi (by kernel_rfl) ?_;refine Xi ⟨[(3,.msl 3 (CT (l.take i)).length),(6,vi (BD (s.take k)).length),(8,.ref 8 0),(34,.msl 3 (CT (l.take i)).length),(35,vi (CT (l.take i)).length),(36,vi k)],[(3,IM (arr2 s j k)),(8,.cells (Ao s[k]))],Aa⟩ (Yi ⟨⟨⟨rfl,rfl⟩,⟨rfl,rfl⟩,⟨rfl,rfl⟩,⟨rfl,rfl⟩,⟨rfl,rfl⟩,⟨rfl,rfl⟩,Tv⟩,⟨⟨rfl,rfl⟩,⟨rfl,rfl⟩,Tv⟩,Fh,Tv⟩ ?_);refine Yi (by show B3 (((BD (s.take k)).length:Int)-1);unfold B3;omega) (Yi (by show B3 (((BD (s.take k)).length:Int)-1);unfold B3;omega) ?_);refine Yi ⟨by show(0:Int)≤((BD (s.take k)).length:Int)-1;omega,by show((BD (s.take k)).length:Int)-1<_;omega⟩ ?_;refine Yi SQ (Xi (Ao y) (Yi hy ?_));refine Yi ⟨by show(0:Int)≤((BD (s.take k)).length:Int)-1;omega,by show((BD (s.take k)).length:Int)-1<_;omega⟩ ?_;refine Yi SQ (Xi (Ao y) (Yi hy (Yi (Nz rfl) ?_)));refine Yi (by kernel_rfl) ?_;refine Yi (Ii k (by omega)) ?_;have hm:=Gl s k hk;have Jh:KM (BD (s.take k)) s[k]=(y.1,max y.2 s[k].2)::t:=by rw[e];show(if s[k].1≤y.2 then _ else _)=_;rw[Aw h5]
       have e1:vi (BD (s.take k)).length=vi (BD (s.take (k+1))).length:=by rw[hm,Jh,e];simp
       have e2:HO.arr 2 (((arr2 s j k).map Ao).set (((BD (s.take k)).length:Int)-1).toNat [vi y.1,vi (max y.2 s[k].2)])=IM (arr2 s (j++[s[k]]) (k+1)):=by rw[←bM s j k hk e h5,ht];simp only[IM,Nt]
       refine Xi ⟨(k+1,j++[s[k]]),by show k+1≤s.length;omega,by show(BD (s.take (k+1))).length+(j++[s[k]]).length=k+1;rw[hm,Jh,Ad,AB];rw[e]at k2;simp only[Au]at k2⊢;omega⟩ ?_;exact⟨Dl s.length k (by omega),⟨Zr,⟨e1,rfl⟩,Zr,Zr,Zr,Tv⟩,⟨⟨e2,rfl⟩,Tv⟩,Fh,Tv⟩
      ·intro h5;have h5:¬s[k].1≤y.2:=h5;refine Yi (by kernel_rfl) ?_;have Jh:KM (BD (s.take k)) s[k]=s[k]::BD (s.take k):=by rw[e];show(if s[k].1≤y.2 then _ else _)=_;rw[Ai h5]
       have dS:(BD (s.take k)).length<(arr2 s j k).length:=by omega
       have hz:=Ch (enc:=Ao) (Ge dS);refine Xi ⟨[(3,.msl 3 (CT (l.take i)).length),(6,vi (BD (s.take k)).length),(8,.ref 8 0),(34,.msl 3 (CT (l.take i)).length),(35,vi (CT (l.take i)).length),(36,vi k)],[(3,IM (arr2 s j k)),(8,.cells (Ao s[k]))],Aa⟩ (Yi ⟨⟨⟨rfl,rfl⟩,⟨rfl,rfl⟩,⟨rfl,rfl⟩,⟨rfl,rfl⟩,⟨rfl,rfl⟩,⟨rfl,rfl⟩,Tv⟩,⟨⟨rfl,rfl⟩,⟨rfl,rfl⟩,Tv⟩,Fh,Tv⟩ ?_);refine Yi (Nz rfl) (Yi ⟨by show(0:Int)≤((BD (s.take k)).length:Int);omega,by show((BD (s.take k)).length:Int)<_;omega⟩ ?_);refine Yi SQ (Xi (Ao (arr2 s j k)[(BD (s.take k)).length]) (Yi hz (Yi (Nz rfl) ?_)));refine Yi (by show B3 (((BD (s.take k)).length:Int)+1);unfold B3;omega) ?_;refine Yi (Ii k (by omega)) ?_;have hm:=Gl s k hk;have e1:vi (((BD (s.take k)).length:Int)+1)=vi (BD (s.take (k+1))).length:=by rw[hm,Jh];simp
       have e2:HO.arr 2 (((arr2 s j k).map Ao).set (BD (s.take k)).length [vi s[k].1,vi s[k].2])=IM (arr2 s (j++[s[k]]).tail (k+1)):=by rw[←UD s j k hk Jh];simp only[IM,Nt]
       refine Xi ⟨(k+1,(j++[s[k]]).tail),by show k+1≤s.length;omega,by show(BD (s.take (k+1))).length+((j++[s[k]]).tail).length=k+1;rw[hm,Jh];simp;omega⟩ ?_;exact⟨Dl s.length k (by omega),⟨Zr,⟨e1,rfl⟩,Zr,Zr,Zr,Tv⟩,⟨⟨e2,rfl⟩,Tv⟩,Fh,Tv⟩
     ·intro h4;have h4:¬(0:Int)<k:=h4;omega
   ·intro h2;have h2:¬(k:Int)<(CT (l.take i)).length:=h2;have hk:k=s.length:=by omega
    have hr:=Tp s k k1;have nZ:((((arr2 s j k).map Ao).take ((BD (s.take k)).length:Int).toNat).drop 0)=(canon l).map Ao:=by
     rw[List.drop_zero,Cj,←Re,←fin];unfold arr2
     have:(BD (s.take k)).length=(BD (s.take k)).reverse.length:=by rw[Dq]
     rw[this,List.take_left,hk,Dv]
    refine Yi ⟨SQ,by show(0:Int)≤0;omega,by show(0:Int)≤((BD (s.take k)).length:Int);omega,by show((BD (s.take k)).length:Int)≤(((arr2 s j k).map Ao).length:Int);omega,.inr ⟨rfl,by simp⟩⟩ ?_;exact .of_eq (Ac (AV.slice .none) nZ)
end Go.Eng
namespace Go.Eng
open Go.Proofs Go.Sort
abbrev Gx(z:Int):List AV:=[vi z]
theorem PY{α:Type}[Inhabited α](enc:α→Value)(w:World)(b:Nat)(d:Array α):putRow enc w b 0 d=putRow id w b 0 (d.map enc):=by
 unfold putRow
 congr 1
 funext c
 unfold putCells;apply Array.ext
 ·simp
 ·intro i h1 h2;simp only[Array.getElem_mapIdx,Array.size_map]
  by_cases h:i<d.size
  ·rw[Aw (by omega),Aw (by omega)];rw[DD d (i-0) (by omega),DD (d.map enc) (i-0) (by simpa using h)];simp
  ·rw[Ai (by omega),Ai (by omega)]
theorem UW(zs:List Int):(zs.map Gx).flatten=(zs.map fun z=>Value.int .i64 z).map AV.v:=by
 induction zs with
 |nil=>rfl
 |cons z zs ih=>rw[AN,BA,ih];rfl
theorem MS(g:Gh)(w:World)(U:Nat→Prop)(vs:List Value)(h:∀x∈vs,x.oneCell'=true):CH g w U (vs.map .v) vs :=
 ⟨by simp,h,fun i av x q1 q2=>by
  rw[AI,q2]at q1;cases q1;exact .v _ _⟩
theorem Ln{g:Gh}{w:World}{U:Nat→Prop}{vs us:List Value}(h:CH g w U (vs.map .v) us):us=vs:=by
 apply CE;intro i;have hl:=h.1;rw[Lm]at hl
 by_cases hi:i<vs.length
 ·have:=h.2.2 i (.v vs[i]) us[i] (by rw[AI,Ge hi];rfl) (Ge (by omega))
  rw[Ge hi,Ge (by omega),this.v_eq]
 ·rw[A6 (by omega),A6 (by omega)]
theorem t8(zs:List Int)(hl:Ci zs)(DE:zs≠[]) :
  Be Tryz.prog 255 [.msl 1000 zs.length] (Aj [(1000,.arr 1 (zs.map Gx))] Aa) fun r h' =>
   r=.tup []∧∃l' : List Int,(l'.Perm zs∧l'.Pairwise fun a b=>a≤b)∧h'=Aj [(1000,.arr 1 (l'.map Gx))] Aa:=by
 have hl:zs.length≤1073741824:=hl;have hE:F2 Tryz.prog 255:=dP 255 Tryz.func255 (by kernel_rfl) rfl;have Hb:=Px (P:=Tryz.prog) (f:=255) (es:=zs.map Gx) (sz:=1) (rest:=[]) (Q:=fun FD=>∃l' : List Int,(l'.Perm zs∧l'.Pairwise fun a b=>a≤b)∧FD=l'.map Gx) hE ?_ ?_
 ·rw[Lm]at Hb;refine⟨hE,fun g w vals q1 q2 q3=>(Hb.2 g w vals q1 q2 q3).mono fun _ _ ⟨v,r,h',g',e1,⟨e2,FD,⟨l',p1,p2⟩,p3⟩,rest⟩=>⟨v,r,h',g',e1,⟨e2,l',p1,by rw[p3,p2]⟩,rest⟩⟩
 ·intro e
  have:zs=[]:=by simpa using e
  exact absurd this DE
 ·intro g w b cap F hr hF hH hb;have qt:F.toList=zs.map fun z=>Value.int .i64 z:=Ln (by rw[←UW];exact hr);have fO:F=zs.toArray.map fun z=>Value.int .i64 z:=IA.1 (by rw[qt];simp);have qu:Holds (Value.int .i64) w b 0 zs.toArray:=fun j hj=>by
   have:=hH j (by rw[fO];simpa using hj)
   refine⟨this.1.trans ?_,this.2⟩;rw[fO,DD _ j (by simpa using hj),DD _ j hj];simp
  have hc:=Any.slices_Sort_int Tryz.laySortInts b 0 cap zs w qu hb (by omega);rw[Lm];refine hc.mono ?_
  rintro e w' ⟨rfl,n,os,rfl⟩
  have IQ:(zs.mergeSort fun x y=>decide (x≤y)).Perm zs:=List.mergeSort_perm _ _;have CJ:=IQ.length_eq;refine⟨rfl,(zs.mergeSort fun x y=>decide (x≤y)).toArray.map fun z=>Value.int .i64 z,(zs.mergeSort fun x y=>decide (x≤y)).map Gx,n,os,?_,⟨_,⟨IQ,?_⟩,rfl⟩,by simp[CJ],fun cs hcs=>?_,fun g w _=>?_,by rw[PY]⟩
  ·rw[fO];simp[CJ]
  ·have:=List.pairwise_mergeSort (le:=fun x y:Int=>decide (x≤y)) (fun a b c h1 h2=>by simp only[Ay]at *;omega) (fun a b=>by simp only[CG,Ay];omega) zs
   exact this.imp fun h=>Bq h
  ·obtain⟨x,_,rfl⟩:=Al.1 hcs;rfl
  ·rw[UW];have e:((zs.mergeSort fun x y=>decide (x≤y)).toArray.map fun z=>Value.int .i64 z).toList=(zs.mergeSort fun x y=>decide (x≤y)).map fun z=>Value.int .i64 z:=by simp
   rw[e];exact MS _ _ _ _ fun x hx=>by
    obtain⟨z,_,rfl⟩:=Al.1 hx;rfl
-- maps from numbers to numbers
abbrev Wz:EJ:=⟨false,[.int .i64]⟩
abbrev kI(z:Int):Value:=.int .i64 z
abbrev LH(p:Int×Int):Value×AV:=(kI p.1,vi p.2)
abbrev Fo(s:Bj):List AV:=[sl Ao s]
theorem RB{m:List (Int×Int)}{k:Int}{a:AV}:(kI k,a)∈m.map LH↔∃v,(k,v)∈m∧a=vi v:=by
 rw[Al];constructor
 ·rintro⟨⟨k',v⟩,h1,h2⟩
  simp only[FN,Value.int.injEq,true_and]at h2;obtain⟨rfl,rfl⟩:=h2;exact⟨v,h1,rfl⟩
 ·rintro⟨v,h1,rfl⟩
  exact⟨(k,v),h1,rfl⟩
theorem RE(m:List (Int×Int))(k v:Int):ET (m.map LH) (kI k) (vi v)=(Ll m k v).map LH:=by
 unfold Ll
 by_cases h:(m.any fun p=>decide (p.1=k))=true
 ·rw[Aw h];obtain⟨p,h1,h2⟩:=Bc.1 h;have h2:=Bq h2
  have:(kI k,vi p.2)∈m.map LH:=RB.2 ⟨p.2,by rw[←h2];exact h1,rfl⟩
  rw[PR this,BN,BN];apply Bf;intro q _;simp only[Function.comp]
  by_cases e:q.1=k
  ·simp[e]
  ·have:¬kI q.1=kI k:=fun c=>e (by injection c)
   simp[e]
 ·rw[Ai h]
  have:∀b,(kI k,b)∉m.map LH:=fun b hb=>by
   obtain⟨v,h1,_⟩:=RB.1 hb;exact h (Bc.2 ⟨(k,v),h1,by simp⟩)
  rw[KF this,AH];rfl
theorem OG{T:Gt}{e:Nat}{B4:List (Value×AV)}{kx:Value}{K:AV→Prop}(a0 z0:AV)(h1:∀a,(kx,a)∈B4→a=a0)(hz:(∀a,(kx,a)∉B4)→a0=z0)(h2:K z0→Kg T e K)(k:K a0) :
  (∀a,(kx,a)∈B4→K a)∧((∀a,(kx,a)∉B4)→Kg T e K):=⟨fun a h=>by rw[h1 a h];exact k,fun hn=>h2 (hz hn▸k)⟩
theorem Qo(m:List (Int×Int))(k:Int):(∀a,(kI k,a)∉m.map LH)→vi (Fk m k)=vi 0:=fun OK=>by
 rw[jo fun hk=>by
  obtain⟨p,hp,e⟩:=Al.1 hk;exact OK (vi p.2) (RB.2 ⟨p.2,by rw[←e];exact hp,rfl⟩)]
theorem Qn{m:List (Int×Int)}(hn:(E3 m).Nodup)(k:Int):∀a,(kI k,a)∈m.map LH→a=vi (Fk m k):=fun a h=>by
 obtain⟨v,h1,rfl⟩:=RB.1 h;rw[jn hn h1]
theorem Il.bound{m:List (Int×Int)}{S:Bj}(h:Il m S)(k:Int):-(S.length:Int)≤Fk m k∧Fk m k≤S.length:=by
 rw[h.val]
 have:cF S k≤S.length:=List.countP_le_length
 have:cT S k≤S.length:=List.countP_le_length
 omega
theorem Y5(l:List Bj):(l.map canon).flatten.length≤l.length*1000000:=by
 induction l with
 |nil=>simp
 |cons s l ih =>
  rw[AN,BA,Ad,Au]
  have:=HY (Cp s)
  omega
theorem Il.few{m:List (Int×Int)}{S:Bj}(h:Il m S):m.length≤1000001:=by
 have:=Ij (m:=(List.range 1000001).map Int.ofNat) h.nd fun k hk=>by
  have:=h.rng k hk
  exact Al.2 ⟨k.toNat,List.mem_range.2 (by omega),by show(k.toNat:Int)=k;omega⟩
 unfold E3 at this;rw[Lm,Lm,Qw]at this;exact this
theorem U6(keep:Nat→Bool)(m:List (Int×Int))(B:List Int):∀n,(Ey keep m B n).length≤n
 |0=>Ak _
 |n+1=>by
  unfold Ey
  have:=U6 keep m B n
  rw[Ad];split
  ·split<;>simp<;>omega
  ·simp;omega
end Go.Eng
namespace Go.Eng
open Go.Proofs
abbrev plC:RS:=⟨[],[(12,2)],[(44,1)],[],[],[],[],[],[],[],[8,9,15,23,25,26]⟩
theorem m8(F:AV)(keep:Nat→Bool)(l:List Bj)(hl:Ci l)(hs:∀s∈l,Ci s)(hid:∀h,Um h F=true)(hF:∀h (n:Int),0≤n→n≤l.length→Pv Tryz.prog (str h F) [vi n] (vb (keep n.toNat)))
  (R:Bj) (hR:EH R) (zS:∀p,has R p=(LG p&&keep (dO l p))):PC 226 [F,sl Fo l] (sl Ao R):=by
 have hl:l.length≤1073741824:=hl;refine Ps plC Tryz.func226 rfl (Nz rfl) ?_;refine Xi {p:Nat×List (Int×Int) // p.1≤l.length∧Il p.2 ((l.take p.1).map canon).flatten} (Xi (fun p=>⟨[(0,F),(5,.mref 15),(17,sl Fo l),(18,vi (l.map Fo).length),(19,vi p.1.1)],[(15,.map Wz (p.1.2.map LH))],Aa⟩) (Xi (fun p=>l.length-p.1.1) (Yi (Xi ⟨(0,qe),AL _,jY⟩ ?_) ?_)))
 ·have e0:HO.map Wz (ET (ET [] (kI 0) (vi 0)) (kI 1000000) (vi 0))=.map Wz (qe.map LH):=by
   have e1:=RE [] 0 0;have e2:=RE [(0,0)] 1000000 0;show HO.map Wz (ET (ET (List.map LH []) (kI 0) (vi 0)) (kI 1000000) (vi 0))=_;rw[e1];show HO.map Wz (ET (List.map LH [(0,0)]) (kI 1000000) (vi 0))=_;rw[e2];rfl
  exact⟨⟨⟨rfl,hid _⟩,Zr,Zr,Zr,Zr,Tv⟩,⟨⟨e0,rfl⟩,Tv⟩,Fh,Tv⟩
 intro⟨⟨i,cm⟩,i1,i2⟩;have i1:i≤l.length:=i1;have i2:Il cm ((l.take i).map canon).flatten:=i2;refine Yi ?_ ?_
 ·intro h;have h:(i:Int)<(l.map Fo).length:=h;have h:i<l.length:=by simpa using h
  have hg:l[i]?=some l[i]:=Ge h;refine Xi (Fo l[i]) (Yi (Yi (Nn i) (by simp[hg])) (Yi rfl ?_));refine Xi .pure (Xi _ (Yi (W2 l[i] (hs _ (Ap h))) ?_));refine Xi {p:Nat×List (Int×Int) // p.1≤(canon l[i]).length∧Il p.2 (((l.take i).map canon).flatten++(canon l[i]).take p.1)} (Xi (fun p=>⟨[(0,F),(5,.mref 15),(17,sl Fo l),(18,vi (l.map Fo).length),(19,vi i),(24,sl Ao (canon l[i])),(25,vi ((canon l[i]).map Ao).length),(26,vi p.1.1)],[(15,.map Wz (p.1.2.map LH))],Aa⟩) (Xi (fun p=>(canon l[i]).length-p.1.1) (Yi (Xi ⟨(0,cm),AL _,by rw[List.take_zero,B2];exact i2⟩ ?_) ?_)))
  ·exact⟨⟨⟨rfl,hid _⟩,Zr,Zr,Zr,Zr,Zr,Zr,Zr,Tv⟩,Z1,Fh,Tv⟩
  intro⟨⟨j,dm⟩,j1,j2⟩;have j1:j≤(canon l[i]).length:=j1;have j2:Il dm (((l.take i).map canon).flatten++(canon l[i]).take j):=j2;have hS:(((l.take i).map canon).flatten++(canon l[i]).take j).length≤1073741825000000:=by
   have a1:=Y5 (l.take i);have a2:=HY (Cp l[i]);rw[AJ]at a1;rw[Ad,AJ];omega
  refine Yi ?_ ?_
  ·intro hj;have hj:(j:Int)<((canon l[i]).map Ao).length:=hj;have hj:j<(canon l[i]).length:=by simpa using hj
   have u9:(canon l[i])[j]?=some (canon l[i])[j]:=Ge hj;have mu:=(Cp l[i]).low _ (Ap hj);have j3:Il (Yq dm (canon l[i])[j]) (((l.take i).map canon).flatten++(canon l[i]).take (j+1)):=by
    have:=dF j2 (x:=(canon l[i])[j]) mu
    rw[AP]at this;rw[Bp,u9];exact this
   generalize (canon l[i])[j]=x at u9 mu j3;have b1:=j2.bound x.1;have dS:=Mb j2.nd x.1 (Fk dm x.1+1);refine Xi (Ao x) (Yi (Yi (Nn j) (by simp[u9])) (Yi rfl ?_));refine Yi (Nz rfl) (Yi (Nz rfl) ?_);refine Xi ⟨[(0,F),(5,.mref 15),(9,.ref 9 0),(17,sl Fo l),(18,vi (l.map Fo).length),(19,vi i),(24,sl Ao (canon l[i])),(25,vi ((canon l[i]).map Ao).length),(26,vi j)],[(9,.cells (Ao x)),(15,.map Wz (dm.map LH))],Aa⟩ (Yi ⟨⟨⟨rfl,hid _⟩,Zr,Zr,Zr,Zr,Zr,Zr,Zr,Zr,Tv⟩,Z2,Fh,Tv⟩ ?_)
   refine OG (vi (Fk dm x.1)) (vi 0) (Qn j2.nd x.1) (Qo dm x.1) (fun q=>q) ?_;refine Yi (by show B3 (Fk dm x.1+1);unfold B3;omega) ?_;have m1:HO.map Wz (ET (dm.map LH) (kI x.1) (vi (Fk dm x.1+1)))=.map Wz ((Ll dm x.1 (Fk dm x.1+1)).map LH):=by rw[RE]
   refine Xi ⟨[(0,F),(5,.mref 15),(9,.ref 9 0),(17,sl Fo l),(18,vi (l.map Fo).length),(19,vi i),(24,sl Ao (canon l[i])),(25,vi ((canon l[i]).map Ao).length),(26,vi j)],[(9,.cells (Ao x)),(15,.map Wz ((Ll dm x.1 (Fk dm x.1+1)).map LH))],Aa⟩ (Yi ⟨⟨⟨rfl,hid _⟩,Zr,Zr,Zr,Zr,Zr,Zr,Zr,Zr,Tv⟩,⟨Zr,⟨m1,rfl⟩,Tv⟩,Fh,Tv⟩ ?_)
   have b2:-(1073741825000001:Int)≤Fk (Ll dm x.1 (Fk dm x.1+1)) x.2∧Fk (Ll dm x.1 (Fk dm x.1+1)) x.2≤1073741825000001:=by
    have b3:=j2.bound x.2;rw[Pn];split<;>omega
   refine OG (vi (Fk (Ll dm x.1 (Fk dm x.1+1)) x.2)) (vi 0) (Qn dS x.2) (Qo _ x.2) (fun q=>q) ?_;refine Yi (by show B3 (Fk (Ll dm x.1 (Fk dm x.1+1)) x.2-1);unfold B3;omega) ?_;have hcl:=HY (Cp l[i]);refine Yi (Ii j (by omega)) ?_;have m2:HO.map Wz (ET ((Ll dm x.1 (Fk dm x.1+1)).map LH) (kI x.2) (vi (Fk (Ll dm x.1 (Fk dm x.1+1)) x.2-1)))=.map Wz ((Yq dm x).map LH):=by rw[RE];rfl
   refine Xi ⟨(j+1,Yq dm x),by show j+1≤_;omega,j3⟩ ?_;exact⟨by show(canon l[i]).length-(j+1)<(canon l[i]).length-j;omega,⟨⟨rfl,hid _⟩,Zr,Zr,Zr,Zr,Zr,Zr,Zr,Tv⟩,⟨⟨m2,rfl⟩,Tv⟩,Fh,Tv⟩
  ·intro hj;have hj:¬(j:Int)<((canon l[i]).map Ao).length:=hj;have hj:¬j<(canon l[i]).length:=by simpa using hj
   refine Yi (Ii i (by omega)) ?_;have i3:Il dm ((l.take (i+1)).map canon).flatten:=by
    have e1:(canon l[i]).take j=canon l[i]:=AS (by omega);rw[e1]at j2;have e2:((l.take (i+1)).map canon).flatten=((l.take i).map canon).flatten++canon l[i]:=by
     rw[Bp,hg,AH,CL];show _++(canon l[i]++[])=_;rw[B2]
    rw[e2];exact j2
   refine Xi ⟨(i+1,dm),by show i+1≤_;omega,i3⟩ ?_;exact⟨Dl l.length i (by omega),⟨⟨rfl,hid _⟩,Zr,Zr,Zr,Zr,Tv⟩,Z1,Fh,Tv⟩
 ·intro h;have h:¬(i:Int)<(l.map Fo).length:=h;have h:¬i<l.length:=by simpa using h
  have i3:Il cm (l.map canon).flatten:=by
   rw[AS (by omega)]at i2;exact i2
  have Aaa:=i3.few;have hmk:(0:Int)≤0∧(0:Int)≤((cm.map LH).length:Int)∧((cm.map LH).length:Int)*((8:Nat):Int)≤140737488355328∧((cm.map LH).length:Int)≤9223372036854775807:=by rw[Lm];omega
  refine Yi hmk ?_;refine Xi {p:List (Value×AV)×List Int×Option (Value×AV) // ((p.2.1.map kI)++p.1.map (·.1)).Perm ((cm.map LH).map (·.1))∧∀kv∈p.1,kv∈cm.map LH} (Xi (fun p=>⟨[(0,F),(5,.mref 15),(10,.msl 44 p.1.2.1.length),(46,.ref 46 0)],[(15,.rom Wz (cm.map LH)),(44,.arr 1 (p.1.2.1.map Gx)),(46,.iter (cm.map LH) p.1.1 p.1.2.2)],Aa⟩) (Xi (fun p=>p.1.1.length) (Yi (Xi ⟨(cm.map LH,[],none),.refl _,fun _ h=>h⟩ ?_) ?_)))
  ·exact⟨⟨⟨rfl,hid _⟩,Zr,Zr,Zr,Tv⟩,Z3,Fh,Tv⟩
  intro⟨⟨rem,bs,FC⟩,r1,r2⟩;have r1:((bs.map kI)++rem.map (·.1)).Perm ((cm.map LH).map (·.1)):=r1;have r2:∀kv∈rem,kv∈cm.map LH:=r2;have hbl:bs.length≤1000001:=by
   have:=r1.length_eq
   simp only[Ad,Lm]at this;omega
  refine Yi ?_ ?_
  ·intro hr;have hr:rem=[]:=hr;subst hr;rw[E5,B2,BN]at r1;have vD:bs.Perm (E3 cm):=by
    have r1:(bs.map kI).Perm ((E3 cm).map kI):=by unfold E3;rw[BN];exact r1
    have:=r1.map (fun v:Value=>match v with | .int _ n=>n | _=>0)
    rw[BN,BN]at this;have e:((fun v:Value=>match v with | .int _ n=>n | _=>0) ∘ kI)=id:=rfl;rw[e,JF,JF]at this;exact this
   have DE:bs≠[]:=fun e=>by
    subst e
    have:=vD.length_eq
    have h0:=i3.keys.1;rw[AC this.symm]at h0;cases h0
   refine Xi (.gen [(44,1000)] 0) (Yi rfl ((t8 bs (by unfold Ci;omega) DE).to ?_));intro B qq;have kj:B.length=bs.length:=qq.1.length_eq;have zG:B.Nodup:=(qq.1.trans vD).nodup_iff.2 i3.nd;have hB:jG B cm:=⟨qq.1.trans vD,by
    rw[A7];intro a b ha hb jr;have h1:=(A7.1 qq.2) a b ha hb jr;have h2:B[a]≠B[b]:=(A7.1 zG) a b ha hb jr;omega⟩
   have xN:0<B.length:=by
    rw[kj];exact M2.2 DE
   have uH:bs.length=(B.map Gx).length:=by rw[Lm,kj]
   refine Yi (by show B3 ((bs.length:Int)-1);unfold B3;omega) ?_;refine Xi {k:Nat // k≤B.length-1} (Xi (fun k=>⟨[(0,F),(5,.mref 15),(10,.msl 44 bs.length),(12,.slice (.id 12 2) ((Ey keep cm B k.1).map Ao)),(13,vi (Iz cm (B.take k.1))),(59,vi ((bs.length:Int)-1)),(60,vi k.1)],[(12,.tok 2 ((Ey keep cm B k.1).map Ao).length),(15,.rom Wz (cm.map LH)),(44,.arr 1 (B.map Gx))],Aa⟩) (Xi (fun k=>B.length-k.1) (Yi (Xi ⟨0,AL _⟩ ?_) ?_)))
   ·exact⟨⟨⟨rfl,hid _⟩,Zr,Zr,Zr,Zr,Zr,Zr,Tv⟩,Z3,Fh,Tv⟩
   intro⟨k,k1⟩;have po:=U6 keep cm B k;refine Yi ?_ ?_
   ·intro hk;have hk:(k:Int)<(bs.length:Int)-1:=hk;have Iv:k+1<B.length:=by omega
    have U2:k<B.length:=by omega
    have l8:(B.map Gx)[k]?=some (Gx B[k]):=Ch (Ge U2);have uO:(B.map Gx)[k+1]?=some (Gx B[k+1]):=Ch (Ge Iv);have OL:=Ql cm B k U2;have rm:=iY i3 hB k U2;have SP:Ey keep cm B (k+1)=Ey keep cm B k++(if keep (Iz cm (B.take (k+1))).toNat then [(B[k],B[k+1])]else []):=by
     show _++(match B[k]?,B[k+1]? with | some a,some b=>if keep (Iz cm (B.take (k+1))).toNat then [(a,b)]else [] | _,_=>[])=_;rw[Ge U2,Ge Iv]
    refine Xi ⟨[(0,F),(5,.mref 15),(10,.msl 44 bs.length),(12,.slice (.id 12 2) ((Ey keep cm B k).map Ao)),(13,vi (Iz cm (B.take k))),(14,vi k),(59,vi ((bs.length:Int)-1)),(60,vi k)],[(12,.tok 2 ((Ey keep cm B k).map Ao).length),(15,.rom Wz (cm.map LH)),(44,.arr 1 (B.map Gx))],Aa⟩ (Yi ⟨⟨⟨rfl,hid _⟩,Zr,Zr,Zr,Zr,Zr,Zr,Zr,Tv⟩,Z3,Fh,Tv⟩ ?_)
    refine Yi ⟨by show(0:Int)≤k;omega,by show(k:Int)<bs.length;omega⟩ ?_;refine Yi uH (Xi (Gx B[k]) (Yi l8 ?_));refine OG (vi (Fk cm B[k])) (vi 0) (Qn i3.nd B[k]) (Qo cm B[k]) (fun q=>q) ?_;refine Yi (by show B3 (Iz cm (B.take k)+Fk cm B[k]);rw[←OL];unfold B3;omega) ?_;have DF:∀h,Pv Tryz.prog (str h F) [vi (Iz cm (B.take k)+Fk cm B[k])] (vb (keep (Iz cm (B.take (k+1))).toNat)):=fun h=>by
     rw[←OL];exact hF h _ rm.1 rm.2
    refine BH (Bt (keep (Iz cm (B.take (k+1))).toNat)) (fun hp=>?_) (fun hp=>?_)
    ·rw[hp]at DF;rw[hp,Aw rfl]at SP;refine Xi .pure (Xi (vb true) (Yi (DF _) ?_));refine Xi ⟨[(0,F),(5,.mref 15),(10,.msl 44 bs.length),(12,.slice (.id 12 2) ((Ey keep cm B k).map Ao)),(13,vi (Iz cm (B.take k)+Fk cm B[k])),(14,vi k),(59,vi ((bs.length:Int)-1)),(60,vi k)],[(12,.tok 2 ((Ey keep cm B k).map Ao).length),(15,.rom Wz (cm.map LH)),(44,.arr 1 (B.map Gx))],Aa⟩ (Yi ⟨⟨⟨rfl,hid _⟩,Zr,Zr,Zr,Zr,Zr,Zr,Zr,Tv⟩,Z3,Fh,Tv⟩ ?_)
     have b1:(0:Int)≤(k:Int)+1∧(k:Int)+1<bs.length:=by omega
     have uP:(B.map Gx)[((k:Int)+1).toNat]?=some (Gx B[k+1]):=by rw[show((k:Int)+1).toNat=k+1 by omega];exact uO
     refine Yi ⟨by show(0:Int)≤k;omega,by show(k:Int)<bs.length;omega⟩ ?_;refine Yi uH (Xi (Gx B[k]) (Yi l8 ?_));refine Yi (Ii k (by omega)) ?_;refine Yi b1 ?_;refine Yi uH (Xi (Gx B[k+1]) (Yi uP ?_));have Ga:Dn 2 [[vi B[k],vi B[k+1]]]∧((Ey keep cm B k).map Ao).length=((Ey keep cm B k).map Ao).length∧(((Ey keep cm B k).map Ao).length+[[vi B[k],vi B[k+1]]].length)*16≤140737488355328∧((Ey keep cm B k).map Ao).length+[[vi B[k],vi B[k+1]]].length≤9223372036854775807 :=
      ⟨⟨rfl,trivial⟩,rfl,by rw[Lm,AB];omega,by rw[Lm,AB];omega⟩
     refine Yi Ga ?_;refine Yi (by kernel_rfl) ?_;refine Xi ⟨[(0,F),(5,.mref 15),(10,.msl 44 bs.length),(12,.slice (.id 12 2) ((Ey keep cm B k).map Ao++[[vi B[k],vi B[k+1]]])),(13,vi (Iz cm (B.take k)+Fk cm B[k])),(59,vi ((bs.length:Int)-1)),(60,vi k)],[(12,.tok 2 (((Ey keep cm B k).map Ao).length+[[vi B[k],vi B[k+1]]].length)),(15,.rom Wz (cm.map LH)),(44,.arr 1 (B.map Gx))],Aa⟩ (Yi ⟨⟨⟨rfl,hid _⟩,Zr,Zr,Zr,Zr,Zr,Zr,Tv⟩,Z3,Fh,Tv⟩ ?_)
     refine Yi (Ii k (by omega)) ?_;refine Xi ⟨k+1,by omega⟩ ?_;have e1:AV.slice (.id 12 2) ((Ey keep cm B k).map Ao++[[vi B[k],vi B[k+1]]])=.slice (.id 12 2) ((Ey keep cm B (k+1)).map Ao):=by rw[SP,AH];rfl
     have e2:vi (Iz cm (B.take k)+Fk cm B[k])=vi (Iz cm (B.take (k+1))):=by rw[OL]
     have e3:HO.tok 2 (((Ey keep cm B k).map Ao).length+[[vi B[k],vi B[k+1]]].length)=.tok 2 ((Ey keep cm B (k+1)).map Ao).length:=by rw[SP,AH,Ad];rfl
     exact⟨Dl B.length k (by omega),⟨⟨rfl,hid _⟩,Zr,Zr,⟨e1,rfl⟩,⟨e2,rfl⟩,Zr,Zr,Tv⟩,⟨⟨e3,rfl⟩,Zr,Zr,Tv⟩,Fh,Tv⟩
    ·rw[hp]at DF;have SP:Ey keep cm B (k+1)=Ey keep cm B k:=by rw[SP,hp,Ai Bool.false_ne_true,B2]
     refine Xi .pure (Xi (vb false) (Yi (DF _) ?_));refine Xi ⟨[(0,F),(5,.mref 15),(10,.msl 44 bs.length),(12,.slice (.id 12 2) ((Ey keep cm B k).map Ao)),(13,vi (Iz cm (B.take k)+Fk cm B[k])),(59,vi ((bs.length:Int)-1)),(60,vi k)],[(12,.tok 2 ((Ey keep cm B k).map Ao).length),(15,.rom Wz (cm.map LH)),(44,.arr 1 (B.map Gx))],Aa⟩ (Yi ⟨⟨⟨rfl,hid _⟩,Zr,Zr,Zr,Zr,Zr,Zr,Tv⟩,Z3,Fh,Tv⟩ ?_)
     refine Yi (Ii k (by omega)) ?_;refine Xi ⟨k+1,by omega⟩ ?_;have e1:AV.slice (.id 12 2) ((Ey keep cm B k).map Ao)=.slice (.id 12 2) ((Ey keep cm B (k+1)).map Ao):=by rw[SP]
     have e2:vi (Iz cm (B.take k)+Fk cm B[k])=vi (Iz cm (B.take (k+1))):=by rw[OL]
     have e3:HO.tok 2 ((Ey keep cm B k).map Ao).length=.tok 2 ((Ey keep cm B (k+1)).map Ao).length:=by rw[SP]
     exact⟨Dl B.length k (by omega),⟨⟨rfl,hid _⟩,Zr,Zr,⟨e1,rfl⟩,⟨e2,rfl⟩,Zr,Zr,Tv⟩,⟨⟨e3,rfl⟩,Zr,Zr,Tv⟩,Fh,Tv⟩
   ·intro hk;have hk:¬(k:Int)<(bs.length:Int)-1:=hk;have Iv:k=B.length-1:=by omega
    have uT:canon (Ey keep cm B k)=R:=by
     refine(Sh hR fun p=>?_).symm;rw[Iv,zS,gD i3 hB]
    have hc:=W2 (Ey keep cm B k) (by unfold Ci;omega);rw[uT]at hc;refine Xi .pure (Xi _ (Yi hc ?_));exact .refl _
  ·intro kv NV hp;refine CK (Al.1 (r2 kv (hp.mem_iff.2 (Ab ..)))) (fun q hq=>?_);have hq2:=hq.2;subst hq2;refine Xi ⟨[(0,F),(5,.mref 15),(10,.msl 44 bs.length),(46,.ref 46 0)],[(15,.rom Wz (cm.map LH)),(44,.arr 1 (bs.map Gx)),(46,.iter (cm.map LH) NV (some (LH q)))],Aa⟩ (Yi ⟨⟨⟨rfl,hid _⟩,Zr,Zr,Zr,Tv⟩,Z3,Fh,Tv⟩ ?_)
   have Ga:Dn 1 [Gx q.1]∧(bs.map Gx).length=bs.length∧((bs.map Gx).length+[Gx q.1].length)*8≤140737488355328∧(bs.map Gx).length+[Gx q.1].length≤9223372036854775807 :=
    ⟨⟨rfl,trivial⟩,by rw[Lm],by rw[Lm,AB];omega,by rw[Lm,AB];omega⟩
   refine Yi Ga ?_;have e1:AV.msl 44 ((bs.map Gx).length+[Gx q.1].length)=.msl 44 (bs++[q.1]).length:=by simp
   have e2:HO.arr 1 (bs.map Gx++[Gx q.1])=.arr 1 ((bs++[q.1]).map Gx):=by simp
   refine Xi ⟨(NV,bs++[q.1],some (LH q)),?_,fun kv Pt=>r2 kv (hp.mem_iff.2 (Af _ Pt))⟩ ?_
   ·show(((bs++[q.1]).map kI)++NV.map (·.1)).Perm _;have h1:=hp.map (fun x:Value×AV=>x.1);rw[AN]at h1;rw[AH,AP];exact(List.Perm.append_left _ h1.symm).trans r1
   ·exact⟨by show NV.length<rem.length;rw[hp.length_eq];simp,⟨⟨rfl,hid _⟩,Zr,⟨e1,rfl⟩,Zr,Tv⟩,⟨Zr,⟨e2,rfl⟩,Zr,Tv⟩,Fh,Tv⟩
theorem tY(n:Int)(l:List Bj):PC 269 [vi n,.cptr [sl Fo l]] (vb (decide (n=l.length))):=by
 refine Ps F6 Tryz.func269 rfl (Nz rfl) ?_;have e:((l.map Fo).length:Int)=l.length:=by rw[Lm]
 refine Yi ?_ ?_
 ·intro h;have h:n=((l.map Fo).length:Int):=h;rw[show decide (n=(l.length:Int))=true from Ax (h.trans e)];exact .refl _
 ·intro h;have h:¬n=((l.map Fo).length:Int):=h;rw[show decide (n=(l.length:Int))=false from Aq (fun c=>h (c.trans e.symm))];exact .refl _
theorem t6(n:Int):PC 227 [vi n] (vb (decide (n=0))):=by
 refine Ps F6 Tryz.func227 rfl (Nz rfl) ?_;refine Yi ?_ ?_
 ·intro h;have h:n=0:=h;rw[Ax h];exact .refl _
 ·intro h;have h:¬n=0:=h;rw[Aq h];exact .refl _
theorem uu(n:Int):PC 258 [vi n] (vb (decide (0<n))):=by
 refine Ps F6 Tryz.func258 rfl (Nz rfl) ?_;refine Yi ?_ ?_
 ·intro h;have h:0<n:=h;rw[Ax h];exact .refl _
 ·intro h;have h:¬0<n:=h;rw[Aq h];exact .refl _
theorem gA(l:List Bj)(p:Int):decide (dO l p=l.length)=l.all fun s=>has s p:=by
 unfold dO;rw[BW,Ay,List.countP_eq_length,Bs]
theorem gC(l:List Bj)(p:Int):decide (0<dO l p)=l.any fun s=>has s p:=by
 unfold dO;rw[BW,Ay,List.countP_pos_iff,Bc]
theorem tO(l:List Bj)(hl:Ci l)(hs:∀s∈l,Ci s):PC 256 [sl Fo l] (sl Ao (PM l)):=by
 have hc:=m8 (.clo 269 [.cptr [sl Fo l]]) (fun n=>decide (n=l.length)) l hl hs (fun _=>rfl) (fun h n h0 _=>by
  have:=tY n l
  have e:decide (n=(l.length:Int))=decide (n.toNat=l.length):=by rw[decide_eq_decide];omega
  rw[e]at this;exact this) (PM l) (Wj l) fun p=>by rw[SK,gA]
 refine Ps (jB [1]) Tryz.func256 rfl (Nz rfl) ?_;refine Xi .pure (Xi _ (Yi (hc) ?_));exact .refl _
theorem mZ(s:Bj)(hs:Ci s):PC 202 [sl Ao s] (sl Ao (Eg s)):=by
 have hc:=m8 (.v (Ud 227)) (fun n=>decide (n=0)) [s] (by unfold Ci;simp) (fun t ht=>by rw[Am.1 ht];exact hs) (fun _=>rfl) (fun h n h0 _=>by
  have:=t6 n
  have e:decide (n=0)=decide (n.toNat=0):=by rw[decide_eq_decide];omega
  rw[e]at this;exact this) (Eg s) (G8 s) fun p=>by
   rw[FH]
   have:dO [s] p=if has s p then 1 else 0:=by unfold dO;rw[IE];simp
   rw[this];cases has s p<;>rfl
 refine Ps F6 Tryz.func202 rfl (Nz rfl) ?_;refine Xi .pure (Xi _ (Yi (hc) ?_));exact .refl _
theorem uq(l:List Bj)(hl:Ci l)(hs:∀s∈l,Ci s):PC 237 [sl Fo l] (sl Ao (Qm l)):=by
 have hc:=m8 (.v (Ud 258)) (fun n=>decide (0<n)) l hl hs (fun _=>rfl) (fun h n h0 _=>by
  have:=uu n
  have e:decide (0<n)=decide (0<n.toNat):=by rw[decide_eq_decide];omega
  rw[e]at this;exact this) (Qm l) (WC l) fun p=>by
   rw[SL,gC];cases h:l.any fun s=>has s p with
   |false=>simp
   |true =>
    obtain⟨s,_,h2⟩:=Bc.1 h
    have:=L7 h2
    simp[LG,this]
 refine Ps F6 Tryz.func237 rfl (Nz rfl) ?_;refine Xi .pure (Xi _ (Yi (hc) ?_));exact .refl _
-- terms
theorem zw(t:Tm)(ht:Ci t.set):PC 233 [.agg (AG t)] (vb (!t.absent&&(canon t.set).isEmpty)):=by
 refine Ps F6 Tryz.func233 rfl (Nz rfl) ?_;refine Yi ?_ ?_
 ·intro h;have h:t.absent=true:=h;rw[h];exact .refl _
 ·intro h;have h:t.absent=false:=h;refine Xi .pure (Xi _ (Yi (W2 t.set ht) ?_));refine Yi ?_ ?_
  ·intro h2;have h2:(((canon t.set).map Ao).length:Int)=0:=h2;have h2:canon t.set=[]:=AC (by rw[Lm]at h2;omega);rw[h,h2];exact .refl _
  ·intro h2;have h2:¬(((canon t.set).map Ao).length:Int)=0:=h2;have h2:(canon t.set).isEmpty=false:=by
    cases hc:canon t.set with
    |nil=>rw[hc]at h2;exact absurd rfl h2
    |cons _ _=>rfl
   rw[h,h2];exact .refl _
theorem zx(t:Tm)(ht:Ci t.set):PC 234 [.agg (AG t)] (vb (t.absent&&(Eg t.set).isEmpty)):=by
 refine Ps F6 Tryz.func234 rfl (Nz rfl) ?_;refine Yi ?_ ?_
 ·intro h;have h:t.absent=true:=h;refine Xi .pure (Xi _ (Yi (mZ t.set ht) ?_));refine Yi ?_ ?_
  ·intro h2;have h2:(((Eg t.set).map Ao).length:Int)=0:=h2;have h2:Eg t.set=[]:=AC (by rw[Lm]at h2;omega);rw[h,h2];exact .refl _
  ·intro h2;have h2:¬(((Eg t.set).map Ao).length:Int)=0:=h2;have h2:(Eg t.set).isEmpty=false:=by
    cases hc:Eg t.set with
    |nil=>rw[hc]at h2;exact absurd rfl h2
    |cons _ _=>rfl
   rw[h,h2];exact .refl _
 ·intro h;have h:t.absent=false:=h;rw[h];exact .refl _
abbrev Jt(l:List Nat):RS:=⟨[],[],[],[],[],[],[],[],[],[],l⟩
theorem xA(u t:Tm)(hu:Ci u.set)(ht:Ci t.set):PC 232 [.agg (AG u),.agg (AG t)] (.agg (AG (GR u t))):=by
 have hc:PC 256 [sl Fo [u.set,t.set]] (sl Ao (Nh u.set t.set)):=tO [u.set,t.set] (by unfold Ci;simp) (fun s hs=>by
  rcases As.1 hs with rfl | hs
  ·exact hu
  ·rw[Am.1 hs];exact ht)
 refine Ps (Jt [1]) Tryz.func232 rfl (Nz rfl) ?_;refine Xi ⟨[(2,.ref 2 0),(3,.ref 3 0),(4,.ref 4 0)],[(2,.cells (AG u)),(3,.cells (AG t)),(4,.cells [vs ⟨#[]⟩,vb false,.v (.slice none 0 0)])],Aa⟩ (Yi ⟨Z3,Z3,Fh,Tv⟩ ?_)
 refine Yi ?_ ?_
 ·intro h;have h:u.absent=true:=h;refine Yi ?_ ?_
  ·intro h2;have h2:t.absent=true:=h2;have e:[vs u.path,vb true,sl Ao (Nh u.set t.set)]=AG (GR u t):=by unfold GR;rw[h,h2];rfl
   refine Xi _ (Yi (hc) ?_);refine Yi (Nz rfl) (Yi (by kernel_rfl) (Yi (Nz rfl) ?_));exact .of_eq (Ac AV.agg e)
  ·intro h2;have h2:t.absent=false:=h2;have e:[vs u.path,vb false,sl Ao (Nh u.set t.set)]=AG (GR u t):=by unfold GR;rw[h,h2];rfl
   refine Xi _ (Yi (hc) ?_);refine Yi (Nz rfl) (Yi (by kernel_rfl) (Yi (Nz rfl) ?_));exact .of_eq (Ac AV.agg e)
 ·intro h;have h:u.absent=false:=h;have e:[vs u.path,vb false,sl Ao (Nh u.set t.set)]=AG (GR u t):=by unfold GR;rw[h];rfl
  refine Xi _ (Yi (hc) ?_);refine Yi (Nz rfl) (Yi (by kernel_rfl) (Yi (Nz rfl) ?_));exact .of_eq (Ac AV.agg e)
theorem uk(u t:Tm)(hu:Ci u.set)(ht:Ci t.set):PC 205 [.agg (AG u),.agg (AG t)] (.agg (AG (Dj u t))):=by
 have hc:PC 237 [sl Fo [u.set,t.set]] (sl Ao (Pm u.set t.set)):=uq [u.set,t.set] (by unfold Ci;simp) (fun s hs=>by
  rcases As.1 hs with rfl | hs
  ·exact hu
  ·rw[Am.1 hs];exact ht)
 refine Ps (Jt [1]) Tryz.func205 rfl (Nz rfl) ?_;refine Xi ⟨[(2,.ref 2 0),(3,.ref 3 0),(4,.ref 4 0)],[(2,.cells (AG u)),(3,.cells (AG t)),(4,.cells [vs ⟨#[]⟩,vb false,.v (.slice none 0 0)])],Aa⟩ (Yi ⟨Z3,Z3,Fh,Tv⟩ ?_)
 refine Yi ?_ ?_
 ·intro h;have h:u.absent=true:=h;have e:[vs u.path,vb true,sl Ao (Pm u.set t.set)]=AG (Dj u t):=by unfold Dj;rw[h];rfl
  refine Xi _ (Yi (hc) ?_);refine Yi (Nz rfl) (Yi (by kernel_rfl) (Yi (Nz rfl) ?_));exact .of_eq (Ac AV.agg e)
 ·intro h;have h:u.absent=false:=h;refine Yi ?_ ?_
  ·intro h2;have h2:t.absent=true:=h2;have e:[vs u.path,vb true,sl Ao (Pm u.set t.set)]=AG (Dj u t):=by unfold Dj;rw[h,h2];rfl
   refine Xi _ (Yi (hc) ?_);refine Yi (Nz rfl) (Yi (by kernel_rfl) (Yi (Nz rfl) ?_));exact .of_eq (Ac AV.agg e)
  ·intro h2;have h2:t.absent=false:=h2;have e:[vs u.path,vb false,sl Ao (Pm u.set t.set)]=AG (Dj u t):=by unfold Dj;rw[h,h2];rfl
   refine Xi _ (Yi (hc) ?_);refine Yi (Nz rfl) (Yi (by kernel_rfl) (Yi (Nz rfl) ?_));exact .of_eq (Ac AV.agg e)
theorem p7(q:Rq)(hq:Ci q.set):PC 197 [.agg (AE q)] (.agg (AG (DI q))):=by
 refine Ps F6 Tryz.func197 rfl (Nz rfl) ?_;refine Xi _ (Yi (mZ q.set hq) ?_);refine Yi (Nz rfl) (Yi (by kernel_rfl) (Yi (Nz rfl) ?_));exact .refl _
abbrev C3:EJ:=⟨false,[.str]⟩
abbrev MH(t:Tm):Value×AV:=(.string t.path,.agg (AG t))
abbrev rU(fin cut:List Nat):RS:=⟨[],[],[],[],fin,[],[],[],[],[],cut⟩
theorem RC{m:List Tm}{p:ByteArray}{a:AV}:(Value.string p,a)∈m.map MH↔∃t∈m,t.path=p∧a=.agg (AG t):=by
 rw[Al];constructor
 ·rintro⟨t,h1,h2⟩
  simp only[FN,Value.string.injEq]at h2;exact⟨t,h1,h2.1,h2.2.symm⟩
 ·rintro⟨t,h1,rfl,rfl⟩
  exact⟨t,h1,rfl⟩
theorem gS(m:List Tm)(t:Tm):ET (m.map MH) (.string t.path) (.agg (AG t))=(Wt m t).map MH:=by
 unfold Wt
 by_cases h:(m.any fun u=>decide (u.path=t.path))=true
 ·rw[Aw h];obtain⟨u,h1,h2⟩:=Bc.1 h;have h2:=Bq h2
  have:(Value.string t.path,AV.agg (AG u))∈m.map MH:=RC.2 ⟨u,h1,h2,rfl⟩
  rw[PR this,BN,BN];apply Bf;intro q _;simp only[Function.comp]
  by_cases e:q.path=t.path
  ·simp[e]
  ·have:¬Value.string q.path=.string t.path:=fun c=>e (by injection c)
   simp[e]
 ·rw[Ai h]
  have:∀b,(Value.string t.path,b)∉m.map MH:=fun b hb=>by
   obtain⟨u,h1,h2,_⟩:=RC.1 hb;exact h (Bc.2 ⟨u,h1,by simp[h2]⟩)
  rw[KF this,AH];rfl
theorem fD{m:List Tm}(hn:(Ez m).Nodup)(p:ByteArray){K:AV→Prop}{Z:Prop}(hy:∀u,Dm m p=some u→K (.agg (AG u)))(OK:Dm m p=none→Z) :
  (∀a,(Value.string p,a)∈m.map MH→K a)∧((∀a,(Value.string p,a)∉m.map MH)→Z) :=
 ⟨fun a h=>by
  obtain⟨t,h1,h2,rfl⟩:=RC.1 h;subst h2;exact hy t ((L1 hn).1 h1),fun h=>OK (by
  cases e:Dm m p with
  |none=>rfl
  |some u=>exact absurd (RC.2 ⟨u,E9 e,G0 e,rfl⟩) (h _))⟩
theorem Ov{t:Tm}(h:EH t.set):Ci t.set:=by
 unfold Ci
 have:=HY h;omega
theorem zv(l:List Tm)(hl:Ci l)(hs:∀t∈l,Ci t.set):PC 231 [sl AG l,.v (Ud 232)] (.cmap C3 ((CZ l).map MH)):=by
 have hl:l.length≤1073741824:=hl;refine Ps (rU [10] [5,8]) Tryz.func231 rfl (Nz rfl) ?_;refine Xi {i:Nat // i≤l.length} (Xi (fun i=>⟨[(0,sl AG l),(1,.v (Ud 232)),(5,.mref 10),(11,sl AG l),(12,vi (l.map AG).length),(13,vi i.1)],[(10,.map C3 ((CZ (l.take i.1)).map MH))],Aa⟩) (Xi (fun i=>l.length-i.1) (Yi (Xi ⟨0,AL _⟩ ?_) ?_)))
 ·exact⟨Z6,Z1,Fh,Tv⟩
 intro⟨i,h1⟩;have hn:=HD (l.take i);refine Yi ?_ ?_
 ·intro h;have h:(i:Int)<(l.map AG).length:=h;have h:i<l.length:=by simpa using h
  have hg:l[i]?=some l[i]:=Ge h;refine Xi (AG l[i]) (Yi (Yi (Nn i) (by simp[hg])) (Yi rfl ?_));refine Yi (Nz rfl) (Yi (Nz rfl) ?_);have Ff:=hs l[i] (Ap h);refine Xi ⟨[(0,sl AG l),(1,.v (Ud 232)),(5,.mref 10),(7,.ref 7 0),(11,sl AG l),(12,vi (l.map AG).length),(13,vi i)],[(7,.cells (AG l[i])),(10,.map C3 ((CZ (l.take i)).map MH))],Aa⟩ (Yi ⟨Z7,Z2,Fh,Tv⟩ ?_)
  have tail:∀u:Tm,Ci u.set→GR u l[i]=NU (Dm (CZ (l.take i)) l[i].path) l[i]→ET ((CZ (l.take i)).map MH) (.string l[i].path) (.agg (AG (GR u l[i])))=(CZ (l.take (i+1))).map MH:=fun u hu e=>by
   have hp:(NU (Dm (CZ (l.take i)) l[i].path) l[i]).path=l[i].path:=PX _ _ fun u h=>G0 h;have e2:=gS (CZ (l.take i)) (GR u l[i]);have e3:(GR u l[i]).path=l[i].path:=by rw[e];exact hp
   rw[e3]at e2;rw[e2,QV l i h,e];rfl
  refine fD hn l[i].path (fun u hu=>?_) (fun hu=>?_)
  ·have K9:Ci u.set:=Ov (OU _ u (E9 hu));refine Yi (Nz rfl) ?_;refine Xi ⟨[(0,sl AG l),(1,.v (Ud 232)),(5,.mref 10),(7,.ref 7 0),(8,.ref 8 0),(11,sl AG l),(12,vi (l.map AG).length),(13,vi i)],[(7,.cells (AG l[i])),(8,.cells (AG u)),(10,.map C3 ((CZ (l.take i)).map MH))],Aa⟩ (Yi ⟨Z8,Z3,Fh,Tv⟩ ?_)
   have AW:=tail u K9 (by rw[bh,hu];rfl);refine Yi (Nz rfl) (Yi (Nz rfl) ?_);refine Xi _ (Yi (xA u l[i] K9 Ff) ?_);refine Yi (by kernel_rfl) ?_;refine Yi (Ii i (by omega)) ?_;refine Xi ⟨i+1,by omega⟩ ?_;have e1:HO.map C3 (ET ((CZ (l.take i)).map MH) (.string l[i].path) (.agg (AG (GR u l[i]))))=.map C3 ((CZ (l.take (i+1))).map MH):=by rw[AW]
   exact⟨Dl l.length i (by omega),Z6,⟨⟨e1,rfl⟩,Tv⟩,Fh,Tv⟩
  ·refine Yi (Nz rfl) ?_;refine Yi (Nz rfl) (Yi (Nz rfl) ?_);refine Xi ⟨[(0,sl AG l),(1,.v (Ud 232)),(5,.mref 10),(7,.ref 7 0),(8,.ref 8 0),(11,sl AG l),(12,vi (l.map AG).length),(13,vi i)],[(7,.cells (AG l[i])),(8,.cells (AG l[i])),(10,.map C3 ((CZ (l.take i)).map MH))],Aa⟩ (Yi ⟨Z8,Z3,Fh,Tv⟩ ?_)
   have AW:=tail l[i] Ff (by rw[bh,hu];rfl);refine Yi (Nz rfl) (Yi (Nz rfl) ?_);refine Xi _ (Yi (xA l[i] l[i] Ff Ff) ?_);refine Yi (by kernel_rfl) ?_;refine Yi (Ii i (by omega)) ?_;refine Xi ⟨i+1,by omega⟩ ?_;have e1:HO.map C3 (ET ((CZ (l.take i)).map MH) (.string l[i].path) (.agg (AG (GR l[i] l[i]))))=.map C3 ((CZ (l.take (i+1))).map MH):=by rw[AW]
   exact⟨Dl l.length i (by omega),Z6,⟨⟨e1,rfl⟩,Tv⟩,Fh,Tv⟩
 ·intro h;have h:¬(i:Int)<(l.map AG).length:=h;have h:¬i<l.length:=by simpa using h
  have e:(CZ (l.take i)).map MH=(CZ l).map MH:=by rw[AS (by omega)]
  exact .of_eq (Ac (AV.cmap C3) e)
abbrev GG(l:List Tm):AV:=.tup [sl AG (PU l),vb (CR l).isSome]
abbrev wy:RS:=⟨[],[],[(4,3)],[],[],[],[],[],[],[(25,4)],[4,7,10]⟩
abbrev RZ(l:List Tm):HO:=.arr 3 (l.map AG)
abbrev Fi(l:List Tm):List Tm:=l.filter fun t=>!Gu t
theorem kY{l:List Tm}{kv:Value×AV}{NV : List (Value×AV)}(h:(l.map MH).Perm (kv::NV)):∃t r,kv=MH t∧NV=r.map MH∧l.Perm (t::r):=by
 obtain⟨ps,h1,h2⟩:=Mk h l rfl;cases ps with
 |nil=>cases h2
 |cons t r =>
  rw[AN,Fw]at h2;exact⟨t,r,h2.1.symm,h2.2.symm,h1.symm⟩
theorem W3{l:List Tm}{t:Tm}(h:t∈CZ l)(hn:HE t=true):CR l=none:=by
 unfold CR;rw[Aw (Bc.2 ⟨t,(I5 l t).1 h,hn⟩)]
theorem YR{l done s:List Tm}(h:done.Perm (CZ l))(hn:∀t∈done,HE t=false)(hp:s.Perm (Fi done))(hs:s.Pairwise fun x y=>Fl y.path x.path=false):CR l=some s:=by
 unfold CR;rw[Ai]
 ·congr 1
  exact(PD _ (hp.trans (h.filter _)) hs).symm
 ·intro c;obtain⟨t,h1,h2⟩:=Bc.1 c
  have:=hn t (h.mem_iff.2 ((I5 l t).2 h1))
  rw[h2]at this;cases this
theorem cK(l:List Tm):(Fi l).length≤l.length:=BF _ _
theorem sy(l:List Tm)(hl:Ci l)(hs:∀t∈l,Ci t.set):PC 204 [sl AG l] (GG l):=by
 have cw:l.length≤1073741824:=hl;have ym:(CZ l).length≤l.length:=by have:=NN l l.length (Ak _);rwa [Dv]at this
 refine Ps wy Tryz.func204 rfl (Nz rfl) ?_;refine Xi .pure (Xi _ (Yi (zv l hl hs) ?_));refine Xi {p:List Tm×List Tm×Option (Value×AV) // (p.1++p.2.1).Perm (CZ l)∧∀t∈p.1,HE t=false} (Xi (fun p=>⟨[(4,.msl 4 (Fi p.1.1).length),(9,.ref 9 0)],[(4,RZ (Fi p.1.1)),(9,.iter ((CZ l).map MH) (p.1.2.1.map MH) p.1.2.2)],Aa⟩) (Xi (fun p=>p.1.2.1.length) (Yi (Xi ⟨([],CZ l,none),.refl _,fun t ht=>by cases ht⟩ ?_) ?_)))
 ·exact⟨Z2,Z2,Fh,Tv⟩
 intro⟨⟨done,rem,FC⟩,r1,r2⟩;have r1:(done++rem).Perm (CZ l):=r1;have r2:∀t∈done,HE t=false:=r2;have hdl:done.length+rem.length≤l.length:=by have:=r1.length_eq;rw[Ad]at this;omega
 have po:=cK done;refine Yi ?_ ?_
 ·intro hr;have hr:rem.map MH=[]:=hr;have hr:rem=[]:=Dr.1 hr;subst hr;rw[B2]at r1;refine Xi (.gen [(4,1000)] 0) (Yi rfl ((zy (Fi done) (by unfold Ci;omega)).to ?_));intro s hq;have WM:s.length=(Fi done).length:=hq.1.length_eq;have hc:=YR r1 r2 hq.1 hq.2;refine Xi ⟨[(4,.msl 4 (Fi done).length)],[(4,RZ s)],Aa⟩ (Yi ⟨Z1,Z1,Fh,Tv⟩ ?_)
  refine Yi (by rw[Lm,WM]) ?_;have e:AV.tup [sl AG s,vb true]=GG l:=by unfold GG PU;rw[hc];rfl
  exact .of_eq e
 ·intro kv NV hp;refine CK (kY hp) (fun t hp=>CK hp (fun r hp=>?_));have e1:=hp.1;have e2:=hp.2.1;subst e1;subst e2;have hp:=hp.2.2;have s7:t∈CZ l:=r1.mem_iff.1 (Bk _ (hp.mem_iff.2 (Ab ..)));have vO:=OU l t s7;have yA:=Ov vO;refine Xi ⟨[(4,.msl 4 (Fi done).length),(9,.ref 9 0)],[(4,RZ (Fi done)),(9,.iter ((CZ l).map MH) (r.map MH) (some (MH t)))],Aa⟩ (Yi ⟨Z2,Z2,Fh,Tv⟩ ?_)
  refine Yi (Nz rfl) (Yi (Nz rfl) ?_);have hv:PC 233 [.agg (AG t)] (vb (HE t)):=gV vO▸zw t yA;have ha:PC 234 [.agg (AG t)] (vb (Gu t)):=bJ vO▸zx t yA;refine BH (Bt (HE t)) (fun h=>?_) (fun h=>?_)
  ·rw[h]at hv;refine Xi .pure (Xi _ (Yi (hv) ?_));have hc:=W3 s7 h;have e:AV.tup [.slice .none [],vb false]=GG l:=by unfold GG PU;rw[hc];rfl
   have e0:Hq (.tup [.v (.slice none 0 0),vb false]) (.tup [.slice .none [],vb false]):=Hq.tup ⟨.nil,.refl _,trivial⟩;exact e0.trans (.of_eq e)
  ·rw[h]at hv;refine Xi .pure (Xi _ (Yi (hv) ?_));refine Xi ⟨[(4,.msl 4 (Fi done).length),(6,.ref 6 0),(9,.ref 9 0)],[(4,RZ (Fi done)),(6,.cells (AG t)),(9,.iter ((CZ l).map MH) (r.map MH) (some (MH t)))],Aa⟩ (Yi ⟨Z3,Z3,Fh,Tv⟩ ?_)
   refine Yi (Nz rfl) ?_;have TY:((done++[t])++r).Perm (CZ l):=by
    rw[AP];exact(List.Perm.append_left _ hp.symm).trans r1
   have yn:∀u∈done++[t],HE u=false:=fun u hu=>by
    rcases A8.1 hu with hu | hu
    ·exact r2 u hu
    ·rw[Am.1 hu];exact h
   have WK:r.length<rem.length:=by rw[hp.length_eq,Au];omega
   refine BH (Bt (Gu t)) (fun h2=>?_) (fun h2=>?_)
   rotate_left
   ·rw[h2]at ha;refine Xi .pure (Xi _ (Yi (ha) ?_));have Ga:Dn 3 [AG t]∧((Fi done).map AG).length=(Fi done).length∧(((Fi done).map AG).length+[AG t].length)*48≤140737488355328∧((Fi done).map AG).length+[AG t].length≤9223372036854775807 :=
     ⟨⟨rfl,trivial⟩,by rw[Lm],by rw[Lm,AB];omega,by rw[Lm,AB];omega⟩
    refine Yi (Nz rfl) ?_;refine Yi Ga ?_;have hk:Fi (done++[t])=Fi done++[t]:=by unfold Fi;rw[Ep,DN,Aw (by rw[h2];rfl)];rfl
    have e1:AV.msl 4 (((Fi done).map AG).length+[AG t].length)=.msl 4 (Fi (done++[t])).length:=by rw[hk];simp
    have e2:HO.arr 3 ((Fi done).map AG++[AG t])=RZ (Fi (done++[t])):=by rw[hk];simp
    refine Xi ⟨(done++[t],r,some (MH t)),TY,yn⟩ ?_;exact⟨WK,⟨⟨e1,rfl⟩,Zr,Tv⟩,⟨⟨e2,rfl⟩,Zr,Tv⟩,Fh,Tv⟩
   ·rw[h2]at ha;refine Xi .pure (Xi _ (Yi (ha) ?_));have hk:Fi (done++[t])=Fi done:=by unfold Fi;rw[Ep,DN,Ai (by rw[h2];decide)];simp
    have e1:AV.msl 4 (Fi done).length=.msl 4 (Fi (done++[t])).length:=by rw[hk]
    have e2:RZ (Fi done)=RZ (Fi (done++[t])):=by rw[hk]
    refine Xi ⟨(done++[t],r,some (MH t)),TY,yn⟩ ?_;exact⟨WK,⟨⟨e1,rfl⟩,Zr,Tv⟩,⟨⟨e2,rfl⟩,Zr,Tv⟩,Fh,Tv⟩
end Go.Eng
