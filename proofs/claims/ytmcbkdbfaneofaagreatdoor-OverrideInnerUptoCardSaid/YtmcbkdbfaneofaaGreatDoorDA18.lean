/- Lemmas for the claims of this seat, without a condition: part 18 (C16, C17, C18, C19, C20, C21, C22, C23). -/
import Derived.Test.YtmcbkdbfaneofaaGreatDoorDA17
import Derived.Test.YtmcbkdbfaneofaaGreatDoorDA02
namespace Go.Eng
open Go.Proofs
theorem Be.imp{P:Program}{f:Nat}{args:List AV}{h0:Nat→HO}{Q Q' : AV→(Nat→HO)→Prop}(h:Be P f args h0 Q)(hq:∀r h',Q r h'→Q' r h'):Be P f args h0 Q':=h.mono fun r h' q=>⟨r,.refl _,hq r h' q⟩
theorem Be.to{P:Program}{f:Nat}{args:List AV}{h0:Nat→HO}{α:Type}{r0:AV}{p:α→Prop}{H:α→Nat→HO}{Q' : AV→(Nat→HO)→Prop}(h:Be P f args h0 fun r h'=>r=r0∧∃x,p x∧h'=H x)(k:∀x,p x→Q' r0 (H x)):Be P f args h0 Q' :=
 h.imp fun r h' ⟨e1,x,e2,e3⟩=>by subst e1;subst e3;exact k x e2
theorem mq(n:Nat)(h:n≤1073741824):∃lim:Nat,lim<100∧PC 130 [.v (.int .u64 (IntKind.u64.wrap (n:Int)))] (vi lim):=by
 refine⟨Lib.bitLen n,Nat.lt_of_le_of_lt (Lib.bitLen_le n 62 (by omega) (by omega)) (by omega),?_⟩;have wr:IntKind.u64.wrap (n:Int)=n:=by simp[IntKind.wrap,IntKind.bits,IntKind.signed];omega
 rw[wr];refine K8 [.int .u64 n] (.int .i64 (Lib.bitLen n:Nat)) (dp 130 Tryz.func130 (by kernel_rfl) rfl) rfl (fun _ _=>.v _ _) fun w _=>?_
 have:=Any.bits_Len Tryz.layBits (n:Int) w (by omega) (by omega)
 rw[Ch]at this;exact this
theorem s8(l:List (Int×Int))(hl:Cn l)(h:∀x∈l,0≤x.1∧x.1≤1000000) :
  Be Tryz.prog 190 [.msl 1000 l.length,.v (TZ 191)] (Aj [(1000,.arr 2 (l.map Aq))] Ab) fun r h' =>
   r=.tup []∧∃l' : List (Int×Int),(l'.Perm l∧l'.Pairwise (fun x y=>x.1≤y.1))∧h'=Aj [(1000,.arr 2 (l'.map Aq))] Ab:=by
 obtain⟨lim,Xr,hb⟩:=mq l.length hl;refine Cm (Mo F7) [(1000,1000)] rfl CL hm rfl Tryz.func190 (by kernel_rfl) rfl (Nz rfl) (by kernel_rfl) rfl ?_;refine Xi .pure (Xi _ (Yi (hb) ?_));refine Xi (.gen [(1000,1000)] 0) (Yi rfl ((tc l hl h lim Xr).imp ?_));intro r h' hq;refine Do hq.2 (fun l' Py=>?_);refine Xi (.tup []) (Yi ?_ (Yi rfl (Xi l' (Yi ⟨Py.1,Py.2.1⟩ ?_))))
 ·exact .refl _
 ·rw[Py.2.2];rfl
theorem yH(l:List Tm)(hl:Cn l) :
  Be Tryz.prog 235 [.msl 1000 l.length,.v (TZ 236)] (Aj [(1000,.arr 3 (l.map AF))] Ab) fun r h' =>
   r=.tup []∧∃l' : List Tm,(l'.Perm l∧l'.Pairwise (fun x y=>Ff y.path x.path=false))∧h'=Aj [(1000,.arr 3 (l'.map AF))] Ab:=by
 obtain⟨lim,Xr,hb⟩:=mq l.length hl;refine Cm (Mo F7) [(1000,1000)] rfl CL hm rfl Tryz.func235 (by kernel_rfl) rfl (Nz rfl) (by kernel_rfl) rfl ?_;refine Xi .pure (Xi _ (Yi (hb) ?_));refine Xi (.gen [(1000,1000)] 0) (Yi rfl ((sT l hl lim Xr).imp ?_));intro r h' hq;refine Do hq.2 (fun l' Py=>?_);refine Xi (.tup []) (Yi ?_ (Yi rfl (Xi l' (Yi ⟨Py.1,Py.2.1⟩ ?_))))
 ·exact .refl _
 ·rw[Py.2.2];rfl
abbrev xY(l:List (Nat×Nat))(cut:List Nat):TM:=⟨[],[],l,[],[],[],[],[],[],[],cut⟩
abbrev II(l:List (Int×Int)):HO:=.arr 2 (l.map Aq)
theorem YG(l:Bn)(i:Nat):(CP (l.take i)).length≤i:=by
 unfold CP
 have:=BE (fun x:Int×Int=>decide (x.1<x.2)) ((l.take i).map Hh)
 rw[Lm,AJ]at this;omega
theorem UA{l:Bn}{i:Nat}(h:i<l.length)(h3:(Hh l[i]).1<(Hh l[i]).2):CP (l.take (i+1))=CP (l.take i)++[Hh l[i]]:=by
 rw[Bu,Ge h,N8];unfold CP;simp[h3]
theorem WV{l:Bn}{i:Nat}(h:i<l.length)(h3:¬(Hh l[i]).1<(Hh l[i]).2):CP (l.take (i+1))=CP (l.take i):=by
 rw[Bu,Ge h,N8];unfold CP;simp[h3]
abbrev arr2(s j:Bn)(i:Nat):Bn:=(BC (s.take i)).reverse++(j++s.drop i)
theorem i9(s j:Bn)(i:Nat)(h:i<s.length)(hj:(BC (s.take i)).length+j.length=i):(arr2 s j i)[i]?=some s[i]:=by
 unfold arr2;rw[A4 (by rw[Dq];omega),A4 (by rw[Dq];omega),Dq,BR];rw[show i+(i-(BC (List.take i s)).length-j.length)=i by omega,Ge h]
theorem bi(s j:Bn)(i:Nat){y:Int×Int}{t:Bn}(e:BC (s.take i)=y::t):(arr2 s j i)[t.length]?=some y:=by
 unfold arr2;rw[e,Ql,AO,A4 (by rw[Dq];omega),Dq,Ga];rfl
theorem dM(s j:Bn)(i:Nat)(h:i≤s.length)(hj:(BC (s.take i)).length+j.length=i):(arr2 s j i).length=s.length:=by
 unfold arr2;simp only[Ad,Dq,Ar];omega
theorem ZP{α:Type}(s:List α)(i:Nat)(h:i<s.length):s.drop i=s[i]::s.drop (i+1):=Bs h
theorem Up(s j:Bn)(i:Nat)(h:i<s.length)(e:KH (BC (s.take i)) s[i]=s[i]::BC (s.take i)) :
  (arr2 s j i).set (BC (s.take i)).length s[i]=arr2 s (j++[s[i]]).tail (i+1):=by
 unfold arr2;rw[Gi s i h,e,Ql,List.set_append_right _ _ (by rw[Dq];exact Ak _),Dq,Ga,AO,ZP s i h]
 congr 1
 cases j with
 |nil=>rfl
 |cons a b=>simp
theorem bh(s j:Bn)(i:Nat)(h:i<s.length){y:Int×Int}{t:Bn}(e:BC (s.take i)=y::t)(Hi:s[i].1≤y.2) :
  (arr2 s j i).set t.length (y.1,max y.2 s[i].2)=arr2 s (j++[s[i]]) (i+1):=by
 unfold arr2;have e2:KH (y::t) s[i]=(y.1,max y.2 s[i].2)::t:=by show(if s[i].1≤y.2 then _ else _)=_;rw[Az Hi]
 rw[Gi s i h,e,e2,Ql,Ql,AO,List.set_append_right _ _ (by rw[Dq];exact Ak _),Dq,Ga,ZP s i h];simp
theorem Cg{α:Type}{enc:α→List AV}{l:List α}{i:Nat}{x:α}(h:l[i]?=some x):(l.map enc)[i]?=some (enc x):=by rw[AG,h];rfl
theorem WR(l:List (Int×Int))(hl:Cn l):PC 148 [sl Aq l] (sl Aq (canon l)):=by
 have hl:l.length≤1073741824:=hl;refine FZ (dn (xY [(3,2)] [5,14,15,16])) rfl CL hm rfl Tryz.func148 (by kernel_rfl) rfl (Nz rfl) (by kernel_rfl) ?_;refine Xi {i:Nat // i≤l.length} (Xi (fun i=>⟨[(0,sl Aq l),(3,.msl 3 (CP (l.take i.1)).length),(9,sl Aq l),(10,vi (l.map Aq).length),(11,vi i.1)],[(3,II (CP (l.take i.1)))],Ab⟩) (Xi (fun i=>l.length-i.1) (Yi (Xi ⟨0,by simp⟩ ?_) ?_)))
 ·exact⟨Z5,Z1,Fh,Tv⟩
 ·intro⟨i,h1⟩;have hn:=YG l i;refine Yi ?_ ?_
  ·intro h;have h:(i:Int)<(l.map Aq).length:=h;have h:i<l.length:=by simpa using h
   have hg:l[i]?=some l[i]:=Ge h;refine Xi (Aq l[i]) (Yi (Yi (Nn i) (by simp[hg])) (Yi rfl ?_));refine Yi (Nz rfl) (Yi (Nz rfl) ?_);refine Xi ⟨[(0,sl Aq l),(3,.msl 3 (CP (l.take i)).length),(5,.ref 5 0),(9,sl Aq l),(10,vi (l.map Aq).length),(11,vi i)],[(3,II (CP (l.take i))),(5,.cells (Aq l[i]))],Ab⟩ (Yi ⟨Z6,Z2,Fh,Tv⟩ ?_)
   refine Yi (Nz rfl) ?_;refine Yi ?_ ?_
   ·intro h3;have h3:(Hh l[i]).1<(Hh l[i]).2:=h3;refine Yi (Nz rfl) ?_;have Gs:Dp 2 [[vi (max l[i].1 0),vi (min l[i].2 1000000)]]∧((CP (l.take i)).map Aq).length=(CP (l.take i)).length∧(((CP (l.take i)).map Aq).length+[[vi (max l[i].1 0),vi (min l[i].2 1000000)]].length)*16≤140737488355328∧((CP (l.take i)).map Aq).length+[[vi (max l[i].1 0),vi (min l[i].2 1000000)]].length≤9223372036854775807 :=
     ⟨⟨rfl,trivial⟩,by rw[Lm],by rw[Lm,AD];omega,by rw[Lm,AD];omega⟩
    refine Yi Gs ?_;refine Yi (Ii i (by omega)) ?_;refine Xi ⟨i+1,by omega⟩ ?_;have e1:AV.msl 3 (((CP (l.take i)).map Aq).length+[[vi (max l[i].1 0),vi (min l[i].2 1000000)]].length)=.msl 3 (CP (l.take (i+1))).length:=by rw[UA h h3];simp
    have e2:HO.arr 2 ((CP (l.take i)).map Aq++[[vi (max l[i].1 0),vi (min l[i].2 1000000)]])=II (CP (l.take (i+1))):=by rw[UA h h3];simp[Hh]
    exact⟨Dl l.length i (by omega),⟨Zr,⟨e1,rfl⟩,Zr,Zr,Zr,Tv⟩,⟨⟨e2,rfl⟩,Tv⟩,Fh,Tv⟩
   ·intro h3;have h3:¬(Hh l[i]).1<(Hh l[i]).2:=h3;refine Yi (Ii i (by omega)) ?_;refine Xi ⟨i+1,by omega⟩ ?_;have e1:AV.msl 3 (CP (l.take i)).length=.msl 3 (CP (l.take (i+1))).length:=by rw[WV h h3]
    have e2:II (CP (l.take i))=II (CP (l.take (i+1))):=by rw[WV h h3]
    exact⟨Dl l.length i (by omega),⟨Zr,⟨e1,rfl⟩,Zr,Zr,Zr,Tv⟩,⟨⟨e2,rfl⟩,Tv⟩,Fh,Tv⟩
  ·intro h;have h:¬(i:Int)<(l.map Aq).length:=h;have h:¬i<l.length:=by simpa using h
   have ei:CP (l.take i)=CP l:=by rw[AT (by omega)]
   have hN:(CP (l.take i)).length=(CP l).length:=by rw[ei]
   refine Xi (.gen [(3,1000)] 0) (Yi rfl ((s8 (CP (l.take i)) (by unfold Cn;omega) (fun x hx=>by have:=Uz hx;omega)).to ?_));intro s hs;have Wz:s.length=(CP (l.take i)).length:=hs.1.length_eq;have hsN:s.length≤1073741824:=by omega
   have fin:(BC s).reverse=canon l:=QU (by rw[←ei];exact hs.1) hs.2;refine Xi {p:Nat×Bn // p.1≤s.length∧(BC (s.take p.1)).length+p.2.length=p.1} (Xi (fun p=>⟨[(3,.msl 3 (CP (l.take i)).length),(6,vi (BC (s.take p.1.1)).length),(34,.msl 3 (CP (l.take i)).length),(35,vi (CP (l.take i)).length),(36,vi p.1.1)],[(3,II (arr2 s p.1.2 p.1.1))],Ab⟩) (Xi (fun p=>s.length-p.1.1) (Yi (Xi ⟨(0,[]),AM _,rfl⟩ ?_) ?_)))
   ·exact⟨Z5,Z1,Fh,Tv⟩
   intro⟨⟨k,j⟩,k1,k2⟩;have k1:k≤s.length:=k1;have k2:(BC (s.take k)).length+j.length=k:=k2;have CB:=dM s j k k1 k2;have SB:(CP (l.take i)).length=((arr2 s j k).map Aq).length:=by rw[Lm,CB,Wz]
   refine Yi ?_ ?_
   ·intro h2;have h2:(k:Int)<(CP (l.take i)).length:=h2;have hk:k<s.length:=by omega
    have lq:=Cg (enc:=Aq) (i9 s j k hk k2);refine Yi ⟨by show(0:Int)≤k;omega,by show(k:Int)<_;omega⟩ ?_;refine Yi SB (Xi (Aq s[k]) (Yi lq (Yi (Nz rfl) (Yi (Nz rfl) ?_))));refine Xi ⟨[(3,.msl 3 (CP (l.take i)).length),(6,vi (BC (s.take k)).length),(7,vi k),(8,.ref 8 0),(34,.msl 3 (CP (l.take i)).length),(35,vi (CP (l.take i)).length),(36,vi k)],[(3,II (arr2 s j k)),(8,.cells (Aq s[k]))],Ab⟩ (Yi ⟨Z7,Z2,Fh,Tv⟩ ?_)
    have hr:=S7 s k k1;refine BN (Nat.eq_zero_or_pos k) (fun k0=>?_) (fun k0=>?_)
    ·refine Yi ?_ ?_
     ·intro h4;have h4:(0:Int)<k:=h4;omega
     ·intro _;refine Yi (by kernel_rfl) ?_;have Jc:KH (BC (s.take k)) s[k]=s[k]::BC (s.take k):=by subst k0;rfl
      have du:(BC (s.take k)).length<(arr2 s j k).length:=by omega
      have hz:=Cg (enc:=Aq) (Ge du);refine Xi ⟨[(3,.msl 3 (CP (l.take i)).length),(6,vi (BC (s.take k)).length),(8,.ref 8 0),(34,.msl 3 (CP (l.take i)).length),(35,vi (CP (l.take i)).length),(36,vi k)],[(3,II (arr2 s j k)),(8,.cells (Aq s[k]))],Ab⟩ (Yi ⟨⟨⟨rfl,rfl⟩,⟨rfl,rfl⟩,⟨rfl,rfl⟩,⟨rfl,rfl⟩,⟨rfl,rfl⟩,⟨rfl,rfl⟩,Tv⟩,⟨⟨rfl,rfl⟩,⟨rfl,rfl⟩,Tv⟩,Fh,Tv⟩ ?_);refine Yi (Nz rfl) (Yi ⟨by show(0:Int)≤((BC (s.take k)).length:Int);omega,by show((BC (s.take k)).length:Int)<_;omega⟩ ?_);refine Yi SB (Xi (Aq (arr2 s j k)[(BC (s.take k)).length]) (Yi hz (Yi (Nz rfl) ?_)));refine Yi (by show BY (((BC (s.take k)).length:Int)+1);unfold BY;omega) ?_;refine Yi (Ii k (by omega)) ?_;have hm:=Gi s k hk;have e1:vi (((BC (s.take k)).length:Int)+1)=vi (BC (s.take (k+1))).length:=by rw[hm,Jc];simp
      have e2:HO.arr 2 (((arr2 s j k).map Aq).set (BC (s.take k)).length [vi s[k].1,vi s[k].2])=II (arr2 s (j++[s[k]]).tail (k+1)):=by rw[←Up s j k hk Jc];simp only[II,Nb]
      refine Xi ⟨(k+1,(j++[s[k]]).tail),by show k+1≤s.length;omega,by show(BC (s.take (k+1))).length+((j++[s[k]]).tail).length=k+1;rw[hm,Jc];simp;omega⟩ ?_;exact⟨Dl s.length k (by omega),⟨Zr,⟨e1,rfl⟩,Zr,Zr,Zr,Tv⟩,⟨⟨e2,rfl⟩,Tv⟩,Fh,Tv⟩
    ·refine Yi ?_ ?_
     ·intro _;obtain⟨y,t,e⟩:∃y t,BC (s.take k)=y::t:=by
       cases hc:BC (s.take k)with
       |nil=>have:=hr.2 k0;rw[hc]at this;simp at this
       |cons y t=>exact⟨y,t,rfl⟩
      have ht:(((BC (s.take k)).length:Int)-1).toNat=t.length:=by rw[e];simp
      have hy:((arr2 s j k).map Aq)[(((BC (s.take k)).length:Int)-1).toNat]?=some (Aq y):=by rw[ht];exact Cg (bi s j k e)
      refine Yi (by show BY (((BC (s.take k)).length:Int)-1);unfold BY;omega) ?_;have Y2:=hr.2 k0;refine Yi ⟨by show(0:Int)≤((BC (s.take k)).length:Int)-1;omega,by show((BC (s.take k)).length:Int)-1<_;omega⟩ ?_;refine Yi SB (Xi (Aq y) (Yi hy ?_));refine Yi ?_ ?_
      ·intro h5;have h5:s[k].1≤y.2:=h5;refine Yi (by kernel_rfl) ?_;refine Xi ⟨[(3,.msl 3 (CP (l.take i)).length),(6,vi (BC (s.take k)).length),(8,.ref 8 0),(34,.msl 3 (CP (l.take i)).length),(35,vi (CP (l.take i)).length),(36,vi k)],[(3,II (arr2 s j k)),(8,.cells (Aq s[k]))],Ab⟩ (Yi ⟨⟨⟨rfl,rfl⟩,⟨rfl,rfl⟩,⟨rfl,rfl⟩,⟨rfl,rfl⟩,⟨rfl,rfl⟩,⟨rfl,rfl⟩,Tv⟩,⟨⟨rfl,rfl⟩,⟨rfl,rfl⟩,Tv⟩,Fh,Tv⟩ ?_);refine Yi (by show BY (((BC (s.take k)).length:Int)-1);unfold BY;omega) (Yi (by show BY (((BC (s.take k)).length:Int)-1);unfold BY;omega) ?_);refine Yi ⟨by show(0:Int)≤((BC (s.take k)).length:Int)-1;omega,by show((BC (s.take k)).length:Int)-1<_;omega⟩ ?_;refine Yi SB (Xi (Aq y) (Yi hy ?_));refine Yi ⟨by show(0:Int)≤((BC (s.take k)).length:Int)-1;omega,by show((BC (s.take k)).length:Int)-1<_;omega⟩ ?_;refine Yi SB (Xi (Aq y) (Yi hy (Yi (Nz rfl) ?_)));refine Yi (by kernel_rfl) ?_;refine Yi (Ii k (by omega)) ?_;have hm:=Gi s k hk;have Jc:KH (BC (s.take k)) s[k]=(y.1,max y.2 s[k].2)::t:=by rw[e];show(if s[k].1≤y.2 then _ else _)=_;rw[Az h5]
       have e1:vi (BC (s.take k)).length=vi (BC (s.take (k+1))).length:=by rw[hm,Jc,e];simp
       have e2:HO.arr 2 (((arr2 s j k).map Aq).set (((BC (s.take k)).length:Int)-1).toNat [vi y.1,vi (max y.2 s[k].2)])=II (arr2 s (j++[s[k]]) (k+1)):=by rw[←bh s j k hk e h5,ht];simp only[II,Nb]
       refine Xi ⟨(k+1,j++[s[k]]),by show k+1≤s.length;omega,by show(BC (s.take (k+1))).length+(j++[s[k]]).length=k+1;rw[hm,Jc,Ad,AD];rw[e]at k2;simp only[At]at k2⊢;omega⟩ ?_;exact⟨Dl s.length k (by omega),⟨Zr,⟨e1,rfl⟩,Zr,Zr,Zr,Tv⟩,⟨⟨e2,rfl⟩,Tv⟩,Fh,Tv⟩
      ·intro h5;have h5:¬s[k].1≤y.2:=h5;refine Yi (by kernel_rfl) ?_;have Jc:KH (BC (s.take k)) s[k]=s[k]::BC (s.take k):=by rw[e];show(if s[k].1≤y.2 then _ else _)=_;rw[Al h5]
       have du:(BC (s.take k)).length<(arr2 s j k).length:=by omega
       have hz:=Cg (enc:=Aq) (Ge du);refine Xi ⟨[(3,.msl 3 (CP (l.take i)).length),(6,vi (BC (s.take k)).length),(8,.ref 8 0),(34,.msl 3 (CP (l.take i)).length),(35,vi (CP (l.take i)).length),(36,vi k)],[(3,II (arr2 s j k)),(8,.cells (Aq s[k]))],Ab⟩ (Yi ⟨⟨⟨rfl,rfl⟩,⟨rfl,rfl⟩,⟨rfl,rfl⟩,⟨rfl,rfl⟩,⟨rfl,rfl⟩,⟨rfl,rfl⟩,Tv⟩,⟨⟨rfl,rfl⟩,⟨rfl,rfl⟩,Tv⟩,Fh,Tv⟩ ?_);refine Yi (Nz rfl) (Yi ⟨by show(0:Int)≤((BC (s.take k)).length:Int);omega,by show((BC (s.take k)).length:Int)<_;omega⟩ ?_);refine Yi SB (Xi (Aq (arr2 s j k)[(BC (s.take k)).length]) (Yi hz (Yi (Nz rfl) ?_)));refine Yi (by show BY (((BC (s.take k)).length:Int)+1);unfold BY;omega) ?_;refine Yi (Ii k (by omega)) ?_;have hm:=Gi s k hk;have e1:vi (((BC (s.take k)).length:Int)+1)=vi (BC (s.take (k+1))).length:=by rw[hm,Jc];simp
       have e2:HO.arr 2 (((arr2 s j k).map Aq).set (BC (s.take k)).length [vi s[k].1,vi s[k].2])=II (arr2 s (j++[s[k]]).tail (k+1)):=by rw[←Up s j k hk Jc];simp only[II,Nb]
       refine Xi ⟨(k+1,(j++[s[k]]).tail),by show k+1≤s.length;omega,by show(BC (s.take (k+1))).length+((j++[s[k]]).tail).length=k+1;rw[hm,Jc];simp;omega⟩ ?_;exact⟨Dl s.length k (by omega),⟨Zr,⟨e1,rfl⟩,Zr,Zr,Zr,Tv⟩,⟨⟨e2,rfl⟩,Tv⟩,Fh,Tv⟩
     ·intro h4;have h4:¬(0:Int)<k:=h4;omega
   ·intro h2;have h2:¬(k:Int)<(CP (l.take i)).length:=h2;have hk:k=s.length:=by omega
    have hr:=S7 s k k1;have np:((((arr2 s j k).map Aq).take ((BC (s.take k)).length:Int).toNat).drop 0)=(canon l).map Aq:=by
     rw[List.drop_zero,Ch,←QS,←fin];unfold arr2
     have:(BC (s.take k)).length=(BC (s.take k)).reverse.length:=by rw[Dq]
     rw[this,List.take_left,hk,Dv]
    refine Yi ⟨SB,by show(0:Int)≤0;omega,by show(0:Int)≤((BC (s.take k)).length:Int);omega,by show((BC (s.take k)).length:Int)≤(((arr2 s j k).map Aq).length:Int);omega,.inr ⟨rfl,by simp⟩⟩ ?_;exact .of_eq (Ac (AV.slice .none) np)
end Go.Eng
namespace Go.Eng
open Go.Proofs Go.Sort
abbrev Gu(z:Int):List AV:=[vi z]
theorem PO{α:Type}[Inhabited α](enc:α→Value)(w:World)(b:Nat)(d:Array α):putRow enc w b 0 d=putRow id w b 0 (d.map enc):=by
 unfold putRow
 congr 1
 funext c
 unfold putCells;apply Array.ext
 ·simp
 ·intro i h1 h2;simp only[Array.getElem_mapIdx,Array.size_map]
  by_cases h:i<d.size
  ·rw[Az (by omega),Az (by omega)];rw[DC d (i-0) (by omega),DC (d.map enc) (i-0) (by simpa using h)];simp
  ·rw[Al (by omega),Al (by omega)]
theorem UI(zs:List Int):(zs.map Gu).flatten=(zs.map fun z=>Value.int .i64 z).map AV.v:=by
 induction zs with
 |nil=>rfl
 |cons z zs ih=>rw[AP,Bz,ih];rfl
theorem MG(g:Gh)(w:World)(U:Nat→Prop)(vs:List Value)(h:∀x∈vs,x.oneCell'=true):CF g w U (vs.map .v) vs :=
 ⟨by simp,h,fun i av x q1 q2=>by
  rw[AG,q2]at q1;cases q1;exact .v _ _⟩
theorem La{g:Gh}{w:World}{U:Nat→Prop}{vs us:List Value}(h:CF g w U (vs.map .v) us):us=vs:=by
 apply CC;intro i;have hl:=h.1;rw[Lm]at hl
 by_cases hi:i<vs.length
 ·have:=h.2.2 i (.v vs[i]) us[i] (by rw[AG,Ge hi];rfl) (Ge (by omega))
  rw[Ge hi,Ge (by omega),this.v_eq]
 ·rw[A6 (by omega),A6 (by omega)]
theorem tb(zs:List Int)(hl:Cn zs)(DD:zs≠[]) :
  Be Tryz.prog 255 [.msl 1000 zs.length] (Aj [(1000,.arr 1 (zs.map Gu))] Ab) fun r h' =>
   r=.tup []∧∃l' : List Int,(l'.Perm zs∧l'.Pairwise fun a b=>a≤b)∧h'=Aj [(1000,.arr 1 (l'.map Gu))] Ab:=by
 have hl:zs.length≤1073741824:=hl;have hE:F1 Tryz.prog 255:=dp 255 Tryz.func255 (by kernel_rfl) rfl;have G9:=Pk (P:=Tryz.prog) (f:=255) (es:=zs.map Gu) (sz:=1) (rest:=[]) (Q:=fun FA=>∃l' : List Int,(l'.Perm zs∧l'.Pairwise fun a b=>a≤b)∧FA=l'.map Gu) hE ?_ ?_
 ·rw[Lm]at G9;refine⟨hE,fun g w vals q1 q2 q3=>(G9.2 g w vals q1 q2 q3).mono fun _ _ ⟨v,r,h',g',e1,⟨e2,FA,⟨l',p1,p2⟩,p3⟩,rest⟩=>⟨v,r,h',g',e1,⟨e2,l',p1,by rw[p3,p2]⟩,rest⟩⟩
 ·intro e
  have:zs=[]:=by simpa using e
  exact absurd this DD
 ·intro g w b cap F hr hF hH hb;have pM:F.toList=zs.map fun z=>Value.int .i64 z:=La (by rw[←UI];exact hr);have fb:F=zs.toArray.map fun z=>Value.int .i64 z:=Iw.1 (by rw[pM];simp);have pN:Holds (Value.int .i64) w b 0 zs.toArray:=fun j hj=>by
   have:=hH j (by rw[fb];simpa using hj)
   refine⟨this.1.trans ?_,this.2⟩;rw[fb,DC _ j (by simpa using hj),DC _ j hj];simp
  have hc:=Any.slices_Sort_int Tryz.laySortInts b 0 cap zs w pN hb (by omega);rw[Lm];refine hc.mono ?_
  rintro e w' ⟨rfl,n,os,rfl⟩
  have IL:(zs.mergeSort fun x y=>decide (x≤y)).Perm zs:=List.mergeSort_perm _ _;have CB:=IL.length_eq;refine⟨rfl,(zs.mergeSort fun x y=>decide (x≤y)).toArray.map fun z=>Value.int .i64 z,(zs.mergeSort fun x y=>decide (x≤y)).map Gu,n,os,?_,⟨_,⟨IL,?_⟩,rfl⟩,by simp[CB],fun cs hcs=>?_,fun g w _=>?_,by rw[PO]⟩
  ·rw[fb];simp[CB]
  ·have:=List.pairwise_mergeSort (le:=fun x y:Int=>decide (x≤y)) (fun a b c h1 h2=>by simp only[AA]at *;omega) (fun a b=>by simp only[CE,AA];omega) zs
   exact this.imp fun h=>BG h
  ·obtain⟨x,_,rfl⟩:=Am.1 hcs;rfl
  ·rw[UI];have e:((zs.mergeSort fun x y=>decide (x≤y)).toArray.map fun z=>Value.int .i64 z).toList=(zs.mergeSort fun x y=>decide (x≤y)).map fun z=>Value.int .i64 z:=by simp
   rw[e];exact MG _ _ _ _ fun x hx=>by
    obtain⟨z,_,rfl⟩:=Am.1 hx;rfl
-- maps from numbers to numbers
abbrev Wn:EG:=⟨false,[.int .i64]⟩
abbrev kI(z:Int):Value:=.int .i64 z
abbrev Lx(p:Int×Int):Value×AV:=(kI p.1,vi p.2)
abbrev Fg(s:Bn):List AV:=[sl Aq s]
theorem Ro{m:List (Int×Int)}{k:Int}{a:AV}:(kI k,a)∈m.map Lx↔∃v,(k,v)∈m∧a=vi v:=by
 rw[Am];constructor
 ·rintro⟨⟨k',v⟩,h1,h2⟩
  simp only[FK,Value.int.injEq,true_and]at h2;obtain⟨rfl,rfl⟩:=h2;exact⟨v,h1,rfl⟩
 ·rintro⟨v,h1,rfl⟩
  exact⟨(k,v),h1,rfl⟩
theorem Rs(m:List (Int×Int))(k v:Int):EP (m.map Lx) (kI k) (vi v)=(K9 m k v).map Lx:=by
 unfold K9
 by_cases h:(m.any fun p=>decide (p.1=k))=true
 ·rw[Az h];obtain⟨p,h1,h2⟩:=A7.1 h;have h2:=BG h2
  have:(kI k,vi p.2)∈m.map Lx:=Ro.2 ⟨p.2,by rw[←h2];exact h1,rfl⟩
  rw[PI this,BP,BP];apply Bf;intro q _;simp only[Function.comp]
  by_cases e:q.1=k
  ·simp[e]
  ·have:¬kI q.1=kI k:=fun c=>e (by injection c)
   simp[e]
 ·rw[Al h]
  have:∀b,(kI k,b)∉m.map Lx:=fun b hb=>by
   obtain⟨v,h1,_⟩:=Ro.1 hb;exact h (A7.2 ⟨(k,v),h1,by simp⟩)
  rw[Ky this,AH];rfl
theorem Ou{T:Gq}{e:Nat}{B4:List (Value×AV)}{kx:Value}{K:AV→Prop}(a0 z0:AV)(h1:∀a,(kx,a)∈B4→a=a0)(hz:(∀a,(kx,a)∉B4)→a0=z0)(h2:K z0→J8 T e K)(k:K a0) :
  (∀a,(kx,a)∈B4→K a)∧((∀a,(kx,a)∉B4)→J8 T e K):=⟨fun a h=>by rw[h1 a h];exact k,fun hn=>h2 (hz hn▸k)⟩
theorem Qd(m:List (Int×Int))(k:Int):(∀a,(kI k,a)∉m.map Lx)→vi (Fe m k)=vi 0:=fun QZ=>by
 rw[iE fun hk=>by
  obtain⟨p,hp,e⟩:=Am.1 hk;exact QZ (vi p.2) (Ro.2 ⟨p.2,by rw[←e];exact hp,rfl⟩)]
theorem Qc{m:List (Int×Int)}(hn:(EZ m).Nodup)(k:Int):∀a,(kI k,a)∈m.map Lx→a=vi (Fe m k):=fun a h=>by
 obtain⟨v,h1,rfl⟩:=Ro.1 h;rw[iD hn h1]
theorem Ij.bound{m:List (Int×Int)}{S:Bn}(h:Ij m S)(k:Int):-(S.length:Int)≤Fe m k∧Fe m k≤S.length:=by
 rw[h.val]
 have:cF S k≤S.length:=List.countP_le_length
 have:cT S k≤S.length:=List.countP_le_length
 omega
theorem YO(l:List Bn):(l.map canon).flatten.length≤l.length*1000000:=by
 induction l with
 |nil=>simp
 |cons s l ih =>
  rw[AP,Bz,Ad,At]
  have:=HX (Co s)
  omega
theorem Ij.few{m:List (Int×Int)}{S:Bn}(h:Ij m S):m.length≤1000001:=by
 have:=If (m:=(List.range 1000001).map Int.ofNat) h.nd fun k hk=>by
  have:=h.rng k hk
  exact Am.2 ⟨k.toNat,List.mem_range.2 (by omega),by show(k.toNat:Int)=k;omega⟩
 unfold EZ at this;rw[Lm,Lm,Qk]at this;exact this
theorem UT(keep:Nat→Bool)(m:List (Int×Int))(B:List Int):∀n,(Eu keep m B n).length≤n
 |0=>Ak _
 |n+1=>by
  unfold Eu
  have:=UT keep m B n
  rw[Ad];split
  ·split<;>simp<;>omega
  ·simp;omega
end Go.Eng
namespace Go.Eng
open Go.Proofs
abbrev plC:TM:=⟨[],[(12,2)],[(44,1)],[],[],[],[],[],[],[],[8,9,15,23,25,26]⟩
theorem mw(F:AV)(keep:Nat→Bool)(l:List Bn)(hl:Cn l)(hs:∀s∈l,Cn s)(hid:∀h,T9 h F=true)(hF:∀h (n:Int),0≤n→n≤l.length→Pi Tryz.prog (str h F) [vi n] (vb (keep n.toNat)))
  (R:Bn) (hR:EC R) (y6:∀p,has R p=(Lw p&&keep (dk l p))):PC 226 [F,sl Fg l] (sl Aq R):=by
 have hl:l.length≤1073741824:=hl;refine Ps plC Tryz.func226 rfl (Nz rfl) ?_;refine Xi {p:Nat×List (Int×Int) // p.1≤l.length∧Ij p.2 ((l.take p.1).map canon).flatten} (Xi (fun p=>⟨[(0,F),(5,.mref 15),(17,sl Fg l),(18,vi (l.map Fg).length),(19,vi p.1.1)],[(15,.map Wn (p.1.2.map Lx))],Ab⟩) (Xi (fun p=>l.length-p.1.1) (Yi (Xi ⟨(0,py),AM _,jp⟩ ?_) ?_)))
 ·have e0:HO.map Wn (EP (EP [] (kI 0) (vi 0)) (kI 1000000) (vi 0))=.map Wn (py.map Lx):=by
   have e1:=Rs [] 0 0;have e2:=Rs [(0,0)] 1000000 0;show HO.map Wn (EP (EP (List.map Lx []) (kI 0) (vi 0)) (kI 1000000) (vi 0))=_;rw[e1];show HO.map Wn (EP (List.map Lx [(0,0)]) (kI 1000000) (vi 0))=_;rw[e2];rfl
  exact⟨⟨⟨rfl,hid _⟩,Zr,Zr,Zr,Zr,Tv⟩,⟨⟨e0,rfl⟩,Tv⟩,Fh,Tv⟩
 intro⟨⟨i,cm⟩,i1,i2⟩;have i1:i≤l.length:=i1;have i2:Ij cm ((l.take i).map canon).flatten:=i2;refine Yi ?_ ?_
 ·intro h;have h:(i:Int)<(l.map Fg).length:=h;have h:i<l.length:=by simpa using h
  have hg:l[i]?=some l[i]:=Ge h;refine Xi (Fg l[i]) (Yi (Yi (Nn i) (by simp[hg])) (Yi rfl ?_));refine Xi .pure (Xi _ (Yi (WR l[i] (hs _ (Ao h))) ?_));refine Xi {p:Nat×List (Int×Int) // p.1≤(canon l[i]).length∧Ij p.2 (((l.take i).map canon).flatten++(canon l[i]).take p.1)} (Xi (fun p=>⟨[(0,F),(5,.mref 15),(17,sl Fg l),(18,vi (l.map Fg).length),(19,vi i),(24,sl Aq (canon l[i])),(25,vi ((canon l[i]).map Aq).length),(26,vi p.1.1)],[(15,.map Wn (p.1.2.map Lx))],Ab⟩) (Xi (fun p=>(canon l[i]).length-p.1.1) (Yi (Xi ⟨(0,cm),AM _,by rw[List.take_zero,B3];exact i2⟩ ?_) ?_)))
  ·exact⟨⟨⟨rfl,hid _⟩,Zr,Zr,Zr,Zr,Zr,Zr,Zr,Tv⟩,Z1,Fh,Tv⟩
  intro⟨⟨j,dm⟩,j1,j2⟩;have j1:j≤(canon l[i]).length:=j1;have j2:Ij dm (((l.take i).map canon).flatten++(canon l[i]).take j):=j2;have hS:(((l.take i).map canon).flatten++(canon l[i]).take j).length≤1073741825000000:=by
   have a1:=YO (l.take i);have a2:=HX (Co l[i]);rw[AJ]at a1;rw[Ad,AJ];omega
  refine Yi ?_ ?_
  ·intro hj;have hj:(j:Int)<((canon l[i]).map Aq).length:=hj;have hj:j<(canon l[i]).length:=by simpa using hj
   have uk:(canon l[i])[j]?=some (canon l[i])[j]:=Ge hj;have lL:=(Co l[i]).low _ (Ao hj);have j3:Ij (Yc dm (canon l[i])[j]) (((l.take i).map canon).flatten++(canon l[i]).take (j+1)):=by
    have:=c9 j2 (x:=(canon l[i])[j]) lL
    rw[AO]at this;rw[Bu,uk];exact this
   generalize (canon l[i])[j]=x at uk lL j3;have b1:=j2.bound x.1;have du:=LZ j2.nd x.1 (Fe dm x.1+1);refine Xi (Aq x) (Yi (Yi (Nn j) (by simp[uk])) (Yi rfl ?_));refine Yi (Nz rfl) (Yi (Nz rfl) ?_);refine Xi ⟨[(0,F),(5,.mref 15),(9,.ref 9 0),(17,sl Fg l),(18,vi (l.map Fg).length),(19,vi i),(24,sl Aq (canon l[i])),(25,vi ((canon l[i]).map Aq).length),(26,vi j)],[(9,.cells (Aq x)),(15,.map Wn (dm.map Lx))],Ab⟩ (Yi ⟨⟨⟨rfl,hid _⟩,Zr,Zr,Zr,Zr,Zr,Zr,Zr,Zr,Tv⟩,Z2,Fh,Tv⟩ ?_)
   refine Ou (vi (Fe dm x.1)) (vi 0) (Qc j2.nd x.1) (Qd dm x.1) (fun q=>q) ?_;refine Yi (by show BY (Fe dm x.1+1);unfold BY;omega) ?_;have m1:HO.map Wn (EP (dm.map Lx) (kI x.1) (vi (Fe dm x.1+1)))=.map Wn ((K9 dm x.1 (Fe dm x.1+1)).map Lx):=by rw[Rs]
   refine Xi ⟨[(0,F),(5,.mref 15),(9,.ref 9 0),(17,sl Fg l),(18,vi (l.map Fg).length),(19,vi i),(24,sl Aq (canon l[i])),(25,vi ((canon l[i]).map Aq).length),(26,vi j)],[(9,.cells (Aq x)),(15,.map Wn ((K9 dm x.1 (Fe dm x.1+1)).map Lx))],Ab⟩ (Yi ⟨⟨⟨rfl,hid _⟩,Zr,Zr,Zr,Zr,Zr,Zr,Zr,Zr,Tv⟩,⟨Zr,⟨m1,rfl⟩,Tv⟩,Fh,Tv⟩ ?_)
   have b2:-(1073741825000001:Int)≤Fe (K9 dm x.1 (Fe dm x.1+1)) x.2∧Fe (K9 dm x.1 (Fe dm x.1+1)) x.2≤1073741825000001:=by
    have b3:=j2.bound x.2;rw[Pb];split<;>omega
   refine Ou (vi (Fe (K9 dm x.1 (Fe dm x.1+1)) x.2)) (vi 0) (Qc du x.2) (Qd _ x.2) (fun q=>q) ?_;refine Yi (by show BY (Fe (K9 dm x.1 (Fe dm x.1+1)) x.2-1);unfold BY;omega) ?_;have hcl:=HX (Co l[i]);refine Yi (Ii j (by omega)) ?_;have m2:HO.map Wn (EP ((K9 dm x.1 (Fe dm x.1+1)).map Lx) (kI x.2) (vi (Fe (K9 dm x.1 (Fe dm x.1+1)) x.2-1)))=.map Wn ((Yc dm x).map Lx):=by rw[Rs];rfl
   refine Xi ⟨(j+1,Yc dm x),by show j+1≤_;omega,j3⟩ ?_;exact⟨by show(canon l[i]).length-(j+1)<(canon l[i]).length-j;omega,⟨⟨rfl,hid _⟩,Zr,Zr,Zr,Zr,Zr,Zr,Zr,Tv⟩,⟨⟨m2,rfl⟩,Tv⟩,Fh,Tv⟩
  ·intro hj;have hj:¬(j:Int)<((canon l[i]).map Aq).length:=hj;have hj:¬j<(canon l[i]).length:=by simpa using hj
   refine Yi (Ii i (by omega)) ?_;have i3:Ij dm ((l.take (i+1)).map canon).flatten:=by
    have e1:(canon l[i]).take j=canon l[i]:=AT (by omega);rw[e1]at j2;have e2:((l.take (i+1)).map canon).flatten=((l.take i).map canon).flatten++canon l[i]:=by
     rw[Bu,hg,AH,CI];show _++(canon l[i]++[])=_;rw[B3]
    rw[e2];exact j2
   refine Xi ⟨(i+1,dm),by show i+1≤_;omega,i3⟩ ?_;exact⟨Dl l.length i (by omega),⟨⟨rfl,hid _⟩,Zr,Zr,Zr,Zr,Tv⟩,Z1,Fh,Tv⟩
 ·intro h;have h:¬(i:Int)<(l.map Fg).length:=h;have h:¬i<l.length:=by simpa using h
  have i3:Ij cm (l.map canon).flatten:=by
   rw[AT (by omega)]at i2;exact i2
  have zr:=i3.few;have zE:(0:Int)≤0∧(0:Int)≤((cm.map Lx).length:Int)∧((cm.map Lx).length:Int)*((8:Nat):Int)≤140737488355328∧((cm.map Lx).length:Int)≤9223372036854775807:=by rw[Lm];omega
  refine Yi zE ?_;refine Xi {p:List (Value×AV)×List Int×Option (Value×AV) // ((p.2.1.map kI)++p.1.map (·.1)).Perm ((cm.map Lx).map (·.1))∧∀kv∈p.1,kv∈cm.map Lx} (Xi (fun p=>⟨[(0,F),(5,.mref 15),(10,.msl 44 p.1.2.1.length),(46,.ref 46 0)],[(15,.rom Wn (cm.map Lx)),(44,.arr 1 (p.1.2.1.map Gu)),(46,.iter (cm.map Lx) p.1.1 p.1.2.2)],Ab⟩) (Xi (fun p=>p.1.1.length) (Yi (Xi ⟨(cm.map Lx,[],none),.refl _,fun _ h=>h⟩ ?_) ?_)))
  ·exact⟨⟨⟨rfl,hid _⟩,Zr,Zr,Zr,Tv⟩,Z3,Fh,Tv⟩
  intro⟨⟨rem,bs,Fz⟩,r1,r2⟩;have r1:((bs.map kI)++rem.map (·.1)).Perm ((cm.map Lx).map (·.1)):=r1;have r2:∀kv∈rem,kv∈cm.map Lx:=r2;have hbl:bs.length≤1000001:=by
   have:=r1.length_eq
   simp only[Ad,Lm]at this;omega
  refine Yi ?_ ?_
  ·intro hr;have hr:rem=[]:=hr;subst hr;rw[E0,B3,BP]at r1;have uD:bs.Perm (EZ cm):=by
    have r1:(bs.map kI).Perm ((EZ cm).map kI):=by unfold EZ;rw[BP];exact r1
    have:=r1.map (fun v:Value=>match v with | .int _ n=>n | _=>0)
    rw[BP,BP]at this;have e:((fun v:Value=>match v with | .int _ n=>n | _=>0) ∘ kI)=id:=rfl;rw[e,JA,JA]at this;exact this
   have DD:bs≠[]:=fun e=>by
    subst e
    have:=uD.length_eq
    have h0:=i3.keys.1;rw[AB this.symm]at h0;cases h0
   refine Xi (.gen [(44,1000)] 0) (Yi rfl ((tb bs (by unfold Cn;omega) DD).to ?_));intro B pK;have jE:B.length=bs.length:=pK.1.length_eq;have yO:B.Nodup:=(pK.1.trans uD).nodup_iff.2 i3.nd;have hB:iW B cm:=⟨pK.1.trans uD,by
    rw[Bc];intro a b ha hb lp;have h1:=(Bc.1 pK.2) a b ha hb lp;have h2:B[a]≠B[b]:=(Bc.1 yO) a b ha hb lp;omega⟩
   have wV:0<B.length:=by
    rw[jE];exact MQ.2 DD
   have tQ:bs.length=(B.map Gu).length:=by rw[Lm,jE]
   refine Yi (by show BY ((bs.length:Int)-1);unfold BY;omega) ?_;refine Xi {k:Nat // k≤B.length-1} (Xi (fun k=>⟨[(0,F),(5,.mref 15),(10,.msl 44 bs.length),(12,.slice (.id 12 2) ((Eu keep cm B k.1).map Aq)),(13,vi (Iv cm (B.take k.1))),(59,vi ((bs.length:Int)-1)),(60,vi k.1)],[(12,.tok 2 ((Eu keep cm B k.1).map Aq).length),(15,.rom Wn (cm.map Lx)),(44,.arr 1 (B.map Gu))],Ab⟩) (Xi (fun k=>B.length-k.1) (Yi (Xi ⟨0,AM _⟩ ?_) ?_)))
   ·exact⟨⟨⟨rfl,hid _⟩,Zr,Zr,Zr,Zr,Zr,Zr,Tv⟩,Z3,Fh,Tv⟩
   intro⟨k,k1⟩;have oE:=UT keep cm B k;refine Yi ?_ ?_
   ·intro hk;have hk:(k:Int)<(bs.length:Int)-1:=hk;have Ir:k+1<B.length:=by omega
    have UO:k<B.length:=by omega
    have lq:(B.map Gu)[k]?=some (Gu B[k]):=Cg (Ge UO);have tY:(B.map Gu)[k+1]?=some (Gu B[k+1]):=Cg (Ge Ir);have Oy:=P0 cm B k UO;have qC:=io i3 hB k UO;have SA:Eu keep cm B (k+1)=Eu keep cm B k++(if keep (Iv cm (B.take (k+1))).toNat then [(B[k],B[k+1])]else []):=by
     show _++(match B[k]?,B[k+1]? with | some a,some b=>if keep (Iv cm (B.take (k+1))).toNat then [(a,b)]else [] | _,_=>[])=_;rw[Ge UO,Ge Ir]
    refine Xi ⟨[(0,F),(5,.mref 15),(10,.msl 44 bs.length),(12,.slice (.id 12 2) ((Eu keep cm B k).map Aq)),(13,vi (Iv cm (B.take k))),(14,vi k),(59,vi ((bs.length:Int)-1)),(60,vi k)],[(12,.tok 2 ((Eu keep cm B k).map Aq).length),(15,.rom Wn (cm.map Lx)),(44,.arr 1 (B.map Gu))],Ab⟩ (Yi ⟨⟨⟨rfl,hid _⟩,Zr,Zr,Zr,Zr,Zr,Zr,Zr,Tv⟩,Z3,Fh,Tv⟩ ?_)
    refine Yi ⟨by show(0:Int)≤k;omega,by show(k:Int)<bs.length;omega⟩ ?_;refine Yi tQ (Xi (Gu B[k]) (Yi lq ?_));refine Ou (vi (Fe cm B[k])) (vi 0) (Qc i3.nd B[k]) (Qd cm B[k]) (fun q=>q) ?_;refine Yi (by show BY (Iv cm (B.take k)+Fe cm B[k]);rw[←Oy];unfold BY;omega) ?_;have Dg:∀h,Pi Tryz.prog (str h F) [vi (Iv cm (B.take k)+Fe cm B[k])] (vb (keep (Iv cm (B.take (k+1))).toNat)):=fun h=>by
     rw[←Oy];exact hF h _ qC.1 qC.2
    refine BN (Bt (keep (Iv cm (B.take (k+1))).toNat)) (fun hp=>?_) (fun hp=>?_)
    ·rw[hp]at Dg;rw[hp,Az rfl]at SA;refine Xi .pure (Xi (vb true) (Yi (Dg _) ?_));refine Xi ⟨[(0,F),(5,.mref 15),(10,.msl 44 bs.length),(12,.slice (.id 12 2) ((Eu keep cm B k).map Aq)),(13,vi (Iv cm (B.take k)+Fe cm B[k])),(14,vi k),(59,vi ((bs.length:Int)-1)),(60,vi k)],[(12,.tok 2 ((Eu keep cm B k).map Aq).length),(15,.rom Wn (cm.map Lx)),(44,.arr 1 (B.map Gu))],Ab⟩ (Yi ⟨⟨⟨rfl,hid _⟩,Zr,Zr,Zr,Zr,Zr,Zr,Zr,Tv⟩,Z3,Fh,Tv⟩ ?_)
     have b1:(0:Int)≤(k:Int)+1∧(k:Int)+1<bs.length:=by omega
     have tZ:(B.map Gu)[((k:Int)+1).toNat]?=some (Gu B[k+1]):=by rw[show((k:Int)+1).toNat=k+1 by omega];exact tY
     refine Yi ⟨by show(0:Int)≤k;omega,by show(k:Int)<bs.length;omega⟩ ?_;refine Yi tQ (Xi (Gu B[k]) (Yi lq ?_));refine Yi (Ii k (by omega)) ?_;refine Yi b1 ?_;refine Yi tQ (Xi (Gu B[k+1]) (Yi tZ ?_));have Gs:Dp 2 [[vi B[k],vi B[k+1]]]∧((Eu keep cm B k).map Aq).length=((Eu keep cm B k).map Aq).length∧(((Eu keep cm B k).map Aq).length+[[vi B[k],vi B[k+1]]].length)*16≤140737488355328∧((Eu keep cm B k).map Aq).length+[[vi B[k],vi B[k+1]]].length≤9223372036854775807 :=
      ⟨⟨rfl,trivial⟩,rfl,by rw[Lm,AD];omega,by rw[Lm,AD];omega⟩
     refine Yi Gs ?_;refine Yi (by kernel_rfl) ?_;refine Xi ⟨[(0,F),(5,.mref 15),(10,.msl 44 bs.length),(12,.slice (.id 12 2) ((Eu keep cm B k).map Aq++[[vi B[k],vi B[k+1]]])),(13,vi (Iv cm (B.take k)+Fe cm B[k])),(59,vi ((bs.length:Int)-1)),(60,vi k)],[(12,.tok 2 (((Eu keep cm B k).map Aq).length+[[vi B[k],vi B[k+1]]].length)),(15,.rom Wn (cm.map Lx)),(44,.arr 1 (B.map Gu))],Ab⟩ (Yi ⟨⟨⟨rfl,hid _⟩,Zr,Zr,Zr,Zr,Zr,Zr,Tv⟩,Z3,Fh,Tv⟩ ?_)
     refine Yi (Ii k (by omega)) ?_;refine Xi ⟨k+1,by omega⟩ ?_;have e1:AV.slice (.id 12 2) ((Eu keep cm B k).map Aq++[[vi B[k],vi B[k+1]]])=.slice (.id 12 2) ((Eu keep cm B (k+1)).map Aq):=by rw[SA,AH];rfl
     have e2:vi (Iv cm (B.take k)+Fe cm B[k])=vi (Iv cm (B.take (k+1))):=by rw[Oy]
     have e3:HO.tok 2 (((Eu keep cm B k).map Aq).length+[[vi B[k],vi B[k+1]]].length)=.tok 2 ((Eu keep cm B (k+1)).map Aq).length:=by rw[SA,AH,Ad];rfl
     exact⟨Dl B.length k (by omega),⟨⟨rfl,hid _⟩,Zr,Zr,⟨e1,rfl⟩,⟨e2,rfl⟩,Zr,Zr,Tv⟩,⟨⟨e3,rfl⟩,Zr,Zr,Tv⟩,Fh,Tv⟩
    ·rw[hp]at Dg;have SA:Eu keep cm B (k+1)=Eu keep cm B k:=by rw[SA,hp,Al Bool.false_ne_true,B3]
     refine Xi .pure (Xi (vb false) (Yi (Dg _) ?_));refine Xi ⟨[(0,F),(5,.mref 15),(10,.msl 44 bs.length),(12,.slice (.id 12 2) ((Eu keep cm B k).map Aq)),(13,vi (Iv cm (B.take k)+Fe cm B[k])),(59,vi ((bs.length:Int)-1)),(60,vi k)],[(12,.tok 2 ((Eu keep cm B k).map Aq).length),(15,.rom Wn (cm.map Lx)),(44,.arr 1 (B.map Gu))],Ab⟩ (Yi ⟨⟨⟨rfl,hid _⟩,Zr,Zr,Zr,Zr,Zr,Zr,Tv⟩,Z3,Fh,Tv⟩ ?_)
     refine Yi (Ii k (by omega)) ?_;refine Xi ⟨k+1,by omega⟩ ?_;have e1:AV.slice (.id 12 2) ((Eu keep cm B k).map Aq)=.slice (.id 12 2) ((Eu keep cm B (k+1)).map Aq):=by rw[SA]
     have e2:vi (Iv cm (B.take k)+Fe cm B[k])=vi (Iv cm (B.take (k+1))):=by rw[Oy]
     have e3:HO.tok 2 ((Eu keep cm B k).map Aq).length=.tok 2 ((Eu keep cm B (k+1)).map Aq).length:=by rw[SA]
     exact⟨Dl B.length k (by omega),⟨⟨rfl,hid _⟩,Zr,Zr,⟨e1,rfl⟩,⟨e2,rfl⟩,Zr,Zr,Tv⟩,⟨⟨e3,rfl⟩,Zr,Zr,Tv⟩,Fh,Tv⟩
   ·intro hk;have hk:¬(k:Int)<(bs.length:Int)-1:=hk;have Ir:k=B.length-1:=by omega
    have ua:canon (Eu keep cm B k)=R:=by
     refine(RQ hR fun p=>?_).symm;rw[Ir,y6,fQ i3 hB]
    have hc:=WR (Eu keep cm B k) (by unfold Cn;omega);rw[ua]at hc;refine Xi .pure (Xi _ (Yi hc ?_));exact .refl _
  ·intro kv NJ hp;refine Do (Am.1 (r2 kv (hp.mem_iff.2 (Aa ..)))) (fun q hq=>?_);have zR:=hq.2;subst zR;refine Xi ⟨[(0,F),(5,.mref 15),(10,.msl 44 bs.length),(46,.ref 46 0)],[(15,.rom Wn (cm.map Lx)),(44,.arr 1 (bs.map Gu)),(46,.iter (cm.map Lx) NJ (some (Lx q)))],Ab⟩ (Yi ⟨⟨⟨rfl,hid _⟩,Zr,Zr,Zr,Tv⟩,Z3,Fh,Tv⟩ ?_)
   have Gs:Dp 1 [Gu q.1]∧(bs.map Gu).length=bs.length∧((bs.map Gu).length+[Gu q.1].length)*8≤140737488355328∧(bs.map Gu).length+[Gu q.1].length≤9223372036854775807 :=
    ⟨⟨rfl,trivial⟩,by rw[Lm],by rw[Lm,AD];omega,by rw[Lm,AD];omega⟩
   refine Yi Gs ?_;have e1:AV.msl 44 ((bs.map Gu).length+[Gu q.1].length)=.msl 44 (bs++[q.1]).length:=by simp
   have e2:HO.arr 1 (bs.map Gu++[Gu q.1])=.arr 1 ((bs++[q.1]).map Gu):=by simp
   refine Xi ⟨(NJ,bs++[q.1],some (Lx q)),?_,fun kv Pg=>r2 kv (hp.mem_iff.2 (Af _ Pg))⟩ ?_
   ·show(((bs++[q.1]).map kI)++NJ.map (·.1)).Perm _;have h1:=hp.map (fun x:Value×AV=>x.1);rw[AP]at h1;rw[AH,AO];exact(List.Perm.append_left _ h1.symm).trans r1
   ·exact⟨by show NJ.length<rem.length;rw[hp.length_eq];simp,⟨⟨rfl,hid _⟩,Zr,⟨e1,rfl⟩,Zr,Tv⟩,⟨Zr,⟨e2,rfl⟩,Zr,Tv⟩,Fh,Tv⟩
theorem s7(n:Int)(l:List Bn):PC 269 [vi n,.cptr [sl Fg l]] (vb (decide (n=l.length))):=by
 refine Ps F7 Tryz.func269 rfl (Nz rfl) ?_;have e:((l.map Fg).length:Int)=l.length:=by rw[Lm]
 refine Yi ?_ ?_
 ·intro h;have h:n=((l.map Fg).length:Int):=h;rw[show decide (n=(l.length:Int))=true from Aw (h.trans e)];exact .refl _
 ·intro h;have h:¬n=((l.map Fg).length:Int):=h;rw[show decide (n=(l.length:Int))=false from Ap (fun c=>h (c.trans e.symm))];exact .refl _
theorem s9(n:Int):PC 227 [vi n] (vb (decide (n=0))):=by
 refine Ps F7 Tryz.func227 rfl (Nz rfl) ?_;refine Yi ?_ ?_
 ·intro h;have h:n=0:=h;rw[Aw h];exact .refl _
 ·intro h;have h:¬n=0:=h;rw[Ap h];exact .refl _
theorem tC(n:Int):PC 258 [vi n] (vb (decide (0<n))):=by
 refine Ps F7 Tryz.func258 rfl (Nz rfl) ?_;refine Yi ?_ ?_
 ·intro h;have h:0<n:=h;rw[Aw h];exact .refl _
 ·intro h;have h:¬0<n:=h;rw[Ap h];exact .refl _
theorem fO(l:List Bn)(p:Int):decide (dk l p=l.length)=l.all fun s=>has s p:=by
 unfold dk;rw[BV,AA,List.countP_eq_length,Bq]
theorem fP(l:List Bn)(p:Int):decide (0<dk l p)=l.any fun s=>has s p:=by
 unfold dk;rw[BV,AA,List.countP_pos_iff,A7]
theorem sR(l:List Bn)(hl:Cn l)(hs:∀s∈l,Cn s):PC 256 [sl Fg l] (sl Aq (PB l)):=by
 have hc:=mw (.clo 269 [.cptr [sl Fg l]]) (fun n=>decide (n=l.length)) l hl hs (fun _=>rfl) (fun h n h0 _=>by
  have:=s7 n l
  have e:decide (n=(l.length:Int))=decide (n.toNat=l.length):=by rw[decide_eq_decide];omega
  rw[e]at this;exact this) (PB l) (V7 l) fun p=>by rw[Sv,fO]
 refine Ps (iR [1]) Tryz.func256 rfl (Nz rfl) ?_;refine Xi .pure (Xi _ (Yi (hc) ?_));exact .refl _
theorem mp(s:Bn)(hs:Cn s):PC 202 [sl Aq s] (sl Aq (Eg s)):=by
 have hc:=mw (.v (TZ 227)) (fun n=>decide (n=0)) [s] (by unfold Cn;simp) (fun t ht=>by rw[Ai.1 ht];exact hs) (fun _=>rfl) (fun h n h0 _=>by
  have:=s9 n
  have e:decide (n=0)=decide (n.toNat=0):=by rw[decide_eq_decide];omega
  rw[e]at this;exact this) (Eg s) (G6 s) fun p=>by
   rw[FE]
   have:dk [s] p=if has s p then 1 else 0:=by unfold dk;rw[Iz];simp
   rw[this];cases has s p<;>rfl
 refine Ps F7 Tryz.func202 rfl (Nz rfl) ?_;refine Xi .pure (Xi _ (Yi (hc) ?_));exact .refl _
theorem tx(l:List Bn)(hl:Cn l)(hs:∀s∈l,Cn s):PC 237 [sl Fg l] (sl Aq (Qb l)):=by
 have hc:=mw (.v (TZ 258)) (fun n=>decide (0<n)) l hl hs (fun _=>rfl) (fun h n h0 _=>by
  have:=tC n
  have e:decide (0<n)=decide (0<n.toNat):=by rw[decide_eq_decide];omega
  rw[e]at this;exact this) (Qb l) (Wq l) fun p=>by
   rw[Sw,fP];cases h:l.any fun s=>has s p with
   |false=>simp
   |true =>
    obtain⟨s,_,h2⟩:=A7.1 h
    have:=LV h2
    simp[Lw,this]
 refine Ps F7 Tryz.func237 rfl (Nz rfl) ?_;refine Xi .pure (Xi _ (Yi (hc) ?_));exact .refl _
-- terms
theorem yF(t:Tm)(ht:Cn t.set):PC 233 [.agg (AF t)] (vb (!t.absent&&(canon t.set).isEmpty)):=by
 refine Ps F7 Tryz.func233 rfl (Nz rfl) ?_;refine Yi ?_ ?_
 ·intro h;have h:t.absent=true:=h;rw[h];exact .refl _
 ·intro h;have h:t.absent=false:=h;refine Xi .pure (Xi _ (Yi (WR t.set ht) ?_));refine Yi ?_ ?_
  ·intro h2;have h2:(((canon t.set).map Aq).length:Int)=0:=h2;have h2:canon t.set=[]:=AB (by rw[Lm]at h2;omega);rw[h,h2];exact .refl _
  ·intro h2;have h2:¬(((canon t.set).map Aq).length:Int)=0:=h2;have h2:(canon t.set).isEmpty=false:=by
    cases hc:canon t.set with
    |nil=>rw[hc]at h2;exact absurd rfl h2
    |cons _ _=>rfl
   rw[h,h2];exact .refl _
theorem yG(t:Tm)(ht:Cn t.set):PC 234 [.agg (AF t)] (vb (t.absent&&(Eg t.set).isEmpty)):=by
 refine Ps F7 Tryz.func234 rfl (Nz rfl) ?_;refine Yi ?_ ?_
 ·intro h;have h:t.absent=true:=h;refine Xi .pure (Xi _ (Yi (mp t.set ht) ?_));refine Yi ?_ ?_
  ·intro h2;have h2:(((Eg t.set).map Aq).length:Int)=0:=h2;have h2:Eg t.set=[]:=AB (by rw[Lm]at h2;omega);rw[h,h2];exact .refl _
  ·intro h2;have h2:¬(((Eg t.set).map Aq).length:Int)=0:=h2;have h2:(Eg t.set).isEmpty=false:=by
    cases hc:Eg t.set with
    |nil=>rw[hc]at h2;exact absurd rfl h2
    |cons _ _=>rfl
   rw[h,h2];exact .refl _
 ·intro h;have h:t.absent=false:=h;rw[h];exact .refl _
abbrev KG(l:List Nat):TM:=⟨[],[],[],[],[],[],[],[],[],[],l⟩
theorem wJ(u t:Tm)(hu:Cn u.set)(ht:Cn t.set):PC 232 [.agg (AF u),.agg (AF t)] (.agg (AF (GO u t))):=by
 have hc:PC 256 [sl Fg [u.set,t.set]] (sl Aq (OB u.set t.set)):=sR [u.set,t.set] (by unfold Cn;simp) (fun s hs=>by
  rcases Au.1 hs with rfl | hs
  ·exact hu
  ·rw[Ai.1 hs];exact ht)
 refine Ps (KG [1]) Tryz.func232 rfl (Nz rfl) ?_;refine Xi ⟨[(2,.ref 2 0),(3,.ref 3 0),(4,.ref 4 0)],[(2,.cells (AF u)),(3,.cells (AF t)),(4,.cells [vs ⟨#[]⟩,vb false,.v (.slice none 0 0)])],Ab⟩ (Yi ⟨Z3,Z3,Fh,Tv⟩ ?_)
 refine Yi ?_ ?_
 ·intro h;have h:u.absent=true:=h;refine Yi ?_ ?_
  ·intro h2;have h2:t.absent=true:=h2;have e:[vs u.path,vb true,sl Aq (OB u.set t.set)]=AF (GO u t):=by unfold GO;rw[h,h2];rfl
   refine Xi _ (Yi (hc) ?_);refine Yi (Nz rfl) (Yi (by kernel_rfl) (Yi (Nz rfl) ?_));exact .of_eq (Ac AV.agg e)
  ·intro h2;have h2:t.absent=false:=h2;have e:[vs u.path,vb false,sl Aq (OB u.set t.set)]=AF (GO u t):=by unfold GO;rw[h,h2];rfl
   refine Xi _ (Yi (hc) ?_);refine Yi (Nz rfl) (Yi (by kernel_rfl) (Yi (Nz rfl) ?_));exact .of_eq (Ac AV.agg e)
 ·intro h;have h:u.absent=false:=h;have e:[vs u.path,vb false,sl Aq (OB u.set t.set)]=AF (GO u t):=by unfold GO;rw[h];rfl
  refine Xi _ (Yi (hc) ?_);refine Yi (Nz rfl) (Yi (by kernel_rfl) (Yi (Nz rfl) ?_));exact .of_eq (Ac AV.agg e)
theorem tq(u t:Tm)(hu:Cn u.set)(ht:Cn t.set):PC 205 [.agg (AF u),.agg (AF t)] (.agg (AF (Dh u t))):=by
 have hc:PC 237 [sl Fg [u.set,t.set]] (sl Aq (Pa u.set t.set)):=tx [u.set,t.set] (by unfold Cn;simp) (fun s hs=>by
  rcases Au.1 hs with rfl | hs
  ·exact hu
  ·rw[Ai.1 hs];exact ht)
 refine Ps (KG [1]) Tryz.func205 rfl (Nz rfl) ?_;refine Xi ⟨[(2,.ref 2 0),(3,.ref 3 0),(4,.ref 4 0)],[(2,.cells (AF u)),(3,.cells (AF t)),(4,.cells [vs ⟨#[]⟩,vb false,.v (.slice none 0 0)])],Ab⟩ (Yi ⟨Z3,Z3,Fh,Tv⟩ ?_)
 refine Yi ?_ ?_
 ·intro h;have h:u.absent=true:=h;have e:[vs u.path,vb true,sl Aq (Pa u.set t.set)]=AF (Dh u t):=by unfold Dh;rw[h];rfl
  refine Xi _ (Yi (hc) ?_);refine Yi (Nz rfl) (Yi (by kernel_rfl) (Yi (Nz rfl) ?_));exact .of_eq (Ac AV.agg e)
 ·intro h;have h:u.absent=false:=h;refine Yi ?_ ?_
  ·intro h2;have h2:t.absent=true:=h2;have e:[vs u.path,vb true,sl Aq (Pa u.set t.set)]=AF (Dh u t):=by unfold Dh;rw[h,h2];rfl
   refine Xi _ (Yi (hc) ?_);refine Yi (Nz rfl) (Yi (by kernel_rfl) (Yi (Nz rfl) ?_));exact .of_eq (Ac AV.agg e)
  ·intro h2;have h2:t.absent=false:=h2;have e:[vs u.path,vb false,sl Aq (Pa u.set t.set)]=AF (Dh u t):=by unfold Dh;rw[h,h2];rfl
   refine Xi _ (Yi (hc) ?_);refine Yi (Nz rfl) (Yi (by kernel_rfl) (Yi (Nz rfl) ?_));exact .of_eq (Ac AV.agg e)
theorem po(q:Rq)(hq:Cn q.set):PC 197 [.agg (AN q)] (.agg (AF (DG q))):=by
 refine Ps F7 Tryz.func197 rfl (Nz rfl) ?_;refine Xi _ (Yi (mp q.set hq) ?_);refine Yi (Nz rfl) (Yi (by kernel_rfl) (Yi (Nz rfl) ?_));exact .refl _
abbrev C3:EG:=⟨false,[.str]⟩
abbrev Mu(t:Tm):Value×AV:=(.string t.path,.agg (AF t))
abbrev rc(fin cut:List Nat):TM:=⟨[],[],[],[],fin,[],[],[],[],[],cut⟩
theorem Rp{m:List Tm}{p:ByteArray}{a:AV}:(Value.string p,a)∈m.map Mu↔∃t∈m,t.path=p∧a=.agg (AF t):=by
 rw[Am];constructor
 ·rintro⟨t,h1,h2⟩
  simp only[FK,Value.string.injEq]at h2;exact⟨t,h1,h2.1,h2.2.symm⟩
 ·rintro⟨t,h1,rfl,rfl⟩
  exact⟨t,h1,rfl⟩
theorem gg(m:List Tm)(t:Tm):EP (m.map Mu) (.string t.path) (.agg (AF t))=(Wh m t).map Mu:=by
 unfold Wh
 by_cases h:(m.any fun u=>decide (u.path=t.path))=true
 ·rw[Az h];obtain⟨u,h1,h2⟩:=A7.1 h;have h2:=BG h2
  have:(Value.string t.path,AV.agg (AF u))∈m.map Mu:=Rp.2 ⟨u,h1,h2,rfl⟩
  rw[PI this,BP,BP];apply Bf;intro q _;simp only[Function.comp]
  by_cases e:q.path=t.path
  ·simp[e]
  ·have:¬Value.string q.path=.string t.path:=fun c=>e (by injection c)
   simp[e]
 ·rw[Al h]
  have:∀b,(Value.string t.path,b)∉m.map Mu:=fun b hb=>by
   obtain⟨u,h1,h2,_⟩:=Rp.1 hb;exact h (A7.2 ⟨u,h1,by simp[h2]⟩)
  rw[Ky this,AH];rfl
theorem eH{m:List Tm}(hn:(Ev m).Nodup)(p:ByteArray){K:AV→Prop}{Z:Prop}(hy:∀u,Dj m p=some u→K (.agg (AF u)))(QZ:Dj m p=none→Z) :
  (∀a,(Value.string p,a)∈m.map Mu→K a)∧((∀a,(Value.string p,a)∉m.map Mu)→Z) :=
 ⟨fun a h=>by
  obtain⟨t,h1,h2,rfl⟩:=Rp.1 h;subst h2;exact hy t ((LP hn).1 h1),fun h=>QZ (by
  cases e:Dj m p with
  |none=>rfl
  |some u=>exact absurd (Rp.2 ⟨u,E5 e,GY e,rfl⟩) (h _))⟩
theorem Oh{t:Tm}(h:EC t.set):Cn t.set:=by
 unfold Cn
 have:=HX h;omega
theorem yE(l:List Tm)(hl:Cn l)(hs:∀t∈l,Cn t.set):PC 231 [sl AF l,.v (TZ 232)] (.cmap C3 ((CW l).map Mu)):=by
 have hl:l.length≤1073741824:=hl;refine Ps (rc [10] [5,8]) Tryz.func231 rfl (Nz rfl) ?_;refine Xi {i:Nat // i≤l.length} (Xi (fun i=>⟨[(0,sl AF l),(1,.v (TZ 232)),(5,.mref 10),(11,sl AF l),(12,vi (l.map AF).length),(13,vi i.1)],[(10,.map C3 ((CW (l.take i.1)).map Mu))],Ab⟩) (Xi (fun i=>l.length-i.1) (Yi (Xi ⟨0,AM _⟩ ?_) ?_)))
 ·exact⟨Z6,Z1,Fh,Tv⟩
 intro⟨i,h1⟩;have hn:=HB (l.take i);refine Yi ?_ ?_
 ·intro h;have h:(i:Int)<(l.map AF).length:=h;have h:i<l.length:=by simpa using h
  have hg:l[i]?=some l[i]:=Ge h;refine Xi (AF l[i]) (Yi (Yi (Nn i) (by simp[hg])) (Yi rfl ?_));refine Yi (Nz rfl) (Yi (Nz rfl) ?_);have Fb:=hs l[i] (Ao h);refine Xi ⟨[(0,sl AF l),(1,.v (TZ 232)),(5,.mref 10),(7,.ref 7 0),(11,sl AF l),(12,vi (l.map AF).length),(13,vi i)],[(7,.cells (AF l[i])),(10,.map C3 ((CW (l.take i)).map Mu))],Ab⟩ (Yi ⟨Z7,Z2,Fh,Tv⟩ ?_)
  have tail:∀u:Tm,Cn u.set→GO u l[i]=NI (Dj (CW (l.take i)) l[i].path) l[i]→EP ((CW (l.take i)).map Mu) (.string l[i].path) (.agg (AF (GO u l[i])))=(CW (l.take (i+1))).map Mu:=fun u hu e=>by
   have hp:(NI (Dj (CW (l.take i)) l[i].path) l[i]).path=l[i].path:=PN _ _ fun u h=>GY h;have e2:=gg (CW (l.take i)) (GO u l[i]);have e3:(GO u l[i]).path=l[i].path:=by rw[e];exact hp
   rw[e3]at e2;rw[e2,QH l i h,e];rfl
  refine eH hn l[i].path (fun u hu=>?_) (fun hu=>?_)
  ·have KZ:Cn u.set:=Oh (OJ _ u (E5 hu));refine Yi (Nz rfl) ?_;refine Xi ⟨[(0,sl AF l),(1,.v (TZ 232)),(5,.mref 10),(7,.ref 7 0),(8,.ref 8 0),(11,sl AF l),(12,vi (l.map AF).length),(13,vi i)],[(7,.cells (AF l[i])),(8,.cells (AF u)),(10,.map C3 ((CW (l.take i)).map Mu))],Ab⟩ (Yi ⟨Z8,Z3,Fh,Tv⟩ ?_)
   have AW:=tail u KZ (by rw[aE,hu];rfl);refine Yi (Nz rfl) (Yi (Nz rfl) ?_);refine Xi _ (Yi (wJ u l[i] KZ Fb) ?_);refine Yi (by kernel_rfl) ?_;refine Yi (Ii i (by omega)) ?_;refine Xi ⟨i+1,by omega⟩ ?_;have e1:HO.map C3 (EP ((CW (l.take i)).map Mu) (.string l[i].path) (.agg (AF (GO u l[i]))))=.map C3 ((CW (l.take (i+1))).map Mu):=by rw[AW]
   exact⟨Dl l.length i (by omega),Z6,⟨⟨e1,rfl⟩,Tv⟩,Fh,Tv⟩
  ·refine Yi (Nz rfl) ?_;refine Yi (Nz rfl) (Yi (Nz rfl) ?_);refine Xi ⟨[(0,sl AF l),(1,.v (TZ 232)),(5,.mref 10),(7,.ref 7 0),(8,.ref 8 0),(11,sl AF l),(12,vi (l.map AF).length),(13,vi i)],[(7,.cells (AF l[i])),(8,.cells (AF l[i])),(10,.map C3 ((CW (l.take i)).map Mu))],Ab⟩ (Yi ⟨Z8,Z3,Fh,Tv⟩ ?_)
   have AW:=tail l[i] Fb (by rw[aE,hu];rfl);refine Yi (Nz rfl) (Yi (Nz rfl) ?_);refine Xi _ (Yi (wJ l[i] l[i] Fb Fb) ?_);refine Yi (by kernel_rfl) ?_;refine Yi (Ii i (by omega)) ?_;refine Xi ⟨i+1,by omega⟩ ?_;have e1:HO.map C3 (EP ((CW (l.take i)).map Mu) (.string l[i].path) (.agg (AF (GO l[i] l[i]))))=.map C3 ((CW (l.take (i+1))).map Mu):=by rw[AW]
   exact⟨Dl l.length i (by omega),Z6,⟨⟨e1,rfl⟩,Tv⟩,Fh,Tv⟩
 ·intro h;have h:¬(i:Int)<(l.map AF).length:=h;have h:¬i<l.length:=by simpa using h
  have e:(CW (l.take i)).map Mu=(CW l).map Mu:=by rw[AT (by omega)]
  exact .of_eq (Ac (AV.cmap C3) e)
abbrev GD(l:List Tm):AV:=.tup [sl AF (PK l),vb (CO l).isSome]
abbrev vA:TM:=⟨[],[],[(4,3)],[],[],[],[],[],[],[(25,4)],[4,7,10]⟩
abbrev RI(l:List Tm):HO:=.arr 3 (l.map AF)
abbrev Fc(l:List Tm):List Tm:=l.filter fun t=>!Gr t
theorem kk{l:List Tm}{kv:Value×AV}{NJ : List (Value×AV)}(h:(l.map Mu).Perm (kv::NJ)):∃t r,kv=Mu t∧NJ=r.map Mu∧l.Perm (t::r):=by
 obtain⟨ps,h1,h2⟩:=L7 h l rfl;cases ps with
 |nil=>cases h2
 |cons t r =>
  rw[AP,Fs]at h2;exact⟨t,r,h2.1.symm,h2.2.symm,h1.symm⟩
theorem WS{l:List Tm}{t:Tm}(h:t∈CW l)(hn:HC t=true):CO l=none:=by
 unfold CO;rw[Az (A7.2 ⟨t,(I1 l t).1 h,hn⟩)]
theorem YC{l done s:List Tm}(h:done.Perm (CW l))(hn:∀t∈done,HC t=false)(hp:s.Perm (Fc done))(hs:s.Pairwise fun x y=>Ff y.path x.path=false):CO l=some s:=by
 unfold CO;rw[Al]
 ·congr 1
  exact(Pq _ (hp.trans (h.filter _)) hs).symm
 ·intro c;obtain⟨t,h1,h2⟩:=A7.1 c
  have:=hn t (h.mem_iff.2 ((I1 l t).2 h1))
  rw[h2]at this;cases this
theorem ca(l:List Tm):(Fc l).length≤l.length:=BE _ _
theorem rL(l:List Tm)(hl:Cn l)(hs:∀t∈l,Cn t.set):PC 204 [sl AF l] (GD l):=by
 have bO:l.length≤1073741824:=hl;have xv:(CW l).length≤l.length:=by have:=NC l l.length (Ak _);rwa [Dv]at this
 refine Ps vA Tryz.func204 rfl (Nz rfl) ?_;refine Xi .pure (Xi _ (Yi (yE l hl hs) ?_));refine Xi {p:List Tm×List Tm×Option (Value×AV) // (p.1++p.2.1).Perm (CW l)∧∀t∈p.1,HC t=false} (Xi (fun p=>⟨[(4,.msl 4 (Fc p.1.1).length),(9,.ref 9 0)],[(4,RI (Fc p.1.1)),(9,.iter ((CW l).map Mu) (p.1.2.1.map Mu) p.1.2.2)],Ab⟩) (Xi (fun p=>p.1.2.1.length) (Yi (Xi ⟨([],CW l,none),.refl _,fun t ht=>by cases ht⟩ ?_) ?_)))
 ·exact⟨Z2,Z2,Fh,Tv⟩
 intro⟨⟨done,rem,Fz⟩,r1,r2⟩;have r1:(done++rem).Perm (CW l):=r1;have r2:∀t∈done,HC t=false:=r2;have hdl:done.length+rem.length≤l.length:=by have:=r1.length_eq;rw[Ad]at this;omega
 have oE:=ca done;refine Yi ?_ ?_
 ·intro hr;have hr:rem.map Mu=[]:=hr;have hr:rem=[]:=Dr.1 hr;subst hr;rw[B3]at r1;refine Xi (.gen [(4,1000)] 0) (Yi rfl ((yH (Fc done) (by unfold Cn;omega)).to ?_));intro s hq;have Wz:s.length=(Fc done).length:=hq.1.length_eq;have hc:=YC r1 r2 hq.1 hq.2;refine Xi ⟨[(4,.msl 4 (Fc done).length)],[(4,RI s)],Ab⟩ (Yi ⟨Z1,Z1,Fh,Tv⟩ ?_)
  refine Yi (by rw[Lm,Wz]) ?_;have e:AV.tup [sl AF s,vb true]=GD l:=by unfold GD PK;rw[hc];rfl
  exact .of_eq e
 ·intro kv NJ hp;refine Do (kk hp) (fun t hp=>Do hp (fun r hp=>?_));have e1:=hp.1;have e2:=hp.2.1;subst e1;subst e2;have hp:=hp.2.2;have se:t∈CW l:=r1.mem_iff.1 (Bl _ (hp.mem_iff.2 (Aa ..)));have uN:=OJ l t se;have xG:=Oh uN;refine Xi ⟨[(4,.msl 4 (Fc done).length),(9,.ref 9 0)],[(4,RI (Fc done)),(9,.iter ((CW l).map Mu) (r.map Mu) (some (Mu t)))],Ab⟩ (Yi ⟨Z2,Z2,Fh,Tv⟩ ?_)
  refine Yi (Nz rfl) (Yi (Nz rfl) ?_);have hv:PC 233 [.agg (AF t)] (vb (HC t)):=gn uN▸yF t xG;have ha:PC 234 [.agg (AF t)] (vb (Gr t)):=aZ uN▸yG t xG;refine BN (Bt (HC t)) (fun h=>?_) (fun h=>?_)
  ·rw[h]at hv;refine Xi .pure (Xi _ (Yi (hv) ?_));have hc:=WS se h;have e:AV.tup [.slice .none [],vb false]=GD l:=by unfold GD PK;rw[hc];rfl
   have e0:Hm (.tup [.v (.slice none 0 0),vb false]) (.tup [.slice .none [],vb false]):=Hm.tup ⟨.nil,.refl _,trivial⟩;exact e0.trans (.of_eq e)
  ·rw[h]at hv;refine Xi .pure (Xi _ (Yi (hv) ?_));refine Xi ⟨[(4,.msl 4 (Fc done).length),(6,.ref 6 0),(9,.ref 9 0)],[(4,RI (Fc done)),(6,.cells (AF t)),(9,.iter ((CW l).map Mu) (r.map Mu) (some (Mu t)))],Ab⟩ (Yi ⟨Z3,Z3,Fh,Tv⟩ ?_)
   refine Yi (Nz rfl) ?_;have TO:((done++[t])++r).Perm (CW l):=by
    rw[AO];exact(List.Perm.append_left _ hp.symm).trans r1
   have xw:∀u∈done++[t],HC u=false:=fun u hu=>by
    rcases A3.1 hu with hu | hu
    ·exact r2 u hu
    ·rw[Ai.1 hu];exact h
   have Wx:r.length<rem.length:=by rw[hp.length_eq,At];omega
   refine BN (Bt (Gr t)) (fun h2=>?_) (fun h2=>?_)
   rotate_left
   ·rw[h2]at ha;refine Xi .pure (Xi _ (Yi (ha) ?_));have Gs:Dp 3 [AF t]∧((Fc done).map AF).length=(Fc done).length∧(((Fc done).map AF).length+[AF t].length)*48≤140737488355328∧((Fc done).map AF).length+[AF t].length≤9223372036854775807 :=
     ⟨⟨rfl,trivial⟩,by rw[Lm],by rw[Lm,AD];omega,by rw[Lm,AD];omega⟩
    refine Yi (Nz rfl) ?_;refine Yi Gs ?_;have hk:Fc (done++[t])=Fc done++[t]:=by unfold Fc;rw[Ej,Eo,Az (by rw[h2];rfl)];rfl
    have e1:AV.msl 4 (((Fc done).map AF).length+[AF t].length)=.msl 4 (Fc (done++[t])).length:=by rw[hk];simp
    have e2:HO.arr 3 ((Fc done).map AF++[AF t])=RI (Fc (done++[t])):=by rw[hk];simp
    refine Xi ⟨(done++[t],r,some (Mu t)),TO,xw⟩ ?_;exact⟨Wx,⟨⟨e1,rfl⟩,Zr,Tv⟩,⟨⟨e2,rfl⟩,Zr,Tv⟩,Fh,Tv⟩
   ·rw[h2]at ha;refine Xi .pure (Xi _ (Yi (ha) ?_));have hk:Fc (done++[t])=Fc done:=by unfold Fc;rw[Ej,Eo,Al (by rw[h2];decide)];simp
    have e1:AV.msl 4 (Fc done).length=.msl 4 (Fc (done++[t])).length:=by rw[hk]
    have e2:RI (Fc done)=RI (Fc (done++[t])):=by rw[hk]
    refine Xi ⟨(done++[t],r,some (Mu t)),TO,xw⟩ ?_;exact⟨Wx,⟨⟨e1,rfl⟩,Zr,Tv⟩,⟨⟨e2,rfl⟩,Zr,Tv⟩,Fh,Tv⟩
end Go.Eng
