/- Lemmas for the claims of this seat, without a condition: part 18 (C16, C17, C18, C19, C20, C21, C22, C23). -/
import Derived.Test.YtmcbkdbfaneofaaGreatDoorCA17
import Derived.Test.YtmcbkdbfaneofaaGreatDoorCA02
namespace Go.Eng
open Go.Proofs
theorem Bd.imp{P:Program}{f:Nat}{args:List AV}{h0:Nat→HO}{Q Q' : AV→(Nat→HO)→Prop}(h:Bd P f args h0 Q)(hq:∀r h',Q r h'→Q' r h'):Bd P f args h0 Q':=h.mono fun r h' q=>⟨r,.refl _,hq r h' q⟩
theorem Bd.to{P:Program}{f:Nat}{args:List AV}{h0:Nat→HO}{α:Type}{r0:AV}{p:α→Prop}{H:α→Nat→HO}{Q' : AV→(Nat→HO)→Prop}(h:Bd P f args h0 fun r h'=>r=r0∧∃x,p x∧h'=H x)(k:∀x,p x→Q' r0 (H x)):Bd P f args h0 Q' :=
 h.imp fun r h' ⟨e1,x,e2,e3⟩=>by subst e1;subst e3;exact k x e2
theorem l8(n:Nat)(h:n≤1073741824):∃lim:Nat,lim<100∧PC 130 [.v (.int .u64 (IntKind.u64.wrap (n:Int)))] (vi lim):=by
 refine⟨Lib.bitLen n,Nat.lt_of_le_of_lt (Lib.bitLen_le n 62 (by omega) (by omega)) (by omega),?_⟩;have wr:IntKind.u64.wrap (n:Int)=n:=by simp[IntKind.wrap,IntKind.bits,IntKind.signed];omega
 rw[wr];refine K6 [.int .u64 n] (.int .i64 (Lib.bitLen n:Nat)) (dj 130 Tryz.func130 (by kernel_rfl) rfl) rfl (fun _ _=>.v _ _) fun w _=>?_
 have:=Any.bits_Len Tryz.layBits (n:Int) w (by omega) (by omega)
 rw[Ch]at this;exact this
theorem sL(l:List (Int×Int))(hl:Cp l)(h:∀x∈l,0≤x.1∧x.1≤1000000) :
  Bd Tryz.prog 190 [.msl 1000 l.length,.v (TY 191)] (Ah [(1000,.arr 2 (l.map Ao))] Ab) fun r h' =>
   r=.tup []∧∃l' : List (Int×Int),(l'.Perm l∧l'.Pairwise (fun x y=>x.1≤y.1))∧h'=Ah [(1000,.arr 2 (l'.map Ao))] Ab:=by
 obtain⟨lim,Xs,hb⟩:=l8 l.length hl;refine Cm (Mo Gc) [(1000,1000)] rfl CK hm rfl Tryz.func190 (by kernel_rfl) rfl (Nz rfl) (by kernel_rfl) rfl ?_;refine Xi .pure (Xi _ (Yi (hb) ?_));refine Xi (.gen [(1000,1000)] 0) (Yi rfl ((sP l hl h lim Xs).imp ?_));intro r h' hq;refine Dn hq.2 (fun l' PD=>?_);refine Xi (.tup []) (Yi ?_ (Yi rfl (Xi l' (Yi ⟨PD.1,PD.2.1⟩ ?_))))
 ·exact .refl _
 ·rw[PD.2.2];rfl
theorem yo(l:List Tm)(hl:Cp l) :
  Bd Tryz.prog 235 [.msl 1000 l.length,.v (TY 236)] (Ah [(1000,.arr 3 (l.map AF))] Ab) fun r h' =>
   r=.tup []∧∃l' : List Tm,(l'.Perm l∧l'.Pairwise (fun x y=>Fa y.path x.path=false))∧h'=Ah [(1000,.arr 3 (l'.map AF))] Ab:=by
 obtain⟨lim,Xs,hb⟩:=l8 l.length hl;refine Cm (Mo Gc) [(1000,1000)] rfl CK hm rfl Tryz.func235 (by kernel_rfl) rfl (Nz rfl) (by kernel_rfl) rfl ?_;refine Xi .pure (Xi _ (Yi (hb) ?_));refine Xi (.gen [(1000,1000)] 0) (Yi rfl ((sC l hl lim Xs).imp ?_));intro r h' hq;refine Dn hq.2 (fun l' PD=>?_);refine Xi (.tup []) (Yi ?_ (Yi rfl (Xi l' (Yi ⟨PD.1,PD.2.1⟩ ?_))))
 ·exact .refl _
 ·rw[PD.2.2];rfl
abbrev xH(l:List (Nat×Nat))(cut:List Nat):TK:=⟨[],[],l,[],[],[],[],[],[],[],cut⟩
abbrev ID(l:List (Int×Int)):HO:=.arr 2 (l.map Ao)
theorem YG(l:Bl)(i:Nat):(CO (l.take i)).length≤i:=by
 unfold CO
 have:=BD (fun x:Int×Int=>decide (x.1<x.2)) ((l.take i).map Hb)
 rw[Lm,AJ]at this;omega
theorem UB{l:Bl}{i:Nat}(h:i<l.length)(h3:(Hb l[i]).1<(Hb l[i]).2):CO (l.take (i+1))=CO (l.take i)++[Hb l[i]]:=by
 rw[Bs,Ge h,Oa];unfold CO;simp[h3]
theorem WV{l:Bl}{i:Nat}(h:i<l.length)(h3:¬(Hb l[i]).1<(Hb l[i]).2):CO (l.take (i+1))=CO (l.take i):=by
 rw[Bs,Ge h,Oa];unfold CO;simp[h3]
abbrev arr2(s j:Bl)(i:Nat):Bl:=(BB (s.take i)).reverse++(j++s.drop i)
theorem iQ(s j:Bl)(i:Nat)(h:i<s.length)(hj:(BB (s.take i)).length+j.length=i):(arr2 s j i)[i]?=some s[i]:=by
 unfold arr2;rw[A2 (by rw[Dp];omega),A2 (by rw[Dp];omega),Dp,BP];rw[show i+(i-(BB (List.take i s)).length-j.length)=i by omega,Ge h]
theorem bj(s j:Bl)(i:Nat){y:Int×Int}{t:Bl}(e:BB (s.take i)=y::t):(arr2 s j i)[t.length]?=some y:=by
 unfold arr2;rw[e,Qn,AO,A2 (by rw[Dp];omega),Dp,F1];rfl
theorem dK(s j:Bl)(i:Nat)(h:i≤s.length)(hj:(BB (s.take i)).length+j.length=i):(arr2 s j i).length=s.length:=by
 unfold arr2;simp only[Ad,Dp,Ar];omega
theorem ZO{α:Type}(s:List α)(i:Nat)(h:i<s.length):s.drop i=s[i]::s.drop (i+1):=Br h
theorem Uq(s j:Bl)(i:Nat)(h:i<s.length)(e:KA (BB (s.take i)) s[i]=s[i]::BB (s.take i)) :
  (arr2 s j i).set (BB (s.take i)).length s[i]=arr2 s (j++[s[i]]).tail (i+1):=by
 unfold arr2;rw[F9 s i h,e,Qn,List.set_append_right _ _ (by rw[Dp];exact Aj _),Dp,F1,AO,ZO s i h]
 congr 1
 cases j with
 |nil=>rfl
 |cons a b=>simp
theorem bi(s j:Bl)(i:Nat)(h:i<s.length){y:Int×Int}{t:Bl}(e:BB (s.take i)=y::t)(Hc:s[i].1≤y.2) :
  (arr2 s j i).set t.length (y.1,max y.2 s[i].2)=arr2 s (j++[s[i]]) (i+1):=by
 unfold arr2;have e2:KA (y::t) s[i]=(y.1,max y.2 s[i].2)::t:=by show(if s[i].1≤y.2 then _ else _)=_;rw[Aw Hc]
 rw[F9 s i h,e,e2,Qn,Qn,AO,List.set_append_right _ _ (by rw[Dp];exact Aj _),Dp,F1,ZO s i h];simp
theorem Cf{α:Type}{enc:α→List AV}{l:List α}{i:Nat}{x:α}(h:l[i]?=some x):(l.map enc)[i]?=some (enc x):=by rw[AG,h];rfl
theorem WR(l:List (Int×Int))(hl:Cp l):PC 148 [sl Ao l] (sl Ao (canon l)):=by
 have hl:l.length≤1073741824:=hl;refine FQ (di (xH [(3,2)] [5,14,15,16])) rfl CK hm rfl Tryz.func148 (by kernel_rfl) rfl (Nz rfl) (by kernel_rfl) ?_;refine Xi {i:Nat // i≤l.length} (Xi (fun i=>⟨[(0,sl Ao l),(3,.msl 3 (CO (l.take i.1)).length),(9,sl Ao l),(10,vi (l.map Ao).length),(11,vi i.1)],[(3,ID (CO (l.take i.1)))],Ab⟩) (Xi (fun i=>l.length-i.1) (Yi (Xi ⟨0,by simp⟩ ?_) ?_)))
 ·exact⟨Z5,Z1,Fh,Tv⟩
 ·intro⟨i,h1⟩;have hn:=YG l i;refine Yi ?_ ?_
  ·intro h;have h:(i:Int)<(l.map Ao).length:=h;have h:i<l.length:=by simpa using h
   have hg:l[i]?=some l[i]:=Ge h;refine Xi (Ao l[i]) (Yi (Yi (Nn i) (by simp[hg])) (Yi rfl ?_));refine Yi (Nz rfl) (Yi (Nz rfl) ?_);refine Xi ⟨[(0,sl Ao l),(3,.msl 3 (CO (l.take i)).length),(5,.ref 5 0),(9,sl Ao l),(10,vi (l.map Ao).length),(11,vi i)],[(3,ID (CO (l.take i))),(5,.cells (Ao l[i]))],Ab⟩ (Yi ⟨Z6,Z2,Fh,Tv⟩ ?_)
   refine Yi (Nz rfl) ?_;refine Yi ?_ ?_
   ·intro h3;have h3:(Hb l[i]).1<(Hb l[i]).2:=h3;refine Yi (Nz rfl) ?_;have Gl:Do 2 [[vi (max l[i].1 0),vi (min l[i].2 1000000)]]∧((CO (l.take i)).map Ao).length=(CO (l.take i)).length∧(((CO (l.take i)).map Ao).length+[[vi (max l[i].1 0),vi (min l[i].2 1000000)]].length)*16≤140737488355328∧((CO (l.take i)).map Ao).length+[[vi (max l[i].1 0),vi (min l[i].2 1000000)]].length≤9223372036854775807 :=
     ⟨⟨rfl,trivial⟩,by rw[Lm],by rw[Lm,AD];omega,by rw[Lm,AD];omega⟩
    refine Yi Gl ?_;refine Yi (Ii i (by omega)) ?_;refine Xi ⟨i+1,by omega⟩ ?_;have e1:AV.msl 3 (((CO (l.take i)).map Ao).length+[[vi (max l[i].1 0),vi (min l[i].2 1000000)]].length)=.msl 3 (CO (l.take (i+1))).length:=by rw[UB h h3];simp
    have e2:HO.arr 2 ((CO (l.take i)).map Ao++[[vi (max l[i].1 0),vi (min l[i].2 1000000)]])=ID (CO (l.take (i+1))):=by rw[UB h h3];simp[Hb]
    exact⟨Dl l.length i (by omega),⟨Zr,⟨e1,rfl⟩,Zr,Zr,Zr,Tv⟩,⟨⟨e2,rfl⟩,Tv⟩,Fh,Tv⟩
   ·intro h3;have h3:¬(Hb l[i]).1<(Hb l[i]).2:=h3;refine Yi (Ii i (by omega)) ?_;refine Xi ⟨i+1,by omega⟩ ?_;have e1:AV.msl 3 (CO (l.take i)).length=.msl 3 (CO (l.take (i+1))).length:=by rw[WV h h3]
    have e2:ID (CO (l.take i))=ID (CO (l.take (i+1))):=by rw[WV h h3]
    exact⟨Dl l.length i (by omega),⟨Zr,⟨e1,rfl⟩,Zr,Zr,Zr,Tv⟩,⟨⟨e2,rfl⟩,Tv⟩,Fh,Tv⟩
  ·intro h;have h:¬(i:Int)<(l.map Ao).length:=h;have h:¬i<l.length:=by simpa using h
   have ei:CO (l.take i)=CO l:=by rw[AT (by omega)]
   have hN:(CO (l.take i)).length=(CO l).length:=by rw[ei]
   refine Xi (.gen [(3,1000)] 0) (Yi rfl ((sL (CO (l.take i)) (by unfold Cp;omega) (fun x hx=>by have:=UA hx;omega)).to ?_));intro s hs;have WB:s.length=(CO (l.take i)).length:=hs.1.length_eq;have hsN:s.length≤1073741824:=by omega
   have fin:(BB s).reverse=canon l:=QW (by rw[←ei];exact hs.1) hs.2;refine Xi {p:Nat×Bl // p.1≤s.length∧(BB (s.take p.1)).length+p.2.length=p.1} (Xi (fun p=>⟨[(3,.msl 3 (CO (l.take i)).length),(6,vi (BB (s.take p.1.1)).length),(34,.msl 3 (CO (l.take i)).length),(35,vi (CO (l.take i)).length),(36,vi p.1.1)],[(3,ID (arr2 s p.1.2 p.1.1))],Ab⟩) (Xi (fun p=>s.length-p.1.1) (Yi (Xi ⟨(0,[]),AN _,rfl⟩ ?_) ?_)))
   ·exact⟨Z5,Z1,Fh,Tv⟩
   intro⟨⟨k,j⟩,k1,k2⟩;have k1:k≤s.length:=k1;have k2:(BB (s.take k)).length+j.length=k:=k2;have CE:=dK s j k k1 k2;have SC:(CO (l.take i)).length=((arr2 s j k).map Ao).length:=by rw[Lm,CE,WB]
   refine Yi ?_ ?_
   ·intro h2;have h2:(k:Int)<(CO (l.take i)).length:=h2;have hk:k<s.length:=by omega
    have kZ:=Cf (enc:=Ao) (iQ s j k hk k2);refine Yi ⟨by show(0:Int)≤k;omega,by show(k:Int)<_;omega⟩ ?_;refine Yi SC (Xi (Ao s[k]) (Yi kZ (Yi (Nz rfl) (Yi (Nz rfl) ?_))));refine Xi ⟨[(3,.msl 3 (CO (l.take i)).length),(6,vi (BB (s.take k)).length),(7,vi k),(8,.ref 8 0),(34,.msl 3 (CO (l.take i)).length),(35,vi (CO (l.take i)).length),(36,vi k)],[(3,ID (arr2 s j k)),(8,.cells (Ao s[k]))],Ab⟩ (Yi ⟨Z7,Z2,Fh,Tv⟩ ?_)
    have hr:=S7 s k k1;refine BV (Nat.eq_zero_or_pos k) (fun k0=>?_) (fun k0=>?_)
    ·refine Yi ?_ ?_
     ·intro h4;have h4:(0:Int)<k:=h4;omega
     ·intro _;refine Yi (by kernel_rfl) ?_;have I9:KA (BB (s.take k)) s[k]=s[k]::BB (s.take k):=by subst k0;rfl
      have dp:(BB (s.take k)).length<(arr2 s j k).length:=by omega
      have hz:=Cf (enc:=Ao) (Ge dp);refine Xi ⟨[(3,.msl 3 (CO (l.take i)).length),(6,vi (BB (s.take k)).length),(8,.ref 8 0),(34,.msl 3 (CO (l.take i)).length),(35,vi (CO (l.take i)).length),(36,vi k)],[(3,ID (arr2 s j k)),(8,.cells (Ao s[k]))],Ab⟩ (Yi ⟨⟨⟨rfl,rfl⟩,⟨rfl,rfl⟩,⟨rfl,rfl⟩,⟨rfl,rfl⟩,⟨rfl,rfl⟩,⟨rfl,rfl⟩,Tv⟩,⟨⟨rfl,rfl⟩,⟨rfl,rfl⟩,Tv⟩,Fh,Tv⟩ ?_);refine Yi (Nz rfl) (Yi ⟨by show(0:Int)≤((BB (s.take k)).length:Int);omega,by show((BB (s.take k)).length:Int)<_;omega⟩ ?_);refine Yi SC (Xi (Ao (arr2 s j k)[(BB (s.take k)).length]) (Yi hz (Yi (Nz rfl) ?_)));refine Yi (by show B1 (((BB (s.take k)).length:Int)+1);unfold B1;omega) ?_;refine Yi (Ii k (by omega)) ?_;have hm:=F9 s k hk;have e1:vi (((BB (s.take k)).length:Int)+1)=vi (BB (s.take (k+1))).length:=by rw[hm,I9];simp
      have e2:HO.arr 2 (((arr2 s j k).map Ao).set (BB (s.take k)).length [vi s[k].1,vi s[k].2])=ID (arr2 s (j++[s[k]]).tail (k+1)):=by rw[←Uq s j k hk I9];simp only[ID,Nc]
      refine Xi ⟨(k+1,(j++[s[k]]).tail),by show k+1≤s.length;omega,by show(BB (s.take (k+1))).length+((j++[s[k]]).tail).length=k+1;rw[hm,I9];simp;omega⟩ ?_;exact⟨Dl s.length k (by omega),⟨Zr,⟨e1,rfl⟩,Zr,Zr,Zr,Tv⟩,⟨⟨e2,rfl⟩,Tv⟩,Fh,Tv⟩
    ·refine Yi ?_ ?_
     ·intro _;obtain⟨y,t,e⟩:∃y t,BB (s.take k)=y::t:=by
       cases hc:BB (s.take k)with
       |nil=>have:=hr.2 k0;rw[hc]at this;simp at this
       |cons y t=>exact⟨y,t,rfl⟩
      have ht:(((BB (s.take k)).length:Int)-1).toNat=t.length:=by rw[e];simp
      have hy:((arr2 s j k).map Ao)[(((BB (s.take k)).length:Int)-1).toNat]?=some (Ao y):=by rw[ht];exact Cf (bj s j k e)
      refine Yi (by show B1 (((BB (s.take k)).length:Int)-1);unfold B1;omega) ?_;have Y2:=hr.2 k0;refine Yi ⟨by show(0:Int)≤((BB (s.take k)).length:Int)-1;omega,by show((BB (s.take k)).length:Int)-1<_;omega⟩ ?_;refine Yi SC (Xi (Ao y) (Yi hy ?_));refine Yi ?_ ?_
      ·intro h5;have h5:s[k].1≤y.2:=h5;refine Yi (by kernel_rfl) ?_;refine Xi ⟨[(3,.msl 3 (CO (l.take i)).length),(6,vi (BB (s.take k)).length),(8,.ref 8 0),(34,.msl 3 (CO (l.take i)).length),(35,vi (CO (l.take i)).length),(36,vi k)],[(3,ID (arr2 s j k)),(8,.cells (Ao s[k]))],Ab⟩ (Yi ⟨⟨⟨rfl,rfl⟩,⟨rfl,rfl⟩,⟨rfl,rfl⟩,⟨rfl,rfl⟩,⟨rfl,rfl⟩,⟨rfl,rfl⟩,Tv⟩,⟨⟨rfl,rfl⟩,⟨rfl,rfl⟩,Tv⟩,Fh,Tv⟩ ?_);refine Yi (by show B1 (((BB (s.take k)).length:Int)-1);unfold B1;omega) (Yi (by show B1 (((BB (s.take k)).length:Int)-1);unfold B1;omega) ?_);refine Yi ⟨by show(0:Int)≤((BB (s.take k)).length:Int)-1;omega,by show((BB (s.take k)).length:Int)-1<_;omega⟩ ?_;refine Yi SC (Xi (Ao y) (Yi hy ?_));refine Yi ⟨by show(0:Int)≤((BB (s.take k)).length:Int)-1;omega,by show((BB (s.take k)).length:Int)-1<_;omega⟩ ?_;refine Yi SC (Xi (Ao y) (Yi hy (Yi (Nz rfl) ?_)));refine Yi (by kernel_rfl) ?_;refine Yi (Ii k (by omega)) ?_;have hm:=F9 s k hk;have I9:KA (BB (s.take k)) s[k]=(y.1,max y.2 s[k].2)::t:=by rw[e];show(if s[k].1≤y.2 then _ else _)=_;rw[Aw h5]
       have e1:vi (BB (s.take k)).length=vi (BB (s.take (k+1))).length:=by rw[hm,I9,e];simp
       have e2:HO.arr 2 (((arr2 s j k).map Ao).set (((BB (s.take k)).length:Int)-1).toNat [vi y.1,vi (max y.2 s[k].2)])=ID (arr2 s (j++[s[k]]) (k+1)):=by rw[←bi s j k hk e h5,ht];simp only[ID,Nc]
       refine Xi ⟨(k+1,j++[s[k]]),by show k+1≤s.length;omega,by show(BB (s.take (k+1))).length+(j++[s[k]]).length=k+1;rw[hm,I9,Ad,AD];rw[e]at k2;simp only[At]at k2⊢;omega⟩ ?_;exact⟨Dl s.length k (by omega),⟨Zr,⟨e1,rfl⟩,Zr,Zr,Zr,Tv⟩,⟨⟨e2,rfl⟩,Tv⟩,Fh,Tv⟩
      ·intro h5;have h5:¬s[k].1≤y.2:=h5;refine Yi (by kernel_rfl) ?_;have I9:KA (BB (s.take k)) s[k]=s[k]::BB (s.take k):=by rw[e];show(if s[k].1≤y.2 then _ else _)=_;rw[Ak h5]
       have dp:(BB (s.take k)).length<(arr2 s j k).length:=by omega
       have hz:=Cf (enc:=Ao) (Ge dp);refine Xi ⟨[(3,.msl 3 (CO (l.take i)).length),(6,vi (BB (s.take k)).length),(8,.ref 8 0),(34,.msl 3 (CO (l.take i)).length),(35,vi (CO (l.take i)).length),(36,vi k)],[(3,ID (arr2 s j k)),(8,.cells (Ao s[k]))],Ab⟩ (Yi ⟨⟨⟨rfl,rfl⟩,⟨rfl,rfl⟩,⟨rfl,rfl⟩,⟨rfl,rfl⟩,⟨rfl,rfl⟩,⟨rfl,rfl⟩,Tv⟩,⟨⟨rfl,rfl⟩,⟨rfl,rfl⟩,Tv⟩,Fh,Tv⟩ ?_);refine Yi (Nz rfl) (Yi ⟨by show(0:Int)≤((BB (s.take k)).length:Int);omega,by show((BB (s.take k)).length:Int)<_;omega⟩ ?_);refine Yi SC (Xi (Ao (arr2 s j k)[(BB (s.take k)).length]) (Yi hz (Yi (Nz rfl) ?_)));refine Yi (by show B1 (((BB (s.take k)).length:Int)+1);unfold B1;omega) ?_;refine Yi (Ii k (by omega)) ?_;have hm:=F9 s k hk;have e1:vi (((BB (s.take k)).length:Int)+1)=vi (BB (s.take (k+1))).length:=by rw[hm,I9];simp
       have e2:HO.arr 2 (((arr2 s j k).map Ao).set (BB (s.take k)).length [vi s[k].1,vi s[k].2])=ID (arr2 s (j++[s[k]]).tail (k+1)):=by rw[←Uq s j k hk I9];simp only[ID,Nc]
       refine Xi ⟨(k+1,(j++[s[k]]).tail),by show k+1≤s.length;omega,by show(BB (s.take (k+1))).length+((j++[s[k]]).tail).length=k+1;rw[hm,I9];simp;omega⟩ ?_;exact⟨Dl s.length k (by omega),⟨Zr,⟨e1,rfl⟩,Zr,Zr,Zr,Tv⟩,⟨⟨e2,rfl⟩,Tv⟩,Fh,Tv⟩
     ·intro h4;have h4:¬(0:Int)<k:=h4;omega
   ·intro h2;have h2:¬(k:Int)<(CO (l.take i)).length:=h2;have hk:k=s.length:=by omega
    have hr:=S7 s k k1;have mY:((((arr2 s j k).map Ao).take ((BB (s.take k)).length:Int).toNat).drop 0)=(canon l).map Ao:=by
     rw[List.drop_zero,Ch,←QU,←fin];unfold arr2
     have:(BB (s.take k)).length=(BB (s.take k)).reverse.length:=by rw[Dp]
     rw[this,List.take_left,hk,Du]
    refine Yi ⟨SC,by show(0:Int)≤0;omega,by show(0:Int)≤((BB (s.take k)).length:Int);omega,by show((BB (s.take k)).length:Int)≤(((arr2 s j k).map Ao).length:Int);omega,.inr ⟨rfl,by simp⟩⟩ ?_;exact .of_eq (Ac (AV.slice .none) mY)
end Go.Eng
namespace Go.Eng
open Go.Proofs Go.Sort
abbrev Gn(z:Int):List AV:=[vi z]
theorem PQ{α:Type}[Inhabited α](enc:α→Value)(w:World)(b:Nat)(d:Array α):putRow enc w b 0 d=putRow id w b 0 (d.map enc):=by
 unfold putRow
 congr 1
 funext c
 unfold putCells;apply Array.ext
 ·simp
 ·intro i h1 h2;simp only[Array.getElem_mapIdx,Array.size_map]
  by_cases h:i<d.size
  ·rw[Aw (by omega),Aw (by omega)];rw[Dy d (i-0) (by omega),Dy (d.map enc) (i-0) (by simpa using h)];simp
  ·rw[Ak (by omega),Ak (by omega)]
theorem UJ(zs:List Int):(zs.map Gn).flatten=(zs.map fun z=>Value.int .i64 z).map AV.v:=by
 induction zs with
 |nil=>rfl
 |cons z zs ih=>rw[AP,By,ih];rfl
theorem MH(g:Gh)(w:World)(U:Nat→Prop)(vs:List Value)(h:∀x∈vs,x.oneCell'=true):CC g w U (vs.map .v) vs :=
 ⟨by simp,h,fun i av x q1 q2=>by
  rw[AG,q2]at q1;cases q1;exact .v _ _⟩
theorem K8{g:Gh}{w:World}{U:Nat→Prop}{vs us:List Value}(h:CC g w U (vs.map .v) us):us=vs:=by
 apply Cz;intro i;have hl:=h.1;rw[Lm]at hl
 by_cases hi:i<vs.length
 ·have:=h.2.2 i (.v vs[i]) us[i] (by rw[AG,Ge hi];rfl) (Ge (by omega))
  rw[Ge hi,Ge (by omega),this.v_eq]
 ·rw[A4 (by omega),A4 (by omega)]
theorem sO(zs:List Int)(hl:Cp zs)(Dz:zs≠[]) :
  Bd Tryz.prog 255 [.msl 1000 zs.length] (Ah [(1000,.arr 1 (zs.map Gn))] Ab) fun r h' =>
   r=.tup []∧∃l' : List Int,(l'.Perm zs∧l'.Pairwise fun a b=>a≤b)∧h'=Ah [(1000,.arr 1 (l'.map Gn))] Ab:=by
 have hl:zs.length≤1073741824:=hl;have hE:FS Tryz.prog 255:=dj 255 Tryz.func255 (by kernel_rfl) rfl;have G2:=Pn (P:=Tryz.prog) (f:=255) (es:=zs.map Gn) (sz:=1) (rest:=[]) (Q:=fun Ft=>∃l' : List Int,(l'.Perm zs∧l'.Pairwise fun a b=>a≤b)∧Ft=l'.map Gn) hE ?_ ?_
 ·rw[Lm]at G2;refine⟨hE,fun g w vals q1 q2 q3=>(G2.2 g w vals q1 q2 q3).mono fun _ _ ⟨v,r,h',g',e1,⟨e2,Ft,⟨l',p1,p2⟩,p3⟩,rest⟩=>⟨v,r,h',g',e1,⟨e2,l',p1,by rw[p3,p2]⟩,rest⟩⟩
 ·intro e
  have:zs=[]:=by simpa using e
  exact absurd this Dz
 ·intro g w b cap F hr hF hH hb;have pz:F.toList=zs.map fun z=>Value.int .i64 z:=K8 (by rw[←UJ];exact hr);have eX:F=zs.toArray.map fun z=>Value.int .i64 z:=Ir.1 (by rw[pz];simp);have pA:Holds (Value.int .i64) w b 0 zs.toArray:=fun j hj=>by
   have:=hH j (by rw[eX];simpa using hj)
   refine⟨this.1.trans ?_,this.2⟩;rw[eX,Dy _ j (by simpa using hj),Dy _ j hj];simp
  have hc:=Any.slices_Sort_int Tryz.laySortInts b 0 cap zs w pA hb (by omega);rw[Lm];refine hc.mono ?_
  rintro e w' ⟨rfl,n,os,rfl⟩
  have IG:(zs.mergeSort fun x y=>decide (x≤y)).Perm zs:=List.mergeSort_perm _ _;have CE:=IG.length_eq;refine⟨rfl,(zs.mergeSort fun x y=>decide (x≤y)).toArray.map fun z=>Value.int .i64 z,(zs.mergeSort fun x y=>decide (x≤y)).map Gn,n,os,?_,⟨_,⟨IG,?_⟩,rfl⟩,by simp[CE],fun cs hcs=>?_,fun g w _=>?_,by rw[PQ]⟩
  ·rw[eX];simp[CE]
  ·have:=List.pairwise_mergeSort (le:=fun x y:Int=>decide (x≤y)) (fun a b c h1 h2=>by simp only[Az]at *;omega) (fun a b=>by simp only[CB,Az];omega) zs
   exact this.imp fun h=>BJ h
  ·obtain⟨x,_,rfl⟩:=Am.1 hcs;rfl
  ·rw[UJ];have e:((zs.mergeSort fun x y=>decide (x≤y)).toArray.map fun z=>Value.int .i64 z).toList=(zs.mergeSort fun x y=>decide (x≤y)).map fun z=>Value.int .i64 z:=by simp
   rw[e];exact MH _ _ _ _ fun x hx=>by
    obtain⟨z,_,rfl⟩:=Am.1 hx;rfl
-- maps from numbers to numbers
abbrev Wp:EA:=⟨false,[.int .i64]⟩
abbrev kI(z:Int):Value:=.int .i64 z
abbrev Lu(p:Int×Int):Value×AV:=(kI p.1,vi p.2)
abbrev Fb(s:Bl):List AV:=[sl Ao s]
theorem Rp{m:List (Int×Int)}{k:Int}{a:AV}:(kI k,a)∈m.map Lu↔∃v,(k,v)∈m∧a=vi v:=by
 rw[Am];constructor
 ·rintro⟨⟨k',v⟩,h1,h2⟩
  simp only[FD,Value.int.injEq,true_and]at h2;obtain⟨rfl,rfl⟩:=h2;exact⟨v,h1,rfl⟩
 ·rintro⟨v,h1,rfl⟩
  exact⟨(k,v),h1,rfl⟩
theorem Rt(m:List (Int×Int))(k v:Int):EK (m.map Lu) (kI k) (vi v)=(K7 m k v).map Lu:=by
 unfold K7
 by_cases h:(m.any fun p=>decide (p.1=k))=true
 ·rw[Aw h];obtain⟨p,h1,h2⟩:=Ba.1 h;have h2:=BJ h2
  have:(kI k,vi p.2)∈m.map Lu:=Rp.2 ⟨p.2,by rw[←h2];exact h1,rfl⟩
  rw[PK this,BN,BN];apply Be;intro q _;simp only[Function.comp]
  by_cases e:q.1=k
  ·simp[e]
  ·have:¬kI q.1=kI k:=fun c=>e (by injection c)
   simp[e]
 ·rw[Ak h]
  have:∀b,(kI k,b)∉m.map Lu:=fun b hb=>by
   obtain⟨v,h1,_⟩:=Rp.1 hb;exact h (Ba.2 ⟨(k,v),h1,by simp⟩)
  rw[Kr this,AH];rfl
theorem Ow{T:Gj}{e:Nat}{B2:List (Value×AV)}{kx:Value}{K:AV→Prop}(a0 z0:AV)(h1:∀a,(kx,a)∈B2→a=a0)(hz:(∀a,(kx,a)∉B2)→a0=z0)(h2:K z0→JZ T e K)(k:K a0) :
  (∀a,(kx,a)∈B2→K a)∧((∀a,(kx,a)∉B2)→JZ T e K):=⟨fun a h=>by rw[h1 a h];exact k,fun hn=>h2 (hz hn▸k)⟩
theorem Qf(m:List (Int×Int))(k:Int):(∀a,(kI k,a)∉m.map Lu)→vi (E9 m k)=vi 0:=fun Ra=>by
 rw[iv fun hk=>by
  obtain⟨p,hp,e⟩:=Am.1 hk;exact Ra (vi p.2) (Rp.2 ⟨p.2,by rw[←e];exact hp,rfl⟩)]
theorem Qe{m:List (Int×Int)}(hn:(EU m).Nodup)(k:Int):∀a,(kI k,a)∈m.map Lu→a=vi (E9 m k):=fun a h=>by
 obtain⟨v,h1,rfl⟩:=Rp.1 h;rw[iu hn h1]
theorem Ib.bound{m:List (Int×Int)}{S:Bl}(h:Ib m S)(k:Int):-(S.length:Int)≤E9 m k∧E9 m k≤S.length:=by
 rw[h.val]
 have:cF S k≤S.length:=List.countP_le_length
 have:cT S k≤S.length:=List.countP_le_length
 omega
theorem YO(l:List Bl):(l.map canon).flatten.length≤l.length*1000000:=by
 induction l with
 |nil=>simp
 |cons s l ih =>
  rw[AP,By,Ad,At]
  have:=HQ (Cn s)
  omega
theorem Ib.few{m:List (Int×Int)}{S:Bl}(h:Ib m S):m.length≤1000001:=by
 have:=H9 (m:=(List.range 1000001).map Int.ofNat) h.nd fun k hk=>by
  have:=h.rng k hk
  exact Am.2 ⟨k.toNat,List.mem_range.2 (by omega),by show(k.toNat:Int)=k;omega⟩
 unfold EU at this;rw[Lm,Lm,Qm]at this;exact this
theorem UU(keep:Nat→Bool)(m:List (Int×Int))(B:List Int):∀n,(Eo keep m B n).length≤n
 |0=>Aj _
 |n+1=>by
  unfold Eo
  have:=UU keep m B n
  rw[Ad];split
  ·split<;>simp<;>omega
  ·simp;omega
end Go.Eng
namespace Go.Eng
open Go.Proofs
abbrev plC:TK:=⟨[],[(12,2)],[(44,1)],[],[],[],[],[],[],[],[8,9,15,23,25,26]⟩
theorem me(F:AV)(keep:Nat→Bool)(l:List Bl)(hl:Cp l)(hs:∀s∈l,Cp s)(hid:∀h,T9 h F=true)(hF:∀h (n:Int),0≤n→n≤l.length→Pl Tryz.prog (str h F) [vi n] (vb (keep n.toNat)))
  (R:Bl) (hR:Ew R) (yJ:∀p,has R p=(Lt p&&keep (dh l p))):PC 226 [F,sl Fb l] (sl Ao R):=by
 have hl:l.length≤1073741824:=hl;refine Ps plC Tryz.func226 rfl (Nz rfl) ?_;refine Xi {p:Nat×List (Int×Int) // p.1≤l.length∧Ib p.2 ((l.take p.1).map canon).flatten} (Xi (fun p=>⟨[(0,F),(5,.mref 15),(17,sl Fb l),(18,vi (l.map Fb).length),(19,vi p.1.1)],[(15,.map Wp (p.1.2.map Lu))],Ab⟩) (Xi (fun p=>l.length-p.1.1) (Yi (Xi ⟨(0,ph),AN _,jf⟩ ?_) ?_)))
 ·have e0:HO.map Wp (EK (EK [] (kI 0) (vi 0)) (kI 1000000) (vi 0))=.map Wp (ph.map Lu):=by
   have e1:=Rt [] 0 0;have e2:=Rt [(0,0)] 1000000 0;show HO.map Wp (EK (EK (List.map Lu []) (kI 0) (vi 0)) (kI 1000000) (vi 0))=_;rw[e1];show HO.map Wp (EK (List.map Lu [(0,0)]) (kI 1000000) (vi 0))=_;rw[e2];rfl
  exact⟨⟨⟨rfl,hid _⟩,Zr,Zr,Zr,Zr,Tv⟩,⟨⟨e0,rfl⟩,Tv⟩,Fh,Tv⟩
 intro⟨⟨i,cm⟩,i1,i2⟩;have i1:i≤l.length:=i1;have i2:Ib cm ((l.take i).map canon).flatten:=i2;refine Yi ?_ ?_
 ·intro h;have h:(i:Int)<(l.map Fb).length:=h;have h:i<l.length:=by simpa using h
  have hg:l[i]?=some l[i]:=Ge h;refine Xi (Fb l[i]) (Yi (Yi (Nn i) (by simp[hg])) (Yi rfl ?_));refine Xi .pure (Xi _ (Yi (WR l[i] (hs _ (Aq h))) ?_));refine Xi {p:Nat×List (Int×Int) // p.1≤(canon l[i]).length∧Ib p.2 (((l.take i).map canon).flatten++(canon l[i]).take p.1)} (Xi (fun p=>⟨[(0,F),(5,.mref 15),(17,sl Fb l),(18,vi (l.map Fb).length),(19,vi i),(24,sl Ao (canon l[i])),(25,vi ((canon l[i]).map Ao).length),(26,vi p.1.1)],[(15,.map Wp (p.1.2.map Lu))],Ab⟩) (Xi (fun p=>(canon l[i]).length-p.1.1) (Yi (Xi ⟨(0,cm),AN _,by rw[List.take_zero,BZ];exact i2⟩ ?_) ?_)))
  ·exact⟨⟨⟨rfl,hid _⟩,Zr,Zr,Zr,Zr,Zr,Zr,Zr,Tv⟩,Z1,Fh,Tv⟩
  intro⟨⟨j,dm⟩,j1,j2⟩;have j1:j≤(canon l[i]).length:=j1;have j2:Ib dm (((l.take i).map canon).flatten++(canon l[i]).take j):=j2;have hS:(((l.take i).map canon).flatten++(canon l[i]).take j).length≤1073741825000000:=by
   have a1:=YO (l.take i);have a2:=HQ (Cn l[i]);rw[AJ]at a1;rw[Ad,AJ];omega
  refine Yi ?_ ?_
  ·intro hj;have hj:(j:Int)<((canon l[i]).map Ao).length:=hj;have hj:j<(canon l[i]).length:=by simpa using hj
   have tW:(canon l[i])[j]?=some (canon l[i])[j]:=Ge hj;have lx:=(Cn l[i]).low _ (Aq hj);have j3:Ib (Yc dm (canon l[i])[j]) (((l.take i).map canon).flatten++(canon l[i]).take (j+1)):=by
    have:=cY j2 (x:=(canon l[i])[j]) lx
    rw[AO]at this;rw[Bs,tW];exact this
   generalize (canon l[i])[j]=x at tW lx j3;have b1:=j2.bound x.1;have dp:=LV j2.nd x.1 (E9 dm x.1+1);refine Xi (Ao x) (Yi (Yi (Nn j) (by simp[tW])) (Yi rfl ?_));refine Yi (Nz rfl) (Yi (Nz rfl) ?_);refine Xi ⟨[(0,F),(5,.mref 15),(9,.ref 9 0),(17,sl Fb l),(18,vi (l.map Fb).length),(19,vi i),(24,sl Ao (canon l[i])),(25,vi ((canon l[i]).map Ao).length),(26,vi j)],[(9,.cells (Ao x)),(15,.map Wp (dm.map Lu))],Ab⟩ (Yi ⟨⟨⟨rfl,hid _⟩,Zr,Zr,Zr,Zr,Zr,Zr,Zr,Zr,Tv⟩,Z2,Fh,Tv⟩ ?_)
   refine Ow (vi (E9 dm x.1)) (vi 0) (Qe j2.nd x.1) (Qf dm x.1) (fun q=>q) ?_;refine Yi (by show B1 (E9 dm x.1+1);unfold B1;omega) ?_;have m1:HO.map Wp (EK (dm.map Lu) (kI x.1) (vi (E9 dm x.1+1)))=.map Wp ((K7 dm x.1 (E9 dm x.1+1)).map Lu):=by rw[Rt]
   refine Xi ⟨[(0,F),(5,.mref 15),(9,.ref 9 0),(17,sl Fb l),(18,vi (l.map Fb).length),(19,vi i),(24,sl Ao (canon l[i])),(25,vi ((canon l[i]).map Ao).length),(26,vi j)],[(9,.cells (Ao x)),(15,.map Wp ((K7 dm x.1 (E9 dm x.1+1)).map Lu))],Ab⟩ (Yi ⟨⟨⟨rfl,hid _⟩,Zr,Zr,Zr,Zr,Zr,Zr,Zr,Zr,Tv⟩,⟨Zr,⟨m1,rfl⟩,Tv⟩,Fh,Tv⟩ ?_)
   have b2:-(1073741825000001:Int)≤E9 (K7 dm x.1 (E9 dm x.1+1)) x.2∧E9 (K7 dm x.1 (E9 dm x.1+1)) x.2≤1073741825000001:=by
    have b3:=j2.bound x.2;rw[Pb];split<;>omega
   refine Ow (vi (E9 (K7 dm x.1 (E9 dm x.1+1)) x.2)) (vi 0) (Qe dp x.2) (Qf _ x.2) (fun q=>q) ?_;refine Yi (by show B1 (E9 (K7 dm x.1 (E9 dm x.1+1)) x.2-1);unfold B1;omega) ?_;have hcl:=HQ (Cn l[i]);refine Yi (Ii j (by omega)) ?_;have m2:HO.map Wp (EK ((K7 dm x.1 (E9 dm x.1+1)).map Lu) (kI x.2) (vi (E9 (K7 dm x.1 (E9 dm x.1+1)) x.2-1)))=.map Wp ((Yc dm x).map Lu):=by rw[Rt];rfl
   refine Xi ⟨(j+1,Yc dm x),by show j+1≤_;omega,j3⟩ ?_;exact⟨by show(canon l[i]).length-(j+1)<(canon l[i]).length-j;omega,⟨⟨rfl,hid _⟩,Zr,Zr,Zr,Zr,Zr,Zr,Zr,Tv⟩,⟨⟨m2,rfl⟩,Tv⟩,Fh,Tv⟩
  ·intro hj;have hj:¬(j:Int)<((canon l[i]).map Ao).length:=hj;have hj:¬j<(canon l[i]).length:=by simpa using hj
   refine Yi (Ii i (by omega)) ?_;have i3:Ib dm ((l.take (i+1)).map canon).flatten:=by
    have e1:(canon l[i]).take j=canon l[i]:=AT (by omega);rw[e1]at j2;have e2:((l.take (i+1)).map canon).flatten=((l.take i).map canon).flatten++canon l[i]:=by
     rw[Bs,hg,AH,CG];show _++(canon l[i]++[])=_;rw[BZ]
    rw[e2];exact j2
   refine Xi ⟨(i+1,dm),by show i+1≤_;omega,i3⟩ ?_;exact⟨Dl l.length i (by omega),⟨⟨rfl,hid _⟩,Zr,Zr,Zr,Zr,Tv⟩,Z1,Fh,Tv⟩
 ·intro h;have h:¬(i:Int)<(l.map Fb).length:=h;have h:¬i<l.length:=by simpa using h
  have i3:Ib cm (l.map canon).flatten:=by
   rw[AT (by omega)]at i2;exact i2
  have y9:=i3.few;have zm:(0:Int)≤0∧(0:Int)≤((cm.map Lu).length:Int)∧((cm.map Lu).length:Int)*((8:Nat):Int)≤140737488355328∧((cm.map Lu).length:Int)≤9223372036854775807:=by rw[Lm];omega
  refine Yi zm ?_;refine Xi {p:List (Value×AV)×List Int×Option (Value×AV) // ((p.2.1.map kI)++p.1.map (·.1)).Perm ((cm.map Lu).map (·.1))∧∀kv∈p.1,kv∈cm.map Lu} (Xi (fun p=>⟨[(0,F),(5,.mref 15),(10,.msl 44 p.1.2.1.length),(46,.ref 46 0)],[(15,.rom Wp (cm.map Lu)),(44,.arr 1 (p.1.2.1.map Gn)),(46,.iter (cm.map Lu) p.1.1 p.1.2.2)],Ab⟩) (Xi (fun p=>p.1.1.length) (Yi (Xi ⟨(cm.map Lu,[],none),.refl _,fun _ h=>h⟩ ?_) ?_)))
  ·exact⟨⟨⟨rfl,hid _⟩,Zr,Zr,Zr,Tv⟩,Z3,Fh,Tv⟩
  intro⟨⟨rem,bs,Fs⟩,r1,r2⟩;have r1:((bs.map kI)++rem.map (·.1)).Perm ((cm.map Lu).map (·.1)):=r1;have r2:∀kv∈rem,kv∈cm.map Lu:=r2;have hbl:bs.length≤1000001:=by
   have:=r1.length_eq
   simp only[Ad,Lm]at this;omega
  refine Yi ?_ ?_
  ·intro hr;have hr:rem=[]:=hr;subst hr;rw[EW,BZ,BN]at r1;have uk:bs.Perm (EU cm):=by
    have r1:(bs.map kI).Perm ((EU cm).map kI):=by unfold EU;rw[BN];exact r1
    have:=r1.map (fun v:Value=>match v with | .int _ n=>n | _=>0)
    rw[BN,BN]at this;have e:((fun v:Value=>match v with | .int _ n=>n | _=>0) ∘ kI)=id:=rfl;rw[e,Jw,Jw]at this;exact this
   have Dz:bs≠[]:=fun e=>by
    subst e
    have:=uk.length_eq
    have h0:=i3.keys.1;rw[AB this.symm]at h0;cases h0
   refine Xi (.gen [(44,1000)] 0) (Yi rfl ((sO bs (by unfold Cp;omega) Dz).to ?_));intro B px;have js:B.length=bs.length:=px.1.length_eq;have yx:B.Nodup:=(px.1.trans uk).nodup_iff.2 i3.nd;have hB:iM B cm:=⟨px.1.trans uk,by
    rw[Bh];intro a b ha hb kY;have h1:=(Bh.1 px.2) a b ha hb kY;have h2:B[a]≠B[b]:=(Bh.1 yx) a b ha hb kY;omega⟩
   have wE:0<B.length:=by
    rw[js];exact MR.2 Dz
   have tu:bs.length=(B.map Gn).length:=by rw[Lm,js]
   refine Yi (by show B1 ((bs.length:Int)-1);unfold B1;omega) ?_;refine Xi {k:Nat // k≤B.length-1} (Xi (fun k=>⟨[(0,F),(5,.mref 15),(10,.msl 44 bs.length),(12,.slice (.id 12 2) ((Eo keep cm B k.1).map Ao)),(13,vi (Iq cm (B.take k.1))),(59,vi ((bs.length:Int)-1)),(60,vi k.1)],[(12,.tok 2 ((Eo keep cm B k.1).map Ao).length),(15,.rom Wp (cm.map Lu)),(44,.arr 1 (B.map Gn))],Ab⟩) (Xi (fun k=>B.length-k.1) (Yi (Xi ⟨0,AN _⟩ ?_) ?_)))
   ·exact⟨⟨⟨rfl,hid _⟩,Zr,Zr,Zr,Zr,Zr,Zr,Tv⟩,Z3,Fh,Tv⟩
   intro⟨k,k1⟩;have oh:=UU keep cm B k;refine Yi ?_ ?_
   ·intro hk;have hk:(k:Int)<(bs.length:Int)-1:=hk;have Im:k+1<B.length:=by omega
    have UP:k<B.length:=by omega
    have kZ:(B.map Gn)[k]?=some (Gn B[k]):=Cf (Ge UP);have tD:(B.map Gn)[k+1]?=some (Gn B[k+1]):=Cf (Ge Im);have OA:=Qc cm B k UP;have qn:=ib i3 hB k UP;have SB:Eo keep cm B (k+1)=Eo keep cm B k++(if keep (Iq cm (B.take (k+1))).toNat then [(B[k],B[k+1])]else []):=by
     show _++(match B[k]?,B[k+1]? with | some a,some b=>if keep (Iq cm (B.take (k+1))).toNat then [(a,b)]else [] | _,_=>[])=_;rw[Ge UP,Ge Im]
    refine Xi ⟨[(0,F),(5,.mref 15),(10,.msl 44 bs.length),(12,.slice (.id 12 2) ((Eo keep cm B k).map Ao)),(13,vi (Iq cm (B.take k))),(14,vi k),(59,vi ((bs.length:Int)-1)),(60,vi k)],[(12,.tok 2 ((Eo keep cm B k).map Ao).length),(15,.rom Wp (cm.map Lu)),(44,.arr 1 (B.map Gn))],Ab⟩ (Yi ⟨⟨⟨rfl,hid _⟩,Zr,Zr,Zr,Zr,Zr,Zr,Zr,Tv⟩,Z3,Fh,Tv⟩ ?_)
    refine Yi ⟨by show(0:Int)≤k;omega,by show(k:Int)<bs.length;omega⟩ ?_;refine Yi tu (Xi (Gn B[k]) (Yi kZ ?_));refine Ow (vi (E9 cm B[k])) (vi 0) (Qe i3.nd B[k]) (Qf cm B[k]) (fun q=>q) ?_;refine Yi (by show B1 (Iq cm (B.take k)+E9 cm B[k]);rw[←OA];unfold B1;omega) ?_;have DA:∀h,Pl Tryz.prog (str h F) [vi (Iq cm (B.take k)+E9 cm B[k])] (vb (keep (Iq cm (B.take (k+1))).toNat)):=fun h=>by
     rw[←OA];exact hF h _ qn.1 qn.2
    refine BV (Bt (keep (Iq cm (B.take (k+1))).toNat)) (fun hp=>?_) (fun hp=>?_)
    ·rw[hp]at DA;rw[hp,Aw rfl]at SB;refine Xi .pure (Xi (vb true) (Yi (DA _) ?_));refine Xi ⟨[(0,F),(5,.mref 15),(10,.msl 44 bs.length),(12,.slice (.id 12 2) ((Eo keep cm B k).map Ao)),(13,vi (Iq cm (B.take k)+E9 cm B[k])),(14,vi k),(59,vi ((bs.length:Int)-1)),(60,vi k)],[(12,.tok 2 ((Eo keep cm B k).map Ao).length),(15,.rom Wp (cm.map Lu)),(44,.arr 1 (B.map Gn))],Ab⟩ (Yi ⟨⟨⟨rfl,hid _⟩,Zr,Zr,Zr,Zr,Zr,Zr,Zr,Tv⟩,Z3,Fh,Tv⟩ ?_)
     have b1:(0:Int)≤(k:Int)+1∧(k:Int)+1<bs.length:=by omega
     have tE:(B.map Gn)[((k:Int)+1).toNat]?=some (Gn B[k+1]):=by rw[show((k:Int)+1).toNat=k+1 by omega];exact tD
     refine Yi ⟨by show(0:Int)≤k;omega,by show(k:Int)<bs.length;omega⟩ ?_;refine Yi tu (Xi (Gn B[k]) (Yi kZ ?_));refine Yi (Ii k (by omega)) ?_;refine Yi b1 ?_;refine Yi tu (Xi (Gn B[k+1]) (Yi tE ?_));have Gl:Do 2 [[vi B[k],vi B[k+1]]]∧((Eo keep cm B k).map Ao).length=((Eo keep cm B k).map Ao).length∧(((Eo keep cm B k).map Ao).length+[[vi B[k],vi B[k+1]]].length)*16≤140737488355328∧((Eo keep cm B k).map Ao).length+[[vi B[k],vi B[k+1]]].length≤9223372036854775807 :=
      ⟨⟨rfl,trivial⟩,rfl,by rw[Lm,AD];omega,by rw[Lm,AD];omega⟩
     refine Yi Gl ?_;refine Yi (by kernel_rfl) ?_;refine Xi ⟨[(0,F),(5,.mref 15),(10,.msl 44 bs.length),(12,.slice (.id 12 2) ((Eo keep cm B k).map Ao++[[vi B[k],vi B[k+1]]])),(13,vi (Iq cm (B.take k)+E9 cm B[k])),(59,vi ((bs.length:Int)-1)),(60,vi k)],[(12,.tok 2 (((Eo keep cm B k).map Ao).length+[[vi B[k],vi B[k+1]]].length)),(15,.rom Wp (cm.map Lu)),(44,.arr 1 (B.map Gn))],Ab⟩ (Yi ⟨⟨⟨rfl,hid _⟩,Zr,Zr,Zr,Zr,Zr,Zr,Tv⟩,Z3,Fh,Tv⟩ ?_)
     refine Yi (Ii k (by omega)) ?_;refine Xi ⟨k+1,by omega⟩ ?_;have e1:AV.slice (.id 12 2) ((Eo keep cm B k).map Ao++[[vi B[k],vi B[k+1]]])=.slice (.id 12 2) ((Eo keep cm B (k+1)).map Ao):=by rw[SB,AH];rfl
     have e2:vi (Iq cm (B.take k)+E9 cm B[k])=vi (Iq cm (B.take (k+1))):=by rw[OA]
     have e3:HO.tok 2 (((Eo keep cm B k).map Ao).length+[[vi B[k],vi B[k+1]]].length)=.tok 2 ((Eo keep cm B (k+1)).map Ao).length:=by rw[SB,AH,Ad];rfl
     exact⟨Dl B.length k (by omega),⟨⟨rfl,hid _⟩,Zr,Zr,⟨e1,rfl⟩,⟨e2,rfl⟩,Zr,Zr,Tv⟩,⟨⟨e3,rfl⟩,Zr,Zr,Tv⟩,Fh,Tv⟩
    ·rw[hp]at DA;have SB:Eo keep cm B (k+1)=Eo keep cm B k:=by rw[SB,hp,Ak Bool.false_ne_true,BZ]
     refine Xi .pure (Xi (vb false) (Yi (DA _) ?_));refine Xi ⟨[(0,F),(5,.mref 15),(10,.msl 44 bs.length),(12,.slice (.id 12 2) ((Eo keep cm B k).map Ao)),(13,vi (Iq cm (B.take k)+E9 cm B[k])),(59,vi ((bs.length:Int)-1)),(60,vi k)],[(12,.tok 2 ((Eo keep cm B k).map Ao).length),(15,.rom Wp (cm.map Lu)),(44,.arr 1 (B.map Gn))],Ab⟩ (Yi ⟨⟨⟨rfl,hid _⟩,Zr,Zr,Zr,Zr,Zr,Zr,Tv⟩,Z3,Fh,Tv⟩ ?_)
     refine Yi (Ii k (by omega)) ?_;refine Xi ⟨k+1,by omega⟩ ?_;have e1:AV.slice (.id 12 2) ((Eo keep cm B k).map Ao)=.slice (.id 12 2) ((Eo keep cm B (k+1)).map Ao):=by rw[SB]
     have e2:vi (Iq cm (B.take k)+E9 cm B[k])=vi (Iq cm (B.take (k+1))):=by rw[OA]
     have e3:HO.tok 2 ((Eo keep cm B k).map Ao).length=.tok 2 ((Eo keep cm B (k+1)).map Ao).length:=by rw[SB]
     exact⟨Dl B.length k (by omega),⟨⟨rfl,hid _⟩,Zr,Zr,⟨e1,rfl⟩,⟨e2,rfl⟩,Zr,Zr,Tv⟩,⟨⟨e3,rfl⟩,Zr,Zr,Tv⟩,Fh,Tv⟩
   ·intro hk;have hk:¬(k:Int)<(bs.length:Int)-1:=hk;have Im:k=B.length-1:=by omega
    have tK:canon (Eo keep cm B k)=R:=by
     refine(RS hR fun p=>?_).symm;rw[Im,yJ,fM i3 hB]
    have hc:=WR (Eo keep cm B k) (by unfold Cp;omega);rw[tK]at hc;refine Xi .pure (Xi _ (Yi hc ?_));exact .refl _
  ·intro kv NM hp;refine Dn (Am.1 (r2 kv (hp.mem_iff.2 (Aa ..)))) (fun q hq=>?_);have zA:=hq.2;subst zA;refine Xi ⟨[(0,F),(5,.mref 15),(10,.msl 44 bs.length),(46,.ref 46 0)],[(15,.rom Wp (cm.map Lu)),(44,.arr 1 (bs.map Gn)),(46,.iter (cm.map Lu) NM (some (Lu q)))],Ab⟩ (Yi ⟨⟨⟨rfl,hid _⟩,Zr,Zr,Zr,Tv⟩,Z3,Fh,Tv⟩ ?_)
   have Gl:Do 1 [Gn q.1]∧(bs.map Gn).length=bs.length∧((bs.map Gn).length+[Gn q.1].length)*8≤140737488355328∧(bs.map Gn).length+[Gn q.1].length≤9223372036854775807 :=
    ⟨⟨rfl,trivial⟩,by rw[Lm],by rw[Lm,AD];omega,by rw[Lm,AD];omega⟩
   refine Yi Gl ?_;have e1:AV.msl 44 ((bs.map Gn).length+[Gn q.1].length)=.msl 44 (bs++[q.1]).length:=by simp
   have e2:HO.arr 1 (bs.map Gn++[Gn q.1])=.arr 1 ((bs++[q.1]).map Gn):=by simp
   refine Xi ⟨(NM,bs++[q.1],some (Lu q)),?_,fun kv Ph=>r2 kv (hp.mem_iff.2 (Af _ Ph))⟩ ?_
   ·show(((bs++[q.1]).map kI)++NM.map (·.1)).Perm _;have h1:=hp.map (fun x:Value×AV=>x.1);rw[AP]at h1;rw[AH,AO];exact(List.Perm.append_left _ h1.symm).trans r1
   ·exact⟨by show NM.length<rem.length;rw[hp.length_eq];simp,⟨⟨rfl,hid _⟩,Zr,⟨e1,rfl⟩,Zr,Tv⟩,⟨Zr,⟨e2,rfl⟩,Zr,Tv⟩,Fh,Tv⟩
theorem sK(n:Int)(l:List Bl):PC 269 [vi n,.cptr [sl Fb l]] (vb (decide (n=l.length))):=by
 refine Ps Gc Tryz.func269 rfl (Nz rfl) ?_;have e:((l.map Fb).length:Int)=l.length:=by rw[Lm]
 refine Yi ?_ ?_
 ·intro h;have h:n=((l.map Fb).length:Int):=h;rw[show decide (n=(l.length:Int))=true from AA (h.trans e)];exact .refl _
 ·intro h;have h:¬n=((l.map Fb).length:Int):=h;rw[show decide (n=(l.length:Int))=false from Ap (fun c=>h (c.trans e.symm))];exact .refl _
theorem sM(n:Int):PC 227 [vi n] (vb (decide (n=0))):=by
 refine Ps Gc Tryz.func227 rfl (Nz rfl) ?_;refine Yi ?_ ?_
 ·intro h;have h:n=0:=h;rw[AA h];exact .refl _
 ·intro h;have h:¬n=0:=h;rw[Ap h];exact .refl _
theorem te(n:Int):PC 258 [vi n] (vb (decide (0<n))):=by
 refine Ps Gc Tryz.func258 rfl (Nz rfl) ?_;refine Yi ?_ ?_
 ·intro h;have h:0<n:=h;rw[AA h];exact .refl _
 ·intro h;have h:¬0<n:=h;rw[Ap h];exact .refl _
theorem fK(l:List Bl)(p:Int):decide (dh l p=l.length)=l.all fun s=>has s p:=by
 unfold dh;rw[BT,Az,List.countP_eq_length,Bp]
theorem fL(l:List Bl)(p:Int):decide (0<dh l p)=l.any fun s=>has s p:=by
 unfold dh;rw[BT,Az,List.countP_pos_iff,Ba]
theorem sA(l:List Bl)(hl:Cp l)(hs:∀s∈l,Cp s):PC 256 [sl Fb l] (sl Ao (PF l)):=by
 have hc:=me (.clo 269 [.cptr [sl Fb l]]) (fun n=>decide (n=l.length)) l hl hs (fun _=>rfl) (fun h n h0 _=>by
  have:=sK n l
  have e:decide (n=(l.length:Int))=decide (n.toNat=l.length):=by rw[decide_eq_decide];omega
  rw[e]at this;exact this) (PF l) (Wa l) fun p=>by rw[Sw,fK]
 refine Ps (iI [1]) Tryz.func256 rfl (Nz rfl) ?_;refine Xi .pure (Xi _ (Yi (hc) ?_));exact .refl _
theorem l7(s:Bl)(hs:Cp s):PC 202 [sl Ao s] (sl Ao (Ed s)):=by
 have hc:=me (.v (TY 227)) (fun n=>decide (n=0)) [s] (by unfold Cp;simp) (fun t ht=>by rw[Al.1 ht];exact hs) (fun _=>rfl) (fun h n h0 _=>by
  have:=sM n
  have e:decide (n=0)=decide (n.toNat=0):=by rw[decide_eq_decide];omega
  rw[e]at this;exact this) (Ed s) (GZ s) fun p=>by
   rw[Fx]
   have:dh [s] p=if has s p then 1 else 0:=by unfold dh;rw[Iu];simp
   rw[this];cases has s p<;>rfl
 refine Ps Gc Tryz.func202 rfl (Nz rfl) ?_;refine Xi .pure (Xi _ (Yi (hc) ?_));exact .refl _
theorem tb(l:List Bl)(hl:Cp l)(hs:∀s∈l,Cp s):PC 237 [sl Fb l] (sl Ao (Qd l)):=by
 have hc:=me (.v (TY 258)) (fun n=>decide (0<n)) l hl hs (fun _=>rfl) (fun h n h0 _=>by
  have:=te n
  have e:decide (0<n)=decide (0<n.toNat):=by rw[decide_eq_decide];omega
  rw[e]at this;exact this) (Qd l) (Ws l) fun p=>by
   rw[Sx,fL];cases h:l.any fun s=>has s p with
   |false=>simp
   |true =>
    obtain⟨s,_,h2⟩:=Ba.1 h
    have:=LQ h2
    simp[Lt,this]
 refine Ps Gc Tryz.func237 rfl (Nz rfl) ?_;refine Xi .pure (Xi _ (Yi (hc) ?_));exact .refl _
-- terms
theorem ym(t:Tm)(ht:Cp t.set):PC 233 [.agg (AF t)] (vb (!t.absent&&(canon t.set).isEmpty)):=by
 refine Ps Gc Tryz.func233 rfl (Nz rfl) ?_;refine Yi ?_ ?_
 ·intro h;have h:t.absent=true:=h;rw[h];exact .refl _
 ·intro h;have h:t.absent=false:=h;refine Xi .pure (Xi _ (Yi (WR t.set ht) ?_));refine Yi ?_ ?_
  ·intro h2;have h2:(((canon t.set).map Ao).length:Int)=0:=h2;have h2:canon t.set=[]:=AB (by rw[Lm]at h2;omega);rw[h,h2];exact .refl _
  ·intro h2;have h2:¬(((canon t.set).map Ao).length:Int)=0:=h2;have h2:(canon t.set).isEmpty=false:=by
    cases hc:canon t.set with
    |nil=>rw[hc]at h2;exact absurd rfl h2
    |cons _ _=>rfl
   rw[h,h2];exact .refl _
theorem yn(t:Tm)(ht:Cp t.set):PC 234 [.agg (AF t)] (vb (t.absent&&(Ed t.set).isEmpty)):=by
 refine Ps Gc Tryz.func234 rfl (Nz rfl) ?_;refine Yi ?_ ?_
 ·intro h;have h:t.absent=true:=h;refine Xi .pure (Xi _ (Yi (l7 t.set ht) ?_));refine Yi ?_ ?_
  ·intro h2;have h2:(((Ed t.set).map Ao).length:Int)=0:=h2;have h2:Ed t.set=[]:=AB (by rw[Lm]at h2;omega);rw[h,h2];exact .refl _
  ·intro h2;have h2:¬(((Ed t.set).map Ao).length:Int)=0:=h2;have h2:(Ed t.set).isEmpty=false:=by
    cases hc:Ed t.set with
    |nil=>rw[hc]at h2;exact absurd rfl h2
    |cons _ _=>rfl
   rw[h,h2];exact .refl _
 ·intro h;have h:t.absent=false:=h;rw[h];exact .refl _
abbrev Kz(l:List Nat):TK:=⟨[],[],[],[],[],[],[],[],[],[],l⟩
theorem ws(u t:Tm)(hu:Cp u.set)(ht:Cp t.set):PC 232 [.agg (AF u),.agg (AF t)] (.agg (AF (GH u t))):=by
 have hc:PC 256 [sl Fb [u.set,t.set]] (sl Ao (OE u.set t.set)):=sA [u.set,t.set] (by unfold Cp;simp) (fun s hs=>by
  rcases Au.1 hs with rfl | hs
  ·exact hu
  ·rw[Al.1 hs];exact ht)
 refine Ps (Kz [1]) Tryz.func232 rfl (Nz rfl) ?_;refine Xi ⟨[(2,.ref 2 0),(3,.ref 3 0),(4,.ref 4 0)],[(2,.cells (AF u)),(3,.cells (AF t)),(4,.cells [vs ⟨#[]⟩,vb false,.v (.slice none 0 0)])],Ab⟩ (Yi ⟨Z3,Z3,Fh,Tv⟩ ?_)
 refine Yi ?_ ?_
 ·intro h;have h:u.absent=true:=h;refine Yi ?_ ?_
  ·intro h2;have h2:t.absent=true:=h2;have e:[vs u.path,vb true,sl Ao (OE u.set t.set)]=AF (GH u t):=by unfold GH;rw[h,h2];rfl
   refine Xi _ (Yi (hc) ?_);refine Yi (Nz rfl) (Yi (by kernel_rfl) (Yi (Nz rfl) ?_));exact .of_eq (Ac AV.agg e)
  ·intro h2;have h2:t.absent=false:=h2;have e:[vs u.path,vb false,sl Ao (OE u.set t.set)]=AF (GH u t):=by unfold GH;rw[h,h2];rfl
   refine Xi _ (Yi (hc) ?_);refine Yi (Nz rfl) (Yi (by kernel_rfl) (Yi (Nz rfl) ?_));exact .of_eq (Ac AV.agg e)
 ·intro h;have h:u.absent=false:=h;have e:[vs u.path,vb false,sl Ao (OE u.set t.set)]=AF (GH u t):=by unfold GH;rw[h];rfl
  refine Xi _ (Yi (hc) ?_);refine Yi (Nz rfl) (Yi (by kernel_rfl) (Yi (Nz rfl) ?_));exact .of_eq (Ac AV.agg e)
theorem s5(u t:Tm)(hu:Cp u.set)(ht:Cp t.set):PC 205 [.agg (AF u),.agg (AF t)] (.agg (AF (Dg u t))):=by
 have hc:PC 237 [sl Fb [u.set,t.set]] (sl Ao (Pa u.set t.set)):=tb [u.set,t.set] (by unfold Cp;simp) (fun s hs=>by
  rcases Au.1 hs with rfl | hs
  ·exact hu
  ·rw[Al.1 hs];exact ht)
 refine Ps (Kz [1]) Tryz.func205 rfl (Nz rfl) ?_;refine Xi ⟨[(2,.ref 2 0),(3,.ref 3 0),(4,.ref 4 0)],[(2,.cells (AF u)),(3,.cells (AF t)),(4,.cells [vs ⟨#[]⟩,vb false,.v (.slice none 0 0)])],Ab⟩ (Yi ⟨Z3,Z3,Fh,Tv⟩ ?_)
 refine Yi ?_ ?_
 ·intro h;have h:u.absent=true:=h;have e:[vs u.path,vb true,sl Ao (Pa u.set t.set)]=AF (Dg u t):=by unfold Dg;rw[h];rfl
  refine Xi _ (Yi (hc) ?_);refine Yi (Nz rfl) (Yi (by kernel_rfl) (Yi (Nz rfl) ?_));exact .of_eq (Ac AV.agg e)
 ·intro h;have h:u.absent=false:=h;refine Yi ?_ ?_
  ·intro h2;have h2:t.absent=true:=h2;have e:[vs u.path,vb true,sl Ao (Pa u.set t.set)]=AF (Dg u t):=by unfold Dg;rw[h,h2];rfl
   refine Xi _ (Yi (hc) ?_);refine Yi (Nz rfl) (Yi (by kernel_rfl) (Yi (Nz rfl) ?_));exact .of_eq (Ac AV.agg e)
  ·intro h2;have h2:t.absent=false:=h2;have e:[vs u.path,vb false,sl Ao (Pa u.set t.set)]=AF (Dg u t):=by unfold Dg;rw[h,h2];rfl
   refine Xi _ (Yi (hc) ?_);refine Yi (Nz rfl) (Yi (by kernel_rfl) (Yi (Nz rfl) ?_));exact .of_eq (Ac AV.agg e)
theorem o8(q:Rq)(hq:Cp q.set):PC 197 [.agg (AM q)] (.agg (AF (DD q))):=by
 refine Ps Gc Tryz.func197 rfl (Nz rfl) ?_;refine Xi _ (Yi (l7 q.set hq) ?_);refine Yi (Nz rfl) (Yi (by kernel_rfl) (Yi (Nz rfl) ?_));exact .refl _
abbrev C3:EA:=⟨false,[.str]⟩
abbrev Mw(t:Tm):Value×AV:=(.string t.path,.agg (AF t))
abbrev qO(fin cut:List Nat):TK:=⟨[],[],[],[],fin,[],[],[],[],[],cut⟩
theorem Rr{m:List Tm}{p:ByteArray}{a:AV}:(Value.string p,a)∈m.map Mw↔∃t∈m,t.path=p∧a=.agg (AF t):=by
 rw[Am];constructor
 ·rintro⟨t,h1,h2⟩
  simp only[FD,Value.string.injEq]at h2;exact⟨t,h1,h2.1,h2.2.symm⟩
 ·rintro⟨t,h1,rfl,rfl⟩
  exact⟨t,h1,rfl⟩
theorem fW(m:List Tm)(t:Tm):EK (m.map Mw) (.string t.path) (.agg (AF t))=(Wj m t).map Mw:=by
 unfold Wj
 by_cases h:(m.any fun u=>decide (u.path=t.path))=true
 ·rw[Aw h];obtain⟨u,h1,h2⟩:=Ba.1 h;have h2:=BJ h2
  have:(Value.string t.path,AV.agg (AF u))∈m.map Mw:=Rr.2 ⟨u,h1,h2,rfl⟩
  rw[PK this,BN,BN];apply Be;intro q _;simp only[Function.comp]
  by_cases e:q.path=t.path
  ·simp[e]
  ·have:¬Value.string q.path=.string t.path:=fun c=>e (by injection c)
   simp[e]
 ·rw[Ak h]
  have:∀b,(Value.string t.path,b)∉m.map Mw:=fun b hb=>by
   obtain⟨u,h1,h2,_⟩:=Rr.1 hb;exact h (Ba.2 ⟨u,h1,by simp[h2]⟩)
  rw[Kr this,AH];rfl
theorem eF{m:List Tm}(hn:(Ep m).Nodup)(p:ByteArray){K:AV→Prop}{Z:Prop}(hy:∀u,Di m p=some u→K (.agg (AF u)))(Ra:Di m p=none→Z) :
  (∀a,(Value.string p,a)∈m.map Mw→K a)∧((∀a,(Value.string p,a)∉m.map Mw)→Z) :=
 ⟨fun a h=>by
  obtain⟨t,h1,h2,rfl⟩:=Rr.1 h;subst h2;exact hy t ((LK hn).1 h1),fun h=>Ra (by
  cases e:Di m p with
  |none=>rfl
  |some u=>exact absurd (Rr.2 ⟨u,E0 e,GR e,rfl⟩) (h _))⟩
theorem Oj{t:Tm}(h:Ew t.set):Cp t.set:=by
 unfold Cp
 have:=HQ h;omega
theorem yk(l:List Tm)(hl:Cp l)(hs:∀t∈l,Cp t.set):PC 231 [sl AF l,.v (TY 232)] (.cmap C3 ((CW l).map Mw)):=by
 have hl:l.length≤1073741824:=hl;refine Ps (qO [10] [5,8]) Tryz.func231 rfl (Nz rfl) ?_;refine Xi {i:Nat // i≤l.length} (Xi (fun i=>⟨[(0,sl AF l),(1,.v (TY 232)),(5,.mref 10),(11,sl AF l),(12,vi (l.map AF).length),(13,vi i.1)],[(10,.map C3 ((CW (l.take i.1)).map Mw))],Ab⟩) (Xi (fun i=>l.length-i.1) (Yi (Xi ⟨0,AN _⟩ ?_) ?_)))
 ·exact⟨Z6,Z1,Fh,Tv⟩
 intro⟨i,h1⟩;have hn:=Hu (l.take i);refine Yi ?_ ?_
 ·intro h;have h:(i:Int)<(l.map AF).length:=h;have h:i<l.length:=by simpa using h
  have hg:l[i]?=some l[i]:=Ge h;refine Xi (AF l[i]) (Yi (Yi (Nn i) (by simp[hg])) (Yi rfl ?_));refine Yi (Nz rfl) (Yi (Nz rfl) ?_);have E6:=hs l[i] (Aq h);refine Xi ⟨[(0,sl AF l),(1,.v (TY 232)),(5,.mref 10),(7,.ref 7 0),(11,sl AF l),(12,vi (l.map AF).length),(13,vi i)],[(7,.cells (AF l[i])),(10,.map C3 ((CW (l.take i)).map Mw))],Ab⟩ (Yi ⟨Z7,Z2,Fh,Tv⟩ ?_)
  have tail:∀u:Tm,Cp u.set→GH u l[i]=NL (Di (CW (l.take i)) l[i].path) l[i]→EK ((CW (l.take i)).map Mw) (.string l[i].path) (.agg (AF (GH u l[i])))=(CW (l.take (i+1))).map Mw:=fun u hu e=>by
   have hp:(NL (Di (CW (l.take i)) l[i].path) l[i]).path=l[i].path:=PP _ _ fun u h=>GR h;have e2:=fW (CW (l.take i)) (GH u l[i]);have e3:(GH u l[i]).path=l[i].path:=by rw[e];exact hp
   rw[e3]at e2;rw[e2,QJ l i h,e];rfl
  refine eF hn l[i].path (fun u hu=>?_) (fun hu=>?_)
  ·have KR:Cp u.set:=Oj (OI _ u (E0 hu));refine Yi (Nz rfl) ?_;refine Xi ⟨[(0,sl AF l),(1,.v (TY 232)),(5,.mref 10),(7,.ref 7 0),(8,.ref 8 0),(11,sl AF l),(12,vi (l.map AF).length),(13,vi i)],[(7,.cells (AF l[i])),(8,.cells (AF u)),(10,.map C3 ((CW (l.take i)).map Mw))],Ab⟩ (Yi ⟨Z8,Z3,Fh,Tv⟩ ?_)
   have AU:=tail u KR (by rw[aE,hu];rfl);refine Yi (Nz rfl) (Yi (Nz rfl) ?_);refine Xi _ (Yi (ws u l[i] KR E6) ?_);refine Yi (by kernel_rfl) ?_;refine Yi (Ii i (by omega)) ?_;refine Xi ⟨i+1,by omega⟩ ?_;have e1:HO.map C3 (EK ((CW (l.take i)).map Mw) (.string l[i].path) (.agg (AF (GH u l[i]))))=.map C3 ((CW (l.take (i+1))).map Mw):=by rw[AU]
   exact⟨Dl l.length i (by omega),Z6,⟨⟨e1,rfl⟩,Tv⟩,Fh,Tv⟩
  ·refine Yi (Nz rfl) ?_;refine Yi (Nz rfl) (Yi (Nz rfl) ?_);refine Xi ⟨[(0,sl AF l),(1,.v (TY 232)),(5,.mref 10),(7,.ref 7 0),(8,.ref 8 0),(11,sl AF l),(12,vi (l.map AF).length),(13,vi i)],[(7,.cells (AF l[i])),(8,.cells (AF l[i])),(10,.map C3 ((CW (l.take i)).map Mw))],Ab⟩ (Yi ⟨Z8,Z3,Fh,Tv⟩ ?_)
   have AU:=tail l[i] E6 (by rw[aE,hu];rfl);refine Yi (Nz rfl) (Yi (Nz rfl) ?_);refine Xi _ (Yi (ws l[i] l[i] E6 E6) ?_);refine Yi (by kernel_rfl) ?_;refine Yi (Ii i (by omega)) ?_;refine Xi ⟨i+1,by omega⟩ ?_;have e1:HO.map C3 (EK ((CW (l.take i)).map Mw) (.string l[i].path) (.agg (AF (GH l[i] l[i]))))=.map C3 ((CW (l.take (i+1))).map Mw):=by rw[AU]
   exact⟨Dl l.length i (by omega),Z6,⟨⟨e1,rfl⟩,Tv⟩,Fh,Tv⟩
 ·intro h;have h:¬(i:Int)<(l.map AF).length:=h;have h:¬i<l.length:=by simpa using h
  have e:(CW (l.take i)).map Mw=(CW l).map Mw:=by rw[AT (by omega)]
  exact .of_eq (Ac (AV.cmap C3) e)
abbrev Gx(l:List Tm):AV:=.tup [sl AF (PM l),vb (CN l).isSome]
abbrev u6:TK:=⟨[],[],[(4,3)],[],[],[],[],[],[],[(25,4)],[4,7,10]⟩
abbrev RK(l:List Tm):HO:=.arr 3 (l.map AF)
abbrev E7(l:List Tm):List Tm:=l.filter fun t=>!Gk t
theorem jZ{l:List Tm}{kv:Value×AV}{NM : List (Value×AV)}(h:(l.map Mw).Perm (kv::NM)):∃t r,kv=Mw t∧NM=r.map Mw∧l.Perm (t::r):=by
 obtain⟨ps,h1,h2⟩:=L7 h l rfl;cases ps with
 |nil=>cases h2
 |cons t r =>
  rw[AP,Fk]at h2;exact⟨t,r,h2.1.symm,h2.2.symm,h1.symm⟩
theorem WS{l:List Tm}{t:Tm}(h:t∈CW l)(hn:Hw t=true):CN l=none:=by
 unfold CN;rw[Aw (Ba.2 ⟨t,(IY l t).1 h,hn⟩)]
theorem YC{l done s:List Tm}(h:done.Perm (CW l))(hn:∀t∈done,Hw t=false)(hp:s.Perm (E7 done))(hs:s.Pairwise fun x y=>Fa y.path x.path=false):CN l=some s:=by
 unfold CN;rw[Ak]
 ·congr 1
  exact(Pu _ (hp.trans (h.filter _)) hs).symm
 ·intro c;obtain⟨t,h1,h2⟩:=Ba.1 c
  have:=hn t (h.mem_iff.2 ((IY l t).2 h1))
  rw[h2]at this;cases this
theorem bY(l:List Tm):(E7 l).length≤l.length:=BD _ _
theorem rt(l:List Tm)(hl:Cp l)(hs:∀t∈l,Cp t.set):PC 204 [sl AF l] (Gx l):=by
 have bO:l.length≤1073741824:=hl;have xd:(CW l).length≤l.length:=by have:=NF l l.length (Aj _);rwa [Du]at this
 refine Ps u6 Tryz.func204 rfl (Nz rfl) ?_;refine Xi .pure (Xi _ (Yi (yk l hl hs) ?_));refine Xi {p:List Tm×List Tm×Option (Value×AV) // (p.1++p.2.1).Perm (CW l)∧∀t∈p.1,Hw t=false} (Xi (fun p=>⟨[(4,.msl 4 (E7 p.1.1).length),(9,.ref 9 0)],[(4,RK (E7 p.1.1)),(9,.iter ((CW l).map Mw) (p.1.2.1.map Mw) p.1.2.2)],Ab⟩) (Xi (fun p=>p.1.2.1.length) (Yi (Xi ⟨([],CW l,none),.refl _,fun t ht=>by cases ht⟩ ?_) ?_)))
 ·exact⟨Z2,Z2,Fh,Tv⟩
 intro⟨⟨done,rem,Fs⟩,r1,r2⟩;have r1:(done++rem).Perm (CW l):=r1;have r2:∀t∈done,Hw t=false:=r2;have hdl:done.length+rem.length≤l.length:=by have:=r1.length_eq;rw[Ad]at this;omega
 have oh:=bY done;refine Yi ?_ ?_
 ·intro hr;have hr:rem.map Mw=[]:=hr;have hr:rem=[]:=Dq.1 hr;subst hr;rw[BZ]at r1;refine Xi (.gen [(4,1000)] 0) (Yi rfl ((yo (E7 done) (by unfold Cp;omega)).to ?_));intro s hq;have WB:s.length=(E7 done).length:=hq.1.length_eq;have hc:=YC r1 r2 hq.1 hq.2;refine Xi ⟨[(4,.msl 4 (E7 done).length)],[(4,RK s)],Ab⟩ (Yi ⟨Z1,Z1,Fh,Tv⟩ ?_)
  refine Yi (by rw[Lm,WB]) ?_;have e:AV.tup [sl AF s,vb true]=Gx l:=by unfold Gx PM;rw[hc];rfl
  exact .of_eq e
 ·intro kv NM hp;refine Dn (jZ hp) (fun t hp=>Dn hp (fun r hp=>?_));have e1:=hp.1;have e2:=hp.2.1;subst e1;subst e2;have hp:=hp.2.2;have rV:t∈CW l:=r1.mem_iff.1 (Bj _ (hp.mem_iff.2 (Aa ..)));have uw:=OI l t rV;have xo:=Oj uw;refine Xi ⟨[(4,.msl 4 (E7 done).length),(9,.ref 9 0)],[(4,RK (E7 done)),(9,.iter ((CW l).map Mw) (r.map Mw) (some (Mw t)))],Ab⟩ (Yi ⟨Z2,Z2,Fh,Tv⟩ ?_)
  refine Yi (Nz rfl) (Yi (Nz rfl) ?_);have hv:PC 233 [.agg (AF t)] (vb (Hw t)):=fZ uw▸ym t xo;have ha:PC 234 [.agg (AF t)] (vb (Gk t)):=bc uw▸yn t xo;refine BV (Bt (Hw t)) (fun h=>?_) (fun h=>?_)
  ·rw[h]at hv;refine Xi .pure (Xi _ (Yi (hv) ?_));have hc:=WS rV h;have e:AV.tup [.slice .none [],vb false]=Gx l:=by unfold Gx PM;rw[hc];rfl
   have e0:Ha (.tup [.v (.slice none 0 0),vb false]) (.tup [.slice .none [],vb false]):=Ha.tup ⟨.nil,.refl _,trivial⟩;exact e0.trans (.of_eq e)
  ·rw[h]at hv;refine Xi .pure (Xi _ (Yi (hv) ?_));refine Xi ⟨[(4,.msl 4 (E7 done).length),(6,.ref 6 0),(9,.ref 9 0)],[(4,RK (E7 done)),(6,.cells (AF t)),(9,.iter ((CW l).map Mw) (r.map Mw) (some (Mw t)))],Ab⟩ (Yi ⟨Z3,Z3,Fh,Tv⟩ ?_)
   refine Yi (Nz rfl) ?_;have TM:((done++[t])++r).Perm (CW l):=by
    rw[AO];exact(List.Perm.append_left _ hp.symm).trans r1
   have xe:∀u∈done++[t],Hw u=false:=fun u hu=>by
    rcases A6.1 hu with hu | hu
    ·exact r2 u hu
    ·rw[Al.1 hu];exact h
   have Wz:r.length<rem.length:=by rw[hp.length_eq,At];omega
   refine BV (Bt (Gk t)) (fun h2=>?_) (fun h2=>?_)
   rotate_left
   ·rw[h2]at ha;refine Xi .pure (Xi _ (Yi (ha) ?_));have Gl:Do 3 [AF t]∧((E7 done).map AF).length=(E7 done).length∧(((E7 done).map AF).length+[AF t].length)*48≤140737488355328∧((E7 done).map AF).length+[AF t].length≤9223372036854775807 :=
     ⟨⟨rfl,trivial⟩,by rw[Lm],by rw[Lm,AD];omega,by rw[Lm,AD];omega⟩
    refine Yi (Nz rfl) ?_;refine Yi Gl ?_;have hk:E7 (done++[t])=E7 done++[t]:=by unfold E7;rw[Eg,Ek,Aw (by rw[h2];rfl)];rfl
    have e1:AV.msl 4 (((E7 done).map AF).length+[AF t].length)=.msl 4 (E7 (done++[t])).length:=by rw[hk];simp
    have e2:HO.arr 3 ((E7 done).map AF++[AF t])=RK (E7 (done++[t])):=by rw[hk];simp
    refine Xi ⟨(done++[t],r,some (Mw t)),TM,xe⟩ ?_;exact⟨Wz,⟨⟨e1,rfl⟩,Zr,Tv⟩,⟨⟨e2,rfl⟩,Zr,Tv⟩,Fh,Tv⟩
   ·rw[h2]at ha;refine Xi .pure (Xi _ (Yi (ha) ?_));have hk:E7 (done++[t])=E7 done:=by unfold E7;rw[Eg,Ek,Ak (by rw[h2];decide)];simp
    have e1:AV.msl 4 (E7 done).length=.msl 4 (E7 (done++[t])).length:=by rw[hk]
    have e2:RK (E7 done)=RK (E7 (done++[t])):=by rw[hk]
    refine Xi ⟨(done++[t],r,some (Mw t)),TM,xe⟩ ?_;exact⟨Wz,⟨⟨e1,rfl⟩,Zr,Tv⟩,⟨⟨e2,rfl⟩,Zr,Tv⟩,Fh,Tv⟩
end Go.Eng
