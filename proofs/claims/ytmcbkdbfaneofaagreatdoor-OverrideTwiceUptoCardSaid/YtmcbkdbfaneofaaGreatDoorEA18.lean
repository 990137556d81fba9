/- Lemmas for the claims of this seat, without a condition: part 18 (C16, C17, C18, C19, C20, C21, C22, C23). -/
import Derived.Test.YtmcbkdbfaneofaaGreatDoorEA17
import Derived.Test.YtmcbkdbfaneofaaGreatDoorEA02
namespace Go.Eng
open Go.Proofs
theorem Be.imp{P:Program}{f:Nat}{args:List AV}{h0:Nat→HO}{Q Q' : AV→(Nat→HO)→Prop}(h:Be P f args h0 Q)(hq:∀r h',Q r h'→Q' r h'):Be P f args h0 Q':=h.mono fun r h' q=>⟨r,.refl _,hq r h' q⟩
theorem Be.to{P:Program}{f:Nat}{args:List AV}{h0:Nat→HO}{α:Type}{r0:AV}{p:α→Prop}{H:α→Nat→HO}{Q' : AV→(Nat→HO)→Prop}(h:Be P f args h0 fun r h'=>r=r0∧∃x,p x∧h'=H x)(k:∀x,p x→Q' r0 (H x)):Be P f args h0 Q' :=
 h.imp fun r h' ⟨e1,x,e2,e3⟩=>by subst e1;subst e3;exact k x e2
theorem mK(n:Nat)(h:n≤1073741824):∃lim:Nat,lim<100∧PC 130 [.v (.int .u64 (IntKind.u64.wrap (n:Int)))] (vi lim):=by
 refine⟨Lib.bitLen n,Nat.lt_of_le_of_lt (Lib.bitLen_le n 62 (by omega) (by omega)) (by omega),?_⟩;have wr:IntKind.u64.wrap (n:Int)=n:=by simp[IntKind.wrap,IntKind.bits,IntKind.signed];omega
 rw[wr];refine Lk [.int .u64 n] (.int .i64 (Lib.bitLen n:Nat)) (dK 130 Tryz.func130 (by kernel_rfl) rfl) rfl (fun _ _=>.v _ _) fun w _=>?_
 have:=Any.bits_Len Tryz.layBits (n:Int) w (by omega) (by omega)
 rw[Ci]at this;exact this
theorem tA(l:List (Int×Int))(hl:Cm l)(h:∀x∈l,0≤x.1∧x.1≤1000000) :
  Be Tryz.prog 190 [.msl 1000 l.length,.v (Uf 191)] (Ai [(1000,.arr 2 (l.map Ao))] Ab) fun r h' =>
   r=.tup []∧∃l' : List (Int×Int),(l'.Perm l∧l'.Pairwise (fun x y=>x.1≤y.1))∧h'=Ai [(1000,.arr 2 (l'.map Ao))] Ab:=by
 obtain⟨lim,XH,hb⟩:=mK l.length hl;refine Co (MF F3) [(1000,1000)] rfl CB hm rfl Tryz.func190 (by kernel_rfl) rfl (Nz rfl) (by kernel_rfl) rfl ?_;refine Xi .pure (Xi _ (Yi (hb) ?_));refine Xi (.gen [(1000,1000)] 0) (Yi rfl ((tE l hl h lim XH).imp ?_));intro r h' hq;refine Dn hq.2 (fun l' PO=>?_);refine Xi (.tup []) (Yi ?_ (Yi rfl (Xi l' (Yi ⟨PO.1,PO.2.1⟩ ?_))))
 ·exact .refl _
 ·rw[PO.2.2];rfl
theorem y6(l:List Tm)(hl:Cm l) :
  Be Tryz.prog 235 [.msl 1000 l.length,.v (Uf 236)] (Ai [(1000,.arr 3 (l.map AF))] Ab) fun r h' =>
   r=.tup []∧∃l' : List Tm,(l'.Perm l∧l'.Pairwise (fun x y=>Fg y.path x.path=false))∧h'=Ai [(1000,.arr 3 (l'.map AF))] Ab:=by
 obtain⟨lim,XH,hb⟩:=mK l.length hl;refine Co (MF F3) [(1000,1000)] rfl CB hm rfl Tryz.func235 (by kernel_rfl) rfl (Nz rfl) (by kernel_rfl) rfl ?_;refine Xi .pure (Xi _ (Yi (hb) ?_));refine Xi (.gen [(1000,1000)] 0) (Yi rfl ((tj l hl lim XH).imp ?_));intro r h' hq;refine Dn hq.2 (fun l' PO=>?_);refine Xi (.tup []) (Yi ?_ (Yi rfl (Xi l' (Yi ⟨PO.1,PO.2.1⟩ ?_))))
 ·exact .refl _
 ·rw[PO.2.2];rfl
abbrev yo(l:List (Nat×Nat))(cut:List Nat):T2:=⟨[],[],l,[],[],[],[],[],[],[],cut⟩
abbrev IK(l:List (Int×Int)):HO:=.arr 2 (l.map Ao)
theorem YW(l:Bj)(i:Nat):(CR (l.take i)).length≤i:=by
 unfold CR
 have:=BD (fun x:Int×Int=>decide (x.1<x.2)) ((l.take i).map Hh)
 rw[Lm,AJ]at this;omega
theorem UQ{l:Bj}{i:Nat}(h:i<l.length)(h3:(Hh l[i]).1<(Hh l[i]).2):CR (l.take (i+1))=CR (l.take i)++[Hh l[i]]:=by
 rw[Bu,Ge h,Ol];unfold CR;simp[h3]
theorem Xb{l:Bj}{i:Nat}(h:i<l.length)(h3:¬(Hh l[i]).1<(Hh l[i]).2):CR (l.take (i+1))=CR (l.take i):=by
 rw[Bu,Ge h,Ol];unfold CR;simp[h3]
abbrev arr2(s j:Bj)(i:Nat):Bj:=(BB (s.take i)).reverse++(j++s.drop i)
theorem ju(s j:Bj)(i:Nat)(h:i<s.length)(hj:(BB (s.take i)).length+j.length=i):(arr2 s j i)[i]?=some s[i]:=by
 unfold arr2;rw[A5 (by rw[Dp];omega),A5 (by rw[Dp];omega),Dp,BR];rw[show i+(i-(BB (List.take i s)).length-j.length)=i by omega,Ge h]
theorem bG(s j:Bj)(i:Nat){y:Int×Int}{t:Bj}(e:BB (s.take i)=y::t):(arr2 s j i)[t.length]?=some y:=by
 unfold arr2;rw[e,QA,AP,A5 (by rw[Dp];omega),Dp,F7];rfl
theorem d9(s j:Bj)(i:Nat)(h:i≤s.length)(hj:(BB (s.take i)).length+j.length=i):(arr2 s j i).length=s.length:=by
 unfold arr2;simp only[Ad,Dp,As];omega
theorem ai{α:Type}(s:List α)(i:Nat)(h:i<s.length):s.drop i=s[i]::s.drop (i+1):=Bs h
theorem UF(s j:Bj)(i:Nat)(h:i<s.length)(e:KJ (BB (s.take i)) s[i]=s[i]::BB (s.take i)) :
  (arr2 s j i).set (BB (s.take i)).length s[i]=arr2 s (j++[s[i]]).tail (i+1):=by
 unfold arr2;rw[Gd s i h,e,QA,List.set_append_right _ _ (by rw[Dp];exact Aj _),Dp,F7,AP,ai s i h]
 congr 1
 cases j with
 |nil=>rfl
 |cons a b=>simp
theorem bF(s j:Bj)(i:Nat)(h:i<s.length){y:Int×Int}{t:Bj}(e:BB (s.take i)=y::t)(Hi:s[i].1≤y.2) :
  (arr2 s j i).set t.length (y.1,max y.2 s[i].2)=arr2 s (j++[s[i]]) (i+1):=by
 unfold arr2;have e2:KJ (y::t) s[i]=(y.1,max y.2 s[i].2)::t:=by show(if s[i].1≤y.2 then _ else _)=_;rw[Aw Hi]
 rw[Gd s i h,e,e2,QA,QA,AP,List.set_append_right _ _ (by rw[Dp];exact Aj _),Dp,F7,ai s i h];simp
theorem Ch{α:Type}{enc:α→List AV}{l:List α}{i:Nat}{x:α}(h:l[i]?=some x):(l.map enc)[i]?=some (enc x):=by rw[AG,h];rfl
theorem W8(l:List (Int×Int))(hl:Cm l):PC 148 [sl Ao l] (sl Ao (canon l)):=by
 have hl:l.length≤1073741824:=hl;refine EP (Y0 (yo [(3,2)] [5,14,15,16])) rfl CB hm rfl Tryz.func148 (by kernel_rfl) rfl (Nz rfl) (by kernel_rfl) ?_;refine Xi {i:Nat // i≤l.length} (Xi (fun i=>⟨[(0,sl Ao l),(3,.msl 3 (CR (l.take i.1)).length),(9,sl Ao l),(10,vi (l.map Ao).length),(11,vi i.1)],[(3,IK (CR (l.take i.1)))],Ab⟩) (Xi (fun i=>l.length-i.1) (Yi (Xi ⟨0,by simp⟩ ?_) ?_)))
 ·exact⟨Z5,Z1,Fh,Tv⟩
 ·intro⟨i,h1⟩;have hn:=YW l i;refine Yi ?_ ?_
  ·intro h;have h:(i:Int)<(l.map Ao).length:=h;have h:i<l.length:=by simpa using h
   have hg:l[i]?=some l[i]:=Ge h;refine Xi (Ao l[i]) (Yi (Yi (Nn i) (by simp[hg])) (Yi rfl ?_));refine Yi (Nz rfl) (Yi (Nz rfl) ?_);refine Xi ⟨[(0,sl Ao l),(3,.msl 3 (CR (l.take i)).length),(5,.ref 5 0),(9,sl Ao l),(10,vi (l.map Ao).length),(11,vi i)],[(3,IK (CR (l.take i))),(5,.cells (Ao l[i]))],Ab⟩ (Yi ⟨Z6,Z2,Fh,Tv⟩ ?_)
   refine Yi (Nz rfl) ?_;refine Yi ?_ ?_
   ·intro h3;have h3:(Hh l[i]).1<(Hh l[i]).2:=h3;refine Yi (Nz rfl) ?_;have Gp:Do 2 [[vi (max l[i].1 0),vi (min l[i].2 1000000)]]∧((CR (l.take i)).map Ao).length=(CR (l.take i)).length∧(((CR (l.take i)).map Ao).length+[[vi (max l[i].1 0),vi (min l[i].2 1000000)]].length)*16≤140737488355328∧((CR (l.take i)).map Ao).length+[[vi (max l[i].1 0),vi (min l[i].2 1000000)]].length≤9223372036854775807 :=
     ⟨⟨rfl,trivial⟩,by rw[Lm],by rw[Lm,AD];omega,by rw[Lm,AD];omega⟩
    refine Yi Gp ?_;refine Yi (Ii i (by omega)) ?_;refine Xi ⟨i+1,by omega⟩ ?_;have e1:AV.msl 3 (((CR (l.take i)).map Ao).length+[[vi (max l[i].1 0),vi (min l[i].2 1000000)]].length)=.msl 3 (CR (l.take (i+1))).length:=by rw[UQ h h3];simp
    have e2:HO.arr 2 ((CR (l.take i)).map Ao++[[vi (max l[i].1 0),vi (min l[i].2 1000000)]])=IK (CR (l.take (i+1))):=by rw[UQ h h3];simp[Hh]
    exact⟨Dl l.length i (by omega),⟨Zr,⟨e1,rfl⟩,Zr,Zr,Zr,Tv⟩,⟨⟨e2,rfl⟩,Tv⟩,Fh,Tv⟩
   ·intro h3;have h3:¬(Hh l[i]).1<(Hh l[i]).2:=h3;refine Yi (Ii i (by omega)) ?_;refine Xi ⟨i+1,by omega⟩ ?_;have e1:AV.msl 3 (CR (l.take i)).length=.msl 3 (CR (l.take (i+1))).length:=by rw[Xb h h3]
    have e2:IK (CR (l.take i))=IK (CR (l.take (i+1))):=by rw[Xb h h3]
    exact⟨Dl l.length i (by omega),⟨Zr,⟨e1,rfl⟩,Zr,Zr,Zr,Tv⟩,⟨⟨e2,rfl⟩,Tv⟩,Fh,Tv⟩
  ·intro h;have h:¬(i:Int)<(l.map Ao).length:=h;have h:¬i<l.length:=by simpa using h
   have ei:CR (l.take i)=CR l:=by rw[AT (by omega)]
   have hN:(CR (l.take i)).length=(CR l).length:=by rw[ei]
   refine Xi (.gen [(3,1000)] 0) (Yi rfl ((tA (CR (l.take i)) (by unfold Cm;omega) (fun x hx=>by have:=UP hx;omega)).to ?_));intro s hs;have WP:s.length=(CR (l.take i)).length:=hs.1.length_eq;have hsN:s.length≤1073741824:=by omega
   have fin:(BB s).reverse=canon l:=Rg (by rw[←ei];exact hs.1) hs.2;refine Xi {p:Nat×Bj // p.1≤s.length∧(BB (s.take p.1)).length+p.2.length=p.1} (Xi (fun p=>⟨[(3,.msl 3 (CR (l.take i)).length),(6,vi (BB (s.take p.1.1)).length),(34,.msl 3 (CR (l.take i)).length),(35,vi (CR (l.take i)).length),(36,vi p.1.1)],[(3,IK (arr2 s p.1.2 p.1.1))],Ab⟩) (Xi (fun p=>s.length-p.1.1) (Yi (Xi ⟨(0,[]),AO _,rfl⟩ ?_) ?_)))
   ·exact⟨Z5,Z1,Fh,Tv⟩
   intro⟨⟨k,j⟩,k1,k2⟩;have k1:k≤s.length:=k1;have k2:(BB (s.take k)).length+j.length=k:=k2;have CI:=d9 s j k k1 k2;have ST:(CR (l.take i)).length=((arr2 s j k).map Ao).length:=by rw[Lm,CI,WP]
   refine Yi ?_ ?_
   ·intro h2;have h2:(k:Int)<(CR (l.take i)).length:=h2;have hk:k<s.length:=by omega
    have lJ:=Ch (enc:=Ao) (ju s j k hk k2);refine Yi ⟨by show(0:Int)≤k;omega,by show(k:Int)<_;omega⟩ ?_;refine Yi ST (Xi (Ao s[k]) (Yi lJ (Yi (Nz rfl) (Yi (Nz rfl) ?_))));refine Xi ⟨[(3,.msl 3 (CR (l.take i)).length),(6,vi (BB (s.take k)).length),(7,vi k),(8,.ref 8 0),(34,.msl 3 (CR (l.take i)).length),(35,vi (CR (l.take i)).length),(36,vi k)],[(3,IK (arr2 s j k)),(8,.cells (Ao s[k]))],Ab⟩ (Yi ⟨Z7,Z2,Fh,Tv⟩ ?_)
    have hr:=Tt s k k1;refine BU (Nat.eq_zero_or_pos k) (fun k0=>?_) (fun k0=>?_)
    ·refine Yi ?_ ?_
     ·intro h4;have h4:(0:Int)<k:=h4;omega
     ·intro _;refine Yi (by kernel_rfl) ?_;have Jg:KJ (BB (s.take k)) s[k]=s[k]::BB (s.take k):=by subst k0;rfl
      have dO:(BB (s.take k)).length<(arr2 s j k).length:=by omega
      have hz:=Ch (enc:=Ao) (Ge dO);refine Xi ⟨[(3,.msl 3 (CR (l.take i)).length),(6,vi (BB (s.take k)).length),(8,.ref 8 0),(34,.msl 3 (CR (l.take i)).length),(35,vi (CR (l.take i)).length),(36,vi k)],[(3,IK (arr2 s j k)),(8,.cells (Ao s[k]))],Ab⟩ (Yi ⟨⟨⟨rfl,rfl⟩,⟨rfl,rfl⟩,⟨rfl,rfl⟩,⟨rfl,rfl⟩,⟨rfl,rfl⟩,⟨rfl,rfl⟩,Tv⟩,⟨⟨rfl,rfl⟩,⟨rfl,rfl⟩,Tv⟩,Fh,Tv⟩ ?_);refine Yi (Nz rfl) (Yi ⟨by show(0:Int)≤((BB (s.take k)).length:Int);omega,by show((BB (s.take k)).length:Int)<_;omega⟩ ?_);refine Yi ST (Xi (Ao (arr2 s j k)[(BB (s.take k)).length]) (Yi hz (Yi (Nz rfl) ?_)));refine Yi (by show B2 (((BB (s.take k)).length:Int)+1);unfold B2;omega) ?_;refine Yi (Ii k (by omega)) ?_;have hm:=Gd s k hk;have e1:vi (((BB (s.take k)).length:Int)+1)=vi (BB (s.take (k+1))).length:=by rw[hm,Jg];simp
      have e2:HO.arr 2 (((arr2 s j k).map Ao).set (BB (s.take k)).length [vi s[k].1,vi s[k].2])=IK (arr2 s (j++[s[k]]).tail (k+1)):=by rw[←UF s j k hk Jg];simp only[IK,Nv]
      refine Xi ⟨(k+1,(j++[s[k]]).tail),by show k+1≤s.length;omega,by show(BB (s.take (k+1))).length+((j++[s[k]]).tail).length=k+1;rw[hm,Jg];simp;omega⟩ ?_;exact⟨Dl s.length k (by omega),⟨Zr,⟨e1,rfl⟩,Zr,Zr,Zr,Tv⟩,⟨⟨e2,rfl⟩,Tv⟩,Fh,Tv⟩
    ·refine Yi ?_ ?_
     ·intro _;obtain⟨y,t,e⟩:∃y t,BB (s.take k)=y::t:=by
       cases hc:BB (s.take k)with
       |nil=>have:=hr.2 k0;rw[hc]at this;simp at this
       |cons y t=>exact⟨y,t,rfl⟩
      have ht:(((BB (s.take k)).length:Int)-1).toNat=t.length:=by rw[e];simp
      have hy:((arr2 s j k).map Ao)[(((BB (s.take k)).length:Int)-1).toNat]?=some (Ao y):=by rw[ht];exact Ch (bG s j k e)
      refine Yi (by show B2 (((BB (s.take k)).length:Int)-1);unfold B2;omega) ?_;have Zl:=hr.2 k0;refine Yi ⟨by show(0:Int)≤((BB (s.take k)).length:Int)-1;omega,by show((BB (s.take k)).length:Int)-1<_;omega⟩ ?_;refine Yi ST (Xi (Ao y) (Yi hy ?_));refine Yi ?_ ?_
      ·intro h5;have h5:s[k].1≤y.2:=h5;refine Yi (by kernel_rfl) ?_;refine Xi ⟨[(3,.msl 3 (CR (l.take i)).length),(6,vi (BB (s.take k)).length),(8,.ref 8 0),(34,.msl 3 (CR (l.take i)).length),(35,vi (CR (l.take i)).length),(36,vi k)],[(3,IK (arr2 s j k)),(8,.cells (Ao s[k]))],Ab⟩ (Yi ⟨⟨⟨rfl,rfl⟩,⟨rfl,rfl⟩,⟨rfl,rfl⟩,⟨rfl,rfl⟩,⟨rfl,rfl⟩,⟨rfl,rfl⟩,Tv⟩,⟨⟨rfl,rfl⟩,⟨rfl,rfl⟩,Tv⟩,Fh,Tv⟩ ?_);refine Yi (by show B2 (((BB (s.take k)).length:Int)-1);unfold B2;omega) (Yi (by show B2 (((BB (s.take k)).length:Int)-1);unfold B2;omega) ?_);refine Yi ⟨by show(0:Int)≤((BB (s.take k)).length:Int)-1;omega,by show((BB (s.take k)).length:Int)-1<_;omega⟩ ?_;refine Yi ST (Xi (Ao y) (Yi hy ?_));refine Yi ⟨by show(0:Int)≤((BB (s.take k)).length:Int)-1;omega,by show((BB (s.take k)).length:Int)-1<_;omega⟩ ?_;refine Yi ST (Xi (Ao y) (Yi hy (Yi (Nz rfl) ?_)));refine Yi (by kernel_rfl) ?_;refine Yi (Ii k (by omega)) ?_;have hm:=Gd s k hk;have Jg:KJ (BB (s.take k)) s[k]=(y.1,max y.2 s[k].2)::t:=by rw[e];show(if s[k].1≤y.2 then _ else _)=_;rw[Aw h5]
       have e1:vi (BB (s.take k)).length=vi (BB (s.take (k+1))).length:=by rw[hm,Jg,e];simp
       have e2:HO.arr 2 (((arr2 s j k).map Ao).set (((BB (s.take k)).length:Int)-1).toNat [vi y.1,vi (max y.2 s[k].2)])=IK (arr2 s (j++[s[k]]) (k+1)):=by rw[←bF s j k hk e h5,ht];simp only[IK,Nv]
       refine Xi ⟨(k+1,j++[s[k]]),by show k+1≤s.length;omega,by show(BB (s.take (k+1))).length+(j++[s[k]]).length=k+1;rw[hm,Jg,Ad,AD];rw[e]at k2;simp only[Au]at k2⊢;omega⟩ ?_;exact⟨Dl s.length k (by omega),⟨Zr,⟨e1,rfl⟩,Zr,Zr,Zr,Tv⟩,⟨⟨e2,rfl⟩,Tv⟩,Fh,Tv⟩
      ·intro h5;have h5:¬s[k].1≤y.2:=h5;refine Yi (by kernel_rfl) ?_;have Jg:KJ (BB (s.take k)) s[k]=s[k]::BB (s.take k):=by rw[e];show(if s[k].1≤y.2 then _ else _)=_;rw[Ah h5]
       have dO:(BB (s.take k)).length<(arr2 s j k).length:=by omega
       have hz:=Ch (enc:=Ao) (Ge dO);refine Xi ⟨[(3,.msl 3 (CR (l.take i)).length),(6,vi (BB (s.take k)).length),(8,.ref 8 0),(34,.msl 3 (CR (l.take i)).length),(35,vi (CR (l.take i)).length),(36,vi k)],[(3,IK (arr2 s j k)),(8,.cells (Ao s[k]))],Ab⟩ (Yi ⟨⟨⟨rfl,rfl⟩,⟨rfl,rfl⟩,⟨rfl,rfl⟩,⟨rfl,rfl⟩,⟨rfl,rfl⟩,⟨rfl,rfl⟩,Tv⟩,⟨⟨rfl,rfl⟩,⟨rfl,rfl⟩,Tv⟩,Fh,Tv⟩ ?_);refine Yi (Nz rfl) (Yi ⟨by show(0:Int)≤((BB (s.take k)).length:Int);omega,by show((BB (s.take k)).length:Int)<_;omega⟩ ?_);refine Yi ST (Xi (Ao (arr2 s j k)[(BB (s.take k)).length]) (Yi hz (Yi (Nz rfl) ?_)));refine Yi (by show B2 (((BB (s.take k)).length:Int)+1);unfold B2;omega) ?_;refine Yi (Ii k (by omega)) ?_;have hm:=Gd s k hk;have e1:vi (((BB (s.take k)).length:Int)+1)=vi (BB (s.take (k+1))).length:=by rw[hm,Jg];simp
       have e2:HO.arr 2 (((arr2 s j k).map Ao).set (BB (s.take k)).length [vi s[k].1,vi s[k].2])=IK (arr2 s (j++[s[k]]).tail (k+1)):=by rw[←UF s j k hk Jg];simp only[IK,Nv]
       refine Xi ⟨(k+1,(j++[s[k]]).tail),by show k+1≤s.length;omega,by show(BB (s.take (k+1))).length+((j++[s[k]]).tail).length=k+1;rw[hm,Jg];simp;omega⟩ ?_;exact⟨Dl s.length k (by omega),⟨Zr,⟨e1,rfl⟩,Zr,Zr,Zr,Tv⟩,⟨⟨e2,rfl⟩,Tv⟩,Fh,Tv⟩
     ·intro h4;have h4:¬(0:Int)<k:=h4;omega
   ·intro h2;have h2:¬(k:Int)<(CR (l.take i)).length:=h2;have hk:k=s.length:=by omega
    have hr:=Tt s k k1;have nH:((((arr2 s j k).map Ao).take ((BB (s.take k)).length:Int).toNat).drop 0)=(canon l).map Ao:=by
     rw[List.drop_zero,Ci,←Re,←fin];unfold arr2
     have:(BB (s.take k)).length=(BB (s.take k)).reverse.length:=by rw[Dp]
     rw[this,List.take_left,hk,Du]
    refine Yi ⟨ST,by show(0:Int)≤0;omega,by show(0:Int)≤((BB (s.take k)).length:Int);omega,by show((BB (s.take k)).length:Int)≤(((arr2 s j k).map Ao).length:Int);omega,.inr ⟨rfl,by simp⟩⟩ ?_;exact .of_eq (Ac (AV.slice .none) nH)
end Go.Eng
namespace Go.Eng
open Go.Proofs Go.Sort
abbrev Gs(z:Int):List AV:=[vi z]
theorem Qc{α:Type}[Inhabited α](enc:α→Value)(w:World)(b:Nat)(d:Array α):putRow enc w b 0 d=putRow id w b 0 (d.map enc):=by
 unfold putRow
 congr 1
 funext c
 unfold putCells;apply Array.ext
 ·simp
 ·intro i h1 h2;simp only[Array.getElem_mapIdx,Array.size_map]
  by_cases h:i<d.size
  ·rw[Aw (by omega),Aw (by omega)];rw[DB d (i-0) (by omega),DB (d.map enc) (i-0) (by simpa using h)];simp
  ·rw[Ah (by omega),Ah (by omega)]
theorem UY(zs:List Int):(zs.map Gs).flatten=(zs.map fun z=>Value.int .i64 z).map AV.v:=by
 induction zs with
 |nil=>rfl
 |cons z zs ih=>rw[AN,By,ih];rfl
theorem MW(g:Gh)(w:World)(U:Nat→Prop)(vs:List Value)(h:∀x∈vs,x.oneCell'=true):CG g w U (vs.map .v) vs :=
 ⟨by simp,h,fun i av x q1 q2=>by
  rw[AG,q2]at q1;cases q1;exact .v _ _⟩
theorem Ln{g:Gh}{w:World}{U:Nat→Prop}{vs us:List Value}(h:CG g w U (vs.map .v) us):us=vs:=by
 apply CC;intro i;have hl:=h.1;rw[Lm]at hl
 by_cases hi:i<vs.length
 ·have:=h.2.2 i (.v vs[i]) us[i] (by rw[AG,Ge hi];rfl) (Ge (by omega))
  rw[Ge hi,Ge (by omega),this.v_eq]
 ·rw[A6 (by omega),A6 (by omega)]
theorem tD(zs:List Int)(hl:Cm zs)(DC:zs≠[]) :
  Be Tryz.prog 255 [.msl 1000 zs.length] (Ai [(1000,.arr 1 (zs.map Gs))] Ab) fun r h' =>
   r=.tup []∧∃l' : List Int,(l'.Perm zs∧l'.Pairwise fun a b=>a≤b)∧h'=Ai [(1000,.arr 1 (l'.map Gs))] Ab:=by
 have hl:zs.length≤1073741824:=hl;have hE:FX Tryz.prog 255:=dK 255 Tryz.func255 (by kernel_rfl) rfl;have G8:=Pz (P:=Tryz.prog) (f:=255) (es:=zs.map Gs) (sz:=1) (rest:=[]) (Q:=fun Fz=>∃l' : List Int,(l'.Perm zs∧l'.Pairwise fun a b=>a≤b)∧Fz=l'.map Gs) hE ?_ ?_
 ·rw[Lm]at G8;refine⟨hE,fun g w vals q1 q2 q3=>(G8.2 g w vals q1 q2 q3).mono fun _ _ ⟨v,r,h',g',e1,⟨e2,Fz,⟨l',p1,p2⟩,p3⟩,rest⟩=>⟨v,r,h',g',e1,⟨e2,l',p1,by rw[p3,p2]⟩,rest⟩⟩
 ·intro e
  have:zs=[]:=by simpa using e
  exact absurd this DC
 ·intro g w b cap F hr hF hH hb;have p8:F.toList=zs.map fun z=>Value.int .i64 z:=Ln (by rw[←UY];exact hr);have fD:F=zs.toArray.map fun z=>Value.int .i64 z:=Iy.1 (by rw[p8];simp);have p9:Holds (Value.int .i64) w b 0 zs.toArray:=fun j hj=>by
   have:=hH j (by rw[fD];simpa using hj)
   refine⟨this.1.trans ?_,this.2⟩;rw[fD,DB _ j (by simpa using hj),DB _ j hj];simp
  have hc:=Any.slices_Sort_int Tryz.laySortInts b 0 cap zs w p9 hb (by omega);rw[Lm];refine hc.mono ?_
  rintro e w' ⟨rfl,n,os,rfl⟩
  have IN:(zs.mergeSort fun x y=>decide (x≤y)).Perm zs:=List.mergeSort_perm _ _;have CI:=IN.length_eq;refine⟨rfl,(zs.mergeSort fun x y=>decide (x≤y)).toArray.map fun z=>Value.int .i64 z,(zs.mergeSort fun x y=>decide (x≤y)).map Gs,n,os,?_,⟨_,⟨IN,?_⟩,rfl⟩,by simp[CI],fun cs hcs=>?_,fun g w _=>?_,by rw[Qc]⟩
  ·rw[fD];simp[CI]
  ·have:=List.pairwise_mergeSort (le:=fun x y:Int=>decide (x≤y)) (fun a b c h1 h2=>by simp only[AA]at *;omega) (fun a b=>by simp only[CE,AA];omega) zs
   exact this.imp fun h=>BF h
  ·obtain⟨x,_,rfl⟩:=Ak.1 hcs;rfl
  ·rw[UY];have e:((zs.mergeSort fun x y=>decide (x≤y)).toArray.map fun z=>Value.int .i64 z).toList=(zs.mergeSort fun x y=>decide (x≤y)).map fun z=>Value.int .i64 z:=by simp
   rw[e];exact MW _ _ _ _ fun x hx=>by
    obtain⟨z,_,rfl⟩:=Ak.1 hx;rfl
-- maps from numbers to numbers
abbrev WC:EE:=⟨false,[.int .i64]⟩
abbrev kI(z:Int):Value:=.int .i64 z
abbrev LI(p:Int×Int):Value×AV:=(kI p.1,vi p.2)
abbrev Fi(s:Bj):List AV:=[sl Ao s]
theorem Rz{m:List (Int×Int)}{k:Int}{a:AV}:(kI k,a)∈m.map LI↔∃v,(k,v)∈m∧a=vi v:=by
 rw[Ak];constructor
 ·rintro⟨⟨k',v⟩,h1,h2⟩
  simp only[FJ,Value.int.injEq,true_and]at h2;obtain⟨rfl,rfl⟩:=h2;exact⟨v,h1,rfl⟩
 ·rintro⟨v,h1,rfl⟩
  exact⟨(k,v),h1,rfl⟩
theorem RD(m:List (Int×Int))(k v:Int):EO (m.map LI) (kI k) (vi v)=(Ll m k v).map LI:=by
 unfold Ll
 by_cases h:(m.any fun p=>decide (p.1=k))=true
 ·rw[Aw h];obtain⟨p,h1,h2⟩:=Bb.1 h;have h2:=BF h2
  have:(kI k,vi p.2)∈m.map LI:=Rz.2 ⟨p.2,by rw[←h2];exact h1,rfl⟩
  rw[PV this,BO,BO];apply Bf;intro q _;simp only[Function.comp]
  by_cases e:q.1=k
  ·simp[e]
  ·have:¬kI q.1=kI k:=fun c=>e (by injection c)
   simp[e]
 ·rw[Ah h]
  have:∀b,(kI k,b)∉m.map LI:=fun b hb=>by
   obtain⟨v,h1,_⟩:=Rz.1 hb;exact h (Bb.2 ⟨(k,v),h1,by simp⟩)
  rw[KB this,AH];rfl
theorem OH{T:Gm}{e:Nat}{B3:List (Value×AV)}{kx:Value}{K:AV→Prop}(a0 z0:AV)(h1:∀a,(kx,a)∈B3→a=a0)(hz:(∀a,(kx,a)∉B3)→a0=z0)(h2:K z0→Kc T e K)(k:K a0) :
  (∀a,(kx,a)∈B3→K a)∧((∀a,(kx,a)∉B3)→Kc T e K):=⟨fun a h=>by rw[h1 a h];exact k,fun hn=>h2 (hz hn▸k)⟩
theorem Qr(m:List (Int×Int))(k:Int):(∀a,(kI k,a)∉m.map LI)→vi (Ff m k)=vi 0:=fun OL=>by
 rw[iZ fun hk=>by
  obtain⟨p,hp,e⟩:=Ak.1 hk;exact OL (vi p.2) (Rz.2 ⟨p.2,by rw[←e];exact hp,rfl⟩)]
theorem Qq{m:List (Int×Int)}(hn:(EZ m).Nodup)(k:Int):∀a,(kI k,a)∈m.map LI→a=vi (Ff m k):=fun a h=>by
 obtain⟨v,h1,rfl⟩:=Rz.1 h;rw[iY hn h1]
theorem Ik.bound{m:List (Int×Int)}{S:Bj}(h:Ik m S)(k:Int):-(S.length:Int)≤Ff m k∧Ff m k≤S.length:=by
 rw[h.val]
 have:cF S k≤S.length:=List.countP_le_length
 have:cT S k≤S.length:=List.countP_le_length
 omega
theorem Y6(l:List Bj):(l.map canon).flatten.length≤l.length*1000000:=by
 induction l with
 |nil=>simp
 |cons s l ih =>
  rw[AN,By,Ad,Au]
  have:=HW (Cp s)
  omega
theorem Ik.few{m:List (Int×Int)}{S:Bj}(h:Ik m S):m.length≤1000001:=by
 have:=Ih (m:=(List.range 1000001).map Int.ofNat) h.nd fun k hk=>by
  have:=h.rng k hk
  exact Ak.2 ⟨k.toNat,List.mem_range.2 (by omega),by show(k.toNat:Int)=k;omega⟩
 unfold EZ at this;rw[Lm,Lm,Qz]at this;exact this
theorem Va(keep:Nat→Bool)(m:List (Int×Int))(B:List Int):∀n,(Et keep m B n).length≤n
 |0=>Aj _
 |n+1=>by
  unfold Et
  have:=Va keep m B n
  rw[Ad];split
  ·split<;>simp<;>omega
  ·simp;omega
end Go.Eng
namespace Go.Eng
open Go.Proofs
abbrev plC:T2:=⟨[],[(12,2)],[(44,1)],[],[],[],[],[],[],[],[8,9,15,23,25,26]⟩
theorem mO(F:AV)(keep:Nat→Bool)(l:List Bj)(hl:Cm l)(hs:∀s∈l,Cm s)(hid:∀h,Uo h F=true)(hF:∀h (n:Int),0≤n→n≤l.length→Px Tryz.prog (str h F) [vi n] (vb (keep n.toNat)))
  (R:Bj) (hR:EB R) (zp:∀p,has R p=(LH p&&keep (dJ l p))):PC 226 [F,sl Fi l] (sl Ao R):=by
 have hl:l.length≤1073741824:=hl;refine Ps plC Tryz.func226 rfl (Nz rfl) ?_;refine Xi {p:Nat×List (Int×Int) // p.1≤l.length∧Ik p.2 ((l.take p.1).map canon).flatten} (Xi (fun p=>⟨[(0,F),(5,.mref 15),(17,sl Fi l),(18,vi (l.map Fi).length),(19,vi p.1.1)],[(15,.map WC (p.1.2.map LI))],Ab⟩) (Xi (fun p=>l.length-p.1.1) (Yi (Xi ⟨(0,pQ),AO _,jJ⟩ ?_) ?_)))
 ·have e0:HO.map WC (EO (EO [] (kI 0) (vi 0)) (kI 1000000) (vi 0))=.map WC (pQ.map LI):=by
   have e1:=RD [] 0 0;have e2:=RD [(0,0)] 1000000 0;show HO.map WC (EO (EO (List.map LI []) (kI 0) (vi 0)) (kI 1000000) (vi 0))=_;rw[e1];show HO.map WC (EO (List.map LI [(0,0)]) (kI 1000000) (vi 0))=_;rw[e2];rfl
  exact⟨⟨⟨rfl,hid _⟩,Zr,Zr,Zr,Zr,Tv⟩,⟨⟨e0,rfl⟩,Tv⟩,Fh,Tv⟩
 intro⟨⟨i,cm⟩,i1,i2⟩;have i1:i≤l.length:=i1;have i2:Ik cm ((l.take i).map canon).flatten:=i2;refine Yi ?_ ?_
 ·intro h;have h:(i:Int)<(l.map Fi).length:=h;have h:i<l.length:=by simpa using h
  have hg:l[i]?=some l[i]:=Ge h;refine Xi (Fi l[i]) (Yi (Yi (Nn i) (by simp[hg])) (Yi rfl ?_));refine Xi .pure (Xi _ (Yi (W8 l[i] (hs _ (Ap h))) ?_));refine Xi {p:Nat×List (Int×Int) // p.1≤(canon l[i]).length∧Ik p.2 (((l.take i).map canon).flatten++(canon l[i]).take p.1)} (Xi (fun p=>⟨[(0,F),(5,.mref 15),(17,sl Fi l),(18,vi (l.map Fi).length),(19,vi i),(24,sl Ao (canon l[i])),(25,vi ((canon l[i]).map Ao).length),(26,vi p.1.1)],[(15,.map WC (p.1.2.map LI))],Ab⟩) (Xi (fun p=>(canon l[i]).length-p.1.1) (Yi (Xi ⟨(0,cm),AO _,by rw[List.take_zero,B1];exact i2⟩ ?_) ?_)))
  ·exact⟨⟨⟨rfl,hid _⟩,Zr,Zr,Zr,Zr,Zr,Zr,Zr,Tv⟩,Z1,Fh,Tv⟩
  intro⟨⟨j,dm⟩,j1,j2⟩;have j1:j≤(canon l[i]).length:=j1;have j2:Ik dm (((l.take i).map canon).flatten++(canon l[i]).take j):=j2;have hS:(((l.take i).map canon).flatten++(canon l[i]).take j).length≤1073741825000000:=by
   have a1:=Y6 (l.take i);have a2:=HW (Cp l[i]);rw[AJ]at a1;rw[Ad,AJ];omega
  refine Yi ?_ ?_
  ·intro hj;have hj:(j:Int)<((canon l[i]).map Ao).length:=hj;have hj:j<(canon l[i]).length:=by simpa using hj
   have uG:(canon l[i])[j]?=some (canon l[i])[j]:=Ge hj;have l7:=(Cp l[i]).low _ (Ap hj);have j3:Ik (Ys dm (canon l[i])[j]) (((l.take i).map canon).flatten++(canon l[i]).take (j+1)):=by
    have:=dA j2 (x:=(canon l[i])[j]) l7
    rw[AP]at this;rw[Bu,uG];exact this
   generalize (canon l[i])[j]=x at uG l7 j3;have b1:=j2.bound x.1;have dO:=Md j2.nd x.1 (Ff dm x.1+1);refine Xi (Ao x) (Yi (Yi (Nn j) (by simp[uG])) (Yi rfl ?_));refine Yi (Nz rfl) (Yi (Nz rfl) ?_);refine Xi ⟨[(0,F),(5,.mref 15),(9,.ref 9 0),(17,sl Fi l),(18,vi (l.map Fi).length),(19,vi i),(24,sl Ao (canon l[i])),(25,vi ((canon l[i]).map Ao).length),(26,vi j)],[(9,.cells (Ao x)),(15,.map WC (dm.map LI))],Ab⟩ (Yi ⟨⟨⟨rfl,hid _⟩,Zr,Zr,Zr,Zr,Zr,Zr,Zr,Zr,Tv⟩,Z2,Fh,Tv⟩ ?_)
   refine OH (vi (Ff dm x.1)) (vi 0) (Qq j2.nd x.1) (Qr dm x.1) (fun q=>q) ?_;refine Yi (by show B2 (Ff dm x.1+1);unfold B2;omega) ?_;have m1:HO.map WC (EO (dm.map LI) (kI x.1) (vi (Ff dm x.1+1)))=.map WC ((Ll dm x.1 (Ff dm x.1+1)).map LI):=by rw[RD]
   refine Xi ⟨[(0,F),(5,.mref 15),(9,.ref 9 0),(17,sl Fi l),(18,vi (l.map Fi).length),(19,vi i),(24,sl Ao (canon l[i])),(25,vi ((canon l[i]).map Ao).length),(26,vi j)],[(9,.cells (Ao x)),(15,.map WC ((Ll dm x.1 (Ff dm x.1+1)).map LI))],Ab⟩ (Yi ⟨⟨⟨rfl,hid _⟩,Zr,Zr,Zr,Zr,Zr,Zr,Zr,Zr,Tv⟩,⟨Zr,⟨m1,rfl⟩,Tv⟩,Fh,Tv⟩ ?_)
   have b2:-(1073741825000001:Int)≤Ff (Ll dm x.1 (Ff dm x.1+1)) x.2∧Ff (Ll dm x.1 (Ff dm x.1+1)) x.2≤1073741825000001:=by
    have b3:=j2.bound x.2;rw[Pm];split<;>omega
   refine OH (vi (Ff (Ll dm x.1 (Ff dm x.1+1)) x.2)) (vi 0) (Qq dO x.2) (Qr _ x.2) (fun q=>q) ?_;refine Yi (by show B2 (Ff (Ll dm x.1 (Ff dm x.1+1)) x.2-1);unfold B2;omega) ?_;have hcl:=HW (Cp l[i]);refine Yi (Ii j (by omega)) ?_;have m2:HO.map WC (EO ((Ll dm x.1 (Ff dm x.1+1)).map LI) (kI x.2) (vi (Ff (Ll dm x.1 (Ff dm x.1+1)) x.2-1)))=.map WC ((Ys dm x).map LI):=by rw[RD];rfl
   refine Xi ⟨(j+1,Ys dm x),by show j+1≤_;omega,j3⟩ ?_;exact⟨by show(canon l[i]).length-(j+1)<(canon l[i]).length-j;omega,⟨⟨rfl,hid _⟩,Zr,Zr,Zr,Zr,Zr,Zr,Zr,Tv⟩,⟨⟨m2,rfl⟩,Tv⟩,Fh,Tv⟩
  ·intro hj;have hj:¬(j:Int)<((canon l[i]).map Ao).length:=hj;have hj:¬j<(canon l[i]).length:=by simpa using hj
   refine Yi (Ii i (by omega)) ?_;have i3:Ik dm ((l.take (i+1)).map canon).flatten:=by
    have e1:(canon l[i]).take j=canon l[i]:=AT (by omega);rw[e1]at j2;have e2:((l.take (i+1)).map canon).flatten=((l.take i).map canon).flatten++canon l[i]:=by
     rw[Bu,hg,AH,CK];show _++(canon l[i]++[])=_;rw[B1]
    rw[e2];exact j2
   refine Xi ⟨(i+1,dm),by show i+1≤_;omega,i3⟩ ?_;exact⟨Dl l.length i (by omega),⟨⟨rfl,hid _⟩,Zr,Zr,Zr,Zr,Tv⟩,Z1,Fh,Tv⟩
 ·intro h;have h:¬(i:Int)<(l.map Fi).length:=h;have h:¬i<l.length:=by simpa using h
  have i3:Ik cm (l.map canon).flatten:=by
   rw[AT (by omega)]at i2;exact i2
  have zK:=i3.few;have zW:(0:Int)≤0∧(0:Int)≤((cm.map LI).length:Int)∧((cm.map LI).length:Int)*((8:Nat):Int)≤140737488355328∧((cm.map LI).length:Int)≤9223372036854775807:=by rw[Lm];omega
  refine Yi zW ?_;refine Xi {p:List (Value×AV)×List Int×Option (Value×AV) // ((p.2.1.map kI)++p.1.map (·.1)).Perm ((cm.map LI).map (·.1))∧∀kv∈p.1,kv∈cm.map LI} (Xi (fun p=>⟨[(0,F),(5,.mref 15),(10,.msl 44 p.1.2.1.length),(46,.ref 46 0)],[(15,.rom WC (cm.map LI)),(44,.arr 1 (p.1.2.1.map Gs)),(46,.iter (cm.map LI) p.1.1 p.1.2.2)],Ab⟩) (Xi (fun p=>p.1.1.length) (Yi (Xi ⟨(cm.map LI,[],none),.refl _,fun _ h=>h⟩ ?_) ?_)))
  ·exact⟨⟨⟨rfl,hid _⟩,Zr,Zr,Zr,Tv⟩,Z3,Fh,Tv⟩
  intro⟨⟨rem,bs,Fy⟩,r1,r2⟩;have r1:((bs.map kI)++rem.map (·.1)).Perm ((cm.map LI).map (·.1)):=r1;have r2:∀kv∈rem,kv∈cm.map LI:=r2;have hbl:bs.length≤1000001:=by
   have:=r1.length_eq
   simp only[Ad,Lm]at this;omega
  refine Yi ?_ ?_
  ·intro hr;have hr:rem=[]:=hr;subst hr;rw[E1,B1,BO]at r1;have uX:bs.Perm (EZ cm):=by
    have r1:(bs.map kI).Perm ((EZ cm).map kI):=by unfold EZ;rw[BO];exact r1
    have:=r1.map (fun v:Value=>match v with | .int _ n=>n | _=>0)
    rw[BO,BO]at this;have e:((fun v:Value=>match v with | .int _ n=>n | _=>0) ∘ kI)=id:=rfl;rw[e,JD,JD]at this;exact this
   have DC:bs≠[]:=fun e=>by
    subst e
    have:=uX.length_eq
    have h0:=i3.keys.1;rw[AB this.symm]at h0;cases h0
   refine Xi (.gen [(44,1000)] 0) (Yi rfl ((tD bs (by unfold Cm;omega) DC).to ?_));intro B p6;have jV:B.length=bs.length:=p6.1.length_eq;have zd:B.Nodup:=(p6.1.trans uX).nodup_iff.2 i3.nd;have hB:jq B cm:=⟨p6.1.trans uX,by
    rw[Bc];intro a b ha hb je;have h1:=(Bc.1 p6.2) a b ha hb je;have h2:B[a]≠B[b]:=(Bc.1 zd) a b ha hb je;omega⟩
   have xl:0<B.length:=by
    rw[jV];exact M5.2 DC
   have ui:bs.length=(B.map Gs).length:=by rw[Lm,jV]
   refine Yi (by show B2 ((bs.length:Int)-1);unfold B2;omega) ?_;refine Xi {k:Nat // k≤B.length-1} (Xi (fun k=>⟨[(0,F),(5,.mref 15),(10,.msl 44 bs.length),(12,.slice (.id 12 2) ((Et keep cm B k.1).map Ao)),(13,vi (Ix cm (B.take k.1))),(59,vi ((bs.length:Int)-1)),(60,vi k.1)],[(12,.tok 2 ((Et keep cm B k.1).map Ao).length),(15,.rom WC (cm.map LI)),(44,.arr 1 (B.map Gs))],Ab⟩) (Xi (fun k=>B.length-k.1) (Yi (Xi ⟨0,AO _⟩ ?_) ?_)))
   ·exact⟨⟨⟨rfl,hid _⟩,Zr,Zr,Zr,Zr,Zr,Zr,Tv⟩,Z3,Fh,Tv⟩
   intro⟨k,k1⟩;have o0:=Va keep cm B k;refine Yi ?_ ?_
   ·intro hk;have hk:(k:Int)<(bs.length:Int)-1:=hk;have It:k+1<B.length:=by omega
    have U5:k<B.length:=by omega
    have lJ:(B.map Gs)[k]?=some (Gs B[k]):=Ch (Ge U5);have uq:(B.map Gs)[k+1]?=some (Gs B[k+1]):=Ch (Ge It);have OM:=Qo cm B k U5;have qR:=iI i3 hB k U5;have SQ:Et keep cm B (k+1)=Et keep cm B k++(if keep (Ix cm (B.take (k+1))).toNat then [(B[k],B[k+1])]else []):=by
     show _++(match B[k]?,B[k+1]? with | some a,some b=>if keep (Ix cm (B.take (k+1))).toNat then [(a,b)]else [] | _,_=>[])=_;rw[Ge U5,Ge It]
    refine Xi ⟨[(0,F),(5,.mref 15),(10,.msl 44 bs.length),(12,.slice (.id 12 2) ((Et keep cm B k).map Ao)),(13,vi (Ix cm (B.take k))),(14,vi k),(59,vi ((bs.length:Int)-1)),(60,vi k)],[(12,.tok 2 ((Et keep cm B k).map Ao).length),(15,.rom WC (cm.map LI)),(44,.arr 1 (B.map Gs))],Ab⟩ (Yi ⟨⟨⟨rfl,hid _⟩,Zr,Zr,Zr,Zr,Zr,Zr,Zr,Tv⟩,Z3,Fh,Tv⟩ ?_)
    refine Yi ⟨by show(0:Int)≤k;omega,by show(k:Int)<bs.length;omega⟩ ?_;refine Yi ui (Xi (Gs B[k]) (Yi lJ ?_));refine OH (vi (Ff cm B[k])) (vi 0) (Qq i3.nd B[k]) (Qr cm B[k]) (fun q=>q) ?_;refine Yi (by show B2 (Ix cm (B.take k)+Ff cm B[k]);rw[←OM];unfold B2;omega) ?_;have DD:∀h,Px Tryz.prog (str h F) [vi (Ix cm (B.take k)+Ff cm B[k])] (vb (keep (Ix cm (B.take (k+1))).toNat)):=fun h=>by
     rw[←OM];exact hF h _ qR.1 qR.2
    refine BU (Bt (keep (Ix cm (B.take (k+1))).toNat)) (fun hp=>?_) (fun hp=>?_)
    ·rw[hp]at DD;rw[hp,Aw rfl]at SQ;refine Xi .pure (Xi (vb true) (Yi (DD _) ?_));refine Xi ⟨[(0,F),(5,.mref 15),(10,.msl 44 bs.length),(12,.slice (.id 12 2) ((Et keep cm B k).map Ao)),(13,vi (Ix cm (B.take k)+Ff cm B[k])),(14,vi k),(59,vi ((bs.length:Int)-1)),(60,vi k)],[(12,.tok 2 ((Et keep cm B k).map Ao).length),(15,.rom WC (cm.map LI)),(44,.arr 1 (B.map Gs))],Ab⟩ (Yi ⟨⟨⟨rfl,hid _⟩,Zr,Zr,Zr,Zr,Zr,Zr,Zr,Tv⟩,Z3,Fh,Tv⟩ ?_)
     have b1:(0:Int)≤(k:Int)+1∧(k:Int)+1<bs.length:=by omega
     have ur:(B.map Gs)[((k:Int)+1).toNat]?=some (Gs B[k+1]):=by rw[show((k:Int)+1).toNat=k+1 by omega];exact uq
     refine Yi ⟨by show(0:Int)≤k;omega,by show(k:Int)<bs.length;omega⟩ ?_;refine Yi ui (Xi (Gs B[k]) (Yi lJ ?_));refine Yi (Ii k (by omega)) ?_;refine Yi b1 ?_;refine Yi ui (Xi (Gs B[k+1]) (Yi ur ?_));have Gp:Do 2 [[vi B[k],vi B[k+1]]]∧((Et keep cm B k).map Ao).length=((Et keep cm B k).map Ao).length∧(((Et keep cm B k).map Ao).length+[[vi B[k],vi B[k+1]]].length)*16≤140737488355328∧((Et keep cm B k).map Ao).length+[[vi B[k],vi B[k+1]]].length≤9223372036854775807 :=
      ⟨⟨rfl,trivial⟩,rfl,by rw[Lm,AD];omega,by rw[Lm,AD];omega⟩
     refine Yi Gp ?_;refine Yi (by kernel_rfl) ?_;refine Xi ⟨[(0,F),(5,.mref 15),(10,.msl 44 bs.length),(12,.slice (.id 12 2) ((Et keep cm B k).map Ao++[[vi B[k],vi B[k+1]]])),(13,vi (Ix cm (B.take k)+Ff cm B[k])),(59,vi ((bs.length:Int)-1)),(60,vi k)],[(12,.tok 2 (((Et keep cm B k).map Ao).length+[[vi B[k],vi B[k+1]]].length)),(15,.rom WC (cm.map LI)),(44,.arr 1 (B.map Gs))],Ab⟩ (Yi ⟨⟨⟨rfl,hid _⟩,Zr,Zr,Zr,Zr,Zr,Zr,Tv⟩,Z3,Fh,Tv⟩ ?_)
     refine Yi (Ii k (by omega)) ?_;refine Xi ⟨k+1,by omega⟩ ?_;have e1:AV.slice (.id 12 2) ((Et keep cm B k).map Ao++[[vi B[k],vi B[k+1]]])=.slice (.id 12 2) ((Et keep cm B (k+1)).map Ao):=by rw[SQ,AH];rfl
     have e2:vi (Ix cm (B.take k)+Ff cm B[k])=vi (Ix cm (B.take (k+1))):=by rw[OM]
     have e3:HO.tok 2 (((Et keep cm B k).map Ao).length+[[vi B[k],vi B[k+1]]].length)=.tok 2 ((Et keep cm B (k+1)).map Ao).length:=by rw[SQ,AH,Ad];rfl
     exact⟨Dl B.length k (by omega),⟨⟨rfl,hid _⟩,Zr,Zr,⟨e1,rfl⟩,⟨e2,rfl⟩,Zr,Zr,Tv⟩,⟨⟨e3,rfl⟩,Zr,Zr,Tv⟩,Fh,Tv⟩
    ·rw[hp]at DD;have SQ:Et keep cm B (k+1)=Et keep cm B k:=by rw[SQ,hp,Ah Bool.false_ne_true,B1]
     refine Xi .pure (Xi (vb false) (Yi (DD _) ?_));refine Xi ⟨[(0,F),(5,.mref 15),(10,.msl 44 bs.length),(12,.slice (.id 12 2) ((Et keep cm B k).map Ao)),(13,vi (Ix cm (B.take k)+Ff cm B[k])),(59,vi ((bs.length:Int)-1)),(60,vi k)],[(12,.tok 2 ((Et keep cm B k).map Ao).length),(15,.rom WC (cm.map LI)),(44,.arr 1 (B.map Gs))],Ab⟩ (Yi ⟨⟨⟨rfl,hid _⟩,Zr,Zr,Zr,Zr,Zr,Zr,Tv⟩,Z3,Fh,Tv⟩ ?_)
     refine Yi (Ii k (by omega)) ?_;refine Xi ⟨k+1,by omega⟩ ?_;have e1:AV.slice (.id 12 2) ((Et keep cm B k).map Ao)=.slice (.id 12 2) ((Et keep cm B (k+1)).map Ao):=by rw[SQ]
     have e2:vi (Ix cm (B.take k)+Ff cm B[k])=vi (Ix cm (B.take (k+1))):=by rw[OM]
     have e3:HO.tok 2 ((Et keep cm B k).map Ao).length=.tok 2 ((Et keep cm B (k+1)).map Ao).length:=by rw[SQ]
     exact⟨Dl B.length k (by omega),⟨⟨rfl,hid _⟩,Zr,Zr,⟨e1,rfl⟩,⟨e2,rfl⟩,Zr,Zr,Tv⟩,⟨⟨e3,rfl⟩,Zr,Zr,Tv⟩,Fh,Tv⟩
   ·intro hk;have hk:¬(k:Int)<(bs.length:Int)-1:=hk;have It:k=B.length-1:=by omega
    have uw:canon (Et keep cm B k)=R:=by
     refine(Sh hR fun p=>?_).symm;rw[It,zp,gm i3 hB]
    have hc:=W8 (Et keep cm B k) (by unfold Cm;omega);rw[uw]at hc;refine Xi .pure (Xi _ (Yi hc ?_));exact .refl _
  ·intro kv NX hp;refine Dn (Ak.1 (r2 kv (hp.mem_iff.2 (Aa ..)))) (fun q hq=>?_);have hq2:=hq.2;subst hq2;refine Xi ⟨[(0,F),(5,.mref 15),(10,.msl 44 bs.length),(46,.ref 46 0)],[(15,.rom WC (cm.map LI)),(44,.arr 1 (bs.map Gs)),(46,.iter (cm.map LI) NX (some (LI q)))],Ab⟩ (Yi ⟨⟨⟨rfl,hid _⟩,Zr,Zr,Zr,Tv⟩,Z3,Fh,Tv⟩ ?_)
   have Gp:Do 1 [Gs q.1]∧(bs.map Gs).length=bs.length∧((bs.map Gs).length+[Gs q.1].length)*8≤140737488355328∧(bs.map Gs).length+[Gs q.1].length≤9223372036854775807 :=
    ⟨⟨rfl,trivial⟩,by rw[Lm],by rw[Lm,AD];omega,by rw[Lm,AD];omega⟩
   refine Yi Gp ?_;have e1:AV.msl 44 ((bs.map Gs).length+[Gs q.1].length)=.msl 44 (bs++[q.1]).length:=by simp
   have e2:HO.arr 1 (bs.map Gs++[Gs q.1])=.arr 1 ((bs++[q.1]).map Gs):=by simp
   refine Xi ⟨(NX,bs++[q.1],some (LI q)),?_,fun kv Pt=>r2 kv (hp.mem_iff.2 (Ae _ Pt))⟩ ?_
   ·show(((bs++[q.1]).map kI)++NX.map (·.1)).Perm _;have h1:=hp.map (fun x:Value×AV=>x.1);rw[AN]at h1;rw[AH,AP];exact(List.Perm.append_left _ h1.symm).trans r1
   ·exact⟨by show NX.length<rem.length;rw[hp.length_eq];simp,⟨⟨rfl,hid _⟩,Zr,⟨e1,rfl⟩,Zr,Tv⟩,⟨Zr,⟨e2,rfl⟩,Zr,Tv⟩,Fh,Tv⟩
theorem tx(n:Int)(l:List Bj):PC 269 [vi n,.cptr [sl Fi l]] (vb (decide (n=l.length))):=by
 refine Ps F3 Tryz.func269 rfl (Nz rfl) ?_;have e:((l.map Fi).length:Int)=l.length:=by rw[Lm]
 refine Yi ?_ ?_
 ·intro h;have h:n=((l.map Fi).length:Int):=h;rw[show decide (n=(l.length:Int))=true from Ax (h.trans e)];exact .refl _
 ·intro h;have h:¬n=((l.map Fi).length:Int):=h;rw[show decide (n=(l.length:Int))=false from Ar (fun c=>h (c.trans e.symm))];exact .refl _
theorem tB(n:Int):PC 227 [vi n] (vb (decide (n=0))):=by
 refine Ps F3 Tryz.func227 rfl (Nz rfl) ?_;refine Yi ?_ ?_
 ·intro h;have h:n=0:=h;rw[Ax h];exact .refl _
 ·intro h;have h:¬n=0:=h;rw[Ar h];exact .refl _
theorem t6(n:Int):PC 258 [vi n] (vb (decide (0<n))):=by
 refine Ps F3 Tryz.func258 rfl (Nz rfl) ?_;refine Yi ?_ ?_
 ·intro h;have h:0<n:=h;rw[Ax h];exact .refl _
 ·intro h;have h:¬0<n:=h;rw[Ar h];exact .refl _
theorem gg(l:List Bj)(p:Int):decide (dJ l p=l.length)=l.all fun s=>has s p:=by
 unfold dJ;rw[BW,AA,List.countP_eq_length,Br]
theorem gl(l:List Bj)(p:Int):decide (0<dJ l p)=l.any fun s=>has s p:=by
 unfold dJ;rw[BW,AA,List.countP_pos_iff,Bb]
theorem ti(l:List Bj)(hl:Cm l)(hs:∀s∈l,Cm s):PC 256 [sl Fi l] (sl Ao (PQ l)):=by
 have hc:=mO (.clo 269 [.cptr [sl Fi l]]) (fun n=>decide (n=l.length)) l hl hs (fun _=>rfl) (fun h n h0 _=>by
  have:=tx n l
  have e:decide (n=(l.length:Int))=decide (n.toNat=l.length):=by rw[decide_eq_decide];omega
  rw[e]at this;exact this) (PQ l) (Wm l) fun p=>by rw[SK,gg]
 refine Ps (jm [1]) Tryz.func256 rfl (Nz rfl) ?_;refine Xi .pure (Xi _ (Yi (hc) ?_));exact .refl _
theorem mJ(s:Bj)(hs:Cm s):PC 202 [sl Ao s] (sl Ao (Ed s)):=by
 have hc:=mO (.v (Uf 227)) (fun n=>decide (n=0)) [s] (by unfold Cm;simp) (fun t ht=>by rw[Am.1 ht];exact hs) (fun _=>rfl) (fun h n h0 _=>by
  have:=tB n
  have e:decide (n=0)=decide (n.toNat=0):=by rw[decide_eq_decide];omega
  rw[e]at this;exact this) (Ed s) (G5 s) fun p=>by
   rw[FD]
   have:dJ [s] p=if has s p then 1 else 0:=by unfold dJ;rw[IB];simp
   rw[this];cases has s p<;>rfl
 refine Ps F3 Tryz.func202 rfl (Nz rfl) ?_;refine Xi .pure (Xi _ (Yi (hc) ?_));exact .refl _
theorem tX(l:List Bj)(hl:Cm l)(hs:∀s∈l,Cm s):PC 237 [sl Fi l] (sl Ao (Qp l)):=by
 have hc:=mO (.v (Uf 258)) (fun n=>decide (0<n)) l hl hs (fun _=>rfl) (fun h n h0 _=>by
  have:=t6 n
  have e:decide (0<n)=decide (0<n.toNat):=by rw[decide_eq_decide];omega
  rw[e]at this;exact this) (Qp l) (WF l) fun p=>by
   rw[SL,gl];cases h:l.any fun s=>has s p with
   |false=>simp
   |true =>
    obtain⟨s,_,h2⟩:=Bb.1 h
    have:=L9 h2
    simp[LH,this]
 refine Ps F3 Tryz.func237 rfl (Nz rfl) ?_;refine Xi .pure (Xi _ (Yi (hc) ?_));exact .refl _
-- terms
theorem yZ(t:Tm)(ht:Cm t.set):PC 233 [.agg (AF t)] (vb (!t.absent&&(canon t.set).isEmpty)):=by
 refine Ps F3 Tryz.func233 rfl (Nz rfl) ?_;refine Yi ?_ ?_
 ·intro h;have h:t.absent=true:=h;rw[h];exact .refl _
 ·intro h;have h:t.absent=false:=h;refine Xi .pure (Xi _ (Yi (W8 t.set ht) ?_));refine Yi ?_ ?_
  ·intro h2;have h2:(((canon t.set).map Ao).length:Int)=0:=h2;have h2:canon t.set=[]:=AB (by rw[Lm]at h2;omega);rw[h,h2];exact .refl _
  ·intro h2;have h2:¬(((canon t.set).map Ao).length:Int)=0:=h2;have h2:(canon t.set).isEmpty=false:=by
    cases hc:canon t.set with
    |nil=>rw[hc]at h2;exact absurd rfl h2
    |cons _ _=>rfl
   rw[h,h2];exact .refl _
theorem y0(t:Tm)(ht:Cm t.set):PC 234 [.agg (AF t)] (vb (t.absent&&(Ed t.set).isEmpty)):=by
 refine Ps F3 Tryz.func234 rfl (Nz rfl) ?_;refine Yi ?_ ?_
 ·intro h;have h:t.absent=true:=h;refine Xi .pure (Xi _ (Yi (mJ t.set ht) ?_));refine Yi ?_ ?_
  ·intro h2;have h2:(((Ed t.set).map Ao).length:Int)=0:=h2;have h2:Ed t.set=[]:=AB (by rw[Lm]at h2;omega);rw[h,h2];exact .refl _
  ·intro h2;have h2:¬(((Ed t.set).map Ao).length:Int)=0:=h2;have h2:(Ed t.set).isEmpty=false:=by
    cases hc:Ed t.set with
    |nil=>rw[hc]at h2;exact absurd rfl h2
    |cons _ _=>rfl
   rw[h,h2];exact .refl _
 ·intro h;have h:t.absent=false:=h;rw[h];exact .refl _
abbrev KI(l:List Nat):T2:=⟨[],[],[],[],[],[],[],[],[],[],l⟩
theorem w8(u t:Tm)(hu:Cm u.set)(ht:Cm t.set):PC 232 [.agg (AF u),.agg (AF t)] (.agg (AF (GM u t))):=by
 have hc:PC 256 [sl Fi [u.set,t.set]] (sl Ao (Nk u.set t.set)):=ti [u.set,t.set] (by unfold Cm;simp) (fun s hs=>by
  rcases Aq.1 hs with rfl | hs
  ·exact hu
  ·rw[Am.1 hs];exact ht)
 refine Ps (KI [1]) Tryz.func232 rfl (Nz rfl) ?_;refine Xi ⟨[(2,.ref 2 0),(3,.ref 3 0),(4,.ref 4 0)],[(2,.cells (AF u)),(3,.cells (AF t)),(4,.cells [vs ⟨#[]⟩,vb false,.v (.slice none 0 0)])],Ab⟩ (Yi ⟨Z3,Z3,Fh,Tv⟩ ?_)
 refine Yi ?_ ?_
 ·intro h;have h:u.absent=true:=h;refine Yi ?_ ?_
  ·intro h2;have h2:t.absent=true:=h2;have e:[vs u.path,vb true,sl Ao (Nk u.set t.set)]=AF (GM u t):=by unfold GM;rw[h,h2];rfl
   refine Xi _ (Yi (hc) ?_);refine Yi (Nz rfl) (Yi (by kernel_rfl) (Yi (Nz rfl) ?_));exact .of_eq (Ac AV.agg e)
  ·intro h2;have h2:t.absent=false:=h2;have e:[vs u.path,vb false,sl Ao (Nk u.set t.set)]=AF (GM u t):=by unfold GM;rw[h,h2];rfl
   refine Xi _ (Yi (hc) ?_);refine Yi (Nz rfl) (Yi (by kernel_rfl) (Yi (Nz rfl) ?_));exact .of_eq (Ac AV.agg e)
 ·intro h;have h:u.absent=false:=h;have e:[vs u.path,vb false,sl Ao (Nk u.set t.set)]=AF (GM u t):=by unfold GM;rw[h];rfl
  refine Xi _ (Yi (hc) ?_);refine Yi (Nz rfl) (Yi (by kernel_rfl) (Yi (Nz rfl) ?_));exact .of_eq (Ac AV.agg e)
theorem tR(u t:Tm)(hu:Cm u.set)(ht:Cm t.set):PC 205 [.agg (AF u),.agg (AF t)] (.agg (AF (Dh u t))):=by
 have hc:PC 237 [sl Fi [u.set,t.set]] (sl Ao (Pl u.set t.set)):=tX [u.set,t.set] (by unfold Cm;simp) (fun s hs=>by
  rcases Aq.1 hs with rfl | hs
  ·exact hu
  ·rw[Am.1 hs];exact ht)
 refine Ps (KI [1]) Tryz.func205 rfl (Nz rfl) ?_;refine Xi ⟨[(2,.ref 2 0),(3,.ref 3 0),(4,.ref 4 0)],[(2,.cells (AF u)),(3,.cells (AF t)),(4,.cells [vs ⟨#[]⟩,vb false,.v (.slice none 0 0)])],Ab⟩ (Yi ⟨Z3,Z3,Fh,Tv⟩ ?_)
 refine Yi ?_ ?_
 ·intro h;have h:u.absent=true:=h;have e:[vs u.path,vb true,sl Ao (Pl u.set t.set)]=AF (Dh u t):=by unfold Dh;rw[h];rfl
  refine Xi _ (Yi (hc) ?_);refine Yi (Nz rfl) (Yi (by kernel_rfl) (Yi (Nz rfl) ?_));exact .of_eq (Ac AV.agg e)
 ·intro h;have h:u.absent=false:=h;refine Yi ?_ ?_
  ·intro h2;have h2:t.absent=true:=h2;have e:[vs u.path,vb true,sl Ao (Pl u.set t.set)]=AF (Dh u t):=by unfold Dh;rw[h,h2];rfl
   refine Xi _ (Yi (hc) ?_);refine Yi (Nz rfl) (Yi (by kernel_rfl) (Yi (Nz rfl) ?_));exact .of_eq (Ac AV.agg e)
  ·intro h2;have h2:t.absent=false:=h2;have e:[vs u.path,vb false,sl Ao (Pl u.set t.set)]=AF (Dh u t):=by unfold Dh;rw[h,h2];rfl
   refine Xi _ (Yi (hc) ?_);refine Yi (Nz rfl) (Yi (by kernel_rfl) (Yi (Nz rfl) ?_));exact .of_eq (Ac AV.agg e)
theorem pL(q:Rq)(hq:Cm q.set):PC 197 [.agg (AM q)] (.agg (AF (DG q))):=by
 refine Ps F3 Tryz.func197 rfl (Nz rfl) ?_;refine Xi _ (Yi (mJ q.set hq) ?_);refine Yi (Nz rfl) (Yi (by kernel_rfl) (Yi (Nz rfl) ?_));exact .refl _
abbrev C3:EE:=⟨false,[.str]⟩
abbrev ML(t:Tm):Value×AV:=(.string t.path,.agg (AF t))
abbrev rA(fin cut:List Nat):T2:=⟨[],[],[],[],fin,[],[],[],[],[],cut⟩
theorem RA{m:List Tm}{p:ByteArray}{a:AV}:(Value.string p,a)∈m.map ML↔∃t∈m,t.path=p∧a=.agg (AF t):=by
 rw[Ak];constructor
 ·rintro⟨t,h1,h2⟩
  simp only[FJ,Value.string.injEq]at h2;exact⟨t,h1,h2.1,h2.2.symm⟩
 ·rintro⟨t,h1,rfl,rfl⟩
  exact⟨t,h1,rfl⟩
theorem gF(m:List Tm)(t:Tm):EO (m.map ML) (.string t.path) (.agg (AF t))=(Wx m t).map ML:=by
 unfold Wx
 by_cases h:(m.any fun u=>decide (u.path=t.path))=true
 ·rw[Aw h];obtain⟨u,h1,h2⟩:=Bb.1 h;have h2:=BF h2
  have:(Value.string t.path,AV.agg (AF u))∈m.map ML:=RA.2 ⟨u,h1,h2,rfl⟩
  rw[PV this,BO,BO];apply Bf;intro q _;simp only[Function.comp]
  by_cases e:q.path=t.path
  ·simp[e]
  ·have:¬Value.string q.path=.string t.path:=fun c=>e (by injection c)
   simp[e]
 ·rw[Ah h]
  have:∀b,(Value.string t.path,b)∉m.map ML:=fun b hb=>by
   obtain⟨u,h1,h2,_⟩:=RA.1 hb;exact h (Bb.2 ⟨u,h1,by simp[h2]⟩)
  rw[KB this,AH];rfl
theorem fp{m:List Tm}(hn:(Eu m).Nodup)(p:ByteArray){K:AV→Prop}{Z:Prop}(hy:∀u,Dj m p=some u→K (.agg (AF u)))(OL:Dj m p=none→Z) :
  (∀a,(Value.string p,a)∈m.map ML→K a)∧((∀a,(Value.string p,a)∉m.map ML)→Z) :=
 ⟨fun a h=>by
  obtain⟨t,h1,h2,rfl⟩:=RA.1 h;subst h2;exact hy t ((L4 hn).1 h1),fun h=>OL (by
  cases e:Dj m p with
  |none=>rfl
  |some u=>exact absurd (RA.2 ⟨u,E5 e,GY e,rfl⟩) (h _))⟩
theorem Ow{t:Tm}(h:EB t.set):Cm t.set:=by
 unfold Cm
 have:=HW h;omega
theorem yY(l:List Tm)(hl:Cm l)(hs:∀t∈l,Cm t.set):PC 231 [sl AF l,.v (Uf 232)] (.cmap C3 ((CX l).map ML)):=by
 have hl:l.length≤1073741824:=hl;refine Ps (rA [10] [5,8]) Tryz.func231 rfl (Nz rfl) ?_;refine Xi {i:Nat // i≤l.length} (Xi (fun i=>⟨[(0,sl AF l),(1,.v (Uf 232)),(5,.mref 10),(11,sl AF l),(12,vi (l.map AF).length),(13,vi i.1)],[(10,.map C3 ((CX (l.take i.1)).map ML))],Ab⟩) (Xi (fun i=>l.length-i.1) (Yi (Xi ⟨0,AO _⟩ ?_) ?_)))
 ·exact⟨Z6,Z1,Fh,Tv⟩
 intro⟨i,h1⟩;have hn:=HB (l.take i);refine Yi ?_ ?_
 ·intro h;have h:(i:Int)<(l.map AF).length:=h;have h:i<l.length:=by simpa using h
  have hg:l[i]?=some l[i]:=Ge h;refine Xi (AF l[i]) (Yi (Yi (Nn i) (by simp[hg])) (Yi rfl ?_));refine Yi (Nz rfl) (Yi (Nz rfl) ?_);have Fb:=hs l[i] (Ap h);refine Xi ⟨[(0,sl AF l),(1,.v (Uf 232)),(5,.mref 10),(7,.ref 7 0),(11,sl AF l),(12,vi (l.map AF).length),(13,vi i)],[(7,.cells (AF l[i])),(10,.map C3 ((CX (l.take i)).map ML))],Ab⟩ (Yi ⟨Z7,Z2,Fh,Tv⟩ ?_)
  have tail:∀u:Tm,Cm u.set→GM u l[i]=NW (Dj (CX (l.take i)) l[i].path) l[i]→EO ((CX (l.take i)).map ML) (.string l[i].path) (.agg (AF (GM u l[i])))=(CX (l.take (i+1))).map ML:=fun u hu e=>by
   have hp:(NW (Dj (CX (l.take i)) l[i].path) l[i]).path=l[i].path:=Qb _ _ fun u h=>GY h;have e2:=gF (CX (l.take i)) (GM u l[i]);have e3:(GM u l[i]).path=l[i].path:=by rw[e];exact hp
   rw[e3]at e2;rw[e2,QV l i h,e];rfl
  refine fp hn l[i].path (fun u hu=>?_) (fun hu=>?_)
  ·have K5:Cm u.set:=Ow (OT _ u (E5 hu));refine Yi (Nz rfl) ?_;refine Xi ⟨[(0,sl AF l),(1,.v (Uf 232)),(5,.mref 10),(7,.ref 7 0),(8,.ref 8 0),(11,sl AF l),(12,vi (l.map AF).length),(13,vi i)],[(7,.cells (AF l[i])),(8,.cells (AF u)),(10,.map C3 ((CX (l.take i)).map ML))],Ab⟩ (Yi ⟨Z8,Z3,Fh,Tv⟩ ?_)
   have AW:=tail u K5 (by rw[aW,hu];rfl);refine Yi (Nz rfl) (Yi (Nz rfl) ?_);refine Xi _ (Yi (w8 u l[i] K5 Fb) ?_);refine Yi (by kernel_rfl) ?_;refine Yi (Ii i (by omega)) ?_;refine Xi ⟨i+1,by omega⟩ ?_;have e1:HO.map C3 (EO ((CX (l.take i)).map ML) (.string l[i].path) (.agg (AF (GM u l[i]))))=.map C3 ((CX (l.take (i+1))).map ML):=by rw[AW]
   exact⟨Dl l.length i (by omega),Z6,⟨⟨e1,rfl⟩,Tv⟩,Fh,Tv⟩
  ·refine Yi (Nz rfl) ?_;refine Yi (Nz rfl) (Yi (Nz rfl) ?_);refine Xi ⟨[(0,sl AF l),(1,.v (Uf 232)),(5,.mref 10),(7,.ref 7 0),(8,.ref 8 0),(11,sl AF l),(12,vi (l.map AF).length),(13,vi i)],[(7,.cells (AF l[i])),(8,.cells (AF l[i])),(10,.map C3 ((CX (l.take i)).map ML))],Ab⟩ (Yi ⟨Z8,Z3,Fh,Tv⟩ ?_)
   have AW:=tail l[i] Fb (by rw[aW,hu];rfl);refine Yi (Nz rfl) (Yi (Nz rfl) ?_);refine Xi _ (Yi (w8 l[i] l[i] Fb Fb) ?_);refine Yi (by kernel_rfl) ?_;refine Yi (Ii i (by omega)) ?_;refine Xi ⟨i+1,by omega⟩ ?_;have e1:HO.map C3 (EO ((CX (l.take i)).map ML) (.string l[i].path) (.agg (AF (GM l[i] l[i]))))=.map C3 ((CX (l.take (i+1))).map ML):=by rw[AW]
   exact⟨Dl l.length i (by omega),Z6,⟨⟨e1,rfl⟩,Tv⟩,Fh,Tv⟩
 ·intro h;have h:¬(i:Int)<(l.map AF).length:=h;have h:¬i<l.length:=by simpa using h
  have e:(CX (l.take i)).map ML=(CX l).map ML:=by rw[AT (by omega)]
  exact .of_eq (Ac (AV.cmap C3) e)
abbrev GB(l:List Tm):AV:=.tup [sl AF (PY l),vb (CP l).isSome]
abbrev vT:T2:=⟨[],[],[(4,3)],[],[],[],[],[],[],[(25,4)],[4,7,10]⟩
abbrev RY(l:List Tm):HO:=.arr 3 (l.map AF)
abbrev Fd(l:List Tm):List Tm:=l.filter fun t=>!Gn t
theorem kH{l:List Tm}{kv:Value×AV}{NX : List (Value×AV)}(h:(l.map ML).Perm (kv::NX)):∃t r,kv=ML t∧NX=r.map ML∧l.Perm (t::r):=by
 obtain⟨ps,h1,h2⟩:=Mn h l rfl;cases ps with
 |nil=>cases h2
 |cons t r =>
  rw[AN,Fr]at h2;exact⟨t,r,h2.1.symm,h2.2.symm,h1.symm⟩
theorem W9{l:List Tm}{t:Tm}(h:t∈CX l)(hn:HC t=true):CP l=none:=by
 unfold CP;rw[Aw (Bb.2 ⟨t,(I5 l t).1 h,hn⟩)]
theorem YS{l done s:List Tm}(h:done.Perm (CX l))(hn:∀t∈done,HC t=false)(hp:s.Perm (Fd done))(hs:s.Pairwise fun x y=>Fg y.path x.path=false):CP l=some s:=by
 unfold CP;rw[Ah]
 ·congr 1
  exact(PG _ (hp.trans (h.filter _)) hs).symm
 ·intro c;obtain⟨t,h1,h2⟩:=Bb.1 c
  have:=hn t (h.mem_iff.2 ((I5 l t).2 h1))
  rw[h2]at this;cases this
theorem cC(l:List Tm):(Fd l).length≤l.length:=BD _ _
theorem r8(l:List Tm)(hl:Cm l)(hs:∀t∈l,Cm t.set):PC 204 [sl AF l] (GB l):=by
 have cn:l.length≤1073741824:=hl;have xP:(CX l).length≤l.length:=by have:=NQ l l.length (Aj _);rwa [Du]at this
 refine Ps vT Tryz.func204 rfl (Nz rfl) ?_;refine Xi .pure (Xi _ (Yi (yY l hl hs) ?_));refine Xi {p:List Tm×List Tm×Option (Value×AV) // (p.1++p.2.1).Perm (CX l)∧∀t∈p.1,HC t=false} (Xi (fun p=>⟨[(4,.msl 4 (Fd p.1.1).length),(9,.ref 9 0)],[(4,RY (Fd p.1.1)),(9,.iter ((CX l).map ML) (p.1.2.1.map ML) p.1.2.2)],Ab⟩) (Xi (fun p=>p.1.2.1.length) (Yi (Xi ⟨([],CX l,none),.refl _,fun t ht=>by cases ht⟩ ?_) ?_)))
 ·exact⟨Z2,Z2,Fh,Tv⟩
 intro⟨⟨done,rem,Fy⟩,r1,r2⟩;have r1:(done++rem).Perm (CX l):=r1;have r2:∀t∈done,HC t=false:=r2;have hdl:done.length+rem.length≤l.length:=by have:=r1.length_eq;rw[Ad]at this;omega
 have o0:=cC done;refine Yi ?_ ?_
 ·intro hr;have hr:rem.map ML=[]:=hr;have hr:rem=[]:=Dq.1 hr;subst hr;rw[B1]at r1;refine Xi (.gen [(4,1000)] 0) (Yi rfl ((y6 (Fd done) (by unfold Cm;omega)).to ?_));intro s hq;have WP:s.length=(Fd done).length:=hq.1.length_eq;have hc:=YS r1 r2 hq.1 hq.2;refine Xi ⟨[(4,.msl 4 (Fd done).length)],[(4,RY s)],Ab⟩ (Yi ⟨Z1,Z1,Fh,Tv⟩ ?_)
  refine Yi (by rw[Lm,WP]) ?_;have e:AV.tup [sl AF s,vb true]=GB l:=by unfold GB PY;rw[hc];rfl
  exact .of_eq e
 ·intro kv NX hp;refine Dn (kH hp) (fun t hp=>Dn hp (fun r hp=>?_));have e1:=hp.1;have e2:=hp.2.1;subst e1;subst e2;have hp:=hp.2.2;have sI:t∈CX l:=r1.mem_iff.1 (Bk _ (hp.mem_iff.2 (Aa ..)));have vg:=OT l t sI;have x5:=Ow vg;refine Xi ⟨[(4,.msl 4 (Fd done).length),(9,.ref 9 0)],[(4,RY (Fd done)),(9,.iter ((CX l).map ML) (r.map ML) (some (ML t)))],Ab⟩ (Yi ⟨Z2,Z2,Fh,Tv⟩ ?_)
  refine Yi (Nz rfl) (Yi (Nz rfl) ?_);have hv:PC 233 [.agg (AF t)] (vb (HC t)):=gI vg▸yZ t x5;have ha:PC 234 [.agg (AF t)] (vb (Gn t)):=bB vg▸y0 t x5;refine BU (Bt (HC t)) (fun h=>?_) (fun h=>?_)
  ·rw[h]at hv;refine Xi .pure (Xi _ (Yi (hv) ?_));have hc:=W9 sI h;have e:AV.tup [.slice .none [],vb false]=GB l:=by unfold GB PY;rw[hc];rfl
   have e0:Hm (.tup [.v (.slice none 0 0),vb false]) (.tup [.slice .none [],vb false]):=Hm.tup ⟨.nil,.refl _,trivial⟩;exact e0.trans (.of_eq e)
  ·rw[h]at hv;refine Xi .pure (Xi _ (Yi (hv) ?_));refine Xi ⟨[(4,.msl 4 (Fd done).length),(6,.ref 6 0),(9,.ref 9 0)],[(4,RY (Fd done)),(6,.cells (AF t)),(9,.iter ((CX l).map ML) (r.map ML) (some (ML t)))],Ab⟩ (Yi ⟨Z3,Z3,Fh,Tv⟩ ?_)
   refine Yi (Nz rfl) ?_;have T4:((done++[t])++r).Perm (CX l):=by
    rw[AP];exact(List.Perm.append_left _ hp.symm).trans r1
   have xQ:∀u∈done++[t],HC u=false:=fun u hu=>by
    rcases A7.1 hu with hu | hu
    ·exact r2 u hu
    ·rw[Am.1 hu];exact h
   have WO:r.length<rem.length:=by rw[hp.length_eq,Au];omega
   refine BU (Bt (Gn t)) (fun h2=>?_) (fun h2=>?_)
   rotate_left
   ·rw[h2]at ha;refine Xi .pure (Xi _ (Yi (ha) ?_));have Gp:Do 3 [AF t]∧((Fd done).map AF).length=(Fd done).length∧(((Fd done).map AF).length+[AF t].length)*48≤140737488355328∧((Fd done).map AF).length+[AF t].length≤9223372036854775807 :=
     ⟨⟨rfl,trivial⟩,by rw[Lm],by rw[Lm,AD];omega,by rw[Lm,AD];omega⟩
    refine Yi (Nz rfl) ?_;refine Yi Gp ?_;have hk:Fd (done++[t])=Fd done++[t]:=by unfold Fd;rw[El,DK,Aw (by rw[h2];rfl)];rfl
    have e1:AV.msl 4 (((Fd done).map AF).length+[AF t].length)=.msl 4 (Fd (done++[t])).length:=by rw[hk];simp
    have e2:HO.arr 3 ((Fd done).map AF++[AF t])=RY (Fd (done++[t])):=by rw[hk];simp
    refine Xi ⟨(done++[t],r,some (ML t)),T4,xQ⟩ ?_;exact⟨WO,⟨⟨e1,rfl⟩,Zr,Tv⟩,⟨⟨e2,rfl⟩,Zr,Tv⟩,Fh,Tv⟩
   ·rw[h2]at ha;refine Xi .pure (Xi _ (Yi (ha) ?_));have hk:Fd (done++[t])=Fd done:=by unfold Fd;rw[El,DK,Ah (by rw[h2];decide)];simp
    have e1:AV.msl 4 (Fd done).length=.msl 4 (Fd (done++[t])).length:=by rw[hk]
    have e2:RY (Fd done)=RY (Fd (done++[t])):=by rw[hk]
    refine Xi ⟨(done++[t],r,some (ML t)),T4,xQ⟩ ?_;exact⟨WO,⟨⟨e1,rfl⟩,Zr,Tv⟩,⟨⟨e2,rfl⟩,Zr,Tv⟩,Fh,Tv⟩
end Go.Eng
