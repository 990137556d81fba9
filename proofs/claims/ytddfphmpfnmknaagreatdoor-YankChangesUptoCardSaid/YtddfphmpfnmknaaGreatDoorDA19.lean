/- Lemmas for the claims of this seat, without a condition: part 19 (C16, C17, C18, C19, C20, C21, C22, C23). -/
import Derived.Test.YtddfphmpfnmknaaGreatDoorDA18
import Derived.Test.YtddfphmpfnmknaaGreatDoorDA02
namespace Go.Eng
open Go.Proofs
theorem A6.imp{P:Program}{f:Nat}{args:List AV}{h0:Nat→HO}{Q Q' : AV→(Nat→HO)→Prop}(h:A6 P f args h0 Q)(hq:∀r h',Q r h'→Q' r h'):A6 P f args h0 Q':=h.mono fun r h' q=>⟨r,.refl _,hq r h' q⟩
theorem A6.to{P:Program}{f:Nat}{args:List AV}{h0:Nat→HO}{α:Type}{r0:AV}{p:α→Prop}{H:α→Nat→HO}{Q' : AV→(Nat→HO)→Prop}(h:A6 P f args h0 fun r h'=>r=r0∧∃x,p x∧h'=H x)(k:∀x,p x→Q' r0 (H x)):A6 P f args h0 Q' :=
 h.imp fun r h' ⟨e1,x,e2,e3⟩=>by subst e1;subst e3;exact k x e2
theorem nw(n:Nat)(h:n≤1073741824):∃lim:Nat,lim<100∧PC 98 [.v (.int .u64 (IntKind.u64.wrap (n:Int)))] (vi lim):=by
 refine⟨Lib.bitLen n,Nat.lt_of_le_of_lt (Lib.bitLen_le n 62 (by omega) (by omega)) (by omega),?_⟩;have wr:IntKind.u64.wrap (n:Int)=n:=by simp[IntKind.wrap,IntKind.bits,IntKind.signed];omega
 rw[wr];refine Lp [.int .u64 n] (.int .i64 (Lib.bitLen n:Nat)) (dZ 98 Tryz.func98 (by kernel_rfl) rfl) rfl (fun _ _=>.v _ _) fun w _=>?_
 have:=Any.bits_Len Tryz.layBits (n:Int) w (by omega) (by omega)
 rw[Bj]at this;exact this
theorem u9(l:List (Int×Int))(hl:Cp l)(h:∀x∈l,0≤x.1∧x.1≤1000000) :
  A6 Tryz.prog 168 [.msl 1000 l.length,.v (UC 169)] (Ak [(1000,.arr 2 (l.map Af))] Aa) fun r h' =>
   r=.tup []∧∃l' : List (Int×Int),(l'.Perm l∧l'.Pairwise (fun x y=>x.1≤y.1))∧h'=Ak [(1000,.arr 2 (l'.map Af))] Aa:=by
 obtain⟨lim,X7,hb⟩:=nw l.length hl;refine BW (Lg E4) [(1000,1000)] rfl Cw hm rfl Tryz.func168 (by kernel_rfl) rfl (Nz rfl) (by kernel_rfl) rfl ?_;refine Xi .pure (Xi _ (Yi (hb) ?_));refine Xi (.gen [(1000,1000)] 0) (Yi rfl ((vt l hl h lim X7).imp ?_));intro r h' hq;refine Br hq.2 (fun l' Qc=>?_);refine Xi (.tup []) (Yi ?_ (Yi rfl (Xi l' (Yi ⟨Qc.1,Qc.2.1⟩ ?_))))
 ·exact .refl _
 ·rw[Qc.2.2];rfl
theorem c61(l:List Tm)(hl:Cp l) :
  A6 Tryz.prog 218 [.msl 1000 l.length,.v (UC 219)] (Ak [(1000,.arr 3 (l.map AH))] Aa) fun r h' =>
   r=.tup []∧∃l' : List Tm,(l'.Perm l∧l'.Pairwise (fun x y=>Eg y.path x.path=false))∧h'=Ak [(1000,.arr 3 (l'.map AH))] Aa:=by
 obtain⟨lim,X7,hb⟩:=nw l.length hl;refine BW (Lg E4) [(1000,1000)] rfl Cw hm rfl Tryz.func218 (by kernel_rfl) rfl (Nz rfl) (by kernel_rfl) rfl ?_;refine Xi .pure (Xi _ (Yi (hb) ?_));refine Xi (.gen [(1000,1000)] 0) (Yi rfl ((uR l hl lim X7).imp ?_));intro r h' hq;refine Br hq.2 (fun l' Qc=>?_);refine Xi (.tup []) (Yi ?_ (Yi rfl (Xi l' (Yi ⟨Qc.1,Qc.2.1⟩ ?_))))
 ·exact .refl _
 ·rw[Qc.2.2];rfl
abbrev pla(l:List (Nat×Nat))(cut:List Nat):RE:=⟨[],[],l,[],[],[],[],[],[],[],cut⟩
abbrev FP(l:List (Int×Int)):HO:=.arr 2 (l.map Af)
theorem SN(l:Ba)(i:Nat):(CE (l.take i)).length≤i:=by
 unfold CE
 have:=Bv (fun x:Int×Int=>decide (x.1<x.2)) ((l.take i).map Ee)
 rw[Lm,AC]at this;omega
theorem PU{l:Ba}{i:Nat}(h:i<l.length)(h3:(Ee l[i]).1<(Ee l[i]).2):CE (l.take (i+1))=CE (l.take i)++[Ee l[i]]:=by
 rw[Bk,Ge h,OE];unfold CE;simp[h3]
theorem SM{l:Ba}{i:Nat}(h:i<l.length)(h3:¬(Ee l[i]).1<(Ee l[i]).2):CE (l.take (i+1))=CE (l.take i):=by
 rw[Bk,Ge h,OE];unfold CE;simp[h3]
abbrev arr2(s j:Ba)(i:Nat):Ba:=(Bq (s.take i)).reverse++(j++s.drop i)
theorem jW(s j:Ba)(i:Nat)(h:i<s.length)(hj:(Bq (s.take i)).length+j.length=i):(arr2 s j i)[i]?=some s[i]:=by
 unfold arr2;rw[AW (by rw[Db];omega),AW (by rw[Db];omega),Db,DD];rw[show i+(i-(Bq (List.take i s)).length-j.length)=i by omega,Ge h]
theorem bT(s j:Ba)(i:Nat){y:Int×Int}{t:Ba}(e:Bq (s.take i)=y::t):(arr2 s j i)[t.length]?=some y:=by
 unfold arr2;rw[e,ER,BM,AW (by rw[Db];omega),Db,ES];rfl
theorem eY(s j:Ba)(i:Nat)(h:i≤s.length)(hj:(Bq (s.take i)).length+j.length=i):(arr2 s j i).length=s.length:=by
 unfold arr2;simp only[Ae,Db,Cu];omega
theorem aG{α:Type}(s:List α)(i:Nat)(h:i<s.length):s.drop i=s[i]::s.drop (i+1):=A7 h
theorem UY(s j:Ba)(i:Nat)(h:i<s.length)(e:JJ (Bq (s.take i)) s[i]=s[i]::Bq (s.take i)) :
  (arr2 s j i).set (Bq (s.take i)).length s[i]=arr2 s (j++[s[i]]).tail (i+1):=by
 unfold arr2;rw[Fv s i h,e,ER,Lw _ _ (by rw[Db];exact Al _),Db,ES,BM,aG s i h]
 congr 1
 cases j with
 |nil=>rfl
 |cons a b=>simp
theorem bS(s j:Ba)(i:Nat)(h:i<s.length){y:Int×Int}{t:Ba}(e:Bq (s.take i)=y::t)(He:s[i].1≤y.2) :
  (arr2 s j i).set t.length (y.1,max y.2 s[i].2)=arr2 s (j++[s[i]]) (i+1):=by
 unfold arr2;have e2:JJ (y::t) s[i]=(y.1,max y.2 s[i].2)::t:=by show(if s[i].1≤y.2 then _ else _)=_;rw[Ap He]
 rw[Fv s i h,e,e2,ER,ER,BM,Lw _ _ (by rw[Db];exact Al _),Db,ES,aG s i h];simp
theorem CC{α:Type}{enc:α→List AV}{l:List α}{i:Nat}{x:α}(h:l[i]?=some x):(l.map enc)[i]?=some (enc x):=by rw[AI,h];rfl
theorem Xz(l:List (Int×Int))(hl:Cp l):PC 116 [sl Af l] (sl Af (canon l)):=by
 have hl:l.length≤1073741824:=hl;refine Gi (dY (pla [(3,2)] [5,14,15,16])) rfl Cw hm rfl Tryz.func116 (by kernel_rfl) rfl (Nz rfl) (by kernel_rfl) ?_;refine Xi {i:Nat // i≤l.length} (Xi (fun i=>⟨[(0,sl Af l),(3,.msl 3 (CE (l.take i.1)).length),(9,sl Af l),(10,vi (l.map Af).length),(11,vi i.1)],[(3,FP (CE (l.take i.1)))],Aa⟩) (Xi (fun i=>l.length-i.1) (Yi (Xi ⟨0,by simp⟩ ?_) ?_)))
 ·exact⟨Z5,Z1,Fh,Tv⟩
 ·intro⟨i,h1⟩;have hn:=SN l i;refine Yi ?_ ?_
  ·intro h;have h:(i:Int)<(l.map Af).length:=h;have h:i<l.length:=by simpa using h
   have hg:l[i]?=some l[i]:=Ge h;refine Xi (Af l[i]) (Yi (Yi (Nn i) (by simp[hg])) (Yi rfl ?_));refine Yi (Nz rfl) (Yi (Nz rfl) ?_);refine Xi ⟨[(0,sl Af l),(3,.msl 3 (CE (l.take i)).length),(5,.ref 5 0),(9,sl Af l),(10,vi (l.map Af).length),(11,vi i)],[(3,FP (CE (l.take i))),(5,.cells (Af l[i]))],Aa⟩ (Yi ⟨Z6,Z2,Fh,Tv⟩ ?_)
   refine Yi (Nz rfl) ?_;refine Yi ?_ ?_
   ·intro h3;have h3:(Ee l[i]).1<(Ee l[i]).2:=h3;refine Yi (Nz rfl) ?_;have Gv:CQ 2 [[vi (max l[i].1 0),vi (min l[i].2 1000000)]]∧((CE (l.take i)).map Af).length=(CE (l.take i)).length∧(((CE (l.take i)).map Af).length+[[vi (max l[i].1 0),vi (min l[i].2 1000000)]].length)*16≤140737488355328∧((CE (l.take i)).map Af).length+[[vi (max l[i].1 0),vi (min l[i].2 1000000)]].length≤9223372036854775807 :=
     ⟨⟨rfl,trivial⟩,by rw[Lm],by rw[Lm,AG];omega,by rw[Lm,AG];omega⟩
    refine Yi Gv ?_;refine Yi (Ii i (by omega)) ?_;refine Xi ⟨i+1,by omega⟩ ?_;have e1:AV.msl 3 (((CE (l.take i)).map Af).length+[[vi (max l[i].1 0),vi (min l[i].2 1000000)]].length)=.msl 3 (CE (l.take (i+1))).length:=by rw[PU h h3];simp
    have e2:HO.arr 2 ((CE (l.take i)).map Af++[[vi (max l[i].1 0),vi (min l[i].2 1000000)]])=FP (CE (l.take (i+1))):=by rw[PU h h3];simp[Ee]
    exact⟨Dl l.length i (by omega),⟨Zr,⟨e1,rfl⟩,Zr,Zr,Zr,Tv⟩,⟨⟨e2,rfl⟩,Tv⟩,Fh,Tv⟩
   ·intro h3;have h3:¬(Ee l[i]).1<(Ee l[i]).2:=h3;refine Yi (Ii i (by omega)) ?_;refine Xi ⟨i+1,by omega⟩ ?_;have e1:AV.msl 3 (CE (l.take i)).length=.msl 3 (CE (l.take (i+1))).length:=by rw[SM h h3]
    have e2:FP (CE (l.take i))=FP (CE (l.take (i+1))):=by rw[SM h h3]
    exact⟨Dl l.length i (by omega),⟨Zr,⟨e1,rfl⟩,Zr,Zr,Zr,Tv⟩,⟨⟨e2,rfl⟩,Tv⟩,Fh,Tv⟩
  ·intro h;have h:¬(i:Int)<(l.map Af).length:=h;have h:¬i<l.length:=by simpa using h
   have ei:CE (l.take i)=CE l:=by rw[Aw (by omega)]
   have hN:(CE (l.take i)).length=(CE l).length:=by rw[ei]
   refine Xi (.gen [(3,1000)] 0) (Yi rfl ((u9 (CE (l.take i)) (by unfold Cp;omega) (fun x hx=>by have:=Va hx;omega)).to ?_));intro s hs;have WQ:s.length=(CE (l.take i)).length:=hs.1.length_eq;have hsN:s.length≤1073741824:=by omega
   have fin:(Bq s).reverse=canon l:=LA (by rw[←ei];exact hs.1) hs.2;refine Xi {p:Nat×Ba // p.1≤s.length∧(Bq (s.take p.1)).length+p.2.length=p.1} (Xi (fun p=>⟨[(3,.msl 3 (CE (l.take i)).length),(6,vi (Bq (s.take p.1.1)).length),(34,.msl 3 (CE (l.take i)).length),(35,vi (CE (l.take i)).length),(36,vi p.1.1)],[(3,FP (arr2 s p.1.2 p.1.1))],Aa⟩) (Xi (fun p=>s.length-p.1.1) (Yi (Xi ⟨(0,[]),AD _,rfl⟩ ?_) ?_)))
   ·exact⟨Z5,Z1,Fh,Tv⟩
   intro⟨⟨k,j⟩,k1,k2⟩;have k1:k≤s.length:=k1;have k2:(Bq (s.take k)).length+j.length=k:=k2;have CB:=eY s j k k1 k2;have Tu:(CE (l.take i)).length=((arr2 s j k).map Af).length:=by rw[Lm,CB,WQ]
   refine Yi ?_ ?_
   ·intro h2;have h2:(k:Int)<(CE (l.take i)).length:=h2;have hk:k<s.length:=by omega
    have RI:=CC (enc:=Af) (jW s j k hk k2);refine Yi ⟨by show(0:Int)≤k;omega,by show(k:Int)<_;omega⟩ ?_;refine Yi Tu (Xi (Af s[k]) (Yi RI (Yi (Nz rfl) (Yi (Nz rfl) ?_))));refine Xi ⟨[(3,.msl 3 (CE (l.take i)).length),(6,vi (Bq (s.take k)).length),(7,vi k),(8,.ref 8 0),(34,.msl 3 (CE (l.take i)).length),(35,vi (CE (l.take i)).length),(36,vi k)],[(3,FP (arr2 s j k)),(8,.cells (Af s[k]))],Aa⟩ (Yi ⟨Z7,Z2,Fh,Tv⟩ ?_)
    have hr:=N4 s k k1;refine BT (Nat.eq_zero_or_pos k) (fun k0=>?_) (fun k0=>?_)
    ·refine Yi ?_ ?_
     ·intro h4;have h4:(0:Int)<k:=h4;omega
     ·intro _;refine Yi (by kernel_rfl) ?_;have Jy:JJ (Bq (s.take k)) s[k]=s[k]::Bq (s.take k):=by subst k0;rfl
      have ee:(Bq (s.take k)).length<(arr2 s j k).length:=by omega
      have hz:=CC (enc:=Af) (Ge ee);refine Xi ⟨[(3,.msl 3 (CE (l.take i)).length),(6,vi (Bq (s.take k)).length),(8,.ref 8 0),(34,.msl 3 (CE (l.take i)).length),(35,vi (CE (l.take i)).length),(36,vi k)],[(3,FP (arr2 s j k)),(8,.cells (Af s[k]))],Aa⟩ (Yi ⟨⟨⟨rfl,rfl⟩,⟨rfl,rfl⟩,⟨rfl,rfl⟩,⟨rfl,rfl⟩,⟨rfl,rfl⟩,⟨rfl,rfl⟩,Tv⟩,⟨⟨rfl,rfl⟩,⟨rfl,rfl⟩,Tv⟩,Fh,Tv⟩ ?_);refine Yi (Nz rfl) (Yi ⟨by show(0:Int)≤((Bq (s.take k)).length:Int);omega,by show((Bq (s.take k)).length:Int)<_;omega⟩ ?_);refine Yi Tu (Xi (Af (arr2 s j k)[(Bq (s.take k)).length]) (Yi hz (Yi (Nz rfl) ?_)));refine Yi (by show Bi (((Bq (s.take k)).length:Int)+1);unfold Bi;omega) ?_;refine Yi (Ii k (by omega)) ?_;have hm:=Fv s k hk;have e1:vi (((Bq (s.take k)).length:Int)+1)=vi (Bq (s.take (k+1))).length:=by rw[hm,Jy];simp
      have e2:HO.arr 2 (((arr2 s j k).map Af).set (Bq (s.take k)).length [vi s[k].1,vi s[k].2])=FP (arr2 s (j++[s[k]]).tail (k+1)):=by rw[←UY s j k hk Jy];simp only[FP,EQ]
      refine Xi ⟨(k+1,(j++[s[k]]).tail),by show k+1≤s.length;omega,by show(Bq (s.take (k+1))).length+((j++[s[k]]).tail).length=k+1;rw[hm,Jy];simp;omega⟩ ?_;exact⟨Dl s.length k (by omega),⟨Zr,⟨e1,rfl⟩,Zr,Zr,Zr,Tv⟩,⟨⟨e2,rfl⟩,Tv⟩,Fh,Tv⟩
    ·refine Yi ?_ ?_
     ·intro _;obtain⟨y,t,e⟩:∃y t,Bq (s.take k)=y::t:=by
       cases hc:Bq (s.take k)with
       |nil=>have:=hr.2 k0;rw[hc]at this;simp at this
       |cons y t=>exact⟨y,t,rfl⟩
      have ht:(((Bq (s.take k)).length:Int)-1).toNat=t.length:=by rw[e];simp
      have hy:((arr2 s j k).map Af)[(((Bq (s.take k)).length:Int)-1).toNat]?=some (Af y):=by rw[ht];exact CC (bT s j k e)
      refine Yi (by show Bi (((Bq (s.take k)).length:Int)-1);unfold Bi;omega) ?_;have ZJ:=hr.2 k0;refine Yi ⟨by show(0:Int)≤((Bq (s.take k)).length:Int)-1;omega,by show((Bq (s.take k)).length:Int)-1<_;omega⟩ ?_;refine Yi Tu (Xi (Af y) (Yi hy ?_));refine Yi ?_ ?_
      ·intro h5;have h5:s[k].1≤y.2:=h5;refine Yi (by kernel_rfl) ?_;refine Xi ⟨[(3,.msl 3 (CE (l.take i)).length),(6,vi (Bq (s.take k)).length),(8,.ref 8 0),(34,.msl 3 (CE (l.take i)).length),(35,vi (CE (l.take i)).length),(36,vi k)],[(3,FP (arr2 s j k)),(8,.cells (Af s[k]))],Aa⟩ (Yi ⟨⟨⟨rfl,rfl⟩,⟨rfl,rfl⟩,⟨rfl,rfl⟩,⟨rfl,rfl⟩,⟨rfl,rfl⟩,⟨rfl,rfl⟩,Tv⟩,⟨⟨rfl,rfl⟩,⟨rfl,rfl⟩,Tv⟩,Fh,Tv⟩ ?_);refine Yi (by show Bi (((Bq (s.take k)).length:Int)-1);unfold Bi;omega) (Yi (by show Bi (((Bq (s.take k)).length:Int)-1);unfold Bi;omega) ?_);refine Yi ⟨by show(0:Int)≤((Bq (s.take k)).length:Int)-1;omega,by show((Bq (s.take k)).length:Int)-1<_;omega⟩ ?_;refine Yi Tu (Xi (Af y) (Yi hy ?_));refine Yi ⟨by show(0:Int)≤((Bq (s.take k)).length:Int)-1;omega,by show((Bq (s.take k)).length:Int)-1<_;omega⟩ ?_;refine Yi Tu (Xi (Af y) (Yi hy (Yi (Nz rfl) ?_)));refine Yi (by kernel_rfl) ?_;refine Yi (Ii k (by omega)) ?_;have hm:=Fv s k hk;have Jy:JJ (Bq (s.take k)) s[k]=(y.1,max y.2 s[k].2)::t:=by rw[e];show(if s[k].1≤y.2 then _ else _)=_;rw[Ap h5]
       have e1:vi (Bq (s.take k)).length=vi (Bq (s.take (k+1))).length:=by rw[hm,Jy,e];simp
       have e2:HO.arr 2 (((arr2 s j k).map Af).set (((Bq (s.take k)).length:Int)-1).toNat [vi y.1,vi (max y.2 s[k].2)])=FP (arr2 s (j++[s[k]]) (k+1)):=by rw[←bS s j k hk e h5,ht];simp only[FP,EQ]
       refine Xi ⟨(k+1,j++[s[k]]),by show k+1≤s.length;omega,by show(Bq (s.take (k+1))).length+(j++[s[k]]).length=k+1;rw[hm,Jy,Ae,AG];rw[e]at k2;simp only[Az]at k2⊢;omega⟩ ?_;exact⟨Dl s.length k (by omega),⟨Zr,⟨e1,rfl⟩,Zr,Zr,Zr,Tv⟩,⟨⟨e2,rfl⟩,Tv⟩,Fh,Tv⟩
      ·intro h5;have h5:¬s[k].1≤y.2:=h5;refine Yi (by kernel_rfl) ?_;have Jy:JJ (Bq (s.take k)) s[k]=s[k]::Bq (s.take k):=by rw[e];show(if s[k].1≤y.2 then _ else _)=_;rw[Aj h5]
       have ee:(Bq (s.take k)).length<(arr2 s j k).length:=by omega
       have hz:=CC (enc:=Af) (Ge ee);refine Xi ⟨[(3,.msl 3 (CE (l.take i)).length),(6,vi (Bq (s.take k)).length),(8,.ref 8 0),(34,.msl 3 (CE (l.take i)).length),(35,vi (CE (l.take i)).length),(36,vi k)],[(3,FP (arr2 s j k)),(8,.cells (Af s[k]))],Aa⟩ (Yi ⟨⟨⟨rfl,rfl⟩,⟨rfl,rfl⟩,⟨rfl,rfl⟩,⟨rfl,rfl⟩,⟨rfl,rfl⟩,⟨rfl,rfl⟩,Tv⟩,⟨⟨rfl,rfl⟩,⟨rfl,rfl⟩,Tv⟩,Fh,Tv⟩ ?_);refine Yi (Nz rfl) (Yi ⟨by show(0:Int)≤((Bq (s.take k)).length:Int);omega,by show((Bq (s.take k)).length:Int)<_;omega⟩ ?_);refine Yi Tu (Xi (Af (arr2 s j k)[(Bq (s.take k)).length]) (Yi hz (Yi (Nz rfl) ?_)));refine Yi (by show Bi (((Bq (s.take k)).length:Int)+1);unfold Bi;omega) ?_;refine Yi (Ii k (by omega)) ?_;have hm:=Fv s k hk;have e1:vi (((Bq (s.take k)).length:Int)+1)=vi (Bq (s.take (k+1))).length:=by rw[hm,Jy];simp
       have e2:HO.arr 2 (((arr2 s j k).map Af).set (Bq (s.take k)).length [vi s[k].1,vi s[k].2])=FP (arr2 s (j++[s[k]]).tail (k+1)):=by rw[←UY s j k hk Jy];simp only[FP,EQ]
       refine Xi ⟨(k+1,(j++[s[k]]).tail),by show k+1≤s.length;omega,by show(Bq (s.take (k+1))).length+((j++[s[k]]).tail).length=k+1;rw[hm,Jy];simp;omega⟩ ?_;exact⟨Dl s.length k (by omega),⟨Zr,⟨e1,rfl⟩,Zr,Zr,Zr,Tv⟩,⟨⟨e2,rfl⟩,Tv⟩,Fh,Tv⟩
     ·intro h4;have h4:¬(0:Int)<k:=h4;omega
   ·intro h2;have h2:¬(k:Int)<(CE (l.take i)).length:=h2;have hk:k=s.length:=by omega
    have hr:=N4 s k k1;have oH:((((arr2 s j k).map Af).take ((Bq (s.take k)).length:Int).toNat).drop 0)=(canon l).map Af:=by
     rw[Oo,Bj,←List.map_take,←fin];unfold arr2
     have:(Bq (s.take k)).length=(Bq (s.take k)).reverse.length:=by rw[Db]
     rw[this,List.take_left,hk,DM]
    refine Yi ⟨Tu,by show(0:Int)≤0;omega,by show(0:Int)≤((Bq (s.take k)).length:Int);omega,by show((Bq (s.take k)).length:Int)≤(((arr2 s j k).map Af).length:Int);omega,.inr ⟨rfl,by simp⟩⟩ ?_;exact .of_eq (Ac (AV.slice .none) oH)
end Go.Eng
namespace Go.Eng
open Go.Proofs Go.Sort
abbrev GM(z:Int):List AV:=[vi z]
theorem Qs{α:Type}[Inhabited α](enc:α→Value)(w:World)(b:Nat)(d:Array α):putRow enc w b 0 d=putRow id w b 0 (d.map enc):=by
 unfold putRow
 congr 1
 funext c
 unfold putCells;apply Array.ext
 ·simp
 ·intro i h1 h2;simp only[Array.getElem_mapIdx,Array.size_map]
  by_cases h:i<d.size
  ·rw[Ap (by omega),Ap (by omega)];rw[DE d (i-0) (by omega),DE (d.map enc) (i-0) (by simpa using h)];simp
  ·rw[Aj (by omega),Aj (by omega)]
theorem Vg(zs:List Int):(zs.map GM).flatten=(zs.map fun z=>Value.int .i64 z).map AV.v:=by
 induction zs with
 |nil=>rfl
 |cons z zs ih=>rw[AP,BC,ih];rfl
theorem M3(g:Gh)(w:World)(U:Nat→Prop)(vs:List Value)(h:∀x∈vs,x.oneCell'=true):CI g w U (vs.map .v) vs :=
 ⟨by simp,h,fun i av x q1 q2=>by
  rw[AI,q2]at q1;cases q1;exact .v _ _⟩
theorem Lr{g:Gh}{w:World}{U:Nat→Prop}{vs us:List Value}(h:CI g w U (vs.map .v) us):us=vs:=by
 apply Dj;intro i;have hl:=h.1;rw[Lm]at hl
 by_cases hi:i<vs.length
 ·have:=h.2.2 i (.v vs[i]) us[i] (by rw[AI,Ge hi];rfl) (Ge (by omega))
  rw[Ge hi,Ge (by omega),this.v_eq]
 ·rw[A4 (by omega),A4 (by omega)]
theorem vr(zs:List Int)(hl:Cp zs)(DF:zs≠[]) :
  A6 Tryz.prog 242 [.msl 1000 zs.length] (Ak [(1000,.arr 1 (zs.map GM))] Aa) fun r h' =>
   r=.tup []∧∃l' : List Int,(l'.Perm zs∧l'.Pairwise fun a b=>a≤b)∧h'=Ak [(1000,.arr 1 (l'.map GM))] Aa:=by
 have hl:zs.length≤1073741824:=hl;have hE:Gk Tryz.prog 242:=dZ 242 Tryz.func242 (by kernel_rfl) rfl;have Hq:=PP (P:=Tryz.prog) (f:=242) (es:=zs.map GM) (sz:=1) (rest:=[]) (Q:=fun FO=>∃l' : List Int,(l'.Perm zs∧l'.Pairwise fun a b=>a≤b)∧FO=l'.map GM) hE ?_ ?_
 ·rw[Lm]at Hq;refine⟨hE,fun g w vals q1 q2 q3=>(Hq.2 g w vals q1 q2 q3).mono fun _ _ ⟨v,r,h',g',e1,⟨e2,FO,⟨l',p1,p2⟩,p3⟩,rest⟩=>⟨v,r,h',g',e1,⟨e2,l',p1,by rw[p3,p2]⟩,rest⟩⟩
 ·intro e
  have:zs=[]:=by simpa using e
  exact absurd this DF
 ·intro g w b cap F hr hF hH hb;have re:F.toList=zs.map fun z=>Value.int .i64 z:=Lr (by rw[←Vg];exact hr);have gu:F=zs.toArray.map fun z=>Value.int .i64 z:=IN.1 (by rw[re];simp);have rf:Holds (Value.int .i64) w b 0 zs.toArray:=fun j hj=>by
   have:=hH j (by rw[gu];simpa using hj)
   refine⟨this.1.trans ?_,this.2⟩;rw[gu,DE _ j (by simpa using hj),DE _ j hj];simp
  have hc:=Any.slices_Sort_int Tryz.laySortInts b 0 cap zs w rf hb (by omega);rw[Lm];refine hc.mono ?_
  rintro e w' ⟨rfl,n,os,rfl⟩
  have I3:(zs.mergeSort fun x y=>decide (x≤y)).Perm zs:=List.mergeSort_perm _ _;have CB:=I3.length_eq;refine⟨rfl,(zs.mergeSort fun x y=>decide (x≤y)).toArray.map fun z=>Value.int .i64 z,(zs.mergeSort fun x y=>decide (x≤y)).map GM,n,os,?_,⟨_,⟨I3,?_⟩,rfl⟩,by simp[CB],fun cs hcs=>?_,fun g w _=>?_,by rw[Qs]⟩
  ·rw[gu];simp[CB]
  ·have:=List.pairwise_mergeSort (le:=fun x y:Int=>decide (x≤y)) (fun a b c h1 h2=>by simp only[Au]at *;omega) (fun a b=>by simp only[Cj,Au];omega) zs
   exact this.imp fun h=>A5 h
  ·obtain⟨x,_,rfl⟩:=Am.1 hcs;rfl
  ·rw[Vg];have e:((zs.mergeSort fun x y=>decide (x≤y)).toArray.map fun z=>Value.int .i64 z).toList=(zs.mergeSort fun x y=>decide (x≤y)).map fun z=>Value.int .i64 z:=by simp
   rw[e];exact M3 _ _ _ _ fun x hx=>by
    obtain⟨z,_,rfl⟩:=Am.1 hx;rfl
-- maps from numbers to numbers
abbrev W7:ET:=⟨false,[.int .i64]⟩
abbrev kI(z:Int):Value:=.int .i64 z
abbrev LP(p:Int×Int):Value×AV:=(kI p.1,vi p.2)
abbrev FA(s:Ba):List AV:=[sl Af s]
theorem Sc{m:List (Int×Int)}{k:Int}{a:AV}:(kI k,a)∈m.map LP↔∃v,(k,v)∈m∧a=vi v:=by
 rw[Am];constructor
 ·rintro⟨⟨k',v⟩,h1,h2⟩
  simp only[F1,Value.int.injEq,true_and]at h2;obtain⟨rfl,rfl⟩:=h2;exact⟨v,h1,rfl⟩
 ·rintro⟨v,h1,rfl⟩
  exact⟨(k,v),h1,rfl⟩
theorem Sf(m:List (Int×Int))(k v:Int):E7 (m.map LP) (kI k) (vi v)=(Lq m k v).map LP:=by
 unfold Lq
 by_cases h:(m.any fun p=>decide (p.1=k))=true
 ·rw[Ap h];obtain⟨p,h1,h2⟩:=Bc.1 h;have h2:=A5 h2
  have:(kI k,vi p.2)∈m.map LP:=Sc.2 ⟨p.2,by rw[←h2];exact h1,rfl⟩
  rw[Qm this,BQ,BQ];apply Be;intro q _;simp only[Function.comp]
  by_cases e:q.1=k
  ·simp[e]
  ·have:¬kI q.1=kI k:=fun c=>e (by injection c)
   simp[e]
 ·rw[Aj h]
  have:∀b,(kI k,b)∉m.map LP:=fun b hb=>by
   obtain⟨v,h1,_⟩:=Sc.1 hb;exact h (Bc.2 ⟨(k,v),h1,by simp⟩)
  rw[KM this,Ay];rfl
theorem OX{T:GK}{e:Nat}{B2:List (Value×AV)}{kx:Value}{K:AV→Prop}(a0 z0:AV)(h1:∀a,(kx,a)∈B2→a=a0)(hz:(∀a,(kx,a)∉B2)→a0=z0)(h2:K z0→Kq T e K)(k:K a0) :
  (∀a,(kx,a)∈B2→K a)∧((∀a,(kx,a)∉B2)→Kq T e K):=⟨fun a h=>by rw[h1 a h];exact k,fun hn=>h2 (hz hn▸k)⟩
theorem QL(m:List (Int×Int))(k:Int):(∀a,(kI k,a)∉m.map LP)→vi (Fx m k)=vi 0:=fun RL=>by
 rw[jw fun hk=>by
  obtain⟨p,hp,e⟩:=Am.1 hk;exact RL (vi p.2) (Sc.2 ⟨p.2,by rw[←e];exact hp,rfl⟩)]
theorem QK{m:List (Int×Int)}(hn:(Ff m).Nodup)(k:Int):∀a,(kI k,a)∈m.map LP→a=vi (Fx m k):=fun a h=>by
 obtain⟨v,h1,rfl⟩:=Sc.1 h;rw[jv hn h1]
theorem IA.bound{m:List (Int×Int)}{S:Ba}(h:IA m S)(k:Int):-(S.length:Int)≤Fx m k∧Fx m k≤S.length:=by
 rw[h.val]
 have:cF S k≤S.length:=List.countP_le_length
 have:cT S k≤S.length:=List.countP_le_length
 omega
theorem Zw(l:List Ba):(l.map canon).flatten.length≤l.length*1000000:=by
 induction l with
 |nil=>simp
 |cons s l ih =>
  rw[AP,BC,Ae,Az]
  have:=Il (Ck s)
  omega
theorem IA.few{m:List (Int×Int)}{S:Ba}(h:IA m S):m.length≤1000001:=by
 have:=Iy (m:=(List.range 1000001).map Int.ofNat) h.nd fun k hk=>by
  have:=h.rng k hk
  exact Am.2 ⟨k.toNat,List.mem_range.2 (by omega),by show(k.toNat:Int)=k;omega⟩
 unfold Ff at this;rw[Lm,Lm,QS]at this;exact this
theorem Vs(keep:Nat→Bool)(m:List (Int×Int))(B:List Int):∀n,(EE keep m B n).length≤n
 |0=>Al _
 |n+1=>by
  unfold EE
  have:=Vs keep m B n
  rw[Ae];split
  ·split<;>simp<;>omega
  ·simp;omega
end Go.Eng
namespace Go.Eng
open Go.Proofs
abbrev plC:RE:=⟨[],[(12,2)],[(44,1)],[],[],[],[],[],[],[],[8,9,15,23,25,26]⟩
theorem nD(F:AV)(keep:Nat→Bool)(l:List Ba)(hl:Cp l)(hs:∀s∈l,Cp s)(hid:∀h,UI h F=true)(hF:∀h (n:Int),0≤n→n≤l.length→PM Tryz.prog (str h F) [vi n] (vb (keep n.toNat)))
  (R:Ba) (hR:EM R) (hRh:∀p,has R p=(LO p&&keep (dX l p))):PC 209 [F,sl FA l] (sl Af R):=by
 have hl:l.length≤1073741824:=hl;refine Ps plC Tryz.func209 rfl (Nz rfl) ?_;refine Xi {p:Nat×List (Int×Int) // p.1≤l.length∧IA p.2 ((l.take p.1).map canon).flatten} (Xi (fun p=>⟨[(0,F),(5,.mref 15),(17,sl FA l),(18,vi (l.map FA).length),(19,vi p.1.1)],[(15,.map W7 (p.1.2.map LP))],Aa⟩) (Xi (fun p=>l.length-p.1.1) (Yi (Xi ⟨(0,qP),AD _,kg⟩ ?_) ?_)))
 ·have e0:HO.map W7 (E7 (E7 [] (kI 0) (vi 0)) (kI 1000000) (vi 0))=.map W7 (qP.map LP):=by
   have e1:=Sf [] 0 0;have e2:=Sf [(0,0)] 1000000 0;show HO.map W7 (E7 (E7 (List.map LP []) (kI 0) (vi 0)) (kI 1000000) (vi 0))=_;rw[e1];show HO.map W7 (E7 (List.map LP [(0,0)]) (kI 1000000) (vi 0))=_;rw[e2];rfl
  exact⟨⟨⟨rfl,hid _⟩,Zr,Zr,Zr,Zr,Tv⟩,⟨⟨e0,rfl⟩,Tv⟩,Fh,Tv⟩
 intro⟨⟨i,cm⟩,i1,i2⟩;have i1:i≤l.length:=i1;have i2:IA cm ((l.take i).map canon).flatten:=i2;refine Yi ?_ ?_
 ·intro h;have h:(i:Int)<(l.map FA).length:=h;have h:i<l.length:=by simpa using h
  have hg:l[i]?=some l[i]:=Ge h;refine Xi (FA l[i]) (Yi (Yi (Nn i) (by simp[hg])) (Yi rfl ?_));refine Xi .pure (Xi _ (Yi (Xz l[i] (hs _ (At h))) ?_));refine Xi {p:Nat×List (Int×Int) // p.1≤(canon l[i]).length∧IA p.2 (((l.take i).map canon).flatten++(canon l[i]).take p.1)} (Xi (fun p=>⟨[(0,F),(5,.mref 15),(17,sl FA l),(18,vi (l.map FA).length),(19,vi i),(24,sl Af (canon l[i])),(25,vi ((canon l[i]).map Af).length),(26,vi p.1.1)],[(15,.map W7 (p.1.2.map LP))],Aa⟩) (Xi (fun p=>(canon l[i]).length-p.1.1) (Yi (Xi ⟨(0,cm),AD _,by rw[List.take_zero,BN];exact i2⟩ ?_) ?_)))
  ·exact⟨⟨⟨rfl,hid _⟩,Zr,Zr,Zr,Zr,Zr,Zr,Zr,Tv⟩,Z1,Fh,Tv⟩
  intro⟨⟨j,dm⟩,j1,j2⟩;have j1:j≤(canon l[i]).length:=j1;have j2:IA dm (((l.take i).map canon).flatten++(canon l[i]).take j):=j2;have hS:(((l.take i).map canon).flatten++(canon l[i]).take j).length≤1073741825000000:=by
   have a1:=Zw (l.take i);have a2:=Il (Ck l[i]);rw[AC]at a1;rw[Ae,AC];omega
  refine Yi ?_ ?_
  ·intro hj;have hj:(j:Int)<((canon l[i]).map Af).length:=hj;have hj:j<(canon l[i]).length:=by simpa using hj
   have pZ:(canon l[i])[j]?=some (canon l[i])[j]:=Ge hj;have mL:=(Ck l[i]).low _ (At hj);have j3:IA (YW dm (canon l[i])[j]) (((l.take i).map canon).flatten++(canon l[i]).take (j+1)):=by
    have:=dN j2 (x:=(canon l[i])[j]) mL
    rw[BM]at this;rw[Bk,pZ];exact this
   generalize (canon l[i])[j]=x at pZ mL j3;have b1:=j2.bound x.1;have ee:=Mk j2.nd x.1 (Fx dm x.1+1);refine Xi (Af x) (Yi (Yi (Nn j) (by simp[pZ])) (Yi rfl ?_));refine Yi (Nz rfl) (Yi (Nz rfl) ?_);refine Xi ⟨[(0,F),(5,.mref 15),(9,.ref 9 0),(17,sl FA l),(18,vi (l.map FA).length),(19,vi i),(24,sl Af (canon l[i])),(25,vi ((canon l[i]).map Af).length),(26,vi j)],[(9,.cells (Af x)),(15,.map W7 (dm.map LP))],Aa⟩ (Yi ⟨⟨⟨rfl,hid _⟩,Zr,Zr,Zr,Zr,Zr,Zr,Zr,Zr,Tv⟩,Z2,Fh,Tv⟩ ?_)
   refine OX (vi (Fx dm x.1)) (vi 0) (QK j2.nd x.1) (QL dm x.1) (fun q=>q) ?_;refine Yi (by show Bi (Fx dm x.1+1);unfold Bi;omega) ?_;have m1:HO.map W7 (E7 (dm.map LP) (kI x.1) (vi (Fx dm x.1+1)))=.map W7 ((Lq dm x.1 (Fx dm x.1+1)).map LP):=by rw[Sf]
   refine Xi ⟨[(0,F),(5,.mref 15),(9,.ref 9 0),(17,sl FA l),(18,vi (l.map FA).length),(19,vi i),(24,sl Af (canon l[i])),(25,vi ((canon l[i]).map Af).length),(26,vi j)],[(9,.cells (Af x)),(15,.map W7 ((Lq dm x.1 (Fx dm x.1+1)).map LP))],Aa⟩ (Yi ⟨⟨⟨rfl,hid _⟩,Zr,Zr,Zr,Zr,Zr,Zr,Zr,Zr,Tv⟩,⟨Zr,⟨m1,rfl⟩,Tv⟩,Fh,Tv⟩ ?_)
   have b2:-(1073741825000001:Int)≤Fx (Lq dm x.1 (Fx dm x.1+1)) x.2∧Fx (Lq dm x.1 (Fx dm x.1+1)) x.2≤1073741825000001:=by
    have b3:=j2.bound x.2;rw[PG];split<;>omega
   refine OX (vi (Fx (Lq dm x.1 (Fx dm x.1+1)) x.2)) (vi 0) (QK ee x.2) (QL _ x.2) (fun q=>q) ?_;refine Yi (by show Bi (Fx (Lq dm x.1 (Fx dm x.1+1)) x.2-1);unfold Bi;omega) ?_;have hcl:=Il (Ck l[i]);refine Yi (Ii j (by omega)) ?_;have m2:HO.map W7 (E7 ((Lq dm x.1 (Fx dm x.1+1)).map LP) (kI x.2) (vi (Fx (Lq dm x.1 (Fx dm x.1+1)) x.2-1)))=.map W7 ((YW dm x).map LP):=by rw[Sf];rfl
   refine Xi ⟨(j+1,YW dm x),by show j+1≤_;omega,j3⟩ ?_;exact⟨by show(canon l[i]).length-(j+1)<(canon l[i]).length-j;omega,⟨⟨rfl,hid _⟩,Zr,Zr,Zr,Zr,Zr,Zr,Zr,Tv⟩,⟨⟨m2,rfl⟩,Tv⟩,Fh,Tv⟩
  ·intro hj;have hj:¬(j:Int)<((canon l[i]).map Af).length:=hj;have hj:¬j<(canon l[i]).length:=by simpa using hj
   refine Yi (Ii i (by omega)) ?_;have i3:IA dm ((l.take (i+1)).map canon).flatten:=by
    have e1:(canon l[i]).take j=canon l[i]:=Aw (by omega);rw[e1]at j2;have e2:((l.take (i+1)).map canon).flatten=((l.take i).map canon).flatten++canon l[i]:=by
     rw[Bk,hg,Ay,CL];show _++(canon l[i]++[])=_;rw[BN]
    rw[e2];exact j2
   refine Xi ⟨(i+1,dm),by show i+1≤_;omega,i3⟩ ?_;exact⟨Dl l.length i (by omega),⟨⟨rfl,hid _⟩,Zr,Zr,Zr,Zr,Tv⟩,Z1,Fh,Tv⟩
 ·intro h;have h:¬(i:Int)<(l.map FA).length:=h;have h:¬i<l.length:=by simpa using h
  have i3:IA cm (l.map canon).flatten:=by
   rw[Aw (by omega)]at i2;exact i2
  have rG:=i3.few;have hmk:(0:Int)≤0∧(0:Int)≤((cm.map LP).length:Int)∧((cm.map LP).length:Int)*((8:Nat):Int)≤140737488355328∧((cm.map LP).length:Int)≤9223372036854775807:=by rw[Lm];omega
  refine Yi hmk ?_;refine Xi {p:List (Value×AV)×List Int×Option (Value×AV) // ((p.2.1.map kI)++p.1.map (·.1)).Perm ((cm.map LP).map (·.1))∧∀kv∈p.1,kv∈cm.map LP} (Xi (fun p=>⟨[(0,F),(5,.mref 15),(10,.msl 44 p.1.2.1.length),(46,.ref 46 0)],[(15,.rom W7 (cm.map LP)),(44,.arr 1 (p.1.2.1.map GM)),(46,.iter (cm.map LP) p.1.1 p.1.2.2)],Aa⟩) (Xi (fun p=>p.1.1.length) (Yi (Xi ⟨(cm.map LP,[],none),.refl _,fun _ h=>h⟩ ?_) ?_)))
  ·exact⟨⟨⟨rfl,hid _⟩,Zr,Zr,Zr,Tv⟩,Z3,Fh,Tv⟩
  intro⟨⟨rem,bs,FN⟩,r1,r2⟩;have r1:((bs.map kI)++rem.map (·.1)).Perm ((cm.map LP).map (·.1)):=r1;have r2:∀kv∈rem,kv∈cm.map LP:=r2;have hbl:bs.length≤1000001:=by
   have:=r1.length_eq
   simp only[Ae,Lm]at this;omega
  refine Yi ?_ ?_
  ·intro hr;have hr:rem=[]:=hr;subst hr;rw[Fg,BN,BQ]at r1;have xi:bs.Perm (Ff cm):=by
    have r1:(bs.map kI).Perm ((Ff cm).map kI):=by unfold Ff;rw[BQ];exact r1
    have:=r1.map (fun v:Value=>match v with | .int _ n=>n | _=>0)
    rw[BQ,BQ]at this;have e:((fun v:Value=>match v with | .int _ n=>n | _=>0) ∘ kI)=id:=rfl;rw[e,JU,JU]at this;exact this
   have DF:bs≠[]:=fun e=>by
    subst e
    have:=xi.length_eq
    have h0:=i3.keys.1;rw[AL this.symm]at h0;cases h0
   refine Xi (.gen [(44,1000)] 0) (Yi rfl ((vr bs (by unfold Cp;omega) DF).to ?_));intro B rd;have gq:B.length=bs.length:=rd.1.length_eq;have hBn:B.Nodup:=(rd.1.trans xi).nodup_iff.2 i3.nd;have hB:jS B cm:=⟨rd.1.trans xi,by
    rw[AZ];intro a b ha hb jI;have h1:=(AZ.1 rd.2) a b ha hb jI;have h2:B[a]≠B[b]:=(AZ.1 hBn) a b ha hb jI;omega⟩
   have zn:0<B.length:=by
    rw[gq];exact GY.2 DF
   have wv:bs.length=(B.map GM).length:=by rw[Lm,gq]
   refine Yi (by show Bi ((bs.length:Int)-1);unfold Bi;omega) ?_;refine Xi {k:Nat // k≤B.length-1} (Xi (fun k=>⟨[(0,F),(5,.mref 15),(10,.msl 44 bs.length),(12,.slice (.id 12 2) ((EE keep cm B k.1).map Af)),(13,vi (IM cm (B.take k.1))),(59,vi ((bs.length:Int)-1)),(60,vi k.1)],[(12,.tok 2 ((EE keep cm B k.1).map Af).length),(15,.rom W7 (cm.map LP)),(44,.arr 1 (B.map GM))],Aa⟩) (Xi (fun k=>B.length-k.1) (Yi (Xi ⟨0,AD _⟩ ?_) ?_)))
   ·exact⟨⟨⟨rfl,hid _⟩,Zr,Zr,Zr,Zr,Zr,Zr,Tv⟩,Z3,Fh,Tv⟩
   intro⟨k,k1⟩;have p7:=Vs keep cm B k;refine Yi ?_ ?_
   ·intro hk;have hk:(k:Int)<(bs.length:Int)-1:=hk;have Ia:k+1<B.length:=by omega
    have Vm:k<B.length:=by omega
    have RI:(B.map GM)[k]?=some (GM B[k]):=CC (Ge Vm);have wE:(B.map GM)[k+1]?=some (GM B[k+1]):=CC (Ge Ia);have RN:=QI cm B k Vm;have sf:=jl i3 hB k Vm;have Tt:EE keep cm B (k+1)=EE keep cm B k++(if keep (IM cm (B.take (k+1))).toNat then [(B[k],B[k+1])]else []):=by
     show _++(match B[k]?,B[k+1]? with | some a,some b=>if keep (IM cm (B.take (k+1))).toNat then [(a,b)]else [] | _,_=>[])=_;rw[Ge Vm,Ge Ia]
    refine Xi ⟨[(0,F),(5,.mref 15),(10,.msl 44 bs.length),(12,.slice (.id 12 2) ((EE keep cm B k).map Af)),(13,vi (IM cm (B.take k))),(14,vi k),(59,vi ((bs.length:Int)-1)),(60,vi k)],[(12,.tok 2 ((EE keep cm B k).map Af).length),(15,.rom W7 (cm.map LP)),(44,.arr 1 (B.map GM))],Aa⟩ (Yi ⟨⟨⟨rfl,hid _⟩,Zr,Zr,Zr,Zr,Zr,Zr,Zr,Tv⟩,Z3,Fh,Tv⟩ ?_)
    refine Yi ⟨by show(0:Int)≤k;omega,by show(k:Int)<bs.length;omega⟩ ?_;refine Yi wv (Xi (GM B[k]) (Yi RI ?_));refine OX (vi (Fx cm B[k])) (vi 0) (QK i3.nd B[k]) (QL cm B[k]) (fun q=>q) ?_;refine Yi (by show Bi (IM cm (B.take k)+Fx cm B[k]);rw[←RN];unfold Bi;omega) ?_;have Eb:∀h,PM Tryz.prog (str h F) [vi (IM cm (B.take k)+Fx cm B[k])] (vb (keep (IM cm (B.take (k+1))).toNat)):=fun h=>by
     rw[←RN];exact hF h _ sf.1 sf.2
    refine BT (Bt (keep (IM cm (B.take (k+1))).toNat)) (fun hp=>?_) (fun hp=>?_)
    ·rw[hp]at Eb;rw[hp,Ap rfl]at Tt;refine Xi .pure (Xi (vb true) (Yi (Eb _) ?_));refine Xi ⟨[(0,F),(5,.mref 15),(10,.msl 44 bs.length),(12,.slice (.id 12 2) ((EE keep cm B k).map Af)),(13,vi (IM cm (B.take k)+Fx cm B[k])),(14,vi k),(59,vi ((bs.length:Int)-1)),(60,vi k)],[(12,.tok 2 ((EE keep cm B k).map Af).length),(15,.rom W7 (cm.map LP)),(44,.arr 1 (B.map GM))],Aa⟩ (Yi ⟨⟨⟨rfl,hid _⟩,Zr,Zr,Zr,Zr,Zr,Zr,Zr,Tv⟩,Z3,Fh,Tv⟩ ?_)
     have b1:(0:Int)≤(k:Int)+1∧(k:Int)+1<bs.length:=by omega
     have wF:(B.map GM)[((k:Int)+1).toNat]?=some (GM B[k+1]):=by rw[show((k:Int)+1).toNat=k+1 by omega];exact wE
     refine Yi ⟨by show(0:Int)≤k;omega,by show(k:Int)<bs.length;omega⟩ ?_;refine Yi wv (Xi (GM B[k]) (Yi RI ?_));refine Yi (Ii k (by omega)) ?_;refine Yi b1 ?_;refine Yi wv (Xi (GM B[k+1]) (Yi wF ?_));have Gv:CQ 2 [[vi B[k],vi B[k+1]]]∧((EE keep cm B k).map Af).length=((EE keep cm B k).map Af).length∧(((EE keep cm B k).map Af).length+[[vi B[k],vi B[k+1]]].length)*16≤140737488355328∧((EE keep cm B k).map Af).length+[[vi B[k],vi B[k+1]]].length≤9223372036854775807 :=
      ⟨⟨rfl,trivial⟩,rfl,by rw[Lm,AG];omega,by rw[Lm,AG];omega⟩
     refine Yi Gv ?_;refine Yi (by kernel_rfl) ?_;refine Xi ⟨[(0,F),(5,.mref 15),(10,.msl 44 bs.length),(12,.slice (.id 12 2) ((EE keep cm B k).map Af++[[vi B[k],vi B[k+1]]])),(13,vi (IM cm (B.take k)+Fx cm B[k])),(59,vi ((bs.length:Int)-1)),(60,vi k)],[(12,.tok 2 (((EE keep cm B k).map Af).length+[[vi B[k],vi B[k+1]]].length)),(15,.rom W7 (cm.map LP)),(44,.arr 1 (B.map GM))],Aa⟩ (Yi ⟨⟨⟨rfl,hid _⟩,Zr,Zr,Zr,Zr,Zr,Zr,Tv⟩,Z3,Fh,Tv⟩ ?_)
     refine Yi (Ii k (by omega)) ?_;refine Xi ⟨k+1,by omega⟩ ?_;have e1:AV.slice (.id 12 2) ((EE keep cm B k).map Af++[[vi B[k],vi B[k+1]]])=.slice (.id 12 2) ((EE keep cm B (k+1)).map Af):=by rw[Tt,Ay];rfl
     have e2:vi (IM cm (B.take k)+Fx cm B[k])=vi (IM cm (B.take (k+1))):=by rw[RN]
     have e3:HO.tok 2 (((EE keep cm B k).map Af).length+[[vi B[k],vi B[k+1]]].length)=.tok 2 ((EE keep cm B (k+1)).map Af).length:=by rw[Tt,Ay,Ae];rfl
     exact⟨Dl B.length k (by omega),⟨⟨rfl,hid _⟩,Zr,Zr,⟨e1,rfl⟩,⟨e2,rfl⟩,Zr,Zr,Tv⟩,⟨⟨e3,rfl⟩,Zr,Zr,Tv⟩,Fh,Tv⟩
    ·rw[hp]at Eb;have Tt:EE keep cm B (k+1)=EE keep cm B k:=by rw[Tt,hp,Aj Bool.false_ne_true,BN]
     refine Xi .pure (Xi (vb false) (Yi (Eb _) ?_));refine Xi ⟨[(0,F),(5,.mref 15),(10,.msl 44 bs.length),(12,.slice (.id 12 2) ((EE keep cm B k).map Af)),(13,vi (IM cm (B.take k)+Fx cm B[k])),(59,vi ((bs.length:Int)-1)),(60,vi k)],[(12,.tok 2 ((EE keep cm B k).map Af).length),(15,.rom W7 (cm.map LP)),(44,.arr 1 (B.map GM))],Aa⟩ (Yi ⟨⟨⟨rfl,hid _⟩,Zr,Zr,Zr,Zr,Zr,Zr,Tv⟩,Z3,Fh,Tv⟩ ?_)
     refine Yi (Ii k (by omega)) ?_;refine Xi ⟨k+1,by omega⟩ ?_;have e1:AV.slice (.id 12 2) ((EE keep cm B k).map Af)=.slice (.id 12 2) ((EE keep cm B (k+1)).map Af):=by rw[Tt]
     have e2:vi (IM cm (B.take k)+Fx cm B[k])=vi (IM cm (B.take (k+1))):=by rw[RN]
     have e3:HO.tok 2 ((EE keep cm B k).map Af).length=.tok 2 ((EE keep cm B (k+1)).map Af).length:=by rw[Tt]
     exact⟨Dl B.length k (by omega),⟨⟨rfl,hid _⟩,Zr,Zr,⟨e1,rfl⟩,⟨e2,rfl⟩,Zr,Zr,Tv⟩,⟨⟨e3,rfl⟩,Zr,Zr,Tv⟩,Fh,Tv⟩
   ·intro hk;have hk:¬(k:Int)<(bs.length:Int)-1:=hk;have Ia:k=B.length-1:=by omega
    have wJ:canon (EE keep cm B k)=R:=by
     refine(SK hR fun p=>?_).symm;rw[Ia,hRh,ia i3 hB]
    have hc:=Xz (EE keep cm B k) (by unfold Cp;omega);rw[wJ]at hc;refine Xi .pure (Xi _ (Yi hc ?_));exact .refl _
  ·intro kv Oa hp;refine Br (Am.1 (r2 kv (hp.mem_iff.2 (Ab ..)))) (fun q hq=>?_);have hq2:=hq.2;subst hq2;refine Xi ⟨[(0,F),(5,.mref 15),(10,.msl 44 bs.length),(46,.ref 46 0)],[(15,.rom W7 (cm.map LP)),(44,.arr 1 (bs.map GM)),(46,.iter (cm.map LP) Oa (some (LP q)))],Aa⟩ (Yi ⟨⟨⟨rfl,hid _⟩,Zr,Zr,Zr,Tv⟩,Z3,Fh,Tv⟩ ?_)
   have Gv:CQ 1 [GM q.1]∧(bs.map GM).length=bs.length∧((bs.map GM).length+[GM q.1].length)*8≤140737488355328∧(bs.map GM).length+[GM q.1].length≤9223372036854775807 :=
    ⟨⟨rfl,trivial⟩,by rw[Lm],by rw[Lm,AG];omega,by rw[Lm,AG];omega⟩
   refine Yi Gv ?_;have e1:AV.msl 44 ((bs.map GM).length+[GM q.1].length)=.msl 44 (bs++[q.1]).length:=by simp
   have e2:HO.arr 1 (bs.map GM++[GM q.1])=.arr 1 ((bs++[q.1]).map GM):=by simp
   refine Xi ⟨(Oa,bs++[q.1],some (LP q)),?_,fun kv PL=>r2 kv (hp.mem_iff.2 (Ai _ PL))⟩ ?_
   ·show(((bs++[q.1]).map kI)++Oa.map (·.1)).Perm _;have h1:=hp.map (fun x:Value×AV=>x.1);rw[AP]at h1;rw[Ay,BM];exact(List.Perm.append_left _ h1.symm).trans r1
   ·exact⟨by show Oa.length<rem.length;rw[hp.length_eq];simp,⟨⟨rfl,hid _⟩,Zr,⟨e1,rfl⟩,Zr,Tv⟩,⟨Zr,⟨e2,rfl⟩,Zr,Tv⟩,Fh,Tv⟩
theorem u7(n:Int)(l:List Ba):PC 259 [vi n,.cptr [sl FA l]] (vb (decide (n=l.length))):=by
 refine Ps E4 Tryz.func259 rfl (Nz rfl) ?_;have e:((l.map FA).length:Int)=l.length:=by rw[Lm]
 refine Yi ?_ ?_
 ·intro h;have h:n=((l.map FA).length:Int):=h;rw[show decide (n=(l.length:Int))=true from Ar (h.trans e)];exact .refl _
 ·intro h;have h:¬n=((l.map FA).length:Int):=h;rw[show decide (n=(l.length:Int))=false from Ao (fun c=>h (c.trans e.symm))];exact .refl _
theorem vd(n:Int):PC 210 [vi n] (vb (decide (n=0))):=by
 refine Ps E4 Tryz.func210 rfl (Nz rfl) ?_;refine Yi ?_ ?_
 ·intro h;have h:n=0:=h;rw[Ar h];exact .refl _
 ·intro h;have h:¬n=0:=h;rw[Ao h];exact .refl _
theorem vS(n:Int):PC 245 [vi n] (vb (decide (0<n))):=by
 refine Ps E4 Tryz.func245 rfl (Nz rfl) ?_;refine Yi ?_ ?_
 ·intro h;have h:0<n:=h;rw[Ar h];exact .refl _
 ·intro h;have h:¬0<n:=h;rw[Ao h];exact .refl _
theorem g9(l:List Ba)(p:Int):decide (dX l p=l.length)=l.all fun s=>has s p:=by
 unfold dX;rw[BR,Au,List.countP_eq_length,AY]
theorem hJ(l:List Ba)(p:Int):decide (0<dX l p)=l.any fun s=>has s p:=by
 unfold dX;rw[BR,Au,List.countP_pos_iff,Bc]
theorem uQ(l:List Ba)(hl:Cp l)(hs:∀s∈l,Cp s):PC 243 [sl FA l] (sl Af (Qe l)):=by
 have hc:=nD (.clo 259 [.cptr [sl FA l]]) (fun n=>decide (n=l.length)) l hl hs (fun _=>rfl) (fun h n h0 _=>by
  have:=u7 n l
  have e:decide (n=(l.length:Int))=decide (n.toNat=l.length):=by rw[SV];omega
  rw[e]at this;exact this) (Qe l) (WT l) fun p=>by rw[To,g9]
 refine Ps (jP [1]) Tryz.func243 rfl (Nz rfl) ?_;refine Xi .pure (Xi _ (Yi (hc) ?_));exact .refl _
theorem nv(s:Ba)(hs:Cp s):PC 181 [sl Af s] (sl Af (Et s)):=by
 have hc:=nD (.v (UC 210)) (fun n=>decide (n=0)) [s] (by unfold Cp;simp) (fun t ht=>by rw[Aq.1 ht];exact hs) (fun _=>rfl) (fun h n h0 _=>by
  have:=vd n
  have e:decide (n=0)=decide (n.toNat=0):=by rw[SV];omega
  rw[e]at this;exact this) (Et s) (Hm s) fun p=>by
   rw[FS]
   have:dX [s] p=if has s p then 1 else 0:=by unfold dX;rw[IR];simp
   rw[this];cases has s p<;>rfl
 refine Ps E4 Tryz.func181 rfl (Nz rfl) ?_;refine Xi .pure (Xi _ (Yi (hc) ?_));exact .refl _
theorem vO(l:List Ba)(hl:Cp l)(hs:∀s∈l,Cp s):PC 220 [sl FA l] (sl Af (QJ l)):=by
 have hc:=nD (.v (UC 245)) (fun n=>decide (0<n)) l hl hs (fun _=>rfl) (fun h n h0 _=>by
  have:=vS n
  have e:decide (0<n)=decide (0<n.toNat):=by rw[SV];omega
  rw[e]at this;exact this) (QJ l) (Xa l) fun p=>by
   rw[Tp,hJ];cases h:l.any fun s=>has s p with
   |false=>simp
   |true =>
    obtain⟨s,_,h2⟩:=Bc.1 h
    have:=Ma h2
    simp[LO,this]
 refine Ps E4 Tryz.func220 rfl (Nz rfl) ?_;refine Xi .pure (Xi _ (Yi (hc) ?_));exact .refl _
-- terms
theorem c59(t:Tm)(ht:Cp t.set):PC 216 [.agg (AH t)] (vb (!t.absent&&(canon t.set).isEmpty)):=by
 refine Ps E4 Tryz.func216 rfl (Nz rfl) ?_;refine Yi ?_ ?_
 ·intro h;have h:t.absent=true:=h;rw[h];exact .refl _
 ·intro h;have h:t.absent=false:=h;refine Xi .pure (Xi _ (Yi (Xz t.set ht) ?_));refine Yi ?_ ?_
  ·intro h2;have h2:(((canon t.set).map Af).length:Int)=0:=h2;have h2:canon t.set=[]:=AL (by rw[Lm]at h2;omega);rw[h,h2];exact .refl _
  ·intro h2;have h2:¬(((canon t.set).map Af).length:Int)=0:=h2;have h2:(canon t.set).isEmpty=false:=by
    cases hc:canon t.set with
    |nil=>rw[hc]at h2;exact absurd rfl h2
    |cons _ _=>rfl
   rw[h,h2];exact .refl _
theorem c60(t:Tm)(ht:Cp t.set):PC 217 [.agg (AH t)] (vb (t.absent&&(Et t.set).isEmpty)):=by
 refine Ps E4 Tryz.func217 rfl (Nz rfl) ?_;refine Yi ?_ ?_
 ·intro h;have h:t.absent=true:=h;refine Xi .pure (Xi _ (Yi (nv t.set ht) ?_));refine Yi ?_ ?_
  ·intro h2;have h2:(((Et t.set).map Af).length:Int)=0:=h2;have h2:Et t.set=[]:=AL (by rw[Lm]at h2;omega);rw[h,h2];exact .refl _
  ·intro h2;have h2:¬(((Et t.set).map Af).length:Int)=0:=h2;have h2:(Et t.set).isEmpty=false:=by
    cases hc:Et t.set with
    |nil=>rw[hc]at h2;exact absurd rfl h2
    |cons _ _=>rfl
   rw[h,h2];exact .refl _
 ·intro h;have h:t.absent=false:=h;rw[h];exact .refl _
abbrev Hv(l:List Nat):RE:=⟨[],[],[],[],[],[],[],[],[],[],l⟩
theorem za(u t:Tm)(hu:Cp u.set)(ht:Cp t.set):PC 215 [.agg (AH u),.agg (AH t)] (.agg (AH (G3 u t))):=by
 have hc:PC 243 [sl FA [u.set,t.set]] (sl Af (Pc u.set t.set)):=uQ [u.set,t.set] (by unfold Cp;simp) (fun s hs=>by
  rcases AA.1 hs with rfl | hs
  ·exact hu
  ·rw[Aq.1 hs];exact ht)
 refine Ps (Hv [1]) Tryz.func215 rfl (Nz rfl) ?_;refine Xi ⟨[(2,.ref 2 0),(3,.ref 3 0),(4,.ref 4 0)],[(2,.cells (AH u)),(3,.cells (AH t)),(4,.cells [vs ⟨#[]⟩,vb false,.v (.slice none 0 0)])],Aa⟩ (Yi ⟨Z3,Z3,Fh,Tv⟩ ?_)
 refine Yi ?_ ?_
 ·intro h;have h:u.absent=true:=h;refine Yi ?_ ?_
  ·intro h2;have h2:t.absent=true:=h2;have e:[vs u.path,vb true,sl Af (Pc u.set t.set)]=AH (G3 u t):=by unfold G3;rw[h,h2];rfl
   refine Xi _ (Yi (hc) ?_);refine Yi (Nz rfl) (Yi (by kernel_rfl) (Yi (Nz rfl) ?_));exact .of_eq (Ac AV.agg e)
  ·intro h2;have h2:t.absent=false:=h2;have e:[vs u.path,vb false,sl Af (Pc u.set t.set)]=AH (G3 u t):=by unfold G3;rw[h,h2];rfl
   refine Xi _ (Yi (hc) ?_);refine Yi (Nz rfl) (Yi (by kernel_rfl) (Yi (Nz rfl) ?_));exact .of_eq (Ac AV.agg e)
 ·intro h;have h:u.absent=false:=h;have e:[vs u.path,vb false,sl Af (Pc u.set t.set)]=AH (G3 u t):=by unfold G3;rw[h];rfl
  refine Xi _ (Yi (hc) ?_);refine Yi (Nz rfl) (Yi (by kernel_rfl) (Yi (Nz rfl) ?_));exact .of_eq (Ac AV.agg e)
theorem vG(u t:Tm)(hu:Cp u.set)(ht:Cp t.set):PC 184 [.agg (AH u),.agg (AH t)] (.agg (AH (Dq u t))):=by
 have hc:PC 220 [sl FA [u.set,t.set]] (sl Af (PF u.set t.set)):=vO [u.set,t.set] (by unfold Cp;simp) (fun s hs=>by
  rcases AA.1 hs with rfl | hs
  ·exact hu
  ·rw[Aq.1 hs];exact ht)
 refine Ps (Hv [1]) Tryz.func184 rfl (Nz rfl) ?_;refine Xi ⟨[(2,.ref 2 0),(3,.ref 3 0),(4,.ref 4 0)],[(2,.cells (AH u)),(3,.cells (AH t)),(4,.cells [vs ⟨#[]⟩,vb false,.v (.slice none 0 0)])],Aa⟩ (Yi ⟨Z3,Z3,Fh,Tv⟩ ?_)
 refine Yi ?_ ?_
 ·intro h;have h:u.absent=true:=h;have e:[vs u.path,vb true,sl Af (PF u.set t.set)]=AH (Dq u t):=by unfold Dq;rw[h];rfl
  refine Xi _ (Yi (hc) ?_);refine Yi (Nz rfl) (Yi (by kernel_rfl) (Yi (Nz rfl) ?_));exact .of_eq (Ac AV.agg e)
 ·intro h;have h:u.absent=false:=h;refine Yi ?_ ?_
  ·intro h2;have h2:t.absent=true:=h2;have e:[vs u.path,vb true,sl Af (PF u.set t.set)]=AH (Dq u t):=by unfold Dq;rw[h,h2];rfl
   refine Xi _ (Yi (hc) ?_);refine Yi (Nz rfl) (Yi (by kernel_rfl) (Yi (Nz rfl) ?_));exact .of_eq (Ac AV.agg e)
  ·intro h2;have h2:t.absent=false:=h2;have e:[vs u.path,vb false,sl Af (PF u.set t.set)]=AH (Dq u t):=by unfold Dq;rw[h,h2];rfl
   refine Xi _ (Yi (hc) ?_);refine Yi (Nz rfl) (Yi (by kernel_rfl) (Yi (Nz rfl) ?_));exact .of_eq (Ac AV.agg e)
theorem qJ(q:Rq)(hq:Cp q.set):PC 175 [.agg (AF q)] (.agg (AH (DJ q))):=by
 refine Ps E4 Tryz.func175 rfl (Nz rfl) ?_;refine Xi _ (Yi (nv q.set hq) ?_);refine Yi (Nz rfl) (Yi (by kernel_rfl) (Yi (Nz rfl) ?_));exact .refl _
abbrev CZ:ET:=⟨false,[.str]⟩
abbrev MR(t:Tm):Value×AV:=(.string t.path,.agg (AH t))
abbrev sQ(fin cut:List Nat):RE:=⟨[],[],[],[],fin,[],[],[],[],[],cut⟩
theorem Sd{m:List Tm}{p:ByteArray}{a:AV}:(Value.string p,a)∈m.map MR↔∃t∈m,t.path=p∧a=.agg (AH t):=by
 rw[Am];constructor
 ·rintro⟨t,h1,h2⟩
  simp only[F1,Value.string.injEq]at h2;exact⟨t,h1,h2.1,h2.2.symm⟩
 ·rintro⟨t,h1,rfl,rfl⟩
  exact⟨t,h1,rfl⟩
theorem io(m:List Tm)(t:Tm):E7 (m.map MR) (.string t.path) (.agg (AH t))=(W3 m t).map MR:=by
 unfold W3
 by_cases h:(m.any fun u=>decide (u.path=t.path))=true
 ·rw[Ap h];obtain⟨u,h1,h2⟩:=Bc.1 h;have h2:=A5 h2
  have:(Value.string t.path,AV.agg (AH u))∈m.map MR:=Sd.2 ⟨u,h1,h2,rfl⟩
  rw[Qm this,BQ,BQ];apply Be;intro q _;simp only[Function.comp]
  by_cases e:q.path=t.path
  ·simp[e]
  ·have:¬Value.string q.path=.string t.path:=fun c=>e (by injection c)
   simp[e]
 ·rw[Aj h]
  have:∀b,(Value.string t.path,b)∉m.map MR:=fun b hb=>by
   obtain⟨u,h1,h2,_⟩:=Sd.1 hb;exact h (Bc.2 ⟨u,h1,by simp[h2]⟩)
  rw[KM this,Ay];rfl
theorem fT{m:List Tm}(hn:(EF m).Nodup)(p:ByteArray){K:AV→Prop}{Z:Prop}(hy:∀u,Dt m p=some u→K (.agg (AH u)))(RL:Dt m p=none→Z) :
  (∀a,(Value.string p,a)∈m.map MR→K a)∧((∀a,(Value.string p,a)∉m.map MR)→Z) :=
 ⟨fun a h=>by
  obtain⟨t,h1,h2,rfl⟩:=Sd.1 h;subst h2;exact hy t ((L5 hn).1 h1),fun h=>RL (by
  cases e:Dt m p with
  |none=>rfl
  |some u=>exact absurd (Sd.2 ⟨u,Fm e,Hd e,rfl⟩) (h _))⟩
theorem ON{t:Tm}(h:EM t.set):Cp t.set:=by
 unfold Cp
 have:=Il h;omega
theorem c57(l:List Tm)(hl:Cp l)(hs:∀t∈l,Cp t.set):PC 214 [sl AH l,.v (UC 215)] (.cmap CZ ((CY l).map MR)):=by
 have hl:l.length≤1073741824:=hl;refine Ps (sQ [10] [5,8]) Tryz.func214 rfl (Nz rfl) ?_;refine Xi {i:Nat // i≤l.length} (Xi (fun i=>⟨[(0,sl AH l),(1,.v (UC 215)),(5,.mref 10),(11,sl AH l),(12,vi (l.map AH).length),(13,vi i.1)],[(10,.map CZ ((CY (l.take i.1)).map MR))],Aa⟩) (Xi (fun i=>l.length-i.1) (Yi (Xi ⟨0,AD _⟩ ?_) ?_)))
 ·exact⟨Z6,Z1,Fh,Tv⟩
 intro⟨i,h1⟩;have hn:=HT (l.take i);refine Yi ?_ ?_
 ·intro h;have h:(i:Int)<(l.map AH).length:=h;have h:i<l.length:=by simpa using h
  have hg:l[i]?=some l[i]:=Ge h;refine Xi (AH l[i]) (Yi (Yi (Nn i) (by simp[hg])) (Yi rfl ?_));refine Yi (Nz rfl) (Yi (Nz rfl) ?_);have Ft:=hs l[i] (At h);refine Xi ⟨[(0,sl AH l),(1,.v (UC 215)),(5,.mref 10),(7,.ref 7 0),(11,sl AH l),(12,vi (l.map AH).length),(13,vi i)],[(7,.cells (AH l[i])),(10,.map CZ ((CY (l.take i)).map MR))],Aa⟩ (Yi ⟨Z7,Z2,Fh,Tv⟩ ?_)
  have tail:∀u:Tm,Cp u.set→G3 u l[i]=N9 (Dt (CY (l.take i)) l[i].path) l[i]→E7 ((CY (l.take i)).map MR) (.string l[i].path) (.agg (AH (G3 u l[i])))=(CY (l.take (i+1))).map MR:=fun u hu e=>by
   have hp:(N9 (Dt (CY (l.take i)) l[i].path) l[i]).path=l[i].path:=Qr _ _ fun u h=>Hd h;have e2:=io (CY (l.take i)) (G3 u l[i]);have e3:(G3 u l[i]).path=l[i].path:=by rw[e];exact hp
   rw[e3]at e2;rw[e2,Rt l i h,e];rfl
  refine fT hn l[i].path (fun u hu=>?_) (fun hu=>?_)
  ·have Kr:Cp u.set:=ON (Pi _ u (Fm hu));refine Yi (Nz rfl) ?_;refine Xi ⟨[(0,sl AH l),(1,.v (UC 215)),(5,.mref 10),(7,.ref 7 0),(8,.ref 8 0),(11,sl AH l),(12,vi (l.map AH).length),(13,vi i)],[(7,.cells (AH l[i])),(8,.cells (AH u)),(10,.map CZ ((CY (l.take i)).map MR))],Aa⟩ (Yi ⟨Z8,Z3,Fh,Tv⟩ ?_)
   have A0:=tail u Kr (by rw[bw,hu];rfl);refine Yi (Nz rfl) (Yi (Nz rfl) ?_);refine Xi _ (Yi (za u l[i] Kr Ft) ?_);refine Yi (by kernel_rfl) ?_;refine Yi (Ii i (by omega)) ?_;refine Xi ⟨i+1,by omega⟩ ?_;have e1:HO.map CZ (E7 ((CY (l.take i)).map MR) (.string l[i].path) (.agg (AH (G3 u l[i]))))=.map CZ ((CY (l.take (i+1))).map MR):=by rw[A0]
   exact⟨Dl l.length i (by omega),Z6,⟨⟨e1,rfl⟩,Tv⟩,Fh,Tv⟩
  ·refine Yi (Nz rfl) ?_;refine Yi (Nz rfl) (Yi (Nz rfl) ?_);refine Xi ⟨[(0,sl AH l),(1,.v (UC 215)),(5,.mref 10),(7,.ref 7 0),(8,.ref 8 0),(11,sl AH l),(12,vi (l.map AH).length),(13,vi i)],[(7,.cells (AH l[i])),(8,.cells (AH l[i])),(10,.map CZ ((CY (l.take i)).map MR))],Aa⟩ (Yi ⟨Z8,Z3,Fh,Tv⟩ ?_)
   have A0:=tail l[i] Ft (by rw[bw,hu];rfl);refine Yi (Nz rfl) (Yi (Nz rfl) ?_);refine Xi _ (Yi (za l[i] l[i] Ft Ft) ?_);refine Yi (by kernel_rfl) ?_;refine Yi (Ii i (by omega)) ?_;refine Xi ⟨i+1,by omega⟩ ?_;have e1:HO.map CZ (E7 ((CY (l.take i)).map MR) (.string l[i].path) (.agg (AH (G3 l[i] l[i]))))=.map CZ ((CY (l.take (i+1))).map MR):=by rw[A0]
   exact⟨Dl l.length i (by omega),Z6,⟨⟨e1,rfl⟩,Tv⟩,Fh,Tv⟩
 ·intro h;have h:¬(i:Int)<(l.map AH).length:=h;have h:¬i<l.length:=by simpa using h
  have e:(CY (l.take i)).map MR=(CY l).map MR:=by rw[Aw (by omega)]
  exact .of_eq (Ac (AV.cmap CZ) e)
abbrev GU(l:List Tm):AV:=.tup [sl AH (Qo l),vb (CR l).isSome]
abbrev xK:RE:=⟨[],[],[(4,3)],[],[],[],[],[],[],[(25,4)],[4,7,10]⟩
abbrev SC(l:List Tm):HO:=.arr 3 (l.map AH)
abbrev Fu(l:List Tm):List Tm:=l.filter fun t=>!GL t
theorem lq{l:List Tm}{kv:Value×AV}{Oa : List (Value×AV)}(h:(l.map MR).Perm (kv::Oa)):∃t r,kv=MR t∧Oa=r.map MR∧l.Perm (t::r):=by
 obtain⟨ps,h1,h2⟩:=Mq h l rfl;cases ps with
 |nil=>cases h2
 |cons t r =>
  rw[AP,FI]at h2;exact⟨t,r,h2.1.symm,h2.2.symm,h1.symm⟩
theorem XA{l:List Tm}{t:Tm}(h:t∈CY l)(hn:HX t=true):CR l=none:=by
 unfold CR;rw[Ap (Bc.2 ⟨t,(Jk l t).1 h,hn⟩)]
theorem Zl{l done s:List Tm}(h:done.Perm (CY l))(hn:∀t∈done,HX t=false)(hp:s.Perm (Fu done))(hs:s.Pairwise fun x y=>Eg y.path x.path=false):CR l=some s:=by
 unfold CR;rw[Aj]
 ·congr 1
  exact(PT _ (hp.trans (h.filter _)) hs).symm
 ·intro c;obtain⟨t,h1,h2⟩:=Bc.1 c
  have:=hn t (h.mem_iff.2 ((Jk l t).2 h1))
  rw[h2]at this;cases this
theorem cQ(l:List Tm):(Fu l).length≤l.length:=Bv _ _
theorem tW(l:List Tm)(hl:Cp l)(hs:∀t∈l,Cp t.set):PC 183 [sl AH l] (GU l):=by
 have cE:l.length≤1073741824:=hl;have zP:(CY l).length≤l.length:=by have:=N3 l l.length (Al _);rwa [DM]at this
 refine Ps xK Tryz.func183 rfl (Nz rfl) ?_;refine Xi .pure (Xi _ (Yi (c57 l hl hs) ?_));refine Xi {p:List Tm×List Tm×Option (Value×AV) // (p.1++p.2.1).Perm (CY l)∧∀t∈p.1,HX t=false} (Xi (fun p=>⟨[(4,.msl 4 (Fu p.1.1).length),(9,.ref 9 0)],[(4,SC (Fu p.1.1)),(9,.iter ((CY l).map MR) (p.1.2.1.map MR) p.1.2.2)],Aa⟩) (Xi (fun p=>p.1.2.1.length) (Yi (Xi ⟨([],CY l,none),.refl _,fun t ht=>by cases ht⟩ ?_) ?_)))
 ·exact⟨Z2,Z2,Fh,Tv⟩
 intro⟨⟨done,rem,FN⟩,r1,r2⟩;have r1:(done++rem).Perm (CY l):=r1;have r2:∀t∈done,HX t=false:=r2;have hdl:done.length+rem.length≤l.length:=by have:=r1.length_eq;rw[Ae]at this;omega
 have p7:=cQ done;refine Yi ?_ ?_
 ·intro hr;have hr:rem.map MR=[]:=hr;have hr:rem=[]:=Ed.1 hr;subst hr;rw[BN]at r1;refine Xi (.gen [(4,1000)] 0) (Yi rfl ((c61 (Fu done) (by unfold Cp;omega)).to ?_));intro s hq;have WQ:s.length=(Fu done).length:=hq.1.length_eq;have hc:=Zl r1 r2 hq.1 hq.2;refine Xi ⟨[(4,.msl 4 (Fu done).length)],[(4,SC s)],Aa⟩ (Yi ⟨Z1,Z1,Fh,Tv⟩ ?_)
  refine Yi (by rw[Lm,WQ]) ?_;have e:AV.tup [sl AH s,vb true]=GU l:=by unfold GU Qo;rw[hc];rfl
  exact .of_eq e
 ·intro kv Oa hp;refine Br (lq hp) (fun t hp=>Br hp (fun r hp=>?_));have e1:=hp.1;have e2:=hp.2.1;subst e1;subst e2;have hp:=hp.2.2;have uo:t∈CY l:=r1.mem_iff.1 (Bg _ (hp.mem_iff.2 (Ab ..)));have xq:=Pi l t uo;have z6:=ON xq;refine Xi ⟨[(4,.msl 4 (Fu done).length),(9,.ref 9 0)],[(4,SC (Fu done)),(9,.iter ((CY l).map MR) (r.map MR) (some (MR t)))],Aa⟩ (Yi ⟨Z2,Z2,Fh,Tv⟩ ?_)
  refine Yi (Nz rfl) (Yi (Nz rfl) ?_);have hv:PC 216 [.agg (AH t)] (vb (HX t)):=ir xq▸c59 t z6;have ha:PC 217 [.agg (AH t)] (vb (GL t)):=bP xq▸c60 t z6;refine BT (Bt (HX t)) (fun h=>?_) (fun h=>?_)
  ·rw[h]at hv;refine Xi .pure (Xi _ (Yi (hv) ?_));have hc:=XA uo h;have e:AV.tup [.slice .none [],vb false]=GU l:=by unfold GU Qo;rw[hc];rfl
   have e0:G1 (.tup [.v (.slice none 0 0),vb false]) (.tup [.slice .none [],vb false]):=G1.tup ⟨.nil,.refl _,trivial⟩;exact e0.trans (.of_eq e)
  ·rw[h]at hv;refine Xi .pure (Xi _ (Yi (hv) ?_));refine Xi ⟨[(4,.msl 4 (Fu done).length),(6,.ref 6 0),(9,.ref 9 0)],[(4,SC (Fu done)),(6,.cells (AH t)),(9,.iter ((CY l).map MR) (r.map MR) (some (MR t)))],Aa⟩ (Yi ⟨Z3,Z3,Fh,Tv⟩ ?_)
   refine Yi (Nz rfl) ?_;have Us:((done++[t])++r).Perm (CY l):=by
    rw[BM];exact(List.Perm.append_left _ hp.symm).trans r1
   have zQ:∀u∈done++[t],HX u=false:=fun u hu=>by
    rcases A1.1 hu with hu | hu
    ·exact r2 u hu
    ·rw[Aq.1 hu];exact h
   have WP:r.length<rem.length:=by rw[hp.length_eq,Az];omega
   refine BT (Bt (GL t)) (fun h2=>?_) (fun h2=>?_)
   rotate_left
   ·rw[h2]at ha;refine Xi .pure (Xi _ (Yi (ha) ?_));have Gv:CQ 3 [AH t]∧((Fu done).map AH).length=(Fu done).length∧(((Fu done).map AH).length+[AH t].length)*48≤140737488355328∧((Fu done).map AH).length+[AH t].length≤9223372036854775807 :=
     ⟨⟨rfl,trivial⟩,by rw[Lm],by rw[Lm,AG];omega,by rw[Lm,AG];omega⟩
    refine Yi (Nz rfl) ?_;refine Yi Gv ?_;have hk:Fu (done++[t])=Fu done++[t]:=by unfold Fu;rw[Cf,Ch,Ap (by rw[h2];rfl)];rfl
    have e1:AV.msl 4 (((Fu done).map AH).length+[AH t].length)=.msl 4 (Fu (done++[t])).length:=by rw[hk];simp
    have e2:HO.arr 3 ((Fu done).map AH++[AH t])=SC (Fu (done++[t])):=by rw[hk];simp
    refine Xi ⟨(done++[t],r,some (MR t)),Us,zQ⟩ ?_;exact⟨WP,⟨⟨e1,rfl⟩,Zr,Tv⟩,⟨⟨e2,rfl⟩,Zr,Tv⟩,Fh,Tv⟩
   ·rw[h2]at ha;refine Xi .pure (Xi _ (Yi (ha) ?_));have hk:Fu (done++[t])=Fu done:=by unfold Fu;rw[Cf,Ch,Aj (by rw[h2];decide)];simp
    have e1:AV.msl 4 (Fu done).length=.msl 4 (Fu (done++[t])).length:=by rw[hk]
    have e2:SC (Fu done)=SC (Fu (done++[t])):=by rw[hk]
    refine Xi ⟨(done++[t],r,some (MR t)),Us,zQ⟩ ?_;exact⟨WP,⟨⟨e1,rfl⟩,Zr,Tv⟩,⟨⟨e2,rfl⟩,Zr,Tv⟩,Fh,Tv⟩
end Go.Eng
