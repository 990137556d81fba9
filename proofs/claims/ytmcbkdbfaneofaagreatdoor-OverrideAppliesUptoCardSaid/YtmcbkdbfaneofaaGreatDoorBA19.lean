/- Lemmas for the claims of this seat, without a condition: part 19 (C16, C17, C18, C19, C20, C21, C22, C23). -/
import Derived.Test.YtmcbkdbfaneofaaGreatDoorBA18
import Derived.Test.YtmcbkdbfaneofaaGreatDoorBA02
namespace Go.Eng
open Go.Proofs
theorem Bj.imp{P:Program}{f:Nat}{args:List AV}{h0:Nat→HO}{Q Q' : AV→(Nat→HO)→Prop}(h:Bj P f args h0 Q)(hq:∀r h',Q r h'→Q' r h'):Bj P f args h0 Q':=h.mono fun r h' q=>⟨r,.refl _,hq r h' q⟩
theorem Bj.to{P:Program}{f:Nat}{args:List AV}{h0:Nat→HO}{α:Type}{r0:AV}{p:α→Prop}{H:α→Nat→HO}{Q' : AV→(Nat→HO)→Prop}(h:Bj P f args h0 fun r h'=>r=r0∧∃x,p x∧h'=H x)(k:∀x,p x→Q' r0 (H x)):Bj P f args h0 Q' :=
 h.imp fun r h' ⟨e1,x,e2,e3⟩=>by subst e1;subst e3;exact k x e2
theorem oa(n:Nat)(h:n≤1073741824):∃lim:Nat,lim<100∧PC 130 [.v (.int .u64 (IntKind.u64.wrap (n:Int)))] (vi lim):=by
 refine⟨Lib.bitLen n,Nat.lt_of_le_of_lt (Lib.bitLen_le n 62 (by omega) (by omega)) (by omega),?_⟩;have wr:IntKind.u64.wrap (n:Int)=n:=by simp[IntKind.wrap,IntKind.bits,IntKind.signed];omega
 rw[wr];refine LG [.int .u64 n] (.int .i64 (Lib.bitLen n:Nat)) (ff 130 Tryz.func130 (by kernel_rfl) rfl) rfl (fun _ _=>.v _ _) fun w _=>?_
 have:=Any.bits_Len Tryz.layBits (n:Int) w (by omega) (by omega)
 rw[Bl]at this;exact this
theorem vq(l:List (Int×Int))(hl:Ci l)(h:∀x∈l,0≤x.1∧x.1≤1000000) :
  Bj Tryz.prog 190 [.msl 1000 l.length,.v (UP 191)] (Ap [(1000,.arr 2 (l.map Af))] Ab) fun r h' =>
   r=.tup []∧∃l' : List (Int×Int),(l'.Perm l∧l'.Pairwise (fun x y=>x.1≤y.1))∧h'=Ap [(1000,.arr 2 (l'.map Af))] Ab:=by
 obtain⟨lim,Yg,hb⟩:=oa l.length hl;refine Cq (M4 EY) [(1000,1000)] rfl CX hm rfl Tryz.func190 (by kernel_rfl) rfl (Nz rfl) (by kernel_rfl) rfl ?_;refine Xi .pure (Xi _ (Yi (hb) ?_));refine Xi (.gen [(1000,1000)] 0) (Yi rfl ((vv l hl h lim Yg).imp ?_));intro r h' hq;refine BM hq.2 (fun l' Qy=>?_);refine Xi (.tup []) (Yi ?_ (Yi rfl (Xi l' (Yi ⟨Qy.1,Qy.2.1⟩ ?_))))
 ·exact .refl _
 ·rw[Qy.2.2];rfl
theorem c61(l:List Tm)(hl:Ci l) :
  Bj Tryz.prog 235 [.msl 1000 l.length,.v (UP 236)] (Ap [(1000,.arr 3 (l.map AK))] Ab) fun r h' =>
   r=.tup []∧∃l' : List Tm,(l'.Perm l∧l'.Pairwise (fun x y=>EJ y.path x.path=false))∧h'=Ap [(1000,.arr 3 (l'.map AK))] Ab:=by
 obtain⟨lim,Yg,hb⟩:=oa l.length hl;refine Cq (M4 EY) [(1000,1000)] rfl CX hm rfl Tryz.func235 (by kernel_rfl) rfl (Nz rfl) (by kernel_rfl) rfl ?_;refine Xi .pure (Xi _ (Yi (hb) ?_));refine Xi (.gen [(1000,1000)] 0) (Yi rfl ((uY l hl lim Yg).imp ?_));intro r h' hq;refine BM hq.2 (fun l' Qy=>?_);refine Xi (.tup []) (Yi ?_ (Yi rfl (Xi l' (Yi ⟨Qy.1,Qy.2.1⟩ ?_))))
 ·exact .refl _
 ·rw[Qy.2.2];rfl
abbrev pla(l:List (Nat×Nat))(cut:List Nat):Si:=⟨[],[],l,[],[],[],[],[],[],[],cut⟩
abbrev FS(l:List (Int×Int)):HO:=.arr 2 (l.map Af)
theorem Ta(l:Bc)(i:Nat):(CM (l.take i)).length≤i:=by
 unfold CM
 have:=BE (fun x:Int×Int=>decide (x.1<x.2)) ((l.take i).map Ef)
 rw[Lm,AH]at this;omega
theorem Qo{l:Bc}{i:Nat}(h:i<l.length)(h3:(Ef l[i]).1<(Ef l[i]).2):CM (l.take (i+1))=CM (l.take i)++[Ef l[i]]:=by
 rw[BA,Ge h,OZ];unfold CM;simp[h3]
theorem S8{l:Bc}{i:Nat}(h:i<l.length)(h3:¬(Ef l[i]).1<(Ef l[i]).2):CM (l.take (i+1))=CM (l.take i):=by
 rw[BA,Ge h,OZ];unfold CM;simp[h3]
abbrev arr2(s j:Bc)(i:Nat):Bc:=(By (s.take i)).reverse++(j++s.drop i)
theorem kG(s j:Bc)(i:Nat)(h:i<s.length)(hj:(By (s.take i)).length+j.length=i):(arr2 s j i)[i]?=some s[i]:=by
 unfold arr2;rw[A1 (by rw[Di];omega),A1 (by rw[Di];omega),Di,BY];rw[show i+(i-(By (List.take i s)).length-j.length)=i by omega,Ge h]
theorem cy(s j:Bc)(i:Nat){y:Int×Int}{t:Bc}(e:By (s.take i)=y::t):(arr2 s j i)[t.length]?=some y:=by
 unfold arr2;rw[e,ES,AN,A1 (by rw[Di];omega),Di,ET];rfl
theorem fH(s j:Bc)(i:Nat)(h:i≤s.length)(hj:(By (s.take i)).length+j.length=i):(arr2 s j i).length=s.length:=by
 unfold arr2;simp only[Ad,Di,Ar];omega
theorem aY{α:Type}(s:List α)(i:Nat)(h:i<s.length):s.drop i=s[i]::s.drop (i+1):=Bd h
theorem Ve(s j:Bc)(i:Nat)(h:i<s.length)(e:JU (By (s.take i)) s[i]=s[i]::By (s.take i)) :
  (arr2 s j i).set (By (s.take i)).length s[i]=arr2 s (j++[s[i]]).tail (i+1):=by
 unfold arr2;rw[Fy s i h,e,ES,List.set_append_right _ _ (by rw[Di];exact Am _),Di,ET,AN,aY s i h]
 congr 1
 cases j with
 |nil=>rfl
 |cons a b=>simp
theorem cw(s j:Bc)(i:Nat)(h:i<s.length){y:Int×Int}{t:Bc}(e:By (s.take i)=y::t)(Ho:s[i].1≤y.2) :
  (arr2 s j i).set t.length (y.1,max y.2 s[i].2)=arr2 s (j++[s[i]]) (i+1):=by
 unfold arr2;have e2:JU (y::t) s[i]=(y.1,max y.2 s[i].2)::t:=by show(if s[i].1≤y.2 then _ else _)=_;rw[Au Ho]
 rw[Fy s i h,e,e2,ES,ES,AN,List.set_append_right _ _ (by rw[Di];exact Am _),Di,ET,aY s i h];simp
theorem B3{α:Type}{enc:α→List AV}{l:List α}{i:Nat}{x:α}(h:l[i]?=some x):(l.map enc)[i]?=some (enc x):=by rw[AJ,h];rfl
theorem XI(l:List (Int×Int))(hl:Ci l):PC 148 [sl Af l] (sl Af (canon l)):=by
 have hl:l.length≤1073741824:=hl;refine Gj (fe (pla [(3,2)] [5,14,15,16])) rfl CX hm rfl Tryz.func148 (by kernel_rfl) rfl (Nz rfl) (by kernel_rfl) ?_;refine Xi {i:Nat // i≤l.length} (Xi (fun i=>⟨[(0,sl Af l),(3,.msl 3 (CM (l.take i.1)).length),(9,sl Af l),(10,vi (l.map Af).length),(11,vi i.1)],[(3,FS (CM (l.take i.1)))],Ab⟩) (Xi (fun i=>l.length-i.1) (Yi (Xi ⟨0,by simp⟩ ?_) ?_)))
 ·exact⟨Z5,Z1,Fh,Tv⟩
 ·intro⟨i,h1⟩;have hn:=Ta l i;refine Yi ?_ ?_
  ·intro h;have h:(i:Int)<(l.map Af).length:=h;have h:i<l.length:=by simpa using h
   have hg:l[i]?=some l[i]:=Ge h;refine Xi (Af l[i]) (Yi (Yi (Nn i) (by simp[hg])) (Yi rfl ?_));refine Yi (Nz rfl) (Yi (Nz rfl) ?_);refine Xi ⟨[(0,sl Af l),(3,.msl 3 (CM (l.take i)).length),(5,.ref 5 0),(9,sl Af l),(10,vi (l.map Af).length),(11,vi i)],[(3,FS (CM (l.take i))),(5,.cells (Af l[i]))],Ab⟩ (Yi ⟨Z6,Z2,Fh,Tv⟩ ?_)
   refine Yi (Nz rfl) ?_;refine Yi ?_ ?_
   ·intro h3;have h3:(Ef l[i]).1<(Ef l[i]).2:=h3;refine Yi (Nz rfl) ?_;have F3:Da 2 [[vi (max l[i].1 0),vi (min l[i].2 1000000)]]∧((CM (l.take i)).map Af).length=(CM (l.take i)).length∧(((CM (l.take i)).map Af).length+[[vi (max l[i].1 0),vi (min l[i].2 1000000)]].length)*16≤140737488355328∧((CM (l.take i)).map Af).length+[[vi (max l[i].1 0),vi (min l[i].2 1000000)]].length≤9223372036854775807 :=
     ⟨⟨rfl,trivial⟩,by rw[Lm],by rw[Lm,Aq];omega,by rw[Lm,Aq];omega⟩
    refine Yi F3 ?_;refine Yi (Ii i (by omega)) ?_;refine Xi ⟨i+1,by omega⟩ ?_;have e1:AV.msl 3 (((CM (l.take i)).map Af).length+[[vi (max l[i].1 0),vi (min l[i].2 1000000)]].length)=.msl 3 (CM (l.take (i+1))).length:=by rw[Qo h h3];simp
    have e2:HO.arr 2 ((CM (l.take i)).map Af++[[vi (max l[i].1 0),vi (min l[i].2 1000000)]])=FS (CM (l.take (i+1))):=by rw[Qo h h3];simp[Ef]
    exact⟨Dl l.length i (by omega),⟨Zr,⟨e1,rfl⟩,Zr,Zr,Zr,Tv⟩,⟨⟨e2,rfl⟩,Tv⟩,Fh,Tv⟩
   ·intro h3;have h3:¬(Ef l[i]).1<(Ef l[i]).2:=h3;refine Yi (Ii i (by omega)) ?_;refine Xi ⟨i+1,by omega⟩ ?_;have e1:AV.msl 3 (CM (l.take i)).length=.msl 3 (CM (l.take (i+1))).length:=by rw[S8 h h3]
    have e2:FS (CM (l.take i))=FS (CM (l.take (i+1))):=by rw[S8 h h3]
    exact⟨Dl l.length i (by omega),⟨Zr,⟨e1,rfl⟩,Zr,Zr,Zr,Tv⟩,⟨⟨e2,rfl⟩,Tv⟩,Fh,Tv⟩
  ·intro h;have h:¬(i:Int)<(l.map Af).length:=h;have h:¬i<l.length:=by simpa using h
   have ei:CM (l.take i)=CM l:=by rw[AL (by omega)]
   have hN:(CM (l.take i)).length=(CM l).length:=by rw[ei]
   refine Xi (.gen [(3,1000)] 0) (Yi rfl ((vq (CM (l.take i)) (by unfold Ci;omega) (fun x hx=>by have:=Vo hx;omega)).to ?_));intro s hs;have WV:s.length=(CM (l.take i)).length:=hs.1.length_eq;have hsN:s.length≤1073741824:=by omega
   have fin:(By s).reverse=canon l:=LQ (by rw[←ei];exact hs.1) hs.2;refine Xi {p:Nat×Bc // p.1≤s.length∧(By (s.take p.1)).length+p.2.length=p.1} (Xi (fun p=>⟨[(3,.msl 3 (CM (l.take i)).length),(6,vi (By (s.take p.1.1)).length),(34,.msl 3 (CM (l.take i)).length),(35,vi (CM (l.take i)).length),(36,vi p.1.1)],[(3,FS (arr2 s p.1.2 p.1.1))],Ab⟩) (Xi (fun p=>s.length-p.1.1) (Yi (Xi ⟨(0,[]),AF _,rfl⟩ ?_) ?_)))
   ·exact⟨Z5,Z1,Fh,Tv⟩
   intro⟨⟨k,j⟩,k1,k2⟩;have k1:k≤s.length:=k1;have k2:(By (s.take k)).length+j.length=k:=k2;have CF:=fH s j k k1 k2;have TK:(CM (l.take i)).length=((arr2 s j k).map Af).length:=by rw[Lm,CF,WV]
   refine Yi ?_ ?_
   ·intro h2;have h2:(k:Int)<(CM (l.take i)).length:=h2;have hk:k<s.length:=by omega
    have RZ:=B3 (enc:=Af) (kG s j k hk k2);refine Yi ⟨by show(0:Int)≤k;omega,by show(k:Int)<_;omega⟩ ?_;refine Yi TK (Xi (Af s[k]) (Yi RZ (Yi (Nz rfl) (Yi (Nz rfl) ?_))));refine Xi ⟨[(3,.msl 3 (CM (l.take i)).length),(6,vi (By (s.take k)).length),(7,vi k),(8,.ref 8 0),(34,.msl 3 (CM (l.take i)).length),(35,vi (CM (l.take i)).length),(36,vi k)],[(3,FS (arr2 s j k)),(8,.cells (Af s[k]))],Ab⟩ (Yi ⟨Z7,Z2,Fh,Tv⟩ ?_)
    have hr:=Oo s k k1;refine Bp (Nat.eq_zero_or_pos k) (fun k0=>?_) (fun k0=>?_)
    ·refine Yi ?_ ?_
     ·intro h4;have h4:(0:Int)<k:=h4;omega
     ·intro _;refine Yi (by kernel_rfl) ?_;have JH:JU (By (s.take k)) s[k]=s[k]::By (s.take k):=by subst k0;rfl
      have fj:(By (s.take k)).length<(arr2 s j k).length:=by omega
      have hz:=B3 (enc:=Af) (Ge fj);refine Xi ⟨[(3,.msl 3 (CM (l.take i)).length),(6,vi (By (s.take k)).length),(8,.ref 8 0),(34,.msl 3 (CM (l.take i)).length),(35,vi (CM (l.take i)).length),(36,vi k)],[(3,FS (arr2 s j k)),(8,.cells (Af s[k]))],Ab⟩ (Yi ⟨⟨⟨rfl,rfl⟩,⟨rfl,rfl⟩,⟨rfl,rfl⟩,⟨rfl,rfl⟩,⟨rfl,rfl⟩,⟨rfl,rfl⟩,Tv⟩,⟨⟨rfl,rfl⟩,⟨rfl,rfl⟩,Tv⟩,Fh,Tv⟩ ?_);refine Yi (Nz rfl) (Yi ⟨by show(0:Int)≤((By (s.take k)).length:Int);omega,by show((By (s.take k)).length:Int)<_;omega⟩ ?_);refine Yi TK (Xi (Af (arr2 s j k)[(By (s.take k)).length]) (Yi hz (Yi (Nz rfl) ?_)));refine Yi (by show Bs (((By (s.take k)).length:Int)+1);unfold Bs;omega) ?_;refine Yi (Ii k (by omega)) ?_;have hm:=Fy s k hk;have e1:vi (((By (s.take k)).length:Int)+1)=vi (By (s.take (k+1))).length:=by rw[hm,JH];simp
      have e2:HO.arr 2 (((arr2 s j k).map Af).set (By (s.take k)).length [vi s[k].1,vi s[k].2])=FS (arr2 s (j++[s[k]]).tail (k+1)):=by rw[←Ve s j k hk JH];simp only[FS,HF]
      refine Xi ⟨(k+1,(j++[s[k]]).tail),by show k+1≤s.length;omega,by show(By (s.take (k+1))).length+((j++[s[k]]).tail).length=k+1;rw[hm,JH];simp;omega⟩ ?_;exact⟨Dl s.length k (by omega),⟨Zr,⟨e1,rfl⟩,Zr,Zr,Zr,Tv⟩,⟨⟨e2,rfl⟩,Tv⟩,Fh,Tv⟩
    ·refine Yi ?_ ?_
     ·intro _;obtain⟨y,t,e⟩:∃y t,By (s.take k)=y::t:=by
       cases hc:By (s.take k)with
       |nil=>have:=hr.2 k0;rw[hc]at this;simp at this
       |cons y t=>exact⟨y,t,rfl⟩
      have ht:(((By (s.take k)).length:Int)-1).toNat=t.length:=by rw[e];simp
      have hy:((arr2 s j k).map Af)[(((By (s.take k)).length:Int)-1).toNat]?=some (Af y):=by rw[ht];exact B3 (cy s j k e)
      refine Yi (by show Bs (((By (s.take k)).length:Int)-1);unfold Bs;omega) ?_;have ZX:=hr.2 k0;refine Yi ⟨by show(0:Int)≤((By (s.take k)).length:Int)-1;omega,by show((By (s.take k)).length:Int)-1<_;omega⟩ ?_;refine Yi TK (Xi (Af y) (Yi hy ?_));refine Yi ?_ ?_
      ·intro h5;have h5:s[k].1≤y.2:=h5;refine Yi (by kernel_rfl) ?_;refine Xi ⟨[(3,.msl 3 (CM (l.take i)).length),(6,vi (By (s.take k)).length),(8,.ref 8 0),(34,.msl 3 (CM (l.take i)).length),(35,vi (CM (l.take i)).length),(36,vi k)],[(3,FS (arr2 s j k)),(8,.cells (Af s[k]))],Ab⟩ (Yi ⟨⟨⟨rfl,rfl⟩,⟨rfl,rfl⟩,⟨rfl,rfl⟩,⟨rfl,rfl⟩,⟨rfl,rfl⟩,⟨rfl,rfl⟩,Tv⟩,⟨⟨rfl,rfl⟩,⟨rfl,rfl⟩,Tv⟩,Fh,Tv⟩ ?_);refine Yi (by show Bs (((By (s.take k)).length:Int)-1);unfold Bs;omega) (Yi (by show Bs (((By (s.take k)).length:Int)-1);unfold Bs;omega) ?_);refine Yi ⟨by show(0:Int)≤((By (s.take k)).length:Int)-1;omega,by show((By (s.take k)).length:Int)-1<_;omega⟩ ?_;refine Yi TK (Xi (Af y) (Yi hy ?_));refine Yi ⟨by show(0:Int)≤((By (s.take k)).length:Int)-1;omega,by show((By (s.take k)).length:Int)-1<_;omega⟩ ?_;refine Yi TK (Xi (Af y) (Yi hy (Yi (Nz rfl) ?_)));refine Yi (by kernel_rfl) ?_;refine Yi (Ii k (by omega)) ?_;have hm:=Fy s k hk;have JH:JU (By (s.take k)) s[k]=(y.1,max y.2 s[k].2)::t:=by rw[e];show(if s[k].1≤y.2 then _ else _)=_;rw[Au h5]
       have e1:vi (By (s.take k)).length=vi (By (s.take (k+1))).length:=by rw[hm,JH,e];simp
       have e2:HO.arr 2 (((arr2 s j k).map Af).set (((By (s.take k)).length:Int)-1).toNat [vi y.1,vi (max y.2 s[k].2)])=FS (arr2 s (j++[s[k]]) (k+1)):=by rw[←cw s j k hk e h5,ht];simp only[FS,HF]
       refine Xi ⟨(k+1,j++[s[k]]),by show k+1≤s.length;omega,by show(By (s.take (k+1))).length+(j++[s[k]]).length=k+1;rw[hm,JH,Ad,Aq];rw[e]at k2;simp only[Av]at k2⊢;omega⟩ ?_;exact⟨Dl s.length k (by omega),⟨Zr,⟨e1,rfl⟩,Zr,Zr,Zr,Tv⟩,⟨⟨e2,rfl⟩,Tv⟩,Fh,Tv⟩
      ·intro h5;have h5:¬s[k].1≤y.2:=h5;refine Yi (by kernel_rfl) ?_;have JH:JU (By (s.take k)) s[k]=s[k]::By (s.take k):=by rw[e];show(if s[k].1≤y.2 then _ else _)=_;rw[Al h5]
       have fj:(By (s.take k)).length<(arr2 s j k).length:=by omega
       have hz:=B3 (enc:=Af) (Ge fj);refine Xi ⟨[(3,.msl 3 (CM (l.take i)).length),(6,vi (By (s.take k)).length),(8,.ref 8 0),(34,.msl 3 (CM (l.take i)).length),(35,vi (CM (l.take i)).length),(36,vi k)],[(3,FS (arr2 s j k)),(8,.cells (Af s[k]))],Ab⟩ (Yi ⟨⟨⟨rfl,rfl⟩,⟨rfl,rfl⟩,⟨rfl,rfl⟩,⟨rfl,rfl⟩,⟨rfl,rfl⟩,⟨rfl,rfl⟩,Tv⟩,⟨⟨rfl,rfl⟩,⟨rfl,rfl⟩,Tv⟩,Fh,Tv⟩ ?_);refine Yi (Nz rfl) (Yi ⟨by show(0:Int)≤((By (s.take k)).length:Int);omega,by show((By (s.take k)).length:Int)<_;omega⟩ ?_);refine Yi TK (Xi (Af (arr2 s j k)[(By (s.take k)).length]) (Yi hz (Yi (Nz rfl) ?_)));refine Yi (by show Bs (((By (s.take k)).length:Int)+1);unfold Bs;omega) ?_;refine Yi (Ii k (by omega)) ?_;have hm:=Fy s k hk;have e1:vi (((By (s.take k)).length:Int)+1)=vi (By (s.take (k+1))).length:=by rw[hm,JH];simp
       have e2:HO.arr 2 (((arr2 s j k).map Af).set (By (s.take k)).length [vi s[k].1,vi s[k].2])=FS (arr2 s (j++[s[k]]).tail (k+1)):=by rw[←Ve s j k hk JH];simp only[FS,HF]
       refine Xi ⟨(k+1,(j++[s[k]]).tail),by show k+1≤s.length;omega,by show(By (s.take (k+1))).length+((j++[s[k]]).tail).length=k+1;rw[hm,JH];simp;omega⟩ ?_;exact⟨Dl s.length k (by omega),⟨Zr,⟨e1,rfl⟩,Zr,Zr,Zr,Tv⟩,⟨⟨e2,rfl⟩,Tv⟩,Fh,Tv⟩
     ·intro h4;have h4:¬(0:Int)<k:=h4;omega
   ·intro h2;have h2:¬(k:Int)<(CM (l.take i)).length:=h2;have hk:k=s.length:=by omega
    have hr:=Oo s k k1;have pj:((((arr2 s j k).map Af).take ((By (s.take k)).length:Int).toNat).drop 0)=(canon l).map Af:=by
     rw[OM,Bl,←L8,←fin];unfold arr2
     have:(By (s.take k)).length=(By (s.take k)).reverse.length:=by rw[Di]
     rw[this,List.take_left,hk,Dq]
    refine Yi ⟨TK,by show(0:Int)≤0;omega,by show(0:Int)≤((By (s.take k)).length:Int);omega,by show((By (s.take k)).length:Int)≤(((arr2 s j k).map Af).length:Int);omega,.inr ⟨rfl,by simp⟩⟩ ?_;exact .of_eq (Aa (AV.slice .none) pj)
end Go.Eng
namespace Go.Eng
open Go.Proofs Go.Sort
abbrev GP(z:Int):List AV:=[vi z]
theorem QQ{α:Type}[Inhabited α](enc:α→Value)(w:World)(b:Nat)(d:Array α):putRow enc w b 0 d=putRow id w b 0 (d.map enc):=by
 unfold putRow
 congr 1
 funext c
 unfold putCells;apply Array.ext
 ·simp
 ·intro i h1 h2;simp only[Array.getElem_mapIdx,Array.size_map]
  by_cases h:i<d.size
  ·rw[Au (by omega),Au (by omega)];rw[DL d (i-0) (by omega),DL (d.map enc) (i-0) (by simpa using h)];simp
  ·rw[Al (by omega),Al (by omega)]
theorem Vw(zs:List Int):(zs.map GP).flatten=(zs.map fun z=>Value.int .i64 z).map AV.v:=by
 induction zs with
 |nil=>rfl
 |cons z zs ih=>rw[AQ,BI,ih];rfl
theorem Ns(g:Gh)(w:World)(U:Nat→Prop)(vs:List Value)(h:∀x∈vs,x.oneCell'=true):CR g w U (vs.map .v) vs :=
 ⟨by simp,h,fun i av x q1 q2=>by
  rw[AJ,q2]at q1;cases q1;exact .v _ _⟩
theorem LI{g:Gh}{w:World}{U:Nat→Prop}{vs us:List Value}(h:CR g w U (vs.map .v) us):us=vs:=by
 apply CN;intro i;have hl:=h.1;rw[Lm]at hl
 by_cases hi:i<vs.length
 ·have:=h.2.2 i (.v vs[i]) us[i] (by rw[AJ,Ge hi];rfl) (Ge (by omega))
  rw[Ge hi,Ge (by omega),this.v_eq]
 ·rw[A7 (by omega),A7 (by omega)]
theorem vu(zs:List Int)(hl:Ci zs)(DM:zs≠[]) :
  Bj Tryz.prog 255 [.msl 1000 zs.length] (Ap [(1000,.arr 1 (zs.map GP))] Ab) fun r h' =>
   r=.tup []∧∃l' : List Int,(l'.Perm zs∧l'.Pairwise fun a b=>a≤b)∧h'=Ap [(1000,.arr 1 (l'.map GP))] Ab:=by
 have hl:zs.length≤1073741824:=hl;have hE:Gl Tryz.prog 255:=ff 255 Tryz.func255 (by kernel_rfl) rfl;have Hx:=Qi (P:=Tryz.prog) (f:=255) (es:=zs.map GP) (sz:=1) (rest:=[]) (Q:=fun FQ=>∃l' : List Int,(l'.Perm zs∧l'.Pairwise fun a b=>a≤b)∧FQ=l'.map GP) hE ?_ ?_
 ·rw[Lm]at Hx;refine⟨hE,fun g w vals q1 q2 q3=>(Hx.2 g w vals q1 q2 q3).mono fun _ _ ⟨v,r,h',g',e1,⟨e2,FQ,⟨l',p1,p2⟩,p3⟩,rest⟩=>⟨v,r,h',g',e1,⟨e2,l',p1,by rw[p3,p2]⟩,rest⟩⟩
 ·intro e
  have:zs=[]:=by simpa using e
  exact absurd this DM
 ·intro g w b cap F hr hF hH hb;have rH:F.toList=zs.map fun z=>Value.int .i64 z:=LI (by rw[←Vw];exact hr);have gJ:F=zs.toArray.map fun z=>Value.int .i64 z:=I0.1 (by rw[rH];simp);have rI:Holds (Value.int .i64) w b 0 zs.toArray:=fun j hj=>by
   have:=hH j (by rw[gJ];simpa using hj)
   refine⟨this.1.trans ?_,this.2⟩;rw[gJ,DL _ j (by simpa using hj),DL _ j hj];simp
  have hc:=Any.slices_Sort_int Tryz.laySortInts b 0 cap zs w rI hb (by omega);rw[Lm];refine hc.mono ?_
  rintro e w' ⟨rfl,n,os,rfl⟩
  have Jd:(zs.mergeSort fun x y=>decide (x≤y)).Perm zs:=List.mergeSort_perm _ _;have CF:=Jd.length_eq;refine⟨rfl,(zs.mergeSort fun x y=>decide (x≤y)).toArray.map fun z=>Value.int .i64 z,(zs.mergeSort fun x y=>decide (x≤y)).map GP,n,os,?_,⟨_,⟨Jd,?_⟩,rfl⟩,by simp[CF],fun cs hcs=>?_,fun g w _=>?_,by rw[QQ]⟩
  ·rw[gJ];simp[CF]
  ·have:=List.pairwise_mergeSort (le:=fun x y:Int=>decide (x≤y)) (fun a b c h1 h2=>by simp only[Ay]at *;omega) (fun a b=>by simp only[CG,Ay];omega) zs
   exact this.imp fun h=>BC h
  ·obtain⟨x,_,rfl⟩:=Ao.1 hcs;rfl
  ·rw[Vw];have e:((zs.mergeSort fun x y=>decide (x≤y)).toArray.map fun z=>Value.int .i64 z).toList=(zs.mergeSort fun x y=>decide (x≤y)).map fun z=>Value.int .i64 z:=by simp
   rw[e];exact Ns _ _ _ _ fun x hx=>by
    obtain⟨z,_,rfl⟩:=Ao.1 hx;rfl
-- maps from numbers to numbers
abbrev Xd:EU:=⟨false,[.int .i64]⟩
abbrev kI(z:Int):Value:=.int .i64 z
abbrev L6(p:Int×Int):Value×AV:=(kI p.1,vi p.2)
abbrev FB(s:Bc):List AV:=[sl Af s]
theorem Sv{m:List (Int×Int)}{k:Int}{a:AV}:(kI k,a)∈m.map L6↔∃v,(k,v)∈m∧a=vi v:=by
 rw[Ao];constructor
 ·rintro⟨⟨k',v⟩,h1,h2⟩
  simp only[F4,Value.int.injEq,true_and]at h2;obtain⟨rfl,rfl⟩:=h2;exact⟨v,h1,rfl⟩
 ·rintro⟨v,h1,rfl⟩
  exact⟨(k,v),h1,rfl⟩
theorem Sy(m:List (Int×Int))(k v:Int):E6 (m.map L6) (kI k) (vi v)=(LH m k v).map L6:=by
 unfold LH
 by_cases h:(m.any fun p=>decide (p.1=k))=true
 ·rw[Au h];obtain⟨p,h1,h2⟩:=A8.1 h;have h2:=BC h2
  have:(kI k,vi p.2)∈m.map L6:=Sv.2 ⟨p.2,by rw[←h2];exact h1,rfl⟩
  rw[QK this,BU,BU];apply Bk;intro q _;simp only[Function.comp]
  by_cases e:q.1=k
  ·simp[e]
  ·have:¬kI q.1=kI k:=fun c=>e (by injection c)
   simp[e]
 ·rw[Al h]
  have:∀b,(kI k,b)∉m.map L6:=fun b hb=>by
   obtain⟨v,h1,_⟩:=Sv.1 hb;exact h (A8.2 ⟨(k,v),h1,by simp⟩)
  rw[KZ this,AG];rfl
theorem Pq{T:GN}{e:Nat}{B7:List (Value×AV)}{kx:Value}{K:AV→Prop}(a0 z0:AV)(h1:∀a,(kx,a)∈B7→a=a0)(hz:(∀a,(kx,a)∉B7)→a0=z0)(h2:K z0→KB T e K)(k:K a0) :
  (∀a,(kx,a)∈B7→K a)∧((∀a,(kx,a)∉B7)→KB T e K):=⟨fun a h=>by rw[h1 a h];exact k,fun hn=>h2 (hz hn▸k)⟩
theorem Re(m:List (Int×Int))(k:Int):(∀a,(kI k,a)∉m.map L6)→vi (FA m k)=vi 0:=fun Od=>by
 rw[kc fun hk=>by
  obtain⟨p,hp,e⟩:=Ao.1 hk;exact Od (vi p.2) (Sv.2 ⟨p.2,by rw[←e];exact hp,rfl⟩)]
theorem Rd{m:List (Int×Int)}(hn:(Fi m).Nodup)(k:Int):∀a,(kI k,a)∈m.map L6→a=vi (FA m k):=fun a h=>by
 obtain⟨v,h1,rfl⟩:=Sv.1 h;rw[kb hn h1]
theorem IL.bound{m:List (Int×Int)}{S:Bc}(h:IL m S)(k:Int):-(S.length:Int)≤FA m k∧FA m k≤S.length:=by
 rw[h.val]
 have:cF S k≤S.length:=List.countP_le_length
 have:cT S k≤S.length:=List.countP_le_length
 omega
theorem ZJ(l:List Bc):(l.map canon).flatten.length≤l.length*1000000:=by
 induction l with
 |nil=>simp
 |cons s l ih =>
  rw[AQ,BI,Ad,Av]
  have:=Is (Cs s)
  omega
theorem IL.few{m:List (Int×Int)}{S:Bc}(h:IL m S):m.length≤1000001:=by
 have:=IJ (m:=(List.range 1000001).map Int.ofNat) h.nd fun k hk=>by
  have:=h.rng k hk
  exact Ao.2 ⟨k.toNat,List.mem_range.2 (by omega),by show(k.toNat:Int)=k;omega⟩
 unfold Fi at this;rw[Lm,Lm,Rm]at this;exact this
theorem VH(keep:Nat→Bool)(m:List (Int×Int))(B:List Int):∀n,(EF keep m B n).length≤n
 |0=>Am _
 |n+1=>by
  unfold EF
  have:=VH keep m B n
  rw[Ad];split
  ·split<;>simp<;>omega
  ·simp;omega
end Go.Eng
namespace Go.Eng
open Go.Proofs
abbrev plC:Si:=⟨[],[(12,2)],[(44,1)],[],[],[],[],[],[],[],[8,9,15,23,25,26]⟩
theorem og(F:AV)(keep:Nat→Bool)(l:List Bc)(hl:Ci l)(hs:∀s∈l,Ci s)(hid:∀h,UV h F=true)(hF:∀h (n:Int),0≤n→n≤l.length→Qg Tryz.prog (str h F) [vi n] (vb (keep n.toNat)))
  (R:Bc) (hR:EQ R) (hRh:∀p,has R p=(L5 p&&keep (fc l p))):PC 226 [F,sl FB l] (sl Af R):=by
 have hl:l.length≤1073741824:=hl;refine Ps plC Tryz.func226 rfl (Nz rfl) ?_;refine Xi {p:Nat×List (Int×Int) // p.1≤l.length∧IL p.2 ((l.take p.1).map canon).flatten} (Xi (fun p=>⟨[(0,F),(5,.mref 15),(17,sl FB l),(18,vi (l.map FB).length),(19,vi p.1.1)],[(15,.map Xd (p.1.2.map L6))],Ab⟩) (Xi (fun p=>l.length-p.1.1) (Yi (Xi ⟨(0,rr),AF _,kW⟩ ?_) ?_)))
 ·have e0:HO.map Xd (E6 (E6 [] (kI 0) (vi 0)) (kI 1000000) (vi 0))=.map Xd (rr.map L6):=by
   have e1:=Sy [] 0 0;have e2:=Sy [(0,0)] 1000000 0;show HO.map Xd (E6 (E6 (List.map L6 []) (kI 0) (vi 0)) (kI 1000000) (vi 0))=_;rw[e1];show HO.map Xd (E6 (List.map L6 [(0,0)]) (kI 1000000) (vi 0))=_;rw[e2];rfl
  exact⟨⟨⟨rfl,hid _⟩,Zr,Zr,Zr,Zr,Tv⟩,⟨⟨e0,rfl⟩,Tv⟩,Fh,Tv⟩
 intro⟨⟨i,cm⟩,i1,i2⟩;have i1:i≤l.length:=i1;have i2:IL cm ((l.take i).map canon).flatten:=i2;refine Yi ?_ ?_
 ·intro h;have h:(i:Int)<(l.map FB).length:=h;have h:i<l.length:=by simpa using h
  have hg:l[i]?=some l[i]:=Ge h;refine Xi (FB l[i]) (Yi (Yi (Nn i) (by simp[hg])) (Yi rfl ?_));refine Xi .pure (Xi _ (Yi (XI l[i] (hs _ (Ak h))) ?_));refine Xi {p:Nat×List (Int×Int) // p.1≤(canon l[i]).length∧IL p.2 (((l.take i).map canon).flatten++(canon l[i]).take p.1)} (Xi (fun p=>⟨[(0,F),(5,.mref 15),(17,sl FB l),(18,vi (l.map FB).length),(19,vi i),(24,sl Af (canon l[i])),(25,vi ((canon l[i]).map Af).length),(26,vi p.1.1)],[(15,.map Xd (p.1.2.map L6))],Ab⟩) (Xi (fun p=>(canon l[i]).length-p.1.1) (Yi (Xi ⟨(0,cm),AF _,by rw[List.take_zero,BS];exact i2⟩ ?_) ?_)))
  ·exact⟨⟨⟨rfl,hid _⟩,Zr,Zr,Zr,Zr,Zr,Zr,Zr,Tv⟩,Z1,Fh,Tv⟩
  intro⟨⟨j,dm⟩,j1,j2⟩;have j1:j≤(canon l[i]).length:=j1;have j2:IL dm (((l.take i).map canon).flatten++(canon l[i]).take j):=j2;have hS:(((l.take i).map canon).flatten++(canon l[i]).take j).length≤1073741825000000:=by
   have a1:=ZJ (l.take i);have a2:=Is (Cs l[i]);rw[AH]at a1;rw[Ad,AH];omega
  refine Yi ?_ ?_
  ·intro hj;have hj:(j:Int)<((canon l[i]).map Af).length:=hj;have hj:j<(canon l[i]).length:=by simpa using hj
   have qn:(canon l[i])[j]?=some (canon l[i])[j]:=Ge hj;have nv:=(Cs l[i]).low _ (Ak hj);have j3:IL (Y5 dm (canon l[i])[j]) (((l.take i).map canon).flatten++(canon l[i]).take (j+1)):=by
    have:=eJ j2 (x:=(canon l[i])[j]) nv
    rw[AN]at this;rw[BA,qn];exact this
   generalize (canon l[i])[j]=x at qn nv j3;have b1:=j2.bound x.1;have fj:=MA j2.nd x.1 (FA dm x.1+1);refine Xi (Af x) (Yi (Yi (Nn j) (by simp[qn])) (Yi rfl ?_));refine Yi (Nz rfl) (Yi (Nz rfl) ?_);refine Xi ⟨[(0,F),(5,.mref 15),(9,.ref 9 0),(17,sl FB l),(18,vi (l.map FB).length),(19,vi i),(24,sl Af (canon l[i])),(25,vi ((canon l[i]).map Af).length),(26,vi j)],[(9,.cells (Af x)),(15,.map Xd (dm.map L6))],Ab⟩ (Yi ⟨⟨⟨rfl,hid _⟩,Zr,Zr,Zr,Zr,Zr,Zr,Zr,Zr,Tv⟩,Z2,Fh,Tv⟩ ?_)
   refine Pq (vi (FA dm x.1)) (vi 0) (Rd j2.nd x.1) (Re dm x.1) (fun q=>q) ?_;refine Yi (by show Bs (FA dm x.1+1);unfold Bs;omega) ?_;have m1:HO.map Xd (E6 (dm.map L6) (kI x.1) (vi (FA dm x.1+1)))=.map Xd ((LH dm x.1 (FA dm x.1+1)).map L6):=by rw[Sy]
   refine Xi ⟨[(0,F),(5,.mref 15),(9,.ref 9 0),(17,sl FB l),(18,vi (l.map FB).length),(19,vi i),(24,sl Af (canon l[i])),(25,vi ((canon l[i]).map Af).length),(26,vi j)],[(9,.cells (Af x)),(15,.map Xd ((LH dm x.1 (FA dm x.1+1)).map L6))],Ab⟩ (Yi ⟨⟨⟨rfl,hid _⟩,Zr,Zr,Zr,Zr,Zr,Zr,Zr,Zr,Tv⟩,⟨Zr,⟨m1,rfl⟩,Tv⟩,Fh,Tv⟩ ?_)
   have b2:-(1073741825000001:Int)≤FA (LH dm x.1 (FA dm x.1+1)) x.2∧FA (LH dm x.1 (FA dm x.1+1)) x.2≤1073741825000001:=by
    have b3:=j2.bound x.2;rw[PY];split<;>omega
   refine Pq (vi (FA (LH dm x.1 (FA dm x.1+1)) x.2)) (vi 0) (Rd fj x.2) (Re _ x.2) (fun q=>q) ?_;refine Yi (by show Bs (FA (LH dm x.1 (FA dm x.1+1)) x.2-1);unfold Bs;omega) ?_;have hcl:=Is (Cs l[i]);refine Yi (Ii j (by omega)) ?_;have m2:HO.map Xd (E6 ((LH dm x.1 (FA dm x.1+1)).map L6) (kI x.2) (vi (FA (LH dm x.1 (FA dm x.1+1)) x.2-1)))=.map Xd ((Y5 dm x).map L6):=by rw[Sy];rfl
   refine Xi ⟨(j+1,Y5 dm x),by show j+1≤_;omega,j3⟩ ?_;exact⟨by show(canon l[i]).length-(j+1)<(canon l[i]).length-j;omega,⟨⟨rfl,hid _⟩,Zr,Zr,Zr,Zr,Zr,Zr,Zr,Tv⟩,⟨⟨m2,rfl⟩,Tv⟩,Fh,Tv⟩
  ·intro hj;have hj:¬(j:Int)<((canon l[i]).map Af).length:=hj;have hj:¬j<(canon l[i]).length:=by simpa using hj
   refine Yi (Ii i (by omega)) ?_;have i3:IL dm ((l.take (i+1)).map canon).flatten:=by
    have e1:(canon l[i]).take j=canon l[i]:=AL (by omega);rw[e1]at j2;have e2:((l.take (i+1)).map canon).flatten=((l.take i).map canon).flatten++canon l[i]:=by
     rw[BA,hg,AG,CU];show _++(canon l[i]++[])=_;rw[BS]
    rw[e2];exact j2
   refine Xi ⟨(i+1,dm),by show i+1≤_;omega,i3⟩ ?_;exact⟨Dl l.length i (by omega),⟨⟨rfl,hid _⟩,Zr,Zr,Zr,Zr,Tv⟩,Z1,Fh,Tv⟩
 ·intro h;have h:¬(i:Int)<(l.map FB).length:=h;have h:¬i<l.length:=by simpa using h
  have i3:IL cm (l.map canon).flatten:=by
   rw[AL (by omega)]at i2;exact i2
  have r5:=i3.few;have hmk:(0:Int)≤0∧(0:Int)≤((cm.map L6).length:Int)∧((cm.map L6).length:Int)*((8:Nat):Int)≤140737488355328∧((cm.map L6).length:Int)≤9223372036854775807:=by rw[Lm];omega
  refine Yi hmk ?_;refine Xi {p:List (Value×AV)×List Int×Option (Value×AV) // ((p.2.1.map kI)++p.1.map (·.1)).Perm ((cm.map L6).map (·.1))∧∀kv∈p.1,kv∈cm.map L6} (Xi (fun p=>⟨[(0,F),(5,.mref 15),(10,.msl 44 p.1.2.1.length),(46,.ref 46 0)],[(15,.rom Xd (cm.map L6)),(44,.arr 1 (p.1.2.1.map GP)),(46,.iter (cm.map L6) p.1.1 p.1.2.2)],Ab⟩) (Xi (fun p=>p.1.1.length) (Yi (Xi ⟨(cm.map L6,[],none),.refl _,fun _ h=>h⟩ ?_) ?_)))
  ·exact⟨⟨⟨rfl,hid _⟩,Zr,Zr,Zr,Tv⟩,Z3,Fh,Tv⟩
  intro⟨⟨rem,bs,FP⟩,r1,r2⟩;have r1:((bs.map kI)++rem.map (·.1)).Perm ((cm.map L6).map (·.1)):=r1;have r2:∀kv∈rem,kv∈cm.map L6:=r2;have hbl:bs.length≤1000001:=by
   have:=r1.length_eq
   simp only[Ad,Lm]at this;omega
  refine Yi ?_ ?_
  ·intro hr;have hr:rem=[]:=hr;subst hr;rw[Fk,BS,BU]at r1;have xe:bs.Perm (Fi cm):=by
    have r1:(bs.map kI).Perm ((Fi cm).map kI):=by unfold Fi;rw[BU];exact r1
    have:=r1.map (fun v:Value=>match v with | .int _ n=>n | _=>0)
    rw[BU,BU]at this;have e:((fun v:Value=>match v with | .int _ n=>n | _=>0) ∘ kI)=id:=rfl;rw[e,J4,J4]at this;exact this
   have DM:bs≠[]:=fun e=>by
    subst e
    have:=xe.length_eq
    have h0:=i3.keys.1;rw[AA this.symm]at h0;cases h0
   refine Xi (.gen [(44,1000)] 0) (Yi rfl ((vu bs (by unfold Ci;omega) DM).to ?_));intro B rF;have gH:B.length=bs.length:=rF.1.length_eq;have hBn:B.Nodup:=(rF.1.trans xe).nodup_iff.2 i3.nd;have hB:kB B cm:=⟨rF.1.trans xe,by
    rw[Be];intro a b ha hb m5;have h1:=(Be.1 rF.2) a b ha hb m5;have h2:B[a]≠B[b]:=(Be.1 hBn) a b ha hb m5;omega⟩
   have zk:0<B.length:=by
    rw[gH];exact G2.2 DM
   have wq:bs.length=(B.map GP).length:=by rw[Lm,gH]
   refine Yi (by show Bs ((bs.length:Int)-1);unfold Bs;omega) ?_;refine Xi {k:Nat // k≤B.length-1} (Xi (fun k=>⟨[(0,F),(5,.mref 15),(10,.msl 44 bs.length),(12,.slice (.id 12 2) ((EF keep cm B k.1).map Af)),(13,vi (IZ cm (B.take k.1))),(59,vi ((bs.length:Int)-1)),(60,vi k.1)],[(12,.tok 2 ((EF keep cm B k.1).map Af).length),(15,.rom Xd (cm.map L6)),(44,.arr 1 (B.map GP))],Ab⟩) (Xi (fun k=>B.length-k.1) (Yi (Xi ⟨0,AF _⟩ ?_) ?_)))
   ·exact⟨⟨⟨rfl,hid _⟩,Zr,Zr,Zr,Zr,Zr,Zr,Tv⟩,Z3,Fh,Tv⟩
   intro⟨k,k1⟩;have qr:=VH keep cm B k;refine Yi ?_ ?_
   ·intro hk;have hk:(k:Int)<(bs.length:Int)-1:=hk;have Ij:k+1<B.length:=by omega
    have VC:k<B.length:=by omega
    have RZ:(B.map GP)[k]?=some (GP B[k]):=B3 (Ge VC);have wA:(B.map GP)[k+1]?=some (GP B[k+1]):=B3 (Ge Ij);have Ks:=Rb cm B k VC;have sG:=jR i3 hB k VC;have TJ:EF keep cm B (k+1)=EF keep cm B k++(if keep (IZ cm (B.take (k+1))).toNat then [(B[k],B[k+1])]else []):=by
     show _++(match B[k]?,B[k+1]? with | some a,some b=>if keep (IZ cm (B.take (k+1))).toNat then [(a,b)]else [] | _,_=>[])=_;rw[Ge VC,Ge Ij]
    refine Xi ⟨[(0,F),(5,.mref 15),(10,.msl 44 bs.length),(12,.slice (.id 12 2) ((EF keep cm B k).map Af)),(13,vi (IZ cm (B.take k))),(14,vi k),(59,vi ((bs.length:Int)-1)),(60,vi k)],[(12,.tok 2 ((EF keep cm B k).map Af).length),(15,.rom Xd (cm.map L6)),(44,.arr 1 (B.map GP))],Ab⟩ (Yi ⟨⟨⟨rfl,hid _⟩,Zr,Zr,Zr,Zr,Zr,Zr,Zr,Tv⟩,Z3,Fh,Tv⟩ ?_)
    refine Yi ⟨by show(0:Int)≤k;omega,by show(k:Int)<bs.length;omega⟩ ?_;refine Yi wq (Xi (GP B[k]) (Yi RZ ?_));refine Pq (vi (FA cm B[k])) (vi 0) (Rd i3.nd B[k]) (Re cm B[k]) (fun q=>q) ?_;refine Yi (by show Bs (IZ cm (B.take k)+FA cm B[k]);rw[←Ks];unfold Bs;omega) ?_;have DN:∀h,Qg Tryz.prog (str h F) [vi (IZ cm (B.take k)+FA cm B[k])] (vb (keep (IZ cm (B.take (k+1))).toNat)):=fun h=>by
     rw[←Ks];exact hF h _ sG.1 sG.2
    refine Bp (Bt (keep (IZ cm (B.take (k+1))).toNat)) (fun hp=>?_) (fun hp=>?_)
    ·rw[hp]at DN;rw[hp,Au rfl]at TJ;refine Xi .pure (Xi (vb true) (Yi (DN _) ?_));refine Xi ⟨[(0,F),(5,.mref 15),(10,.msl 44 bs.length),(12,.slice (.id 12 2) ((EF keep cm B k).map Af)),(13,vi (IZ cm (B.take k)+FA cm B[k])),(14,vi k),(59,vi ((bs.length:Int)-1)),(60,vi k)],[(12,.tok 2 ((EF keep cm B k).map Af).length),(15,.rom Xd (cm.map L6)),(44,.arr 1 (B.map GP))],Ab⟩ (Yi ⟨⟨⟨rfl,hid _⟩,Zr,Zr,Zr,Zr,Zr,Zr,Zr,Tv⟩,Z3,Fh,Tv⟩ ?_)
     have b1:(0:Int)≤(k:Int)+1∧(k:Int)+1<bs.length:=by omega
     have wB:(B.map GP)[((k:Int)+1).toNat]?=some (GP B[k+1]):=by rw[show((k:Int)+1).toNat=k+1 by omega];exact wA
     refine Yi ⟨by show(0:Int)≤k;omega,by show(k:Int)<bs.length;omega⟩ ?_;refine Yi wq (Xi (GP B[k]) (Yi RZ ?_));refine Yi (Ii k (by omega)) ?_;refine Yi b1 ?_;refine Yi wq (Xi (GP B[k+1]) (Yi wB ?_));have F3:Da 2 [[vi B[k],vi B[k+1]]]∧((EF keep cm B k).map Af).length=((EF keep cm B k).map Af).length∧(((EF keep cm B k).map Af).length+[[vi B[k],vi B[k+1]]].length)*16≤140737488355328∧((EF keep cm B k).map Af).length+[[vi B[k],vi B[k+1]]].length≤9223372036854775807 :=
      ⟨⟨rfl,trivial⟩,rfl,by rw[Lm,Aq];omega,by rw[Lm,Aq];omega⟩
     refine Yi F3 ?_;refine Yi (by kernel_rfl) ?_;refine Xi ⟨[(0,F),(5,.mref 15),(10,.msl 44 bs.length),(12,.slice (.id 12 2) ((EF keep cm B k).map Af++[[vi B[k],vi B[k+1]]])),(13,vi (IZ cm (B.take k)+FA cm B[k])),(59,vi ((bs.length:Int)-1)),(60,vi k)],[(12,.tok 2 (((EF keep cm B k).map Af).length+[[vi B[k],vi B[k+1]]].length)),(15,.rom Xd (cm.map L6)),(44,.arr 1 (B.map GP))],Ab⟩ (Yi ⟨⟨⟨rfl,hid _⟩,Zr,Zr,Zr,Zr,Zr,Zr,Tv⟩,Z3,Fh,Tv⟩ ?_)
     refine Yi (Ii k (by omega)) ?_;refine Xi ⟨k+1,by omega⟩ ?_;have e1:AV.slice (.id 12 2) ((EF keep cm B k).map Af++[[vi B[k],vi B[k+1]]])=.slice (.id 12 2) ((EF keep cm B (k+1)).map Af):=by rw[TJ,AG];rfl
     have e2:vi (IZ cm (B.take k)+FA cm B[k])=vi (IZ cm (B.take (k+1))):=by rw[Ks]
     have e3:HO.tok 2 (((EF keep cm B k).map Af).length+[[vi B[k],vi B[k+1]]].length)=.tok 2 ((EF keep cm B (k+1)).map Af).length:=by rw[TJ,AG,Ad];rfl
     exact⟨Dl B.length k (by omega),⟨⟨rfl,hid _⟩,Zr,Zr,⟨e1,rfl⟩,⟨e2,rfl⟩,Zr,Zr,Tv⟩,⟨⟨e3,rfl⟩,Zr,Zr,Tv⟩,Fh,Tv⟩
    ·rw[hp]at DN;have TJ:EF keep cm B (k+1)=EF keep cm B k:=by rw[TJ,hp,Al Bool.false_ne_true,BS]
     refine Xi .pure (Xi (vb false) (Yi (DN _) ?_));refine Xi ⟨[(0,F),(5,.mref 15),(10,.msl 44 bs.length),(12,.slice (.id 12 2) ((EF keep cm B k).map Af)),(13,vi (IZ cm (B.take k)+FA cm B[k])),(59,vi ((bs.length:Int)-1)),(60,vi k)],[(12,.tok 2 ((EF keep cm B k).map Af).length),(15,.rom Xd (cm.map L6)),(44,.arr 1 (B.map GP))],Ab⟩ (Yi ⟨⟨⟨rfl,hid _⟩,Zr,Zr,Zr,Zr,Zr,Zr,Tv⟩,Z3,Fh,Tv⟩ ?_)
     refine Yi (Ii k (by omega)) ?_;refine Xi ⟨k+1,by omega⟩ ?_;have e1:AV.slice (.id 12 2) ((EF keep cm B k).map Af)=.slice (.id 12 2) ((EF keep cm B (k+1)).map Af):=by rw[TJ]
     have e2:vi (IZ cm (B.take k)+FA cm B[k])=vi (IZ cm (B.take (k+1))):=by rw[Ks]
     have e3:HO.tok 2 ((EF keep cm B k).map Af).length=.tok 2 ((EF keep cm B (k+1)).map Af).length:=by rw[TJ]
     exact⟨Dl B.length k (by omega),⟨⟨rfl,hid _⟩,Zr,Zr,⟨e1,rfl⟩,⟨e2,rfl⟩,Zr,Zr,Tv⟩,⟨⟨e3,rfl⟩,Zr,Zr,Tv⟩,Fh,Tv⟩
   ·intro hk;have hk:¬(k:Int)<(bs.length:Int)-1:=hk;have Ij:k=B.length-1:=by omega
    have wG:canon (EF keep cm B k)=R:=by
     refine(S0 hR fun p=>?_).symm;rw[Ij,hRh,iA i3 hB]
    have hc:=XI (EF keep cm B k) (by unfold Ci;omega);rw[wG]at hc;refine Xi .pure (Xi _ (Yi hc ?_));exact .refl _
  ·intro kv Oy hp;refine BM (Ao.1 (r2 kv (hp.mem_iff.2 (Ac ..)))) (fun q hq=>?_);have hq2:=hq.2;subst hq2;refine Xi ⟨[(0,F),(5,.mref 15),(10,.msl 44 bs.length),(46,.ref 46 0)],[(15,.rom Xd (cm.map L6)),(44,.arr 1 (bs.map GP)),(46,.iter (cm.map L6) Oy (some (L6 q)))],Ab⟩ (Yi ⟨⟨⟨rfl,hid _⟩,Zr,Zr,Zr,Tv⟩,Z3,Fh,Tv⟩ ?_)
   have F3:Da 1 [GP q.1]∧(bs.map GP).length=bs.length∧((bs.map GP).length+[GP q.1].length)*8≤140737488355328∧(bs.map GP).length+[GP q.1].length≤9223372036854775807 :=
    ⟨⟨rfl,trivial⟩,by rw[Lm],by rw[Lm,Aq];omega,by rw[Lm,Aq];omega⟩
   refine Yi F3 ?_;have e1:AV.msl 44 ((bs.map GP).length+[GP q.1].length)=.msl 44 (bs++[q.1]).length:=by simp
   have e2:HO.arr 1 (bs.map GP++[GP q.1])=.arr 1 ((bs++[q.1]).map GP):=by simp
   refine Xi ⟨(Oy,bs++[q.1],some (L6 q)),?_,fun kv Qd=>r2 kv (hp.mem_iff.2 (Ah _ Qd))⟩ ?_
   ·show(((bs++[q.1]).map kI)++Oy.map (·.1)).Perm _;have h1:=hp.map (fun x:Value×AV=>x.1);rw[AQ]at h1;rw[AG,AN];exact(List.Perm.append_left _ h1.symm).trans r1
   ·exact⟨by show Oy.length<rem.length;rw[hp.length_eq];simp,⟨⟨rfl,hid _⟩,Zr,⟨e1,rfl⟩,Zr,Tv⟩,⟨Zr,⟨e2,rfl⟩,Zr,Tv⟩,Fh,Tv⟩
theorem vo(n:Int)(l:List Bc):PC 269 [vi n,.cptr [sl FB l]] (vb (decide (n=l.length))):=by
 refine Ps EY Tryz.func269 rfl (Nz rfl) ?_;have e:((l.map FB).length:Int)=l.length:=by rw[Lm]
 refine Yi ?_ ?_
 ·intro h;have h:n=((l.map FB).length:Int):=h;rw[show decide (n=(l.length:Int))=true from At (h.trans e)];exact .refl _
 ·intro h;have h:¬n=((l.map FB).length:Int):=h;rw[show decide (n=(l.length:Int))=false from Aj (fun c=>h (c.trans e.symm))];exact .refl _
theorem vr(n:Int):PC 227 [vi n] (vb (decide (n=0))):=by
 refine Ps EY Tryz.func227 rfl (Nz rfl) ?_;refine Yi ?_ ?_
 ·intro h;have h:n=0:=h;rw[At h];exact .refl _
 ·intro h;have h:¬n=0:=h;rw[Aj h];exact .refl _
theorem vU(n:Int):PC 258 [vi n] (vb (decide (0<n))):=by
 refine Ps EY Tryz.func258 rfl (Nz rfl) ?_;refine Yi ?_ ?_
 ·intro h;have h:0<n:=h;rw[At h];exact .refl _
 ·intro h;have h:¬0<n:=h;rw[Aj h];exact .refl _
theorem iy(l:List Bc)(p:Int):decide (fc l p=l.length)=l.all fun s=>has s p:=by
 unfold fc;rw[BZ,Ay,List.countP_eq_length,AS]
theorem iz(l:List Bc)(p:Int):decide (0<fc l p)=l.any fun s=>has s p:=by
 unfold fc;rw[BZ,Ay,List.countP_pos_iff,A8]
theorem uX(l:List Bc)(hl:Ci l)(hs:∀s∈l,Ci s):PC 256 [sl FB l] (sl Af (QA l)):=by
 have hc:=og (.clo 269 [.cptr [sl FB l]]) (fun n=>decide (n=l.length)) l hl hs (fun _=>rfl) (fun h n h0 _=>by
  have:=vo n l
  have e:decide (n=(l.length:Int))=decide (n.toNat=l.length):=by rw[Te];omega
  rw[e]at this;exact this) (QA l) (WY l) fun p=>by rw[TC,iy]
 refine Ps (ks [1]) Tryz.func256 rfl (Nz rfl) ?_;refine Xi .pure (Xi _ (Yi (hc) ?_));exact .refl _
theorem nZ(s:Bc)(hs:Ci s):PC 202 [sl Af s] (sl Af (En s)):=by
 have hc:=og (.v (UP 227)) (fun n=>decide (n=0)) [s] (by unfold Ci;simp) (fun t ht=>by rw[As.1 ht];exact hs) (fun _=>rfl) (fun h n h0 _=>by
  have:=vr n
  have e:decide (n=0)=decide (n.toNat=0):=by rw[Te];omega
  rw[e]at this;exact this) (En s) (Hu s) fun p=>by
   rw[FW]
   have:fc [s] p=if has s p then 1 else 0:=by unfold fc;rw[I2];simp
   rw[this];cases has s p<;>rfl
 refine Ps EY Tryz.func202 rfl (Nz rfl) ?_;refine Xi .pure (Xi _ (Yi (hc) ?_));exact .refl _
theorem vQ(l:List Bc)(hl:Ci l)(hs:∀s∈l,Ci s):PC 237 [sl FB l] (sl Af (Rc l)):=by
 have hc:=og (.v (UP 258)) (fun n=>decide (0<n)) l hl hs (fun _=>rfl) (fun h n h0 _=>by
  have:=vU n
  have e:decide (0<n)=decide (0<n.toNat):=by rw[Te];omega
  rw[e]at this;exact this) (Rc l) (Xf l) fun p=>by
   rw[TE,iz];cases h:l.any fun s=>has s p with
   |false=>simp
   |true =>
    obtain⟨s,_,h2⟩:=A8.1 h
    have:=Mu h2
    simp[L5,this]
 refine Ps EY Tryz.func237 rfl (Nz rfl) ?_;refine Xi .pure (Xi _ (Yi (hc) ?_));exact .refl _
-- terms
theorem c59(t:Tm)(ht:Ci t.set):PC 233 [.agg (AK t)] (vb (!t.absent&&(canon t.set).isEmpty)):=by
 refine Ps EY Tryz.func233 rfl (Nz rfl) ?_;refine Yi ?_ ?_
 ·intro h;have h:t.absent=true:=h;rw[h];exact .refl _
 ·intro h;have h:t.absent=false:=h;refine Xi .pure (Xi _ (Yi (XI t.set ht) ?_));refine Yi ?_ ?_
  ·intro h2;have h2:(((canon t.set).map Af).length:Int)=0:=h2;have h2:canon t.set=[]:=AA (by rw[Lm]at h2;omega);rw[h,h2];exact .refl _
  ·intro h2;have h2:¬(((canon t.set).map Af).length:Int)=0:=h2;have h2:(canon t.set).isEmpty=false:=by
    cases hc:canon t.set with
    |nil=>rw[hc]at h2;exact absurd rfl h2
    |cons _ _=>rfl
   rw[h,h2];exact .refl _
theorem c60(t:Tm)(ht:Ci t.set):PC 234 [.agg (AK t)] (vb (t.absent&&(En t.set).isEmpty)):=by
 refine Ps EY Tryz.func234 rfl (Nz rfl) ?_;refine Yi ?_ ?_
 ·intro h;have h:t.absent=true:=h;refine Xi .pure (Xi _ (Yi (nZ t.set ht) ?_));refine Yi ?_ ?_
  ·intro h2;have h2:(((En t.set).map Af).length:Int)=0:=h2;have h2:En t.set=[]:=AA (by rw[Lm]at h2;omega);rw[h,h2];exact .refl _
  ·intro h2;have h2:¬(((En t.set).map Af).length:Int)=0:=h2;have h2:(En t.set).isEmpty=false:=by
    cases hc:En t.set with
    |nil=>rw[hc]at h2;exact absurd rfl h2
    |cons _ _=>rfl
   rw[h,h2];exact .refl _
 ·intro h;have h:t.absent=false:=h;rw[h];exact .refl _
abbrev Ip(l:List Nat):Si:=⟨[],[],[],[],[],[],[],[],[],[],l⟩
theorem y0(u t:Tm)(hu:Ci u.set)(ht:Ci t.set):PC 232 [.agg (AK u),.agg (AK t)] (.agg (AK (G8 u t))):=by
 have hc:PC 256 [sl FB [u.set,t.set]] (sl Af (NO u.set t.set)):=uX [u.set,t.set] (by unfold Ci;simp) (fun s hs=>by
  rcases AC.1 hs with rfl | hs
  ·exact hu
  ·rw[As.1 hs];exact ht)
 refine Ps (Ip [1]) Tryz.func232 rfl (Nz rfl) ?_;refine Xi ⟨[(2,.ref 2 0),(3,.ref 3 0),(4,.ref 4 0)],[(2,.cells (AK u)),(3,.cells (AK t)),(4,.cells [vs ⟨#[]⟩,vb false,.v (.slice none 0 0)])],Ab⟩ (Yi ⟨Z3,Z3,Fh,Tv⟩ ?_)
 refine Yi ?_ ?_
 ·intro h;have h:u.absent=true:=h;refine Yi ?_ ?_
  ·intro h2;have h2:t.absent=true:=h2;have e:[vs u.path,vb true,sl Af (NO u.set t.set)]=AK (G8 u t):=by unfold G8;rw[h,h2];rfl
   refine Xi _ (Yi (hc) ?_);refine Yi (Nz rfl) (Yi (by kernel_rfl) (Yi (Nz rfl) ?_));exact .of_eq (Aa AV.agg e)
  ·intro h2;have h2:t.absent=false:=h2;have e:[vs u.path,vb false,sl Af (NO u.set t.set)]=AK (G8 u t):=by unfold G8;rw[h,h2];rfl
   refine Xi _ (Yi (hc) ?_);refine Yi (Nz rfl) (Yi (by kernel_rfl) (Yi (Nz rfl) ?_));exact .of_eq (Aa AV.agg e)
 ·intro h;have h:u.absent=false:=h;have e:[vs u.path,vb false,sl Af (NO u.set t.set)]=AK (G8 u t):=by unfold G8;rw[h];rfl
  refine Xi _ (Yi (hc) ?_);refine Yi (Nz rfl) (Yi (by kernel_rfl) (Yi (Nz rfl) ?_));exact .of_eq (Aa AV.agg e)
theorem vI(u t:Tm)(hu:Ci u.set)(ht:Ci t.set):PC 205 [.agg (AK u),.agg (AK t)] (.agg (AK (Dw u t))):=by
 have hc:PC 237 [sl FB [u.set,t.set]] (sl Af (PX u.set t.set)):=vQ [u.set,t.set] (by unfold Ci;simp) (fun s hs=>by
  rcases AC.1 hs with rfl | hs
  ·exact hu
  ·rw[As.1 hs];exact ht)
 refine Ps (Ip [1]) Tryz.func205 rfl (Nz rfl) ?_;refine Xi ⟨[(2,.ref 2 0),(3,.ref 3 0),(4,.ref 4 0)],[(2,.cells (AK u)),(3,.cells (AK t)),(4,.cells [vs ⟨#[]⟩,vb false,.v (.slice none 0 0)])],Ab⟩ (Yi ⟨Z3,Z3,Fh,Tv⟩ ?_)
 refine Yi ?_ ?_
 ·intro h;have h:u.absent=true:=h;have e:[vs u.path,vb true,sl Af (PX u.set t.set)]=AK (Dw u t):=by unfold Dw;rw[h];rfl
  refine Xi _ (Yi (hc) ?_);refine Yi (Nz rfl) (Yi (by kernel_rfl) (Yi (Nz rfl) ?_));exact .of_eq (Aa AV.agg e)
 ·intro h;have h:u.absent=false:=h;refine Yi ?_ ?_
  ·intro h2;have h2:t.absent=true:=h2;have e:[vs u.path,vb true,sl Af (PX u.set t.set)]=AK (Dw u t):=by unfold Dw;rw[h,h2];rfl
   refine Xi _ (Yi (hc) ?_);refine Yi (Nz rfl) (Yi (by kernel_rfl) (Yi (Nz rfl) ?_));exact .of_eq (Aa AV.agg e)
  ·intro h2;have h2:t.absent=false:=h2;have e:[vs u.path,vb false,sl Af (PX u.set t.set)]=AK (Dw u t):=by unfold Dw;rw[h,h2];rfl
   refine Xi _ (Yi (hc) ?_);refine Yi (Nz rfl) (Yi (by kernel_rfl) (Yi (Nz rfl) ?_));exact .of_eq (Aa AV.agg e)
theorem ri(q:Rq)(hq:Ci q.set):PC 197 [.agg (AM q)] (.agg (AK (DQ q))):=by
 refine Ps EY Tryz.func197 rfl (Nz rfl) ?_;refine Xi _ (Yi (nZ q.set hq) ?_);refine Yi (Nz rfl) (Yi (by kernel_rfl) (Yi (Nz rfl) ?_));exact .refl _
abbrev Dn:EU:=⟨false,[.str]⟩
abbrev Nb(t:Tm):Value×AV:=(.string t.path,.agg (AK t))
abbrev th(fin cut:List Nat):Si:=⟨[],[],[],[],fin,[],[],[],[],[],cut⟩
theorem Sw{m:List Tm}{p:ByteArray}{a:AV}:(Value.string p,a)∈m.map Nb↔∃t∈m,t.path=p∧a=.agg (AK t):=by
 rw[Ao];constructor
 ·rintro⟨t,h1,h2⟩
  simp only[F4,Value.string.injEq]at h2;exact⟨t,h1,h2.1,h2.2.symm⟩
 ·rintro⟨t,h1,rfl,rfl⟩
  exact⟨t,h1,rfl⟩
theorem iO(m:List Tm)(t:Tm):E6 (m.map Nb) (.string t.path) (.agg (AK t))=(W8 m t).map Nb:=by
 unfold W8
 by_cases h:(m.any fun u=>decide (u.path=t.path))=true
 ·rw[Au h];obtain⟨u,h1,h2⟩:=A8.1 h;have h2:=BC h2
  have:(Value.string t.path,AV.agg (AK u))∈m.map Nb:=Sw.2 ⟨u,h1,h2,rfl⟩
  rw[QK this,BU,BU];apply Bk;intro q _;simp only[Function.comp]
  by_cases e:q.path=t.path
  ·simp[e]
  ·have:¬Value.string q.path=.string t.path:=fun c=>e (by injection c)
   simp[e]
 ·rw[Al h]
  have:∀b,(Value.string t.path,b)∉m.map Nb:=fun b hb=>by
   obtain⟨u,h1,h2,_⟩:=Sw.1 hb;exact h (A8.2 ⟨u,h1,by simp[h2]⟩)
  rw[KZ this,AG];rfl
theorem gx{m:List Tm}(hn:(EG m).Nodup)(p:ByteArray){K:AV→Prop}{Z:Prop}(hy:∀u,Dz m p=some u→K (.agg (AK u)))(Od:Dz m p=none→Z) :
  (∀a,(Value.string p,a)∈m.map Nb→K a)∧((∀a,(Value.string p,a)∉m.map Nb)→Z) :=
 ⟨fun a h=>by
  obtain⟨t,h1,h2,rfl⟩:=Sw.1 h;subst h2;exact hy t ((Mp hn).1 h1),fun h=>Od (by
  cases e:Dz m p with
  |none=>rfl
  |some u=>exact absurd (Sw.2 ⟨u,Fq e,Hl e,rfl⟩) (h _))⟩
theorem Pg{t:Tm}(h:EQ t.set):Ci t.set:=by
 unfold Ci
 have:=Is h;omega
theorem c57(l:List Tm)(hl:Ci l)(hs:∀t∈l,Ci t.set):PC 231 [sl AK l,.v (UP 232)] (.cmap Dn ((Dh l).map Nb)):=by
 have hl:l.length≤1073741824:=hl;refine Ps (th [10] [5,8]) Tryz.func231 rfl (Nz rfl) ?_;refine Xi {i:Nat // i≤l.length} (Xi (fun i=>⟨[(0,sl AK l),(1,.v (UP 232)),(5,.mref 10),(11,sl AK l),(12,vi (l.map AK).length),(13,vi i.1)],[(10,.map Dn ((Dh (l.take i.1)).map Nb))],Ab⟩) (Xi (fun i=>l.length-i.1) (Yi (Xi ⟨0,AF _⟩ ?_) ?_)))
 ·exact⟨Z6,Z1,Fh,Tv⟩
 intro⟨i,h1⟩;have hn:=H2 (l.take i);refine Yi ?_ ?_
 ·intro h;have h:(i:Int)<(l.map AK).length:=h;have h:i<l.length:=by simpa using h
  have hg:l[i]?=some l[i]:=Ge h;refine Xi (AK l[i]) (Yi (Yi (Nn i) (by simp[hg])) (Yi rfl ?_));refine Yi (Nz rfl) (Yi (Nz rfl) ?_);have Fw:=hs l[i] (Ak h);refine Xi ⟨[(0,sl AK l),(1,.v (UP 232)),(5,.mref 10),(7,.ref 7 0),(11,sl AK l),(12,vi (l.map AK).length),(13,vi i)],[(7,.cells (AK l[i])),(10,.map Dn ((Dh (l.take i)).map Nb))],Ab⟩ (Yi ⟨Z7,Z2,Fh,Tv⟩ ?_)
  have tail:∀u:Tm,Ci u.set→G8 u l[i]=Ox (Dz (Dh (l.take i)) l[i].path) l[i]→E6 ((Dh (l.take i)).map Nb) (.string l[i].path) (.agg (AK (G8 u l[i])))=(Dh (l.take (i+1))).map Nb:=fun u hu e=>by
   have hp:(Ox (Dz (Dh (l.take i)) l[i].path) l[i]).path=l[i].path:=QP _ _ fun u h=>Hl h;have e2:=iO (Dh (l.take i)) (G8 u l[i]);have e3:(G8 u l[i]).path=l[i].path:=by rw[e];exact hp
   rw[e3]at e2;rw[e2,RJ l i h,e];rfl
  refine gx hn l[i].path (fun u hu=>?_) (fun hu=>?_)
  ·have Lw:Ci u.set:=Pg (PD _ u (Fq hu));refine Yi (Nz rfl) ?_;refine Xi ⟨[(0,sl AK l),(1,.v (UP 232)),(5,.mref 10),(7,.ref 7 0),(8,.ref 8 0),(11,sl AK l),(12,vi (l.map AK).length),(13,vi i)],[(7,.cells (AK l[i])),(8,.cells (AK u)),(10,.map Dn ((Dh (l.take i)).map Nb))],Ab⟩ (Yi ⟨Z8,Z3,Fh,Tv⟩ ?_)
   have A2:=tail u Lw (by rw[bP,hu];rfl);refine Yi (Nz rfl) (Yi (Nz rfl) ?_);refine Xi _ (Yi (y0 u l[i] Lw Fw) ?_);refine Yi (by kernel_rfl) ?_;refine Yi (Ii i (by omega)) ?_;refine Xi ⟨i+1,by omega⟩ ?_;have e1:HO.map Dn (E6 ((Dh (l.take i)).map Nb) (.string l[i].path) (.agg (AK (G8 u l[i]))))=.map Dn ((Dh (l.take (i+1))).map Nb):=by rw[A2]
   exact⟨Dl l.length i (by omega),Z6,⟨⟨e1,rfl⟩,Tv⟩,Fh,Tv⟩
  ·refine Yi (Nz rfl) ?_;refine Yi (Nz rfl) (Yi (Nz rfl) ?_);refine Xi ⟨[(0,sl AK l),(1,.v (UP 232)),(5,.mref 10),(7,.ref 7 0),(8,.ref 8 0),(11,sl AK l),(12,vi (l.map AK).length),(13,vi i)],[(7,.cells (AK l[i])),(8,.cells (AK l[i])),(10,.map Dn ((Dh (l.take i)).map Nb))],Ab⟩ (Yi ⟨Z8,Z3,Fh,Tv⟩ ?_)
   have A2:=tail l[i] Fw (by rw[bP,hu];rfl);refine Yi (Nz rfl) (Yi (Nz rfl) ?_);refine Xi _ (Yi (y0 l[i] l[i] Fw Fw) ?_);refine Yi (by kernel_rfl) ?_;refine Yi (Ii i (by omega)) ?_;refine Xi ⟨i+1,by omega⟩ ?_;have e1:HO.map Dn (E6 ((Dh (l.take i)).map Nb) (.string l[i].path) (.agg (AK (G8 l[i] l[i]))))=.map Dn ((Dh (l.take (i+1))).map Nb):=by rw[A2]
   exact⟨Dl l.length i (by omega),Z6,⟨⟨e1,rfl⟩,Tv⟩,Fh,Tv⟩
 ·intro h;have h:¬(i:Int)<(l.map AK).length:=h;have h:¬i<l.length:=by simpa using h
  have e:(Dh (l.take i)).map Nb=(Dh l).map Nb:=by rw[AL (by omega)]
  exact .of_eq (Aa (AV.cmap Dn) e)
abbrev GX(l:List Tm):AV:=.tup [sl AK (QM l),vb (CZ l).isSome]
abbrev xW:Si:=⟨[],[],[(4,3)],[],[],[],[],[],[],[(25,4)],[4,7,10]⟩
abbrev ST(l:List Tm):HO:=.arr 3 (l.map AK)
abbrev Fx(l:List Tm):List Tm:=l.filter fun t=>!GO t
theorem l6{l:List Tm}{kv:Value×AV}{Oy : List (Value×AV)}(h:(l.map Nb).Perm (kv::Oy)):∃t r,kv=Nb t∧Oy=r.map Nb∧l.Perm (t::r):=by
 obtain⟨ps,h1,h2⟩:=ML h l rfl;cases ps with
 |nil=>cases h2
 |cons t r =>
  rw[AQ,FJ]at h2;exact⟨t,r,h2.1.symm,h2.2.symm,h1.symm⟩
theorem XJ{l:List Tm}{t:Tm}(h:t∈Dh l)(hn:H3 t=true):CZ l=none:=by
 unfold CZ;rw[Au (A8.2 ⟨t,(Jt l t).1 h,hn⟩)]
theorem Zy{l done s:List Tm}(h:done.Perm (Dh l))(hn:∀t∈done,H3 t=false)(hp:s.Perm (Fx done))(hs:s.Pairwise fun x y=>EJ y.path x.path=false):CZ l=some s:=by
 unfold CZ;rw[Al]
 ·congr 1
  exact(Qn _ (hp.trans (h.filter _)) hs).symm
 ·intro c;obtain⟨t,h1,h2⟩:=A8.1 c
  have:=hn t (h.mem_iff.2 ((Jt l t).2 h1))
  rw[h2]at this;cases this
theorem dq(l:List Tm):(Fx l).length≤l.length:=BE _ _
theorem tW(l:List Tm)(hl:Ci l)(hs:∀t∈l,Ci t.set):PC 204 [sl AK l] (GX l):=by
 have c9:l.length≤1073741824:=hl;have zO:(Dh l).length≤l.length:=by have:=On l l.length (Am _);rwa [Dq]at this
 refine Ps xW Tryz.func204 rfl (Nz rfl) ?_;refine Xi .pure (Xi _ (Yi (c57 l hl hs) ?_));refine Xi {p:List Tm×List Tm×Option (Value×AV) // (p.1++p.2.1).Perm (Dh l)∧∀t∈p.1,H3 t=false} (Xi (fun p=>⟨[(4,.msl 4 (Fx p.1.1).length),(9,.ref 9 0)],[(4,ST (Fx p.1.1)),(9,.iter ((Dh l).map Nb) (p.1.2.1.map Nb) p.1.2.2)],Ab⟩) (Xi (fun p=>p.1.2.1.length) (Yi (Xi ⟨([],Dh l,none),.refl _,fun t ht=>by cases ht⟩ ?_) ?_)))
 ·exact⟨Z2,Z2,Fh,Tv⟩
 intro⟨⟨done,rem,FP⟩,r1,r2⟩;have r1:(done++rem).Perm (Dh l):=r1;have r2:∀t∈done,H3 t=false:=r2;have hdl:done.length+rem.length≤l.length:=by have:=r1.length_eq;rw[Ad]at this;omega
 have qr:=dq done;refine Yi ?_ ?_
 ·intro hr;have hr:rem.map Nb=[]:=hr;have hr:rem=[]:=DD.1 hr;subst hr;rw[BS]at r1;refine Xi (.gen [(4,1000)] 0) (Yi rfl ((c61 (Fx done) (by unfold Ci;omega)).to ?_));intro s hq;have WV:s.length=(Fx done).length:=hq.1.length_eq;have hc:=Zy r1 r2 hq.1 hq.2;refine Xi ⟨[(4,.msl 4 (Fx done).length)],[(4,ST s)],Ab⟩ (Yi ⟨Z1,Z1,Fh,Tv⟩ ?_)
  refine Yi (by rw[Lm,WV]) ?_;have e:AV.tup [sl AK s,vb true]=GX l:=by unfold GX QM;rw[hc];rfl
  exact .of_eq e
 ·intro kv Oy hp;refine BM (l6 hp) (fun t hp=>BM hp (fun r hp=>?_));have e1:=hp.1;have e2:=hp.2.1;subst e1;subst e2;have hp:=hp.2.2;have uq:t∈Dh l:=r1.mem_iff.1 (Bq _ (hp.mem_iff.2 (Ac ..)));have xo:=PD l t uq;have zZ:=Pg xo;refine Xi ⟨[(4,.msl 4 (Fx done).length),(9,.ref 9 0)],[(4,ST (Fx done)),(9,.iter ((Dh l).map Nb) (r.map Nb) (some (Nb t)))],Ab⟩ (Yi ⟨Z2,Z2,Fh,Tv⟩ ?_)
  refine Yi (Nz rfl) (Yi (Nz rfl) ?_);have hv:PC 233 [.agg (AK t)] (vb (H3 t)):=iR xo▸c59 t zZ;have ha:PC 234 [.agg (AK t)] (vb (GO t)):=cq xo▸c60 t zZ;refine Bp (Bt (H3 t)) (fun h=>?_) (fun h=>?_)
  ·rw[h]at hv;refine Xi .pure (Xi _ (Yi (hv) ?_));have hc:=XJ uq h;have e:AV.tup [.slice .none [],vb false]=GX l:=by unfold GX QM;rw[hc];rfl
   have e0:Hi (.tup [.v (.slice none 0 0),vb false]) (.tup [.slice .none [],vb false]):=Hi.tup ⟨.nil,.refl _,trivial⟩;exact e0.trans (.of_eq e)
  ·rw[h]at hv;refine Xi .pure (Xi _ (Yi (hv) ?_));refine Xi ⟨[(4,.msl 4 (Fx done).length),(6,.ref 6 0),(9,.ref 9 0)],[(4,ST (Fx done)),(6,.cells (AK t)),(9,.iter ((Dh l).map Nb) (r.map Nb) (some (Nb t)))],Ab⟩ (Yi ⟨Z3,Z3,Fh,Tv⟩ ?_)
   refine Yi (Nz rfl) ?_;have UE:((done++[t])++r).Perm (Dh l):=by
    rw[AN];exact(List.Perm.append_left _ hp.symm).trans r1
   have zP:∀u∈done++[t],H3 u=false:=fun u hu=>by
    rcases Ba.1 hu with hu | hu
    ·exact r2 u hu
    ·rw[As.1 hu];exact h
   have WU:r.length<rem.length:=by rw[hp.length_eq,Av];omega
   refine Bp (Bt (GO t)) (fun h2=>?_) (fun h2=>?_)
   rotate_left
   ·rw[h2]at ha;refine Xi .pure (Xi _ (Yi (ha) ?_));have F3:Da 3 [AK t]∧((Fx done).map AK).length=(Fx done).length∧(((Fx done).map AK).length+[AK t].length)*48≤140737488355328∧((Fx done).map AK).length+[AK t].length≤9223372036854775807 :=
     ⟨⟨rfl,trivial⟩,by rw[Lm],by rw[Lm,Aq];omega,by rw[Lm,Aq];omega⟩
    refine Yi (Nz rfl) ?_;refine Yi F3 ?_;have hk:Fx (done++[t])=Fx done++[t]:=by unfold Fx;rw[DA,D8,Au (by rw[h2];rfl)];rfl
    have e1:AV.msl 4 (((Fx done).map AK).length+[AK t].length)=.msl 4 (Fx (done++[t])).length:=by rw[hk];simp
    have e2:HO.arr 3 ((Fx done).map AK++[AK t])=ST (Fx (done++[t])):=by rw[hk];simp
    refine Xi ⟨(done++[t],r,some (Nb t)),UE,zP⟩ ?_;exact⟨WU,⟨⟨e1,rfl⟩,Zr,Tv⟩,⟨⟨e2,rfl⟩,Zr,Tv⟩,Fh,Tv⟩
   ·rw[h2]at ha;refine Xi .pure (Xi _ (Yi (ha) ?_));have hk:Fx (done++[t])=Fx done:=by unfold Fx;rw[DA,D8,Al (by rw[h2];decide)];simp
    have e1:AV.msl 4 (Fx done).length=.msl 4 (Fx (done++[t])).length:=by rw[hk]
    have e2:ST (Fx done)=ST (Fx (done++[t])):=by rw[hk]
    refine Xi ⟨(done++[t],r,some (Nb t)),UE,zP⟩ ?_;exact⟨WU,⟨⟨e1,rfl⟩,Zr,Tv⟩,⟨⟨e2,rfl⟩,Zr,Tv⟩,Fh,Tv⟩
end Go.Eng
