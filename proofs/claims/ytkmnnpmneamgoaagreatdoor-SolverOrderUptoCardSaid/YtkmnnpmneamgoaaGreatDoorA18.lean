/- Lemmas for the claims of this seat, without a condition: part 18 (C15, C16, C17, C18, C19, C20, C21, C22). -/
import Derived.Test.YtkmnnpmneamgoaaGreatDoorA17
import Derived.Test.YtkmnnpmneamgoaaGreatDoorA02
namespace Go.Eng
open Go.Proofs
-- the checker,and what reads it
abbrev Gp(x:List Rl)(ifs:AV)(roots:List Rq)(d:List (List Tm)):List AV:=[sl A5 x,ifs,sl Ah roots,sl AG d]
theorem fT:∀(s:List Sl) (i:Nat) (h:i+1<s.length),L8 (some s[i].path) (s.drop (i+1))=(FV s[i].path s[i+1].path&&L8 (some s[i+1].path) (s.drop (i+2))):=fun s i h=>by
 rw[Br h];rfl
theorem G1(a b:ByteArray):FV a b=Op.bytesLess a.toList b.toList:=by
 have:∀x y:List UInt8,J4 x y=Op.bytesLess x y:=by
  intro x
  induction x with
  |nil=>intro y;cases y<;>rfl
  |cons a x ih =>
   intro y;cases y with
   |nil=>rfl
   |cons b y =>
    unfold J4 Op.bytesLess;rw[ih];rw[BX];simp
 unfold FV;rw[this,ByteArray.toList_eq,ByteArray.toList_eq]
theorem y0(s:List Sl)(hs:Cv s):PC 41 [sl Aq s] (vb (Et s)):=by
 unfold Cv at hs;refine Ps FC Tryz.func41 rfl (Nz rfl) ?_;refine Xi {i:Nat // 1≤i∧(s=[]∨i≤s.length)∧Et s=(match s[i-1]? with | none=>true | some y=>L8 (some y.path) (s.drop i))} (Xi (fun i=>⟨[(0,sl Aq s),(3,vi i.1)],[],Aa⟩) (Xi (fun i=>s.length-i.1) (Yi (Xi ⟨1,Ak _,by cases s with | nil=>exact .inl rfl | cons _ _=>exact .inr (by simp),by cases s<;>rfl⟩ ?_) ?_)))
 ·exact⟨Z2,Tv,Fh,Tv⟩
 ·intro⟨i,h1,h2,h3⟩;refine Yi ?_ ?_
  ·intro h;have h:(i:Int)<(s.map Aq).length:=h;have h:i<s.length:=by simpa using h
   have hg:s[i]?=some s[i]:=Ge h;have h' : i-1<s.length:=by omega
   have Xf : s[i-1]?=some s[i-1]:=Ge h';have e1:((i:Int)-1).toNat=i-1:=by omega
   have lI:Et s=(FV s[i-1].path s[i].path&&L8 (some s[i].path) (s.drop (i+1))):=by
    rw[h3,Xf]
    have:=fT s (i-1) (by omega)
    simp only[show i-1+1=i by omega,show i-1+2=i+1 by omega]at this;exact this
   refine Yi (by show BQ ((i:Int)-1);unfold BQ;omega) ?_;refine Xi (Aq s[i-1]) (Yi (Yi (by show(0:Int)≤(i:Int)-1;omega) (by show(s.map Aq)[((i:Int)-1).toNat]?=_;rw[e1];simp[Xf])) (Yi rfl ?_));refine Xi (Aq s[i]) (Yi (Yi (Nn i) (by simp[hg])) (Yi rfl ?_));refine Yi ?_ ?_
   ·intro h4;have h4:Op.bytesLess s[i-1].path.toList s[i].path.toList=false:=h4;rw[←G1]at h4;refine Yi (by kernel_rfl) ?_;show GO (vb false) (vb (Et s));rw[lI,h4];exact .refl _
   ·intro h4;have h4:¬Op.bytesLess s[i-1].path.toList s[i].path.toList=false:=h4;rw[←G1,Bool.not_eq_false]at h4;refine Yi (by kernel_rfl) ?_;refine Yi (Ii i (by omega)) ?_;refine Xi ⟨i+1,by omega,.inr (by omega),?_⟩ ?_
    ·rw[lI,h4,show i+1-1=i by omega,hg];rfl
    ·exact⟨Dl s.length i (by omega),Z2,Tv,Fh,Tv⟩
  ·intro h;have h:¬(i:Int)<(s.map Aq).length:=h;have h:¬i<s.length:=by simpa using h
   show GO (vb true) (vb (Et s))
   have:Et s=true:=by
    rcases h2 with h2 | h2
    ·rw[h2];rfl
    ·have e:i=s.length:=by omega
     rw[h3,e,List.drop_length];cases s[s.length-1]?<;>rfl
   rw[this];exact .refl _
end Go.Eng

namespace Go.Eng
open Go.Proofs
theorem Bn.imp{P:Program}{f:Nat}{args:List AV}{h0:Nat→HO}{Q Q' : AV→(Nat→HO)→Prop}(h:Bn P f args h0 Q)(hq:∀r h',Q r h'→Q' r h'):Bn P f args h0 Q':=h.mono fun r h' q=>⟨r,.refl _,hq r h' q⟩
theorem Bn.to{P:Program}{f:Nat}{args:List AV}{h0:Nat→HO}{α:Type}{r0:AV}{p:α→Prop}{H:α→Nat→HO}{Q' : AV→(Nat→HO)→Prop}(h:Bn P f args h0 fun r h'=>r=r0∧∃x,p x∧h'=H x)(k:∀x,p x→Q' r0 (H x)):Bn P f args h0 Q' :=
 h.imp fun r h' ⟨e1,x,e2,e3⟩=>by subst e1;subst e3;exact k x e2
theorem mi(n:Nat)(h:n≤1073741824):∃lim:Nat,lim<100∧PC 93 [.v (.int .u64 (IntKind.u64.wrap (n:Int)))] (vi lim):=by
 refine⟨Lib.bitLen n,Nat.lt_of_le_of_lt (Lib.bitLen_le n 62 (by omega) (by omega)) (by omega),?_⟩;have wr:IntKind.u64.wrap (n:Int)=n:=by simp[IntKind.wrap,IntKind.bits,IntKind.signed];omega
 rw[wr];refine Lb [.int .u64 n] (.int .i64 (Lib.bitLen n:Nat)) (eB 93 Tryz.func93 (by kernel_rfl) rfl) rfl (fun _ _=>.v _ _) fun w _=>?_
 have:=Any.bits_Len Tryz.layBits (n:Int) w (by omega) (by omega)
 rw[BT]at this;exact this
theorem sU(l:List (Int×Int))(hl:Cv l)(h:∀x∈l,0≤x.1∧x.1≤1000000) :
  Bn Tryz.prog 168 [.msl 1000 l.length,.v (GC 169)] (Ad [(1000,.arr 2 (l.map Ap))] Aa) fun r h' =>
   r=.tup []∧∃l' : List (Int×Int),(l'.Perm l∧l'.Pairwise (fun x y=>x.1≤y.1))∧h'=Ad [(1000,.arr 2 (l'.map Ap))] Aa:=by
 obtain⟨lim,Xh,hb⟩:=mi l.length hl;refine BD (Iv FC) [(1000,1000)] rfl BS hm rfl Tryz.func168 (by kernel_rfl) rfl (Nz rfl) (by kernel_rfl) rfl ?_;refine Xi .pure (Xi _ (Yi (hb) ?_));refine Xi (.gen [(1000,1000)] 0) (Yi rfl ((tc l hl h lim Xh).imp ?_));intro r h' hq;refine BC hq.2 (fun l' Pp=>?_);refine Xi (.tup []) (Yi ?_ (Yi rfl (Xi l' (Yi ⟨Pp.1,Pp.2.1⟩ ?_))))
 ·exact .refl _
 ·rw[Pp.2.2];rfl
theorem zd(l:List Tm)(hl:Cv l) :
  Bn Tryz.prog 231 [.msl 1000 l.length,.v (GC 232)] (Ad [(1000,.arr 3 (l.map AA))] Aa) fun r h' =>
   r=.tup []∧∃l' : List Tm,(l'.Perm l∧l'.Pairwise (fun x y=>FV y.path x.path=false))∧h'=Ad [(1000,.arr 3 (l'.map AA))] Aa:=by
 obtain⟨lim,Xh,hb⟩:=mi l.length hl;refine BD (Iv FC) [(1000,1000)] rfl BS hm rfl Tryz.func231 (by kernel_rfl) rfl (Nz rfl) (by kernel_rfl) rfl ?_;refine Xi .pure (Xi _ (Yi (hb) ?_));refine Xi (.gen [(1000,1000)] 0) (Yi rfl ((sK l hl lim Xh).imp ?_));intro r h' hq;refine BC hq.2 (fun l' Pp=>?_);refine Xi (.tup []) (Yi ?_ (Yi rfl (Xi l' (Yi ⟨Pp.1,Pp.2.1⟩ ?_))))
 ·exact .refl _
 ·rw[Pp.2.2];rfl
end Go.Eng

namespace Go.Eng
open Go.Proofs
abbrev yd(l:List (Nat×Nat))(cut:List Nat):O3:=⟨[],[],l,[],[],[],[],[],[],[],cut⟩
abbrev II(l:List (Int×Int)):HO:=.arr 2 (l.map Ap)
theorem Yz(l:Bj)(i:Nat):(CK (l.take i)).length≤i:=by
 unfold CK
 have:=By (fun x:Int×Int=>decide (x.1<x.2)) ((l.take i).map Hi)
 rw[Lm,AN]at this;omega
theorem Uy{l:Bj}{i:Nat}(h:i<l.length)(h3:(Hi l[i]).1<(Hi l[i]).2):CK (l.take (i+1))=CK (l.take i)++[Hi l[i]]:=by
 rw[Bk,Ge h,Oc];unfold CK;simp[h3]
theorem WI{l:Bj}{i:Nat}(h:i<l.length)(h3:¬(Hi l[i]).1<(Hi l[i]).2):CK (l.take (i+1))=CK (l.take i):=by
 rw[Bk,Ge h,Oc];unfold CK;simp[h3]
abbrev arr2(s j:Bj)(i:Nat):Bj:=(BH (s.take i)).reverse++(j++s.drop i)
theorem ji(s j:Bj)(i:Nat)(h:i<s.length)(hj:(BH (s.take i)).length+j.length=i):(arr2 s j i)[i]?=some s[i]:=by
 unfold arr2;rw[A3 (by rw[Dm];omega),A3 (by rw[Dm];omega),Dm,Du];rw[show i+(i-(BH (List.take i s)).length-j.length)=i by omega,Ge h]
theorem bc(s j:Bj)(i:Nat){y:Int×Int}{t:Bj}(e:BH (s.take i)=y::t):(arr2 s j i)[t.length]?=some y:=by
 unfold arr2;rw[e,Qg,BU,A3 (by rw[Dm];omega),Dm,Is];rfl
theorem dO(s j:Bj)(i:Nat)(h:i≤s.length)(hj:(BH (s.take i)).length+j.length=i):(arr2 s j i).length=s.length:=by
 unfold arr2;simp only[Ac,Dm,Da];omega
theorem ZI{α:Type}(s:List α)(i:Nat)(h:i<s.length):s.drop i=s[i]::s.drop (i+1):=Br h
theorem Un(s j:Bj)(i:Nat)(h:i<s.length)(e:KK (BH (s.take i)) s[i]=s[i]::BH (s.take i)) :
  (arr2 s j i).set (BH (s.take i)).length s[i]=arr2 s (j++[s[i]]).tail (i+1):=by
 unfold arr2;rw[Gs s i h,e,Qg,List.set_append_right _ _ (by rw[Dm];exact Ak _),Dm,Is,BU,ZI s i h]
 congr 1
 cases j with
 |nil=>rfl
 |cons a b=>simp
theorem aZ(s j:Bj)(i:Nat)(h:i<s.length){y:Int×Int}{t:Bj}(e:BH (s.take i)=y::t)(HI:s[i].1≤y.2) :
  (arr2 s j i).set t.length (y.1,max y.2 s[i].2)=arr2 s (j++[s[i]]) (i+1):=by
 unfold arr2;have e2:KK (y::t) s[i]=(y.1,max y.2 s[i].2)::t:=by show(if s[i].1≤y.2 then _ else _)=_;rw[Aw HI]
 rw[Gs s i h,e,e2,Qg,Qg,BU,List.set_append_right _ _ (by rw[Dm];exact Ak _),Dm,Is,ZI s i h];simp
theorem Dr{α:Type}{enc:α→List AV}{l:List α}{i:Nat}{x:α}(h:l[i]?=some x):(l.map enc)[i]?=some (enc x):=by rw[AH,h];rfl
theorem WE(l:List (Int×Int))(hl:Cv l):PC 116 [sl Ap l] (sl Ap (canon l)):=by
 have hl:l.length≤1073741824:=hl;refine F9 (bq (yd [(3,2)] [5,14,15,16])) rfl BS hm rfl Tryz.func116 (by kernel_rfl) rfl (Nz rfl) (by kernel_rfl) ?_;refine Xi {i:Nat // i≤l.length} (Xi (fun i=>⟨[(0,sl Ap l),(3,.msl 3 (CK (l.take i.1)).length),(9,sl Ap l),(10,vi (l.map Ap).length),(11,vi i.1)],[(3,II (CK (l.take i.1)))],Aa⟩) (Xi (fun i=>l.length-i.1) (Yi (Xi ⟨0,by simp⟩ ?_) ?_)))
 ·exact⟨Z5,Z1,Fh,Tv⟩
 ·intro⟨i,h1⟩;have hn:=Yz l i;refine Yi ?_ ?_
  ·intro h;have h:(i:Int)<(l.map Ap).length:=h;have h:i<l.length:=by simpa using h
   have hg:l[i]?=some l[i]:=Ge h;refine Xi (Ap l[i]) (Yi (Yi (Nn i) (by simp[hg])) (Yi rfl ?_));refine Yi (Nz rfl) (Yi (Nz rfl) ?_);refine Xi ⟨[(0,sl Ap l),(3,.msl 3 (CK (l.take i)).length),(5,.ref 5 0),(9,sl Ap l),(10,vi (l.map Ap).length),(11,vi i)],[(3,II (CK (l.take i))),(5,.cells (Ap l[i]))],Aa⟩ (Yi ⟨Z6,Z2,Fh,Tv⟩ ?_)
   refine Yi (Nz rfl) ?_;refine Yi ?_ ?_
   ·intro h3;have h3:(Hi l[i]).1<(Hi l[i]).2:=h3;refine Yi (Nz rfl) ?_;have Ei:BY 2 [[vi (max l[i].1 0),vi (min l[i].2 1000000)]]∧((CK (l.take i)).map Ap).length=(CK (l.take i)).length∧(((CK (l.take i)).map Ap).length+[[vi (max l[i].1 0),vi (min l[i].2 1000000)]].length)*16≤140737488355328∧((CK (l.take i)).map Ap).length+[[vi (max l[i].1 0),vi (min l[i].2 1000000)]].length≤9223372036854775807 :=
     ⟨⟨rfl,trivial⟩,by rw[Lm],by rw[Lm,As];omega,by rw[Lm,As];omega⟩
    refine Yi Ei ?_;refine Yi (Ii i (by omega)) ?_;refine Xi ⟨i+1,by omega⟩ ?_;have e1:AV.msl 3 (((CK (l.take i)).map Ap).length+[[vi (max l[i].1 0),vi (min l[i].2 1000000)]].length)=.msl 3 (CK (l.take (i+1))).length:=by rw[Uy h h3];simp
    have e2:HO.arr 2 ((CK (l.take i)).map Ap++[[vi (max l[i].1 0),vi (min l[i].2 1000000)]])=II (CK (l.take (i+1))):=by rw[Uy h h3];simp[Hi]
    exact⟨Dl l.length i (by omega),⟨Zr,⟨e1,rfl⟩,Zr,Zr,Zr,Tv⟩,⟨⟨e2,rfl⟩,Tv⟩,Fh,Tv⟩
   ·intro h3;have h3:¬(Hi l[i]).1<(Hi l[i]).2:=h3;refine Yi (Ii i (by omega)) ?_;refine Xi ⟨i+1,by omega⟩ ?_;have e1:AV.msl 3 (CK (l.take i)).length=.msl 3 (CK (l.take (i+1))).length:=by rw[WI h h3]
    have e2:II (CK (l.take i))=II (CK (l.take (i+1))):=by rw[WI h h3]
    exact⟨Dl l.length i (by omega),⟨Zr,⟨e1,rfl⟩,Zr,Zr,Zr,Tv⟩,⟨⟨e2,rfl⟩,Tv⟩,Fh,Tv⟩
  ·intro h;have h:¬(i:Int)<(l.map Ap).length:=h;have h:¬i<l.length:=by simpa using h
   have ei:CK (l.take i)=CK l:=by rw[AI (by omega)]
   have hN:(CK (l.take i)).length=(CK l).length:=by rw[ei]
   refine Xi (.gen [(3,1000)] 0) (Yi rfl ((sU (CK (l.take i)) (by unfold Cv;omega) (fun x hx=>by have:=Ux hx;omega)).to ?_));intro s hs;have UK:s.length=(CK (l.take i)).length:=hs.1.length_eq;have hsN:s.length≤1073741824:=by omega
   have fin:(BH s).reverse=canon l:=QR (by rw[←ei];exact hs.1) hs.2;refine Xi {p:Nat×Bj // p.1≤s.length∧(BH (s.take p.1)).length+p.2.length=p.1} (Xi (fun p=>⟨[(3,.msl 3 (CK (l.take i)).length),(6,vi (BH (s.take p.1.1)).length),(34,.msl 3 (CK (l.take i)).length),(35,vi (CK (l.take i)).length),(36,vi p.1.1)],[(3,II (arr2 s p.1.2 p.1.1))],Aa⟩) (Xi (fun p=>s.length-p.1.1) (Yi (Xi ⟨(0,[]),AS _,rfl⟩ ?_) ?_)))
   ·exact⟨Z5,Z1,Fh,Tv⟩
   intro⟨⟨k,j⟩,k1,k2⟩;have k1:k≤s.length:=k1;have k2:(BH (s.take k)).length+j.length=k:=k2;have CM:=dO s j k k1 k2;have SE:(CK (l.take i)).length=((arr2 s j k).map Ap).length:=by rw[Lm,CM,UK]
   refine Yi ?_ ?_
   ·intro h2;have h2:(k:Int)<(CK (l.take i)).length:=h2;have hk:k<s.length:=by omega
    have lr:=Dr (enc:=Ap) (ji s j k hk k2);refine Yi ⟨by show(0:Int)≤k;omega,by show(k:Int)<_;omega⟩ ?_;refine Yi SE (Xi (Ap s[k]) (Yi lr (Yi (Nz rfl) (Yi (Nz rfl) ?_))));refine Xi ⟨[(3,.msl 3 (CK (l.take i)).length),(6,vi (BH (s.take k)).length),(7,vi k),(8,.ref 8 0),(34,.msl 3 (CK (l.take i)).length),(35,vi (CK (l.take i)).length),(36,vi k)],[(3,II (arr2 s j k)),(8,.cells (Ap s[k]))],Aa⟩ (Yi ⟨Z7,Z2,Fh,Tv⟩ ?_)
    have hr:=SW s k k1;refine Cy (Nat.eq_zero_or_pos k) (fun k0=>?_) (fun k0=>?_)
    ·refine Yi ?_ ?_
     ·intro h4;have h4:(0:Int)<k:=h4;omega
     ·intro _;refine Yi (by kernel_rfl) ?_;have FK:KK (BH (s.take k)) s[k]=s[k]::BH (s.take k):=by subst k0;rfl
      have dA:(BH (s.take k)).length<(arr2 s j k).length:=by omega
      have hz:=Dr (enc:=Ap) (Ge dA);refine Xi ⟨[(3,.msl 3 (CK (l.take i)).length),(6,vi (BH (s.take k)).length),(8,.ref 8 0),(34,.msl 3 (CK (l.take i)).length),(35,vi (CK (l.take i)).length),(36,vi k)],[(3,II (arr2 s j k)),(8,.cells (Ap s[k]))],Aa⟩ (Yi ⟨⟨⟨rfl,rfl⟩,⟨rfl,rfl⟩,⟨rfl,rfl⟩,⟨rfl,rfl⟩,⟨rfl,rfl⟩,⟨rfl,rfl⟩,Tv⟩,⟨⟨rfl,rfl⟩,⟨rfl,rfl⟩,Tv⟩,Fh,Tv⟩ ?_);refine Yi (Nz rfl) (Yi ⟨by show(0:Int)≤((BH (s.take k)).length:Int);omega,by show((BH (s.take k)).length:Int)<_;omega⟩ ?_);refine Yi SE (Xi (Ap (arr2 s j k)[(BH (s.take k)).length]) (Yi hz (Yi (Nz rfl) ?_)));refine Yi (by show BQ (((BH (s.take k)).length:Int)+1);unfold BQ;omega) ?_;refine Yi (Ii k (by omega)) ?_;have hm:=Gs s k hk;have e1:vi (((BH (s.take k)).length:Int)+1)=vi (BH (s.take (k+1))).length:=by rw[hm,FK];simp
      have e2:HO.arr 2 (((arr2 s j k).map Ap).set (BH (s.take k)).length [vi s[k].1,vi s[k].2])=II (arr2 s (j++[s[k]]).tail (k+1)):=by rw[←Un s j k hk FK];simp only[II,List.map_set]
      refine Xi ⟨(k+1,(j++[s[k]]).tail),by show k+1≤s.length;omega,by show(BH (s.take (k+1))).length+((j++[s[k]]).tail).length=k+1;rw[hm,FK];simp;omega⟩ ?_;exact⟨Dl s.length k (by omega),⟨Zr,⟨e1,rfl⟩,Zr,Zr,Zr,Tv⟩,⟨⟨e2,rfl⟩,Tv⟩,Fh,Tv⟩
    ·refine Yi ?_ ?_
     ·intro _;obtain⟨y,t,e⟩:∃y t,BH (s.take k)=y::t:=by
       cases hc:BH (s.take k)with
       |nil=>have:=hr.2 k0;rw[hc]at this;simp at this
       |cons y t=>exact⟨y,t,rfl⟩
      have ht:(((BH (s.take k)).length:Int)-1).toNat=t.length:=by rw[e];simp
      have hy:((arr2 s j k).map Ap)[(((BH (s.take k)).length:Int)-1).toNat]?=some (Ap y):=by rw[ht];exact Dr (bc s j k e)
      refine Yi (by show BQ (((BH (s.take k)).length:Int)-1);unfold BQ;omega) ?_;have YX:=hr.2 k0;refine Yi ⟨by show(0:Int)≤((BH (s.take k)).length:Int)-1;omega,by show((BH (s.take k)).length:Int)-1<_;omega⟩ ?_;refine Yi SE (Xi (Ap y) (Yi hy ?_));refine Yi ?_ ?_
      ·intro h5;have h5:s[k].1≤y.2:=h5;refine Yi (by kernel_rfl) ?_;refine Xi ⟨[(3,.msl 3 (CK (l.take i)).length),(6,vi (BH (s.take k)).length),(8,.ref 8 0),(34,.msl 3 (CK (l.take i)).length),(35,vi (CK (l.take i)).length),(36,vi k)],[(3,II (arr2 s j k)),(8,.cells (Ap s[k]))],Aa⟩ (Yi ⟨⟨⟨rfl,rfl⟩,⟨rfl,rfl⟩,⟨rfl,rfl⟩,⟨rfl,rfl⟩,⟨rfl,rfl⟩,⟨rfl,rfl⟩,Tv⟩,⟨⟨rfl,rfl⟩,⟨rfl,rfl⟩,Tv⟩,Fh,Tv⟩ ?_);refine Yi (by show BQ (((BH (s.take k)).length:Int)-1);unfold BQ;omega) (Yi (by show BQ (((BH (s.take k)).length:Int)-1);unfold BQ;omega) ?_);refine Yi ⟨by show(0:Int)≤((BH (s.take k)).length:Int)-1;omega,by show((BH (s.take k)).length:Int)-1<_;omega⟩ ?_;refine Yi SE (Xi (Ap y) (Yi hy ?_));refine Yi ⟨by show(0:Int)≤((BH (s.take k)).length:Int)-1;omega,by show((BH (s.take k)).length:Int)-1<_;omega⟩ ?_;refine Yi SE (Xi (Ap y) (Yi hy (Yi (Nz rfl) ?_)));refine Yi (by kernel_rfl) ?_;refine Yi (Ii k (by omega)) ?_;have hm:=Gs s k hk;have FK:KK (BH (s.take k)) s[k]=(y.1,max y.2 s[k].2)::t:=by rw[e];show(if s[k].1≤y.2 then _ else _)=_;rw[Aw h5]
       have e1:vi (BH (s.take k)).length=vi (BH (s.take (k+1))).length:=by rw[hm,FK,e];simp
       have e2:HO.arr 2 (((arr2 s j k).map Ap).set (((BH (s.take k)).length:Int)-1).toNat [vi y.1,vi (max y.2 s[k].2)])=II (arr2 s (j++[s[k]]) (k+1)):=by rw[←aZ s j k hk e h5,ht];simp only[II,List.map_set]
       refine Xi ⟨(k+1,j++[s[k]]),by show k+1≤s.length;omega,by show(BH (s.take (k+1))).length+(j++[s[k]]).length=k+1;rw[hm,FK,Ac,As];rw[e]at k2;simp only[Al]at k2⊢;omega⟩ ?_;exact⟨Dl s.length k (by omega),⟨Zr,⟨e1,rfl⟩,Zr,Zr,Zr,Tv⟩,⟨⟨e2,rfl⟩,Tv⟩,Fh,Tv⟩
      ·intro h5;have h5:¬s[k].1≤y.2:=h5;refine Yi (by kernel_rfl) ?_;have FK:KK (BH (s.take k)) s[k]=s[k]::BH (s.take k):=by rw[e];show(if s[k].1≤y.2 then _ else _)=_;rw[Am h5]
       have dA:(BH (s.take k)).length<(arr2 s j k).length:=by omega
       have hz:=Dr (enc:=Ap) (Ge dA);refine Xi ⟨[(3,.msl 3 (CK (l.take i)).length),(6,vi (BH (s.take k)).length),(8,.ref 8 0),(34,.msl 3 (CK (l.take i)).length),(35,vi (CK (l.take i)).length),(36,vi k)],[(3,II (arr2 s j k)),(8,.cells (Ap s[k]))],Aa⟩ (Yi ⟨⟨⟨rfl,rfl⟩,⟨rfl,rfl⟩,⟨rfl,rfl⟩,⟨rfl,rfl⟩,⟨rfl,rfl⟩,⟨rfl,rfl⟩,Tv⟩,⟨⟨rfl,rfl⟩,⟨rfl,rfl⟩,Tv⟩,Fh,Tv⟩ ?_);refine Yi (Nz rfl) (Yi ⟨by show(0:Int)≤((BH (s.take k)).length:Int);omega,by show((BH (s.take k)).length:Int)<_;omega⟩ ?_);refine Yi SE (Xi (Ap (arr2 s j k)[(BH (s.take k)).length]) (Yi hz (Yi (Nz rfl) ?_)));refine Yi (by show BQ (((BH (s.take k)).length:Int)+1);unfold BQ;omega) ?_;refine Yi (Ii k (by omega)) ?_;have hm:=Gs s k hk;have e1:vi (((BH (s.take k)).length:Int)+1)=vi (BH (s.take (k+1))).length:=by rw[hm,FK];simp
       have e2:HO.arr 2 (((arr2 s j k).map Ap).set (BH (s.take k)).length [vi s[k].1,vi s[k].2])=II (arr2 s (j++[s[k]]).tail (k+1)):=by rw[←Un s j k hk FK];simp only[II,List.map_set]
       refine Xi ⟨(k+1,(j++[s[k]]).tail),by show k+1≤s.length;omega,by show(BH (s.take (k+1))).length+((j++[s[k]]).tail).length=k+1;rw[hm,FK];simp;omega⟩ ?_;exact⟨Dl s.length k (by omega),⟨Zr,⟨e1,rfl⟩,Zr,Zr,Zr,Tv⟩,⟨⟨e2,rfl⟩,Tv⟩,Fh,Tv⟩
     ·intro h4;have h4:¬(0:Int)<k:=h4;omega
   ·intro h2;have h2:¬(k:Int)<(CK (l.take i)).length:=h2;have hk:k=s.length:=by omega
    have hr:=SW s k k1;have bQ:((((arr2 s j k).map Ap).take ((BH (s.take k)).length:Int).toNat).drop 0)=(canon l).map Ap:=by
     rw[NY,BT,←List.map_take,←fin];unfold arr2
     have:(BH (s.take k)).length=(BH (s.take k)).reverse.length:=by rw[Dm]
     rw[this,List.take_left,hk,DU]
    refine Yi ⟨SE,by show(0:Int)≤0;omega,by show(0:Int)≤((BH (s.take k)).length:Int);omega,by show((BH (s.take k)).length:Int)≤(((arr2 s j k).map Ap).length:Int);omega,.inr ⟨rfl,by simp⟩⟩ ?_;exact .of_eq (Ae (AV.slice .none) bQ)
end Go.Eng

namespace Go.Eng
open Go.Proofs Go.Sort
abbrev Ck(z:Int):List AV:=[vi z]
theorem U3{α:Type}[Inhabited α](enc:α→Value)(w:World)(b:Nat)(d:Array α):putRow enc w b 0 d=putRow id w b 0 (d.map enc):=by
 unfold putRow
 congr 1
 funext c
 unfold putCells;apply RA
 ·simp
 ·intro i h1 h2;simp only[Array.getElem_mapIdx,Array.size_map]
  by_cases h:i<d.size
  ·rw[Aw (by omega),Aw (by omega)];rw[DH d (i-0) (by omega),DH (d.map enc) (i-0) (by simpa using h)];simp
  ·rw[Am (by omega),Am (by omega)]
theorem Mt(zs:List Int):(zs.map Ck).flatten=(zs.map fun z=>Value.int .i64 z).map AV.v:=by
 induction zs with
 |nil=>rfl
 |cons z zs ih=>rw[AM,BL,ih];rfl
theorem PM(g:Gh)(w:World)(U:Nat→Prop)(vs:List Value)(h:∀x∈vs,x.oneCell'=true):CE g w U (vs.map .v) vs :=
 ⟨by simp,h,fun i av x q1 q2=>by
  rw[AH,q2]at q1;cases q1;exact .v _ _⟩
theorem OQ{g:Gh}{w:World}{U:Nat→Prop}{vs us:List Value}(h:CE g w U (vs.map .v) us):us=vs:=by
 apply Dc;intro i;have hl:=h.1;rw[Lm]at hl
 by_cases hi:i<vs.length
 ·have:=h.2.2 i (.v vs[i]) us[i] (by rw[AH,Ge hi];rfl) (Ge (by omega))
  rw[Ge hi,Ge (by omega),this.v_eq]
 ·rw[AZ (by omega),AZ (by omega)]
theorem tb(zs:List Int)(hl:Cv zs)(Dn:zs≠[]) :
  Bn Tryz.prog 261 [.msl 1000 zs.length] (Ad [(1000,.arr 1 (zs.map Ck))] Aa) fun r h' =>
   r=.tup []∧∃l' : List Int,(l'.Perm zs∧l'.Pairwise fun a b=>a≤b)∧h'=Ad [(1000,.arr 1 (l'.map Ck))] Aa:=by
 have hl:zs.length≤1073741824:=hl;have hE:Gb Tryz.prog 261:=eB 261 Tryz.func261 (by kernel_rfl) rfl;have Ik:=Ui (P:=Tryz.prog) (f:=261) (es:=zs.map Ck) (sz:=1) (rest:=[]) (Q:=fun EA=>∃l' : List Int,(l'.Perm zs∧l'.Pairwise fun a b=>a≤b)∧EA=l'.map Ck) hE ?_ ?_
 ·rw[Lm]at Ik;refine⟨hE,fun g w vals q1 q2 q3=>(Ik.2 g w vals q1 q2 q3).mono fun _ _ ⟨v,r,h',g',e1,⟨e2,EA,⟨l',p1,p2⟩,p3⟩,rest⟩=>⟨v,r,h',g',e1,⟨e2,l',p1,by rw[p3,p2]⟩,rest⟩⟩
 ·intro e
  have:zs=[]:=by simpa using e
  exact absurd this Dn
 ·intro g w b cap F hr hF hH hb;have rV:F.toList=zs.map fun z=>Value.int .i64 z:=OQ (by rw[←Mt];exact hr);have mR:F=zs.toArray.map fun z=>Value.int .i64 z:=Lv.1 (by rw[rV];simp);have tY:Holds (Value.int .i64) w b 0 zs.toArray:=fun j hj=>by
   have:=hH j (by rw[mR];simpa using hj)
   refine⟨this.1.trans ?_,this.2⟩;rw[mR,DH _ j (by simpa using hj),DH _ j hj];simp
  have hc:=Any.slices_Sort_int Tryz.laySortInts b 0 cap zs w tY hb (by omega);rw[Lm];refine hc.mono ?_
  rintro e w' ⟨rfl,n,os,rfl⟩
  have JK:(zs.mergeSort fun x y=>decide (x≤y)).Perm zs:=List.mergeSort_perm _ _;have CM:=JK.length_eq;refine⟨rfl,(zs.mergeSort fun x y=>decide (x≤y)).toArray.map fun z=>Value.int .i64 z,(zs.mergeSort fun x y=>decide (x≤y)).map Ck,n,os,?_,⟨_,⟨JK,?_⟩,rfl⟩,by simp[CM],fun cs hcs=>?_,fun g w _=>?_,by rw[U3]⟩
  ·rw[mR];simp[CM]
  ·have:=List.pairwise_mergeSort (le:=fun x y:Int=>decide (x≤y)) (fun a b c h1 h2=>by simp only[Az]at *;omega) (fun a b=>by simp only[CO,Az];omega) zs
   exact this.imp fun h=>CB h
  ·obtain⟨x,_,rfl⟩:=Ao.1 hcs;rfl
  ·rw[Mt];have e:((zs.mergeSort fun x y=>decide (x≤y)).toArray.map fun z=>Value.int .i64 z).toList=(zs.mergeSort fun x y=>decide (x≤y)).map fun z=>Value.int .i64 z:=by simp
   rw[e];exact PM _ _ _ _ fun x hx=>by
    obtain⟨z,_,rfl⟩:=Ao.1 hx;rfl

-- maps from numbers to numbers
abbrev We:Ez:=⟨false,[.int .i64]⟩
abbrev kI(z:Int):Value:=.int .i64 z
abbrev LD(p:Int×Int):Value×AV:=(kI p.1,vi p.2)
abbrev Fq(s:Bj):List AV:=[sl Ap s]
theorem Rk{m:List (Int×Int)}{k:Int}{a:AV}:(kI k,a)∈m.map LD↔∃v,(k,v)∈m∧a=vi v:=by
 rw[Ao];constructor
 ·rintro⟨⟨k',v⟩,h1,h2⟩
  simp only[FP,Value.int.injEq,true_and]at h2;obtain⟨rfl,rfl⟩:=h2;exact⟨v,h1,rfl⟩
 ·rintro⟨v,h1,rfl⟩
  exact⟨(k,v),h1,rfl⟩
theorem Rn(m:List (Int×Int))(k v:Int):E1 (m.map LD) (kI k) (vi v)=(Lc m k v).map LD:=by
 unfold Lc
 by_cases h:(m.any fun p=>decide (p.1=k))=true
 ·rw[Aw h];obtain⟨p,h1,h2⟩:=Bf.1 h;have h2:=CB h2
  have:(kI k,vi p.2)∈m.map LD:=Rk.2 ⟨p.2,by rw[←h2];exact h1,rfl⟩
  rw[PD this,BW,BW];apply Be;intro q _;simp only[Function.comp]
  by_cases e:q.1=k
  ·simp[e]
  ·have:¬kI q.1=kI k:=fun c=>e (by injection c)
   simp[e]
 ·rw[Am h]
  have:∀b,(kI k,b)∉m.map LD:=fun b hb=>by
   obtain⟨v,h1,_⟩:=Rk.1 hb;exact h (Bf.2 ⟨(k,v),h1,by simp⟩)
  rw[PB this,AB];rfl
theorem Ou{T:GK}{e:Nat}{B5:List (Value×AV)}{kx:Value}{K:AV→Prop}(a0 z0:AV)(h1:∀a,(kx,a)∈B5→a=a0)(hz:(∀a,(kx,a)∉B5)→a0=z0)(h2:K z0→J9 T e K)(k:K a0) :
  (∀a,(kx,a)∈B5→K a)∧((∀a,(kx,a)∉B5)→J9 T e K):=⟨fun a h=>by rw[h1 a h];exact k,fun hn=>h2 (hz hn▸k)⟩
theorem PZ(m:List (Int×Int))(k:Int):(∀a,(kI k,a)∉m.map LD)→vi (Fp m k)=vi 0:=fun Nw=>by
 rw[iJ fun hk=>by
  obtain⟨p,hp,e⟩:=Ao.1 hk;exact Nw (vi p.2) (Rk.2 ⟨p.2,by rw[←e];exact hp,rfl⟩)]
theorem PY{m:List (Int×Int)}(hn:(E4 m).Nodup)(k:Int):∀a,(kI k,a)∈m.map LD→a=vi (Fp m k):=fun a h=>by
 obtain⟨v,h1,rfl⟩:=Rk.1 h;rw[iI hn h1]
theorem H8.bound{m:List (Int×Int)}{S:Bj}(h:H8 m S)(k:Int):-(S.length:Int)≤Fp m k∧Fp m k≤S.length:=by
 rw[h.val]
 have:cF S k≤S.length:=List.countP_le_length
 have:cT S k≤S.length:=List.countP_le_length
 omega
theorem YH(l:List Bj):(l.map canon).flatten.length≤l.length*1000000:=by
 induction l with
 |nil=>simp
 |cons s l ih =>
  rw[AM,BL,Ac,Al]
  have:=HS (Ci s)
  omega
theorem H8.few{m:List (Int×Int)}{S:Bj}(h:H8 m S):m.length≤1000001:=by
 have:=GV (m:=(List.range 1000001).map Int.ofNat) h.nd fun k hk=>by
  have:=h.rng k hk
  exact Ao.2 ⟨k.toNat,NZ.2 (by omega),by show(k.toNat:Int)=k;omega⟩
 unfold E4 at this;rw[Lm,Lm,List.length_range]at this;exact this
theorem UP(keep:Nat→Bool)(m:List (Int×Int))(B:List Int):∀n,(Em keep m B n).length≤n
 |0=>Ak _
 |n+1=>by
  unfold Em
  have:=UP keep m B n
  rw[Ac];split
  ·split<;>simp<;>omega
  ·simp;omega
end Go.Eng

namespace Go.Eng
open Go.Proofs
abbrev plC:O3:=⟨[],[(12,2)],[(44,1)],[],[],[],[],[],[],[],[8,9,15,23,25,26]⟩
theorem mo(F:AV)(keep:Nat→Bool)(l:List Bj)(hl:Cv l)(hs:∀s∈l,Cv s)(hid:∀h,VW h F=true)(hF:∀h (n:Int),0≤n→n≤l.length→O8 Tryz.prog (str h F) [vi n] (vb (keep n.toNat)))
  (R:Bj) (hR:Ey R) (zz:∀p,has R p=(LB p&&keep (dq l p))):PC 222 [F,sl Fq l] (sl Ap R):=by
 have hl:l.length≤1073741824:=hl;refine Ps plC Tryz.func222 rfl (Nz rfl) ?_;refine Xi {p:Nat×List (Int×Int) // p.1≤l.length∧H8 p.2 ((l.take p.1).map canon).flatten} (Xi (fun p=>⟨[(0,F),(5,.mref 15),(17,sl Fq l),(18,vi (l.map Fq).length),(19,vi p.1.1)],[(15,.map We (p.1.2.map LD))],Aa⟩) (Xi (fun p=>l.length-p.1.1) (Yi (Xi ⟨(0,pG),AS _,jr⟩ ?_) ?_)))
 ·have e0:HO.map We (E1 (E1 [] (kI 0) (vi 0)) (kI 1000000) (vi 0))=.map We (pG.map LD):=by
   have e1:=Rn [] 0 0;have e2:=Rn [(0,0)] 1000000 0;show HO.map We (E1 (E1 (List.map LD []) (kI 0) (vi 0)) (kI 1000000) (vi 0))=_;rw[e1];show HO.map We (E1 (List.map LD [(0,0)]) (kI 1000000) (vi 0))=_;rw[e2];rfl
  exact⟨⟨⟨rfl,hid _⟩,Zr,Zr,Zr,Zr,Tv⟩,⟨⟨e0,rfl⟩,Tv⟩,Fh,Tv⟩
 intro⟨⟨i,cm⟩,i1,i2⟩;have i1:i≤l.length:=i1;have i2:H8 cm ((l.take i).map canon).flatten:=i2;refine Yi ?_ ?_
 ·intro h;have h:(i:Int)<(l.map Fq).length:=h;have h:i<l.length:=by simpa using h
  have hg:l[i]?=some l[i]:=Ge h;refine Xi (Fq l[i]) (Yi (Yi (Nn i) (by simp[hg])) (Yi rfl ?_));refine Xi .pure (Xi _ (Yi (WE l[i] (hs _ (AC h))) ?_));refine Xi {p:Nat×List (Int×Int) // p.1≤(canon l[i]).length∧H8 p.2 (((l.take i).map canon).flatten++(canon l[i]).take p.1)} (Xi (fun p=>⟨[(0,F),(5,.mref 15),(17,sl Fq l),(18,vi (l.map Fq).length),(19,vi i),(24,sl Ap (canon l[i])),(25,vi ((canon l[i]).map Ap).length),(26,vi p.1.1)],[(15,.map We (p.1.2.map LD))],Aa⟩) (Xi (fun p=>(canon l[i]).length-p.1.1) (Yi (Xi ⟨(0,cm),AS _,by rw[List.take_zero,CP];exact i2⟩ ?_) ?_)))
  ·exact⟨⟨⟨rfl,hid _⟩,Zr,Zr,Zr,Zr,Zr,Zr,Zr,Tv⟩,Z1,Fh,Tv⟩
  intro⟨⟨j,dm⟩,j1,j2⟩;have j1:j≤(canon l[i]).length:=j1;have j2:H8 dm (((l.take i).map canon).flatten++(canon l[i]).take j):=j2;have hS:(((l.take i).map canon).flatten++(canon l[i]).take j).length≤1073741825000000:=by
   have a1:=YH (l.take i);have a2:=HS (Ci l[i]);rw[AN]at a1;rw[Ac,AN];omega
  refine Yi ?_ ?_
  ·intro hj;have hj:(j:Int)<((canon l[i]).map Ap).length:=hj;have hj:j<(canon l[i]).length:=by simpa using hj
   have uD:(canon l[i])[j]?=some (canon l[i])[j]:=Ge hj;have lJ:=(Ci l[i]).low _ (AC hj);have j3:H8 (X6 dm (canon l[i])[j]) (((l.take i).map canon).flatten++(canon l[i]).take (j+1)):=by
    have:=c9 j2 (x:=(canon l[i])[j]) lJ
    rw[BU]at this;rw[Bk,uD];exact this
   generalize (canon l[i])[j]=x at uD lJ j3;have b1:=j2.bound x.1;have dA:=Ma j2.nd x.1 (Fp dm x.1+1);refine Xi (Ap x) (Yi (Yi (Nn j) (by simp[uD])) (Yi rfl ?_));refine Yi (Nz rfl) (Yi (Nz rfl) ?_);refine Xi ⟨[(0,F),(5,.mref 15),(9,.ref 9 0),(17,sl Fq l),(18,vi (l.map Fq).length),(19,vi i),(24,sl Ap (canon l[i])),(25,vi ((canon l[i]).map Ap).length),(26,vi j)],[(9,.cells (Ap x)),(15,.map We (dm.map LD))],Aa⟩ (Yi ⟨⟨⟨rfl,hid _⟩,Zr,Zr,Zr,Zr,Zr,Zr,Zr,Zr,Tv⟩,Z2,Fh,Tv⟩ ?_)
   refine Ou (vi (Fp dm x.1)) (vi 0) (PY j2.nd x.1) (PZ dm x.1) (fun q=>q) ?_;refine Yi (by show BQ (Fp dm x.1+1);unfold BQ;omega) ?_;have m1:HO.map We (E1 (dm.map LD) (kI x.1) (vi (Fp dm x.1+1)))=.map We ((Lc dm x.1 (Fp dm x.1+1)).map LD):=by rw[Rn]
   refine Xi ⟨[(0,F),(5,.mref 15),(9,.ref 9 0),(17,sl Fq l),(18,vi (l.map Fq).length),(19,vi i),(24,sl Ap (canon l[i])),(25,vi ((canon l[i]).map Ap).length),(26,vi j)],[(9,.cells (Ap x)),(15,.map We ((Lc dm x.1 (Fp dm x.1+1)).map LD))],Aa⟩ (Yi ⟨⟨⟨rfl,hid _⟩,Zr,Zr,Zr,Zr,Zr,Zr,Zr,Zr,Tv⟩,⟨Zr,⟨m1,rfl⟩,Tv⟩,Fh,Tv⟩ ?_)
   have b2:-(1073741825000001:Int)≤Fp (Lc dm x.1 (Fp dm x.1+1)) x.2∧Fp (Lc dm x.1 (Fp dm x.1+1)) x.2≤1073741825000001:=by
    have b3:=j2.bound x.2;rw[O0];split<;>omega
   refine Ou (vi (Fp (Lc dm x.1 (Fp dm x.1+1)) x.2)) (vi 0) (PY dA x.2) (PZ _ x.2) (fun q=>q) ?_;refine Yi (by show BQ (Fp (Lc dm x.1 (Fp dm x.1+1)) x.2-1);unfold BQ;omega) ?_;have hcl:=HS (Ci l[i]);refine Yi (Ii j (by omega)) ?_;have m2:HO.map We (E1 ((Lc dm x.1 (Fp dm x.1+1)).map LD) (kI x.2) (vi (Fp (Lc dm x.1 (Fp dm x.1+1)) x.2-1)))=.map We ((X6 dm x).map LD):=by rw[Rn];rfl
   refine Xi ⟨(j+1,X6 dm x),by show j+1≤_;omega,j3⟩ ?_;exact⟨by show(canon l[i]).length-(j+1)<(canon l[i]).length-j;omega,⟨⟨rfl,hid _⟩,Zr,Zr,Zr,Zr,Zr,Zr,Zr,Tv⟩,⟨⟨m2,rfl⟩,Tv⟩,Fh,Tv⟩
  ·intro hj;have hj:¬(j:Int)<((canon l[i]).map Ap).length:=hj;have hj:¬j<(canon l[i]).length:=by simpa using hj
   refine Yi (Ii i (by omega)) ?_;have i3:H8 dm ((l.take (i+1)).map canon).flatten:=by
    have e1:(canon l[i]).take j=canon l[i]:=AI (by omega);rw[e1]at j2;have e2:((l.take (i+1)).map canon).flatten=((l.take i).map canon).flatten++canon l[i]:=by
     rw[Bk,hg,AB,Ct];show _++(canon l[i]++[])=_;rw[CP]
    rw[e2];exact j2
   refine Xi ⟨(i+1,dm),by show i+1≤_;omega,i3⟩ ?_;exact⟨Dl l.length i (by omega),⟨⟨rfl,hid _⟩,Zr,Zr,Zr,Zr,Tv⟩,Z1,Fh,Tv⟩
 ·intro h;have h:¬(i:Int)<(l.map Fq).length:=h;have h:¬i<l.length:=by simpa using h
  have i3:H8 cm (l.map canon).flatten:=by
   rw[AI (by omega)]at i2;exact i2
  have uB:=i3.few;have zV:(0:Int)≤0∧(0:Int)≤((cm.map LD).length:Int)∧((cm.map LD).length:Int)*((8:Nat):Int)≤140737488355328∧((cm.map LD).length:Int)≤9223372036854775807:=by rw[Lm];omega
  refine Yi zV ?_;refine Xi {p:List (Value×AV)×List Int×Option (Value×AV) // ((p.2.1.map kI)++p.1.map (·.1)).Perm ((cm.map LD).map (·.1))∧∀kv∈p.1,kv∈cm.map LD} (Xi (fun p=>⟨[(0,F),(5,.mref 15),(10,.msl 44 p.1.2.1.length),(46,.ref 46 0)],[(15,.rom We (cm.map LD)),(44,.arr 1 (p.1.2.1.map Ck)),(46,.iter (cm.map LD) p.1.1 p.1.2.2)],Aa⟩) (Xi (fun p=>p.1.1.length) (Yi (Xi ⟨(cm.map LD,[],none),.refl _,fun _ h=>h⟩ ?_) ?_)))
  ·exact⟨⟨⟨rfl,hid _⟩,Zr,Zr,Zr,Tv⟩,Z3,Fh,Tv⟩
  intro⟨⟨rem,bs,F2⟩,r1,r2⟩;have r1:((bs.map kI)++rem.map (·.1)).Perm ((cm.map LD).map (·.1)):=r1;have r2:∀kv∈rem,kv∈cm.map LD:=r2;have zF:bs.length≤1000001:=by
   have:=r1.length_eq
   simp only[Ac,Lm]at this;omega
  refine Yi ?_ ?_
  ·intro hr;have hr:rem=[]:=hr;subst hr;rw[E6,CP,BW]at r1;have ve:bs.Perm (E4 cm):=by
    have r1:(bs.map kI).Perm ((E4 cm).map kI):=by unfold E4;rw[BW];exact r1
    have:=r1.map (fun v:Value=>match v with | .int _ n=>n | _=>0)
    rw[BW,BW]at this;have e:((fun v:Value=>match v with | .int _ n=>n | _=>0) ∘ kI)=id:=rfl;rw[e,LL,LL]at this;exact this
   have Dn:bs≠[]:=fun e=>by
    subst e
    have:=ve.length_eq
    have h0:=i3.keys.1;rw[AJ this.symm]at h0;cases h0
   refine Xi (.gen [(44,1000)] 0) (Yi rfl ((tb bs (by unfold Cv;omega) Dn).to ?_));intro B pP;have jH:B.length=bs.length:=pP.1.length_eq;have zp:B.Nodup:=(pP.1.trans ve).nodup_iff.2 i3.nd;have hB:jb B cm:=⟨pP.1.trans ve,by
    rw[Bb];intro a b ha hb lq;have h1:=(Bb.1 pP.2) a b ha hb lq;have h2:B[a]≠B[b]:=(Bb.1 zp) a b ha hb lq;omega⟩
   have xl:0<B.length:=by
    rw[jH];exact MW.2 Dn
   have t7:bs.length=(B.map Ck).length:=by rw[Lm,jH]
   refine Yi (by show BQ ((bs.length:Int)-1);unfold BQ;omega) ?_;refine Xi {k:Nat // k≤B.length-1} (Xi (fun k=>⟨[(0,F),(5,.mref 15),(10,.msl 44 bs.length),(12,.slice (.id 12 2) ((Em keep cm B k.1).map Ap)),(13,vi (In cm (B.take k.1))),(59,vi ((bs.length:Int)-1)),(60,vi k.1)],[(12,.tok 2 ((Em keep cm B k.1).map Ap).length),(15,.rom We (cm.map LD)),(44,.arr 1 (B.map Ck))],Aa⟩) (Xi (fun k=>B.length-k.1) (Yi (Xi ⟨0,AS _⟩ ?_) ?_)))
   ·exact⟨⟨⟨rfl,hid _⟩,Zr,Zr,Zr,Zr,Zr,Zr,Tv⟩,Z3,Fh,Tv⟩
   intro⟨k,k1⟩;have dy:=UP keep cm B k;refine Yi ?_ ?_
   ·intro hk;have hk:(k:Int)<(bs.length:Int)-1:=hk;have Je:k+1<B.length:=by omega
    have YT:k<B.length:=by omega
    have lr:(B.map Ck)[k]?=some (Ck B[k]):=Dr (Ge YT);have um:(B.map Ck)[k+1]?=some (Ck B[k+1]):=Dr (Ge Je);have j8:=PW cm B k YT;have qK:=iv i3 hB k YT;have SC:Em keep cm B (k+1)=Em keep cm B k++(if keep (In cm (B.take (k+1))).toNat then [(B[k],B[k+1])]else []):=by
     show _++(match B[k]?,B[k+1]? with | some a,some b=>if keep (In cm (B.take (k+1))).toNat then [(a,b)]else [] | _,_=>[])=_;rw[Ge YT,Ge Je]
    refine Xi ⟨[(0,F),(5,.mref 15),(10,.msl 44 bs.length),(12,.slice (.id 12 2) ((Em keep cm B k).map Ap)),(13,vi (In cm (B.take k))),(14,vi k),(59,vi ((bs.length:Int)-1)),(60,vi k)],[(12,.tok 2 ((Em keep cm B k).map Ap).length),(15,.rom We (cm.map LD)),(44,.arr 1 (B.map Ck))],Aa⟩ (Yi ⟨⟨⟨rfl,hid _⟩,Zr,Zr,Zr,Zr,Zr,Zr,Zr,Tv⟩,Z3,Fh,Tv⟩ ?_)
    refine Yi ⟨by show(0:Int)≤k;omega,by show(k:Int)<bs.length;omega⟩ ?_;refine Yi t7 (Xi (Ck B[k]) (Yi lr ?_));refine Ou (vi (Fp cm B[k])) (vi 0) (PY i3.nd B[k]) (PZ cm B[k]) (fun q=>q) ?_;refine Yi (by show BQ (In cm (B.take k)+Fp cm B[k]);rw[←j8];unfold BQ;omega) ?_;have DE:∀h,O8 Tryz.prog (str h F) [vi (In cm (B.take k)+Fp cm B[k])] (vb (keep (In cm (B.take (k+1))).toNat)):=fun h=>by
     rw[←j8];exact hF h _ qK.1 qK.2
    refine Cy (Bt (keep (In cm (B.take (k+1))).toNat)) (fun hp=>?_) (fun hp=>?_)
    ·rw[hp]at DE;rw[hp,Aw rfl]at SC;refine Xi .pure (Xi (vb true) (Yi (DE _) ?_));refine Xi ⟨[(0,F),(5,.mref 15),(10,.msl 44 bs.length),(12,.slice (.id 12 2) ((Em keep cm B k).map Ap)),(13,vi (In cm (B.take k)+Fp cm B[k])),(14,vi k),(59,vi ((bs.length:Int)-1)),(60,vi k)],[(12,.tok 2 ((Em keep cm B k).map Ap).length),(15,.rom We (cm.map LD)),(44,.arr 1 (B.map Ck))],Aa⟩ (Yi ⟨⟨⟨rfl,hid _⟩,Zr,Zr,Zr,Zr,Zr,Zr,Zr,Tv⟩,Z3,Fh,Tv⟩ ?_)
     have b1:(0:Int)≤(k:Int)+1∧(k:Int)+1<bs.length:=by omega
     have un:(B.map Ck)[((k:Int)+1).toNat]?=some (Ck B[k+1]):=by rw[show((k:Int)+1).toNat=k+1 by omega];exact um
     refine Yi ⟨by show(0:Int)≤k;omega,by show(k:Int)<bs.length;omega⟩ ?_;refine Yi t7 (Xi (Ck B[k]) (Yi lr ?_));refine Yi (Ii k (by omega)) ?_;refine Yi b1 ?_;refine Yi t7 (Xi (Ck B[k+1]) (Yi un ?_));have Ei:BY 2 [[vi B[k],vi B[k+1]]]∧((Em keep cm B k).map Ap).length=((Em keep cm B k).map Ap).length∧(((Em keep cm B k).map Ap).length+[[vi B[k],vi B[k+1]]].length)*16≤140737488355328∧((Em keep cm B k).map Ap).length+[[vi B[k],vi B[k+1]]].length≤9223372036854775807 :=
      ⟨⟨rfl,trivial⟩,rfl,by rw[Lm,As];omega,by rw[Lm,As];omega⟩
     refine Yi Ei ?_;refine Yi (by kernel_rfl) ?_;refine Xi ⟨[(0,F),(5,.mref 15),(10,.msl 44 bs.length),(12,.slice (.id 12 2) ((Em keep cm B k).map Ap++[[vi B[k],vi B[k+1]]])),(13,vi (In cm (B.take k)+Fp cm B[k])),(59,vi ((bs.length:Int)-1)),(60,vi k)],[(12,.tok 2 (((Em keep cm B k).map Ap).length+[[vi B[k],vi B[k+1]]].length)),(15,.rom We (cm.map LD)),(44,.arr 1 (B.map Ck))],Aa⟩ (Yi ⟨⟨⟨rfl,hid _⟩,Zr,Zr,Zr,Zr,Zr,Zr,Tv⟩,Z3,Fh,Tv⟩ ?_)
     refine Yi (Ii k (by omega)) ?_;refine Xi ⟨k+1,by omega⟩ ?_;have e1:AV.slice (.id 12 2) ((Em keep cm B k).map Ap++[[vi B[k],vi B[k+1]]])=.slice (.id 12 2) ((Em keep cm B (k+1)).map Ap):=by rw[SC,AB];rfl
     have e2:vi (In cm (B.take k)+Fp cm B[k])=vi (In cm (B.take (k+1))):=by rw[j8]
     have e3:HO.tok 2 (((Em keep cm B k).map Ap).length+[[vi B[k],vi B[k+1]]].length)=.tok 2 ((Em keep cm B (k+1)).map Ap).length:=by rw[SC,AB,Ac];rfl
     exact⟨Dl B.length k (by omega),⟨⟨rfl,hid _⟩,Zr,Zr,⟨e1,rfl⟩,⟨e2,rfl⟩,Zr,Zr,Tv⟩,⟨⟨e3,rfl⟩,Zr,Zr,Tv⟩,Fh,Tv⟩
    ·rw[hp]at DE;have SC:Em keep cm B (k+1)=Em keep cm B k:=by rw[SC,hp,Am Bool.false_ne_true,CP]
     refine Xi .pure (Xi (vb false) (Yi (DE _) ?_));refine Xi ⟨[(0,F),(5,.mref 15),(10,.msl 44 bs.length),(12,.slice (.id 12 2) ((Em keep cm B k).map Ap)),(13,vi (In cm (B.take k)+Fp cm B[k])),(59,vi ((bs.length:Int)-1)),(60,vi k)],[(12,.tok 2 ((Em keep cm B k).map Ap).length),(15,.rom We (cm.map LD)),(44,.arr 1 (B.map Ck))],Aa⟩ (Yi ⟨⟨⟨rfl,hid _⟩,Zr,Zr,Zr,Zr,Zr,Zr,Tv⟩,Z3,Fh,Tv⟩ ?_)
     refine Yi (Ii k (by omega)) ?_;refine Xi ⟨k+1,by omega⟩ ?_;have e1:AV.slice (.id 12 2) ((Em keep cm B k).map Ap)=.slice (.id 12 2) ((Em keep cm B (k+1)).map Ap):=by rw[SC]
     have e2:vi (In cm (B.take k)+Fp cm B[k])=vi (In cm (B.take (k+1))):=by rw[j8]
     have e3:HO.tok 2 ((Em keep cm B k).map Ap).length=.tok 2 ((Em keep cm B (k+1)).map Ap).length:=by rw[SC]
     exact⟨Dl B.length k (by omega),⟨⟨rfl,hid _⟩,Zr,Zr,⟨e1,rfl⟩,⟨e2,rfl⟩,Zr,Zr,Tv⟩,⟨⟨e3,rfl⟩,Zr,Zr,Tv⟩,Fh,Tv⟩
   ·intro hk;have hk:¬(k:Int)<(bs.length:Int)-1:=hk;have Je:k=B.length-1:=by omega
    have uv:canon (Em keep cm B k)=R:=by
     refine(RV hR fun p=>?_).symm;rw[Je,zz,fY i3 hB]
    have hc:=WE (Em keep cm B k) (by unfold Cv;omega);rw[uv]at hc;refine Xi .pure (Xi _ (Yi hc ?_));exact .refl _
  ·intro kv NM hp;refine BC (Ao.1 (r2 kv (hp.mem_iff.2 (Ab ..)))) (fun q hq=>?_);have hq2:=hq.2;subst hq2;refine Xi ⟨[(0,F),(5,.mref 15),(10,.msl 44 bs.length),(46,.ref 46 0)],[(15,.rom We (cm.map LD)),(44,.arr 1 (bs.map Ck)),(46,.iter (cm.map LD) NM (some (LD q)))],Aa⟩ (Yi ⟨⟨⟨rfl,hid _⟩,Zr,Zr,Zr,Tv⟩,Z3,Fh,Tv⟩ ?_)
   have Ei:BY 1 [Ck q.1]∧(bs.map Ck).length=bs.length∧((bs.map Ck).length+[Ck q.1].length)*8≤140737488355328∧(bs.map Ck).length+[Ck q.1].length≤9223372036854775807 :=
    ⟨⟨rfl,trivial⟩,by rw[Lm],by rw[Lm,As];omega,by rw[Lm,As];omega⟩
   refine Yi Ei ?_;have e1:AV.msl 44 ((bs.map Ck).length+[Ck q.1].length)=.msl 44 (bs++[q.1]).length:=by simp
   have e2:HO.arr 1 (bs.map Ck++[Ck q.1])=.arr 1 ((bs++[q.1]).map Ck):=by simp
   refine Xi ⟨(NM,bs++[q.1],some (LD q)),?_,fun kv O5=>r2 kv (hp.mem_iff.2 (Ag _ O5))⟩ ?_
   ·show(((bs++[q.1]).map kI)++NM.map (·.1)).Perm _;have h1:=hp.map (fun x:Value×AV=>x.1);rw[AM]at h1;rw[AB,BU];exact(List.Perm.append_left _ h1.symm).trans r1
   ·exact⟨by show NM.length<rem.length;rw[hp.length_eq];simp,⟨⟨rfl,hid _⟩,Zr,⟨e1,rfl⟩,Zr,Tv⟩,⟨Zr,⟨e2,rfl⟩,Zr,Tv⟩,Fh,Tv⟩
end Go.Eng

namespace Go.Eng
open Go.Proofs
theorem sT(n:Int)(l:List Bj):PC 278 [vi n,.cptr [sl Fq l]] (vb (decide (n=l.length))):=by
 refine Ps FC Tryz.func278 rfl (Nz rfl) ?_;have e:((l.map Fq).length:Int)=l.length:=by rw[Lm]
 refine Yi ?_ ?_
 ·intro h;have h:n=((l.map Fq).length:Int):=h;rw[show decide (n=(l.length:Int))=true from AE (h.trans e)];exact .refl _
 ·intro h;have h:¬n=((l.map Fq).length:Int):=h;rw[show decide (n=(l.length:Int))=false from AD (fun c=>h (c.trans e.symm))];exact .refl _
theorem sV(n:Int):PC 223 [vi n] (vb (decide (n=0))):=by
 refine Ps FC Tryz.func223 rfl (Nz rfl) ?_;refine Yi ?_ ?_
 ·intro h;have h:n=0:=h;rw[AE h];exact .refl _
 ·intro h;have h:¬n=0:=h;rw[AD h];exact .refl _
theorem tC(n:Int):PC 264 [vi n] (vb (decide (0<n))):=by
 refine Ps FC Tryz.func264 rfl (Nz rfl) ?_;refine Yi ?_ ?_
 ·intro h;have h:0<n:=h;rw[AE h];exact .refl _
 ·intro h;have h:¬0<n:=h;rw[AD h];exact .refl _
theorem fW(l:List Bj)(p:Int):decide (dq l p=l.length)=l.all fun s=>has s p:=by
 unfold dq;rw[BX,Az,List.countP_eq_length,BB]
theorem fX(l:List Bj)(p:Int):decide (0<dq l p)=l.any fun s=>has s p:=by
 unfold dq;rw[BX,Az,List.countP_pos_iff,Bf]
theorem sJ(l:List Bj)(hl:Cv l)(hs:∀s∈l,Cv s):PC 262 [sl Fq l] (sl Ap (Pw l)):=by
 have hc:=mo (.clo 278 [.cptr [sl Fq l]]) (fun n=>decide (n=l.length)) l hl hs (fun _=>rfl) (fun h n h0 _=>by
  have:=sT n l
  have e:decide (n=(l.length:Int))=decide (n.toNat=l.length):=by rw[decide_eq_decide];omega
  rw[e]at this;exact this) (Pw l) (VZ l) fun p=>by rw[Sz,fW]
 refine Ps (iX [1]) Tryz.func262 rfl (Nz rfl) ?_;refine Xi .pure (Xi _ (Yi (hc) ?_));exact .refl _
theorem mh(s:Bj)(hs:Cv s):PC 190 [sl Ap s] (sl Ap (Ec s)):=by
 have hc:=mo (.v (GC 223)) (fun n=>decide (n=0)) [s] (by unfold Cv;simp) (fun t ht=>by rw[Ai.1 ht];exact hs) (fun _=>rfl) (fun h n h0 _=>by
  have:=sV n
  have e:decide (n=0)=decide (n.toNat=0):=by rw[decide_eq_decide];omega
  rw[e]at this;exact this) (Ec s) (G8 s) fun p=>by
   rw[FJ]
   have:dq [s] p=if has s p then 1 else 0:=by unfold dq;rw[Ir];simp
   rw[this];cases has s p<;>rfl
 refine Ps FC Tryz.func190 rfl (Nz rfl) ?_;refine Xi .pure (Xi _ (Yi (hc) ?_));exact .refl _
theorem tx(l:List Bj)(hl:Cv l)(hs:∀s∈l,Cv s):PC 233 [sl Fq l] (sl Ap (PX l)):=by
 have hc:=mo (.v (GC 264)) (fun n=>decide (0<n)) l hl hs (fun _=>rfl) (fun h n h0 _=>by
  have:=tC n
  have e:decide (0<n)=decide (0<n.toNat):=by rw[decide_eq_decide];omega
  rw[e]at this;exact this) (PX l) (Wg l) fun p=>by
   rw[SA,fX];cases h:l.any fun s=>has s p with
   |false=>simp
   |true =>
    obtain⟨s,_,h2⟩:=Bf.1 h
    have:=L3 h2
    simp[LB,this]
 refine Ps FC Tryz.func233 rfl (Nz rfl) ?_;refine Xi .pure (Xi _ (Yi (hc) ?_));exact .refl _
-- terms
theorem za(t:Tm)(ht:Cv t.set):PC 229 [.agg (AA t)] (vb (!t.absent&&(canon t.set).isEmpty)):=by
 refine Ps FC Tryz.func229 rfl (Nz rfl) ?_;refine Yi ?_ ?_
 ·intro h;have h:t.absent=true:=h;rw[h];exact .refl _
 ·intro h;have h:t.absent=false:=h;refine Xi .pure (Xi _ (Yi (WE t.set ht) ?_));refine Yi ?_ ?_
  ·intro h2;have h2:(((canon t.set).map Ap).length:Int)=0:=h2;have h2:canon t.set=[]:=AJ (by rw[Lm]at h2;omega);rw[h,h2];exact .refl _
  ·intro h2;have h2:¬(((canon t.set).map Ap).length:Int)=0:=h2;have h2:(canon t.set).isEmpty=false:=by
    cases hc:canon t.set with
    |nil=>rw[hc]at h2;exact absurd rfl h2
    |cons _ _=>rfl
   rw[h,h2];exact .refl _
theorem zb(t:Tm)(ht:Cv t.set):PC 230 [.agg (AA t)] (vb (t.absent&&(Ec t.set).isEmpty)):=by
 refine Ps FC Tryz.func230 rfl (Nz rfl) ?_;refine Yi ?_ ?_
 ·intro h;have h:t.absent=true:=h;refine Xi .pure (Xi _ (Yi (mh t.set ht) ?_));refine Yi ?_ ?_
  ·intro h2;have h2:(((Ec t.set).map Ap).length:Int)=0:=h2;have h2:Ec t.set=[]:=AJ (by rw[Lm]at h2;omega);rw[h,h2];exact .refl _
  ·intro h2;have h2:¬(((Ec t.set).map Ap).length:Int)=0:=h2;have h2:(Ec t.set).isEmpty=false:=by
    cases hc:Ec t.set with
    |nil=>rw[hc]at h2;exact absurd rfl h2
    |cons _ _=>rfl
   rw[h,h2];exact .refl _
 ·intro h;have h:t.absent=false:=h;rw[h];exact .refl _
end Go.Eng

namespace Go.Eng
open Go.Proofs
abbrev EL(l:List Nat):O3:=⟨[],[],[],[],[],[],[],[],[],[],l⟩
theorem xb(u t:Tm)(hu:Cv u.set)(ht:Cv t.set):PC 228 [.agg (AA u),.agg (AA t)] (.agg (AA (GT u t))):=by
 have hc:PC 262 [sl Fq [u.set,t.set]] (sl Ap (OA u.set t.set)):=sJ [u.set,t.set] (by unfold Cv;simp) (fun s hs=>by
  rcases AF.1 hs with rfl | hs
  ·exact hu
  ·rw[Ai.1 hs];exact ht)
 refine Ps (EL [1]) Tryz.func228 rfl (Nz rfl) ?_;refine Xi ⟨[(2,.ref 2 0),(3,.ref 3 0),(4,.ref 4 0)],[(2,.cells (AA u)),(3,.cells (AA t)),(4,.cells [vs ⟨#[]⟩,vb false,.v (.slice none 0 0)])],Aa⟩ (Yi ⟨Z3,Z3,Fh,Tv⟩ ?_)
 refine Yi ?_ ?_
 ·intro h;have h:u.absent=true:=h;refine Yi ?_ ?_
  ·intro h2;have h2:t.absent=true:=h2;have e:[vs u.path,vb true,sl Ap (OA u.set t.set)]=AA (GT u t):=by unfold GT;rw[h,h2];rfl
   refine Xi _ (Yi (hc) ?_);refine Yi (Nz rfl) (Yi (by kernel_rfl) (Yi (Nz rfl) ?_));exact .of_eq (Ae AV.agg e)
  ·intro h2;have h2:t.absent=false:=h2;have e:[vs u.path,vb false,sl Ap (OA u.set t.set)]=AA (GT u t):=by unfold GT;rw[h,h2];rfl
   refine Xi _ (Yi (hc) ?_);refine Yi (Nz rfl) (Yi (by kernel_rfl) (Yi (Nz rfl) ?_));exact .of_eq (Ae AV.agg e)
 ·intro h;have h:u.absent=false:=h;have e:[vs u.path,vb false,sl Ap (OA u.set t.set)]=AA (GT u t):=by unfold GT;rw[h];rfl
  refine Xi _ (Yi (hc) ?_);refine Yi (Nz rfl) (Yi (by kernel_rfl) (Yi (Nz rfl) ?_));exact .of_eq (Ae AV.agg e)
theorem tp(u t:Tm)(hu:Cv u.set)(ht:Cv t.set):PC 193 [.agg (AA u),.agg (AA t)] (.agg (AA (De u t))):=by
 have hc:PC 233 [sl Fq [u.set,t.set]] (sl Ap (OZ u.set t.set)):=tx [u.set,t.set] (by unfold Cv;simp) (fun s hs=>by
  rcases AF.1 hs with rfl | hs
  ·exact hu
  ·rw[Ai.1 hs];exact ht)
 refine Ps (EL [1]) Tryz.func193 rfl (Nz rfl) ?_;refine Xi ⟨[(2,.ref 2 0),(3,.ref 3 0),(4,.ref 4 0)],[(2,.cells (AA u)),(3,.cells (AA t)),(4,.cells [vs ⟨#[]⟩,vb false,.v (.slice none 0 0)])],Aa⟩ (Yi ⟨Z3,Z3,Fh,Tv⟩ ?_)
 refine Yi ?_ ?_
 ·intro h;have h:u.absent=true:=h;have e:[vs u.path,vb true,sl Ap (OZ u.set t.set)]=AA (De u t):=by unfold De;rw[h];rfl
  refine Xi _ (Yi (hc) ?_);refine Yi (Nz rfl) (Yi (by kernel_rfl) (Yi (Nz rfl) ?_));exact .of_eq (Ae AV.agg e)
 ·intro h;have h:u.absent=false:=h;refine Yi ?_ ?_
  ·intro h2;have h2:t.absent=true:=h2;have e:[vs u.path,vb true,sl Ap (OZ u.set t.set)]=AA (De u t):=by unfold De;rw[h,h2];rfl
   refine Xi _ (Yi (hc) ?_);refine Yi (Nz rfl) (Yi (by kernel_rfl) (Yi (Nz rfl) ?_));exact .of_eq (Ae AV.agg e)
  ·intro h2;have h2:t.absent=false:=h2;have e:[vs u.path,vb false,sl Ap (OZ u.set t.set)]=AA (De u t):=by unfold De;rw[h,h2];rfl
   refine Xi _ (Yi (hc) ?_);refine Yi (Nz rfl) (Yi (by kernel_rfl) (Yi (Nz rfl) ?_));exact .of_eq (Ae AV.agg e)
theorem pv(q:Rq)(hq:Cv q.set):PC 188 [.agg (Ah q)] (.agg (AA (Dy q))):=by
 refine Ps FC Tryz.func188 rfl (Nz rfl) ?_;refine Xi _ (Yi (mh q.set hq) ?_);refine Yi (Nz rfl) (Yi (by kernel_rfl) (Yi (Nz rfl) ?_));exact .refl _
end Go.Eng

namespace Go.Eng
open Go.Proofs
abbrev Dv:Ez:=⟨false,[.str]⟩
abbrev Mx(t:Tm):Value×AV:=(.string t.path,.agg (AA t))
abbrev rj(fin cut:List Nat):O3:=⟨[],[],[],[],fin,[],[],[],[],[],cut⟩
theorem Rm{m:List Tm}{p:ByteArray}{a:AV}:(Value.string p,a)∈m.map Mx↔∃t∈m,t.path=p∧a=.agg (AA t):=by
 rw[Ao];constructor
 ·rintro⟨t,h1,h2⟩
  simp only[FP,Value.string.injEq]at h2;exact⟨t,h1,h2.1,h2.2.symm⟩
 ·rintro⟨t,h1,rfl,rfl⟩
  exact⟨t,h1,rfl⟩
theorem gm(m:List Tm)(t:Tm):E1 (m.map Mx) (.string t.path) (.agg (AA t))=(Wa m t).map Mx:=by
 unfold Wa
 by_cases h:(m.any fun u=>decide (u.path=t.path))=true
 ·rw[Aw h];obtain⟨u,h1,h2⟩:=Bf.1 h;have h2:=CB h2
  have:(Value.string t.path,AV.agg (AA u))∈m.map Mx:=Rm.2 ⟨u,h1,h2,rfl⟩
  rw[PD this,BW,BW];apply Be;intro q _;simp only[Function.comp]
  by_cases e:q.path=t.path
  ·simp[e]
  ·have:¬Value.string q.path=.string t.path:=fun c=>e (by injection c)
   simp[e]
 ·rw[Am h]
  have:∀b,(Value.string t.path,b)∉m.map Mx:=fun b hb=>by
   obtain⟨u,h1,h2,_⟩:=Rm.1 hb;exact h (Bf.2 ⟨u,h1,by simp[h2]⟩)
  rw[PB this,AB];rfl
theorem eT{m:List Tm}(hn:(En m).Nodup)(p:ByteArray){K:AV→Prop}{Z:Prop}(hy:∀u,Dg m p=some u→K (.agg (AA u)))(Nw:Dg m p=none→Z) :
  (∀a,(Value.string p,a)∈m.map Mx→K a)∧((∀a,(Value.string p,a)∉m.map Mx)→Z) :=
 ⟨fun a h=>by
  obtain⟨t,h1,h2,rfl⟩:=Rm.1 h;subst h2;exact hy t ((LX hn).1 h1),fun h=>Nw (by
  cases e:Dg m p with
  |none=>rfl
  |some u=>exact absurd (Rm.2 ⟨u,Fb e,G3 e,rfl⟩) (h _))⟩
theorem Oh{t:Tm}(h:Ey t.set):Cv t.set:=by
 unfold Cv
 have:=HS h;omega
theorem y9(l:List Tm)(hl:Cv l)(hs:∀t∈l,Cv t.set):PC 227 [sl AA l,.v (GC 228)] (.cmap Dv ((CW l).map Mx)):=by
 have hl:l.length≤1073741824:=hl;refine Ps (rj [10] [5,8]) Tryz.func227 rfl (Nz rfl) ?_;refine Xi {i:Nat // i≤l.length} (Xi (fun i=>⟨[(0,sl AA l),(1,.v (GC 228)),(5,.mref 10),(11,sl AA l),(12,vi (l.map AA).length),(13,vi i.1)],[(10,.map Dv ((CW (l.take i.1)).map Mx))],Aa⟩) (Xi (fun i=>l.length-i.1) (Yi (Xi ⟨0,AS _⟩ ?_) ?_)))
 ·exact⟨Z6,Z1,Fh,Tv⟩
 intro⟨i,h1⟩;have hn:=Hz (l.take i);refine Yi ?_ ?_
 ·intro h;have h:(i:Int)<(l.map AA).length:=h;have h:i<l.length:=by simpa using h
  have hg:l[i]?=some l[i]:=Ge h;refine Xi (AA l[i]) (Yi (Yi (Nn i) (by simp[hg])) (Yi rfl ?_));refine Yi (Nz rfl) (Yi (Nz rfl) ?_);have EB:=hs l[i] (AC h);refine Xi ⟨[(0,sl AA l),(1,.v (GC 228)),(5,.mref 10),(7,.ref 7 0),(11,sl AA l),(12,vi (l.map AA).length),(13,vi i)],[(7,.cells (AA l[i])),(10,.map Dv ((CW (l.take i)).map Mx))],Aa⟩ (Yi ⟨Z7,Z2,Fh,Tv⟩ ?_)
  have tail:∀u:Tm,Cv u.set→GT u l[i]=NL (Dg (CW (l.take i)) l[i].path) l[i]→E1 ((CW (l.take i)).map Mx) (.string l[i].path) (.agg (AA (GT u l[i])))=(CW (l.take (i+1))).map Mx:=fun u hu e=>by
   have hp:(NL (Dg (CW (l.take i)) l[i].path) l[i]).path=l[i].path:=PI _ _ fun u h=>G3 h;have e2:=gm (CW (l.take i)) (GT u l[i]);have e3:(GT u l[i]).path=l[i].path:=by rw[e];exact hp
   rw[e3]at e2;rw[e2,QD l i h,e];rfl
  refine eT hn l[i].path (fun u hu=>?_) (fun hu=>?_)
  ·have Kw:Cv u.set:=Oh (OG _ u (Fb hu));refine Yi (Nz rfl) ?_;refine Xi ⟨[(0,sl AA l),(1,.v (GC 228)),(5,.mref 10),(7,.ref 7 0),(8,.ref 8 0),(11,sl AA l),(12,vi (l.map AA).length),(13,vi i)],[(7,.cells (AA l[i])),(8,.cells (AA u)),(10,.map Dv ((CW (l.take i)).map Mx))],Aa⟩ (Yi ⟨Z8,Z3,Fh,Tv⟩ ?_)
   have AT:=tail u Kw (by rw[ay,hu];rfl);refine Yi (Nz rfl) (Yi (Nz rfl) ?_);refine Xi _ (Yi (xb u l[i] Kw EB) ?_);refine Yi (by kernel_rfl) ?_;refine Yi (Ii i (by omega)) ?_;refine Xi ⟨i+1,by omega⟩ ?_;have e1:HO.map Dv (E1 ((CW (l.take i)).map Mx) (.string l[i].path) (.agg (AA (GT u l[i]))))=.map Dv ((CW (l.take (i+1))).map Mx):=by rw[AT]
   exact⟨Dl l.length i (by omega),Z6,⟨⟨e1,rfl⟩,Tv⟩,Fh,Tv⟩
  ·refine Yi (Nz rfl) ?_;refine Yi (Nz rfl) (Yi (Nz rfl) ?_);refine Xi ⟨[(0,sl AA l),(1,.v (GC 228)),(5,.mref 10),(7,.ref 7 0),(8,.ref 8 0),(11,sl AA l),(12,vi (l.map AA).length),(13,vi i)],[(7,.cells (AA l[i])),(8,.cells (AA l[i])),(10,.map Dv ((CW (l.take i)).map Mx))],Aa⟩ (Yi ⟨Z8,Z3,Fh,Tv⟩ ?_)
   have AT:=tail l[i] EB (by rw[ay,hu];rfl);refine Yi (Nz rfl) (Yi (Nz rfl) ?_);refine Xi _ (Yi (xb l[i] l[i] EB EB) ?_);refine Yi (by kernel_rfl) ?_;refine Yi (Ii i (by omega)) ?_;refine Xi ⟨i+1,by omega⟩ ?_;have e1:HO.map Dv (E1 ((CW (l.take i)).map Mx) (.string l[i].path) (.agg (AA (GT l[i] l[i]))))=.map Dv ((CW (l.take (i+1))).map Mx):=by rw[AT]
   exact⟨Dl l.length i (by omega),Z6,⟨⟨e1,rfl⟩,Tv⟩,Fh,Tv⟩
 ·intro h;have h:¬(i:Int)<(l.map AA).length:=h;have h:¬i<l.length:=by simpa using h
  have e:(CW (l.take i)).map Mx=(CW l).map Mx:=by rw[AI (by omega)]
  exact .of_eq (Ae (AV.cmap Dv) e)
end Go.Eng
