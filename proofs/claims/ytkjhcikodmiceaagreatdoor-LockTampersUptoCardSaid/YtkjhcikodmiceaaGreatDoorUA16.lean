/- Lemmas 16. -/
import Derived.Test.YtkjhcikodmiceaaGreatDoorUA15
import Derived.Test.YtkjhcikodmiceaaGreatDoorUA14
import Derived.Shelf.Slices.Delete
namespace Go.Eng
open Go.Proofs
variable {h0:Nat->HO}{α:Type}{P:Program}{args:List AV}{f:Nat}(s:AS)(l:List (Int×Int))(j:AS)(i:Nat)
theorem AW.imp{Q Q' : AV->(Nat->HO)->Prop}(h:AW P f args h0 Q)(hq:∀r h',Q r h'->Q' r h'):AW P f args h0 Q':=h.mono fun r h' q=>⟨r,.refl _,hq r h' q⟩
theorem AW.to{r0:AV}{p:α->Prop}{H:α->Nat->HO}{Q' : AV->(Nat->HO)->Prop}(h:AW P f args h0 fun r h'=>r=r0/\∃x,p x/\h'=H x)(k:∀x,p x->Q' r0 (H x)):AW P f args h0 Q':=
 h.imp fun r h' ⟨e1,x,e2,e3⟩=>by simp_all
theorem nA(n:Nat)(h:n<=1073741824):∃lim:Nat,lim<100/\PC 146 [.v (.int .u64 (IntKind.u64.wrap (n:Int)))] (vi lim):=by
 refine⟨Lib.bitLen n,Nat.lt_of_le_of_lt (Lib.bitLen_le n 62 ch ch) ch,?_⟩;have wr:IntKind.u64.wrap (n:Int)=n:=by grind [IntKind.wrap,IntKind.bits]
 rw[wr];refine Ki [.int .u64 n] (.int .i64 (Lib.bitLen n:Nat)) (ZX 146 Tryz.func146 aa0 rfl) rfl (fun _ _=>.v _ _) fun w _=>?_
 have:=Any.bits_Len Tryz.layBits (n:Int) w ch ch
 rw[FI]at this;exact this
theorem uR(hl:Cr l)(h:∀x∈l,0<=x.1/\x.1<=1000000) :
  AW Tryz.prog 287 [.msl 1000 l.length,.v (Gl 288)] (Ae [(1000,.arr 2 (l.map Aj))] Ab) fun r h'=>
   r=.tup []/\∃l' : List (Int×Int),(l'.Perm l/\l'.Pairwise (fun x y=>x.1<=y.1))/\h'=Ae [(1000,.arr 2 (l'.map Aj))] Ab:=by
 obtain⟨lim,WZ,hb⟩:=nA l.length hl;refine A7 (H5 D0) [(1000,1000)] rfl Bu hm rfl Tryz.func287 aa0 rfl (Nz rfl) aa0 rfl (Xi .pure (Xi _ (Yi (hb) (Xi (.gen [(1000,1000)] 0) (Yi rfl ((ve l hl h lim WZ).imp ?_))))));intro r h' hq;refine AJ hq.2 (fun l' Qp=>?_);refine Xi (.tup []) (Yi ?_ (Yi rfl (Xi l' (Yi ⟨Qp.1,Qp.2.1⟩ ?_))))
 .exact .refl _
 .rw[Qp.2.2];rfl
theorem c61(l:List Tm)(hl:Cr l) :
  AW Tryz.prog 350 [.msl 1000 l.length,.v (Gl 351)] (Ae [(1000,.arr 3 (l.map Am))] Ab) fun r h'=>
   r=.tup []/\∃l' : List Tm,(l'.Perm l/\l'.Pairwise (fun x y=>EL y.path x.path=false))/\h'=Ae [(1000,.arr 3 (l'.map Am))] Ab:=by
 obtain⟨lim,WZ,hb⟩:=nA l.length hl;refine A7 (H5 D0) [(1000,1000)] rfl Bu hm rfl Tryz.func350 aa0 rfl (Nz rfl) aa0 rfl (Xi .pure (Xi _ (Yi (hb) (Xi (.gen [(1000,1000)] 0) (Yi rfl ((uI l hl lim WZ).imp ?_))))));intro r h' hq;refine AJ hq.2 (fun l' Qp=>?_);refine Xi (.tup []) (Yi ?_ (Yi rfl (Xi l' (Yi ⟨Qp.1,Qp.2.1⟩ ?_))))
 .exact .refl _
 .rw[Qp.2.2];rfl
abbrev pla(l:List (Nat×Nat))(cut:List Nat):MF:=⟨[],[],l,[],[],[],[],[],[],[],cut⟩
abbrev KR:HO:=.arr 2 (l.map Aj)
theorem Yv(l:AS)(i:Nat):(Dr (l.take i)).length<=i:=by
 grind [Dr]
theorem T1{l:AS}{i:Nat}(h:i<l.length)(h3:(OJ l[i]).1<(OJ l[i]).2):Dr (l.take (i+1))=Dr (l.take i)++[OJ l[i]]:=by
 grind [List.take_add_one,Dr]
theorem Wo{l:AS}{i:Nat}(h:i<l.length)(h3:¬(OJ l[i]).1<(OJ l[i]).2):Dr (l.take (i+1))=Dr (l.take i):=by
 grind [List.take_add_one,Dr]
abbrev arr2:AS:=(BM (s.take i)).reverse++(j++s.drop i)
theorem jH(h:i<s.length)(hj:(BM (s.take i)).length+j.length=i):(arr2 s j i)[i]?=some s[i]:=by
 unfold arr2;rw[Bp (by grind),Bp (by grind),List.length_reverse,Ew]
 grind
theorem eX(h:i<=s.length)(hj:(BM (s.take i)).length+j.length=i):(arr2 s j i).length=s.length:=by
 grind
theorem ZV(s:List α)(i:Nat)(h:i<s.length):s.drop i=s[i]::s.drop (i+1):=FA h
theorem TO(h:i<s.length)(e:JL (BM (s.take i)) s[i]=s[i]::BM (s.take i)) :
  (arr2 s j i).set (BM (s.take i)).length s[i]=arr2 s (j++[s[i]]).tail (i+1):=by
 unfold arr2;rw[FU s i h,e,List.reverse_cons,List.set_append_right _ _ (by simp_all),List.length_reverse,Jl,Jh,ZV s i h]
 congr 1
 cases j<;>grind
theorem bE(h:i<s.length){y:Int×Int}{t:AS}(e:BM (s.take i)=y::t)(Il:s[i].1<=y.2) :
  (arr2 s j i).set t.length (y.1,max y.2 s[i].2)=arr2 s (j++[s[i]]) (i+1):=by
 unfold arr2;have e2:JL (y::t) s[i]=(y.1,max y.2 s[i].2)::t:=by show(if s[i].1<=y.2 then _ else _)=_;simp_all
 rw[FU s i h,e,e2,List.reverse_cons,List.reverse_cons,Jh,List.set_append_right _ _ (by simp_all),List.length_reverse,Jl,ZV s i h];simp
theorem EE{enc:α->List AV}{l:List α}{i:Nat}{x:α}(h:l[i]?=some x):(l.map enc)[i]?=some (enc x):=by simp_all
theorem Wl(hl:Cr l):PC 221 [sl Aj l] (sl Aj (canon l)):=by
 refine Em (Yy (pla [(3,2)] [])) rfl Bu hm rfl Tryz.func221 aa0 rfl (Nz rfl) aa0 (Xi {i:Nat // i<=l.length} (Xi (fun i=>⟨[(0,sl Aj l),(3,.msl 3 (Dr (l.take i.1)).length),(9,sl Aj l),(10,vi (l.map Aj).length),(11,vi i.1)],[(3,KR (Dr (l.take i.1)))],Ab⟩) (Xi (fun i=>l.length-i.1) (Yi (Xi ⟨0,by simp⟩ ?_) ?_))))
 .exact⟨Z5,Z1,Fh,Tv⟩
 .intro⟨i,h1⟩;have hn:=Yv l i;refine Yi ?_ ?_
  .intro h;have h:i<l.length:=by simp_all
   have hg:l[i]?=some l[i]:=Ge h;refine Xi (Aj l[i]) (Yi (Yi ch (by simp_all)) (Yi rfl ?_));refine Yi (Nz rfl) (yN (yN (Yi ?_ ?_)))
   .intro h3;refine yN ?_;have Di:BJ 2 [[vi (max l[i].1 0),vi (min l[i].2 1000000)]]/\((Dr (l.take i)).map Aj).length=(Dr (l.take i)).length/\(((Dr (l.take i)).map Aj).length+[[vi (max l[i].1 0),vi (min l[i].2 1000000)]].length)*16<=140737488355328/\((Dr (l.take i)).map Aj).length+[[vi (max l[i].1 0),vi (min l[i].2 1000000)]].length<=9223372036854775807:=
     ⟨⟨rfl,trivial⟩,by simp_all,by grind,by grind⟩
    refine Yi Di (Yi (by grind [AQ]) (Xi ⟨i+1,by omega⟩ ?_));have e1:AV.msl 3 (((Dr (l.take i)).map Aj).length+[[vi (max l[i].1 0),vi (min l[i].2 1000000)]].length)=.msl 3 (Dr (l.take (i+1))).length:=by rw[T1 h h3];simp
    have e2:HO.arr 2 ((Dr (l.take i)).map Aj++[[vi (max l[i].1 0),vi (min l[i].2 1000000)]])=KR (Dr (l.take (i+1))):=by rw[T1 h h3];simp[OJ]
    exact⟨by grind,⟨Zr,⟨e1,rfl⟩,Zr,Zr,Zr,Tv⟩,⟨⟨e2,rfl⟩,Tv⟩,Fh,Tv⟩
   .intro h3;refine Yi (by grind [AQ]) (Xi ⟨i+1,by omega⟩ ?_);have e1:AV.msl 3 (Dr (l.take i)).length=.msl 3 (Dr (l.take (i+1))).length:=by rw[Wo h h3]
    have e2:KR (Dr (l.take i))=KR (Dr (l.take (i+1))):=by rw[Wo h h3]
    exact⟨by grind,⟨Zr,⟨e1,rfl⟩,Zr,Zr,Zr,Tv⟩,⟨⟨e2,rfl⟩,Tv⟩,Fh,Tv⟩
  .intro h;have h:¬i<l.length:=by simp_all
   have ei:Dr (l.take i)=Dr l:=by grind
   have hN:(Dr (l.take i)).length=(Dr l).length:=by rw[ei]
   refine Xi (.gen [(3,1000)] 0) (Yi rfl ((uR (Dr (l.take i)) ch (fun x hx=>by have:=T0 hx;omega)).to ?_));intro s hs;have X4:s.length=(Dr (l.take i)).length:=hs.1.length_eq;have hsN:s.length<=1073741824:=by omega
   have fin:(BM s).reverse=canon l:=Ql (by simp_all) hs.2;refine Xi {p:Nat×AS // p.1<=s.length/\(BM (s.take p.1)).length+p.2.length=p.1} (Xi (fun p=>⟨[(3,.msl 3 (Dr (l.take i)).length),(6,vi (BM (s.take p.1.1)).length),(34,.msl 3 (Dr (l.take i)).length),(35,vi (Dr (l.take i)).length),(36,vi p.1.1)],[(3,KR (arr2 s p.1.2 p.1.1))],Ab⟩) (Xi (fun p=>s.length-p.1.1) (Yi (Xi ⟨(0,[]),Ar _,rfl⟩ ?_) ?_)))
   .exact⟨Z5,Z1,Fh,Tv⟩
   intro⟨⟨k,j⟩,k1,k2⟩;have k2:(BM (s.take k)).length+j.length=k:=k2;have B5:=eX s j k k1 k2;have RO:(Dr (l.take i)).length=((arr2 s j k).map Aj).length:=by simp_all
   refine Yi ?_ ?_
   .intro h2;have h2:(k:Int)<(Dr (l.take i)).length:=h2;have hk:k<s.length:=by omega
    have mA:=EE (enc:=Aj) (jH s j k hk k2);refine Yi ⟨by omega,by omega⟩ ?_;refine Yi RO (Xi (Aj s[k]) (Yi mA (Yi (Nz rfl) (yN ?_))));have hr:=Si s k k1;refine Bs (Nat.eq_zero_or_pos k) (fun k0=>?_) (fun k0=>?_)
    .refine Yi ?_ ?_
     .intro h4;have h4:(0:Int)<k:=h4;omega
     .intro _;refine Yi aa0 ?_;have HF:JL (BM (s.take k)) s[k]=s[k]::BM (s.take k):=by subst k0;rfl
      have ju:(BM (s.take k)).length<(arr2 s j k).length:=by omega
      have hz:=EE (enc:=Aj) (Ge ju);refine Yi (Nz rfl) (Yi ⟨by omega,by simp_all⟩ ?_);refine Yi RO (Xi (Aj (arr2 s j k)[(BM (s.take k)).length]) (Yi hz (yN (Yi (by show AQ (((BM (s.take k)).length:Int)+1);unfold AQ;omega) ?_))));refine Yi (Ii k ch) ?_;have hm:=FU s k hk;have e1:vi (((BM (s.take k)).length:Int)+1)=vi (BM (s.take (k+1))).length:=by simp_all
      have e2:HO.arr 2 (((arr2 s j k).map Aj).set (BM (s.take k)).length [vi s[k].1,vi s[k].2])=KR (arr2 s (j++[s[k]]).tail (k+1)):=by rw[<-TO s j k hk HF];simp only[KR,ME]
      refine Xi ⟨(k+1,(j++[s[k]]).tail),by omega,by simp_all⟩ ?_;exact⟨Dl s.length k ch,⟨Zr,⟨e1,rfl⟩,Zr,Zr,Zr,Tv⟩,⟨⟨e2,rfl⟩,Tv⟩,Fh,Tv⟩
    .refine Yi ?_ ?_
     .intro _;obtain⟨y,t,e⟩:∃y t,BM (s.take k)=y::t:=by
       cases hc:BM (s.take k)with
       |nil=>simp_all
       |cons y t=>grind
      have ht:(((BM (s.take k)).length:Int)-1).toNat=t.length:=by grind
      have hy:((arr2 s j k).map Aj)[(((BM (s.take k)).length:Int)-1).toNat]?=some (Aj y):=by rw[ht];grind
      refine Yi (by show AQ (((BM (s.take k)).length:Int)-1);unfold AQ;omega) ?_;have YT:=hr.2 k0;refine Yi ⟨by grind,by grind⟩ ?_;refine Yi RO (Xi (Aj y) (Yi hy (Yi ?_ ?_)))
      .intro h5;refine Yi aa0 (Yi (by show AQ (((BM (s.take k)).length:Int)-1);unfold AQ;omega) (Yi (by show AQ (((BM (s.take k)).length:Int)-1);unfold AQ;omega) ?_));refine Yi ⟨by grind,by grind⟩ ?_;refine Yi RO (Xi (Aj y) (Yi hy (Yi ⟨by grind,by grind⟩ ?_)));refine Yi RO (Xi (Aj y) (Yi hy (yN (Yi aa0 (Yi (Ii k ch) ?_)))));have hm:=FU s k hk;have HF:JL (BM (s.take k)) s[k]=(y.1,max y.2 s[k].2)::t:=by rw[e];show(if s[k].1<=y.2 then _ else _)=_;grind
       have e1:vi (BM (s.take k)).length=vi (BM (s.take (k+1))).length:=by rw[hm,HF,e];simp
       have e2:HO.arr 2 (((arr2 s j k).map Aj).set (((BM (s.take k)).length:Int)-1).toNat [vi y.1,vi (max y.2 s[k].2)])=KR (arr2 s (j++[s[k]]) (k+1)):=by rw[<-bE s j k hk e h5,ht];simp only[KR,ME]
       refine Xi ⟨(k+1,j++[s[k]]),by omega,by show(BM (s.take (k+1))).length+(j++[s[k]]).length=k+1;rw[hm,HF,Au,A6];grind⟩ ?_;exact⟨Dl s.length k ch,⟨Zr,⟨e1,rfl⟩,Zr,Zr,Zr,Tv⟩,⟨⟨e2,rfl⟩,Tv⟩,Fh,Tv⟩
      .intro h5;refine Yi aa0 ?_;have HF:JL (BM (s.take k)) s[k]=s[k]::BM (s.take k):=by rw[e];show(if s[k].1<=y.2 then _ else _)=_;grind
       have ju:(BM (s.take k)).length<(arr2 s j k).length:=by omega
       have hz:=EE (enc:=Aj) (Ge ju);refine Yi (Nz rfl) (Yi ⟨by omega,by grind⟩ ?_);refine Yi RO (Xi (Aj (arr2 s j k)[(BM (s.take k)).length]) (Yi hz (yN (Yi (by show AQ (((BM (s.take k)).length:Int)+1);unfold AQ;omega) ?_))));refine Yi (Ii k ch) ?_;have hm:=FU s k hk;have e1:vi (((BM (s.take k)).length:Int)+1)=vi (BM (s.take (k+1))).length:=by rw[hm,HF];simp
       have e2:HO.arr 2 (((arr2 s j k).map Aj).set (BM (s.take k)).length [vi s[k].1,vi s[k].2])=KR (arr2 s (j++[s[k]]).tail (k+1)):=by rw[<-TO s j k hk HF];simp only[KR,ME]
       refine Xi ⟨(k+1,(j++[s[k]]).tail),by omega,by show(BM (s.take (k+1))).length+((j++[s[k]]).tail).length=k+1;rw[hm,HF];simp;omega⟩ ?_;exact⟨Dl s.length k ch,⟨Zr,⟨e1,rfl⟩,Zr,Zr,Zr,Tv⟩,⟨⟨e2,rfl⟩,Tv⟩,Fh,Tv⟩
     .intro h4;have h4:¬(0:Int)<k:=h4;omega
   .intro h2;have h2:¬(k:Int)<(Dr (l.take i)).length:=h2;have hk:k=s.length:=by omega
    have hr:=Si s k k1;have rR:((((arr2 s j k).map Aj).take ((BM (s.take k)).length:Int).toNat).drop 0)=(canon l).map Aj:=by
     rw[List.drop_zero,FI,<-List.map_take,<-fin]
     grind
    refine Yi ⟨RO,by simp_all,by simp_all,by grind,.inr ⟨rfl,by simp⟩⟩ ?_;exact .of_eq (Aa (AV.slice .none) rR)
end Go.Eng
namespace Go.Eng
open Go.Proofs Go.Sort
variable {m:List (Int×Int)}{S:AS}(zs:List Int)(z:Int)
abbrev F1:List AV:=[vi z]
theorem Ph{α:Type}[Inhabited α](enc:α->Value)(w:World)(b:Nat)(d:Array α):putRow enc w b 0 d=putRow id w b 0 (d.map enc):=by
 unfold putRow
 congr 1
 grind [putCells]
theorem T9:(zs.map F1).flatten=(zs.map fun z=>Value.int .i64 z).map AV.v:=by
 induction zs<;>simp_all
theorem JJ(g:Gh)(w:World)(U:Nat->Prop)(vs:List Value)(h:∀x∈vs,x.oneCell'=true):BR g w U (vs.map .v) vs:=
 ⟨by simp,h,fun i av x q1 q2=>by
  grind [AT.v]⟩
theorem Kk{g:Gh}{w:World}{U:Nat->Prop}{vs us:List Value}(h:BR g w U (vs.map .v) us):us=vs:=by
 apply B7;intro i;have hl:=h.1;rw[Lm]at hl
 by_cases hi:i<vs.length
 .have:=h.2.2 i (.v vs[i]) us[i] (by simp_all) (Ge ch)
  grind [AT.v_eq]
 simp_all
theorem vd(hl:Cr zs)(DT:zs≠[]) :
  AW Tryz.prog 375 [.msl 1000 zs.length] (Ae [(1000,.arr 1 (zs.map F1))] Ab) fun r h'=>
   r=.tup []/\∃l' : List Int,(l'.Perm zs/\l'.Pairwise fun a b=>a<=b)/\h'=Ae [(1000,.arr 1 (l'.map F1))] Ab:=by
 have hE:Fb Tryz.prog 375:=ZX 375 Tryz.func375 aa0 rfl;have G7:=OD (P:=Tryz.prog) (f:=375) (es:=zs.map F1) (sz:=1) (rest:=[]) (Q:=fun EZ=>∃l' : List Int,(l'.Perm zs/\l'.Pairwise fun a b=>a<=b)/\EZ=l'.map F1) hE ?_ ?_
 .grind
 .simp_all
 .intro g w b cap F hr hF hH hb;have tG:F.toList=zs.map fun z=>Value.int .i64 z:=Kk (by rw[<-T9];exact hr);have mw:F=zs.toArray.map fun z=>Value.int .i64 z:=QM.1 (by simp_all);have qY:Holds (Value.int .i64) w b 0 zs.toArray:=fun j hj=>by
   have:=hH j (by simp_all)
   simp_all
  have hc:=Any.slices_Sort_int Tryz.laySortInts b 0 cap zs w qY hb ch;rw[Lm];refine hc.mono ?_
  rintro e w' ⟨rfl,n,os,rfl⟩
  have H7:(zs.mergeSort fun x y=>decide (x<=y)).Perm zs:=List.mergeSort_perm _ _;have B5:=H7.length_eq;refine⟨rfl,(zs.mergeSort fun x y=>decide (x<=y)).toArray.map fun z=>Value.int .i64 z,(zs.mergeSort fun x y=>decide (x<=y)).map F1,n,os,?_,⟨_,⟨H7,?_⟩,rfl⟩,by simp_all,fun cs hcs=>?_,fun g w _=>?_,by rw[Ph]⟩
  .simp_all
  .grind [List.pairwise_mergeSort]
  .grind
  .rw[T9];have e:((zs.mergeSort fun x y=>decide (x<=y)).toArray.map fun z=>Value.int .i64 z).toList=(zs.mergeSort fun x y=>decide (x<=y)).map fun z=>Value.int .i64 z:=by simp
   rw[e];exact JJ _ _ _ _ fun x hx=>by
    obtain⟨z,_,rfl⟩:=Ak.1 hx;rfl
-- maps from numbers to numbers
abbrev VO:D7:=⟨false,[.int .i64]⟩
abbrev kI:Value:=.int .i64 z
abbrev LV(p:Int×Int):Value×AV:=(kI p.1,vi p.2)
abbrev FO(s:AS):List AV:=[sl Aj s]
theorem Vv{k:Int}{a:AV}:(kI k,a)∈m.map LV↔∃v,(k,v)∈m/\a=vi v:=by
 grind
theorem QF(m:List (Int×Int))(k v:Int):Ej (m.map LV) (kI k) (vi v)=(Kj m k v).map LV:=by
 unfold Kj
 by_cases h:(m.any fun p=>decide (p.1=k))=true
 .rw[A1 h];obtain⟨p,h1,h2⟩:=Ci.1 h;have h2:=BD h2
  have:(kI k,vi p.2)∈m.map LV:=Vv.2 ⟨p.2,by grind,rfl⟩
  rw[OY this,Bx,Bx]
  grind [List.map_congr_left]
 grind [JD]
theorem NR{T:FY}{e:Nat}{BF:List (Value×AV)}{kx:Value}{K:AV->Prop}(a0 z0:AV)(h1:∀a,(kx,a)∈BF->a=a0)(hz:(∀a,(kx,a)∉BF)->a0=z0)(h2:K z0->Je T e K)(k:K a0) :
  (∀a,(kx,a)∈BF->K a)/\((∀a,(kx,a)∉BF)->Je T e K):=⟨fun a h=>by grind,fun hn=>h2 (hz hn▸k)⟩
theorem Pz(m:List (Int×Int))(k:Int):(∀a,(kI k,a)∉m.map LV)->vi (EY m k)=vi 0:=fun NW=>by
 rw[jj fun hk=>by
  obtain⟨p,hp,e⟩:=Ak.1 hk;exact NW (vi p.2) (Vv.2 ⟨p.2,by grind,rfl⟩)]
theorem Py(hn:(EA m).Nodup)(k:Int):∀a,(kI k,a)∈m.map LV->a=vi (EY m k):=fun a h=>by
 obtain⟨v,h1,rfl⟩:=Vv.1 h;rw[ji hn h1]
theorem Fj.bound(h:Fj m S)(k:Int):-(S.length:Int)<=EY m k/\EY m k<=S.length:=by
 rw[h.val]
 grind [cF,cT]
theorem YG(l:List AS):(l.map canon).flatten.length<=l.length*1000000:=by
 induction l<;>grind [Hl,BN]
theorem Fj.few(h:Fj m S):m.length<=1000001:=by
 have:=Cz (m:=(List.range 1000001).map Int.ofNat) h.nd fun k hk=>by
  have:=h.rng k hk
  grind [Int]
 grind [EA]
theorem Uh(keep:Nat->Bool)(m:List (Int×Int))(B:List Int):∀n,(DU keep m B n).length<=n
 |0=>Ai _
 |n+1=>by
  unfold DU
  have:=Uh keep m B n
  grind
end Go.Eng
namespace Go.Eng
open Go.Proofs
variable {m:List Tm}{α:Type}(u:Tm)(n:Int)(l:List Tm)(p:ByteArray)(x:α)(s:AS)(q:Rq)(t:Tm)
abbrev plC:MF:=⟨[],[(12,2)],[(44,1)],[],[],[],[],[],[],[],[8,9,15,23,25,26]⟩
theorem nE(F:AV)(keep:Nat->Bool)(l:List AS)(hl:Cr l)(hs:∀s∈l,Cr s)(hid:∀h,RT h F=true)(hF:∀h (n:Int),0<=n->n<=l.length->Oz Tryz.prog (str h F) [vi n] (vb (keep n.toNat)))
  (R:AS) (hR:D3 R) (hRh:∀p,has R p=(Qs p&&keep (fy l p))):PC 341 [F,sl FO l] (sl Aj R):=by
 refine Ps plC Tryz.func341 rfl (Nz rfl) (Xi {p:Nat×List (Int×Int) // p.1<=l.length/\Fj p.2 ((l.take p.1).map canon).flatten} (Xi (fun p=>⟨[(0,F),(5,.mref 15),(17,sl FO l),(18,vi (l.map FO).length),(19,vi p.1.1)],[(15,.map VO (p.1.2.map LV))],Ab⟩) (Xi (fun p=>l.length-p.1.1) (Yi (Xi ⟨(0,qH),Ar _,jW⟩ ?_) ?_))))
 .have e0:HO.map VO (Ej (Ej [] (kI 0) (vi 0)) (kI 1000000) (vi 0))=.map VO (qH.map LV):=by
   have e1:=QF [] 0 0;have e2:=QF [(0,0)] 1000000 0;show HO.map VO (Ej (Ej (List.map LV []) (kI 0) (vi 0)) (kI 1000000) (vi 0))=_;rw[e1];show HO.map VO (Ej (List.map LV [(0,0)]) (kI 1000000) (vi 0))=_;rw[e2];rfl
  exact⟨⟨⟨rfl,hid _⟩,Zr,Zr,Zr,Zr,Tv⟩,⟨⟨e0,rfl⟩,Tv⟩,Fh,Tv⟩
 intro⟨⟨i,cm⟩,i1,i2⟩;refine Yi ?_ ?_
 .intro h;have h:i<l.length:=by simp_all
  have hg:l[i]?=some l[i]:=Ge h;refine Xi (FO l[i]) (Yi (Yi ch (by simp_all)) (Yi rfl ?_));refine Xi .pure (Xi _ (Yi (Wl l[i] (hs _ (Ao h))) (Xi {p:Nat×List (Int×Int) // p.1<=(canon l[i]).length/\Fj p.2 (((l.take i).map canon).flatten++(canon l[i]).take p.1)} (Xi (fun p=>⟨[(0,F),(5,.mref 15),(17,sl FO l),(18,vi (l.map FO).length),(19,vi i),(24,sl Aj (canon l[i])),(25,vi ((canon l[i]).map Aj).length),(26,vi p.1.1)],[(15,.map VO (p.1.2.map LV))],Ab⟩) (Xi (fun p=>(canon l[i]).length-p.1.1) (Yi (Xi ⟨(0,cm),Ar _,by grind⟩ ?_) ?_))))))
  .exact⟨⟨⟨rfl,hid _⟩,Zr,Zr,Zr,Zr,Zr,Zr,Zr,Tv⟩,Z1,Fh,Tv⟩
  intro⟨⟨j,dm⟩,j1,j2⟩;have j2:Fj dm (((l.take i).map canon).flatten++(canon l[i]).take j):=j2;have hS:(((l.take i).map canon).flatten++(canon l[i]).take j).length<=1073741825000000:=by
   grind [YG,Hl,BN]
  refine Yi ?_ ?_
  .intro hj;have hj:j<(canon l[i]).length:=by simp_all
   have hgj:(canon l[i])[j]?=some (canon l[i])[j]:=Ge hj;have oL:=(BN l[i]).low _ (Ao hj);have j3:Fj (XT dm (canon l[i])[j]) (((l.take i).map canon).flatten++(canon l[i]).take (j+1)):=by
    grind [dM,List.take_add_one]
   generalize (canon l[i])[j]=x at hgj oL j3;have b1:=j2.bound x.1;have ju:=Lh j2.nd x.1 (EY dm x.1+1);refine Xi (Aj x) (Yi (Yi ch (by simp_all)) (Yi rfl ?_));refine Yi (Nz rfl) (yN (Xi ⟨[(0,F),(5,.mref 15),(9,.ref 9 0),(17,sl FO l),(18,vi (l.map FO).length),(19,vi i),(24,sl Aj (canon l[i])),(25,vi ((canon l[i]).map Aj).length),(26,vi j)],[(9,.cells (Aj x)),(15,.map VO (dm.map LV))],Ab⟩ (Yi ⟨⟨⟨rfl,hid _⟩,Zr,Zr,Zr,Zr,Zr,Zr,Zr,Zr,Tv⟩,Z2,Fh,Tv⟩ (NR (vi (EY dm x.1)) (vi 0) (Py j2.nd x.1) (Pz dm x.1) (fun q=>q) (Yi (by grind [AQ]) ?_)))));have m1:HO.map VO (Ej (dm.map LV) (kI x.1) (vi (EY dm x.1+1)))=.map VO ((Kj dm x.1 (EY dm x.1+1)).map LV):=by rw[QF]
   refine Xi ⟨[(0,F),(5,.mref 15),(9,.ref 9 0),(17,sl FO l),(18,vi (l.map FO).length),(19,vi i),(24,sl Aj (canon l[i])),(25,vi ((canon l[i]).map Aj).length),(26,vi j)],[(9,.cells (Aj x)),(15,.map VO ((Kj dm x.1 (EY dm x.1+1)).map LV))],Ab⟩ (Yi ⟨⟨⟨rfl,hid _⟩,Zr,Zr,Zr,Zr,Zr,Zr,Zr,Zr,Tv⟩,⟨Zr,⟨m1,rfl⟩,Tv⟩,Fh,Tv⟩ ?_)
   have b2:-(1073741825000001:Int)<=EY (Kj dm x.1 (EY dm x.1+1)) x.2/\EY (Kj dm x.1 (EY dm x.1+1)) x.2<=1073741825000001:=by
    have b3:=j2.bound x.2
    grind [Ov]
   refine NR (vi (EY (Kj dm x.1 (EY dm x.1+1)) x.2)) (vi 0) (Py ju x.2) (Pz _ x.2) (fun q=>q) (Yi (by show AQ (EY (Kj dm x.1 (EY dm x.1+1)) x.2-1);grind [AQ]) ?_);have hcl:=Hl (BN l[i]);refine Yi (by grind [AQ]) ?_;have m2:HO.map VO (Ej ((Kj dm x.1 (EY dm x.1+1)).map LV) (kI x.2) (vi (EY (Kj dm x.1 (EY dm x.1+1)) x.2-1)))=.map VO ((XT dm x).map LV):=by rw[QF];rfl
   refine Xi ⟨(j+1,XT dm x),by omega,j3⟩ ?_;exact⟨by grind,⟨⟨rfl,hid _⟩,Zr,Zr,Zr,Zr,Zr,Zr,Zr,Tv⟩,⟨⟨m2,rfl⟩,Tv⟩,Fh,Tv⟩
  .intro hj;have hj:¬j<(canon l[i]).length:=by simp_all
   refine Yi (by grind [AQ]) ?_;have i3:Fj dm ((l.take (i+1)).map canon).flatten:=by
    have e1:(canon l[i]).take j=canon l[i]:=Bd ch;rw[e1]at j2;have e2:((l.take (i+1)).map canon).flatten=((l.take i).map canon).flatten++canon l[i]:=by
     rw[FL,hg,Bm,CA];simp_all
    simp_all
   refine Xi ⟨(i+1,dm),by omega,i3⟩ ?_;exact⟨by grind,⟨⟨rfl,hid _⟩,Zr,Zr,Zr,Zr,Tv⟩,Z1,Fh,Tv⟩
 .intro h;have h:¬i<l.length:=by simp_all
  have i3:Fj cm (l.map canon).flatten:=by
   grind
  have wA:=i3.few;have hmk:(0:Int)<=0/\(0:Int)<=((cm.map LV).length:Int)/\((cm.map LV).length:Int)*((8:Nat):Int)<=140737488355328/\((cm.map LV).length:Int)<=9223372036854775807:=by grind
  refine Yi hmk (Xi {p:List (Value×AV)×List Int×Option (Value×AV) // ((p.2.1.map kI)++p.1.map (·.1)).Perm ((cm.map LV).map (·.1))/\∀kv∈p.1,kv∈cm.map LV} (Xi (fun p=>⟨[(0,F),(5,.mref 15),(10,.msl 44 p.1.2.1.length),(46,.ref 46 0)],[(15,.rom VO (cm.map LV)),(44,.arr 1 (p.1.2.1.map F1)),(46,.iter (cm.map LV) p.1.1 p.1.2.2)],Ab⟩) (Xi (fun p=>p.1.1.length) (Yi (Xi ⟨(cm.map LV,[],none),.refl _,fun _ h=>h⟩ ?_) ?_))))
  .exact⟨⟨⟨rfl,hid _⟩,Zr,Zr,Zr,Tv⟩,Z3,Fh,Tv⟩
  intro⟨⟨rem,bs,DD⟩,r1,r2⟩;have zh:bs.length<=1000001:=by
   grind [List.length_append,Lm,List.Perm.length_eq]
  refine Yi ?_ ?_
  .intro hr;subst hr;rw[HN,Dm,Bx]at r1;have w9:bs.Perm (EA cm):=by
    have r1:(bs.map kI).Perm ((EA cm).map kI):=by unfold EA;rw[Bx];exact r1
    have:=r1.map (fun v:Value=>match v with | .int _ n=>n | _=>0)
    rw[Bx,Bx]at this;have e:((fun v:Value=>match v with | .int _ n=>n | _=>0) ∘ kI)=id:=rfl;simp_all
   have DT:bs≠[]:=fun e=>by
    subst e
    have:=w9.length_eq
    have h0:=i3.keys.1;simp_all
   refine Xi (.gen [(44,1000)] 0) (Yi rfl ((vd bs ch DT).to ?_));intro B tE;have yZ:B.length=bs.length:=tE.1.length_eq;have hBn:B.Nodup:=(tE.1.trans w9).nodup_iff.2 i3.nd;have hB:jC B cm:=⟨tE.1.trans w9,by
    grind [List.pairwise_iff_getElem]⟩
   have y0:0<B.length:=by
    grind
   have vS:bs.length=(B.map F1).length:=by simp_all
   refine Yi (by grind [AQ]) (Xi {k:Nat // k<=B.length-1} (Xi (fun k=>⟨[(0,F),(5,.mref 15),(10,.msl 44 bs.length),(12,.slice (.id 12 2) ((DU keep cm B k.1).map Aj)),(13,vi (HU cm (B.take k.1))),(59,vi ((bs.length:Int)-1)),(60,vi k.1)],[(12,.tok 2 ((DU keep cm B k.1).map Aj).length),(15,.rom VO (cm.map LV)),(44,.arr 1 (B.map F1))],Ab⟩) (Xi (fun k=>B.length-k.1) (Yi (Xi ⟨0,Ar _⟩ ?_) ?_))))
   .exact⟨⟨⟨rfl,hid _⟩,Zr,Zr,Zr,Zr,Zr,Zr,Tv⟩,Z3,Fh,Tv⟩
   intro⟨k,k1⟩;have oz:=Uh keep cm B k;refine Yi ?_ ?_
   .intro hk;have hk:(k:Int)<(bs.length:Int)-1:=hk;have Vn:k+1<B.length:=by omega
    have cu:k<B.length:=by omega
    have mA:(B.map F1)[k]?=some (F1 B[k]):=EE (Ge cu);have Aby:(B.map F1)[k+1]?=some (F1 B[k+1]):=EE (Ge Vn);have kR:=Pw cm B k cu;have Acj:=iZ i3 hB k cu;have mF:DU keep cm B (k+1)=DU keep cm B k++(if keep (HU cm (B.take (k+1))).toNat then [(B[k],B[k+1])]else []):=by
     show _++(match B[k]?,B[k+1]? with | some a,some b=>if keep (HU cm (B.take (k+1))).toNat then [(a,b)]else [] | _,_=>[])=_
     grind
    refine Xi ⟨[(0,F),(5,.mref 15),(10,.msl 44 bs.length),(12,.slice (.id 12 2) ((DU keep cm B k).map Aj)),(13,vi (HU cm (B.take k))),(14,vi k),(59,vi ((bs.length:Int)-1)),(60,vi k)],[(12,.tok 2 ((DU keep cm B k).map Aj).length),(15,.rom VO (cm.map LV)),(44,.arr 1 (B.map F1))],Ab⟩ (Yi ⟨⟨⟨rfl,hid _⟩,Zr,Zr,Zr,Zr,Zr,Zr,Zr,Tv⟩,Z3,Fh,Tv⟩ (Yi ⟨by omega,by omega⟩ ?_));refine Yi vS (Xi (F1 B[k]) (Yi mA (NR (vi (EY cm B[k])) (vi 0) (Py i3.nd B[k]) (Pz cm B[k]) (fun q=>q) (Yi (by grind [AQ]) ?_))));have BX:∀h,Oz Tryz.prog (str h F) [vi (HU cm (B.take k)+EY cm B[k])] (vb (keep (HU cm (B.take (k+1))).toNat)):=fun h=>by
     grind
    refine Bs (Bt (keep (HU cm (B.take (k+1))).toNat)) (fun hp=>?_) (fun hp=>?_)
    .rw[hp]at BX;rw[hp,A1 rfl]at mF;refine Xi .pure (Xi (vb true) (Yi (BX _) (Xi ⟨[(0,F),(5,.mref 15),(10,.msl 44 bs.length),(12,.slice (.id 12 2) ((DU keep cm B k).map Aj)),(13,vi (HU cm (B.take k)+EY cm B[k])),(14,vi k),(59,vi ((bs.length:Int)-1)),(60,vi k)],[(12,.tok 2 ((DU keep cm B k).map Aj).length),(15,.rom VO (cm.map LV)),(44,.arr 1 (B.map F1))],Ab⟩ (Yi ⟨⟨⟨rfl,hid _⟩,Zr,Zr,Zr,Zr,Zr,Zr,Zr,Tv⟩,Z3,Fh,Tv⟩ ?_))))
     have b1:(0:Int)<=(k:Int)+1/\(k:Int)+1<bs.length:=by omega
     have wb:(B.map F1)[((k:Int)+1).toNat]?=some (F1 B[k+1]):=by grind
     refine Yi ⟨by omega,by omega⟩ ?_;refine Yi vS (Xi (F1 B[k]) (Yi mA (Yi (Ii k ch) (Yi b1 (Yi vS (Xi (F1 B[k+1]) (Yi wb ?_)))))));have Di:BJ 2 [[vi B[k],vi B[k+1]]]/\((DU keep cm B k).map Aj).length=((DU keep cm B k).map Aj).length/\(((DU keep cm B k).map Aj).length+[[vi B[k],vi B[k+1]]].length)*16<=140737488355328/\((DU keep cm B k).map Aj).length+[[vi B[k],vi B[k+1]]].length<=9223372036854775807:=
      ⟨⟨rfl,trivial⟩,rfl,by grind,by grind⟩
     refine Yi Di (Yi aa0 (Xi ⟨[(0,F),(5,.mref 15),(10,.msl 44 bs.length),(12,.slice (.id 12 2) ((DU keep cm B k).map Aj++[[vi B[k],vi B[k+1]]])),(13,vi (HU cm (B.take k)+EY cm B[k])),(59,vi ((bs.length:Int)-1)),(60,vi k)],[(12,.tok 2 (((DU keep cm B k).map Aj).length+[[vi B[k],vi B[k+1]]].length)),(15,.rom VO (cm.map LV)),(44,.arr 1 (B.map F1))],Ab⟩ (Yi ⟨⟨⟨rfl,hid _⟩,Zr,Zr,Zr,Zr,Zr,Zr,Tv⟩,Z3,Fh,Tv⟩ (Yi (Ii k ch) (Xi ⟨k+1,by omega⟩ ?_)))));have e1:AV.slice (.id 12 2) ((DU keep cm B k).map Aj++[[vi B[k],vi B[k+1]]])=.slice (.id 12 2) ((DU keep cm B (k+1)).map Aj):=by grind
     have e2:vi (HU cm (B.take k)+EY cm B[k])=vi (HU cm (B.take (k+1))):=by grind
     have e3:HO.tok 2 (((DU keep cm B k).map Aj).length+[[vi B[k],vi B[k+1]]].length)=.tok 2 ((DU keep cm B (k+1)).map Aj).length:=by grind
     exact⟨by grind,⟨⟨rfl,hid _⟩,Zr,Zr,⟨e1,rfl⟩,⟨e2,rfl⟩,Zr,Zr,Tv⟩,⟨⟨e3,rfl⟩,Zr,Zr,Tv⟩,Fh,Tv⟩
    .rw[hp]at BX;have mF:DU keep cm B (k+1)=DU keep cm B k:=by grind
     refine Xi .pure (Xi (vb false) (Yi (BX _) (Xi ⟨[(0,F),(5,.mref 15),(10,.msl 44 bs.length),(12,.slice (.id 12 2) ((DU keep cm B k).map Aj)),(13,vi (HU cm (B.take k)+EY cm B[k])),(59,vi ((bs.length:Int)-1)),(60,vi k)],[(12,.tok 2 ((DU keep cm B k).map Aj).length),(15,.rom VO (cm.map LV)),(44,.arr 1 (B.map F1))],Ab⟩ (Yi ⟨⟨⟨rfl,hid _⟩,Zr,Zr,Zr,Zr,Zr,Zr,Tv⟩,Z3,Fh,Tv⟩ (Yi (by grind [AQ]) (Xi ⟨k+1,by omega⟩ ?_))))));have e1:AV.slice (.id 12 2) ((DU keep cm B k).map Aj)=.slice (.id 12 2) ((DU keep cm B (k+1)).map Aj):=by grind
     have e2:vi (HU cm (B.take k)+EY cm B[k])=vi (HU cm (B.take (k+1))):=by grind
     have e3:HO.tok 2 ((DU keep cm B k).map Aj).length=.tok 2 ((DU keep cm B (k+1)).map Aj).length:=by grind
     exact⟨by grind,⟨⟨rfl,hid _⟩,Zr,Zr,⟨e1,rfl⟩,⟨e2,rfl⟩,Zr,Zr,Tv⟩,⟨⟨e3,rfl⟩,Zr,Zr,Tv⟩,Fh,Tv⟩
   .intro hk;have hk:¬(k:Int)<(bs.length:Int)-1:=hk;have Vn:k=B.length-1:=by omega
    have wl:canon (DU keep cm B k)=R:=by
     grind [Rd,gM]
    have hc:=Wl (DU keep cm B k) ch;rw[wl]at hc;refine Xi .pure (Xi _ (Yi hc ?_));exact .refl _
  .intro kv Ol hp;refine AJ (Ak.1 (r2 kv (hp.mem_iff.2 (Ad ..)))) (fun q hq=>?_);have hq2:=hq.2;subst hq2;refine Xi ⟨[(0,F),(5,.mref 15),(10,.msl 44 bs.length),(46,.ref 46 0)],[(15,.rom VO (cm.map LV)),(44,.arr 1 (bs.map F1)),(46,.iter (cm.map LV) Ol (some (LV q)))],Ab⟩ (Yi ⟨⟨⟨rfl,hid _⟩,Zr,Zr,Zr,Tv⟩,Z3,Fh,Tv⟩ ?_)
   have Di:BJ 1 [F1 q.1]/\(bs.map F1).length=bs.length/\((bs.map F1).length+[F1 q.1].length)*8<=140737488355328/\(bs.map F1).length+[F1 q.1].length<=9223372036854775807:=
    ⟨⟨rfl,trivial⟩,by simp_all,by grind,by grind⟩
   refine Yi Di ?_;have e1:AV.msl 44 ((bs.map F1).length+[F1 q.1].length)=.msl 44 (bs++[q.1]).length:=by simp
   have e2:HO.arr 1 (bs.map F1++[F1 q.1])=.arr 1 ((bs++[q.1]).map F1):=by simp
   refine Xi ⟨(Ol,bs++[q.1],some (LV q)),?_,fun kv cw=>r2 kv (hp.mem_iff.2 (Af _ cw))⟩ ?_
   .grind [List.Perm.append_left,List.Perm.trans,List.Perm.symm]
   .exact⟨by show Ol.length<rem.length;rw[hp.length_eq];simp,⟨⟨rfl,hid _⟩,Zr,⟨e1,rfl⟩,Zr,Tv⟩,⟨Zr,⟨e2,rfl⟩,Zr,Tv⟩,Fh,Tv⟩
theorem uQ(l:List AS):PC 390 [vi n,.cptr [sl FO l]] (vb (decide (n=l.length))):=by
 refine Ps D0 Tryz.func390 rfl (Nz rfl) ?_;have e:((l.map FO).length:Int)=l.length:=by simp_all
 refine Yi ?_ ?_
 .intro h;rw[show decide (n=(l.length:Int))=true from As (h.trans e)];exact .refl _
 .intro h;rw[show decide (n=(l.length:Int))=false from Av (fun c=>h (c.trans e.symm))];exact .refl _
theorem uS:PC 342 [vi n] (vb (decide (n=0))):=by
 refine Ps D0 Tryz.func342 rfl (Nz rfl) (Yi ?_ ?_)
 .intro h;rw[As h];exact .refl _
 .intro h;rw[Av h];exact .refl _
theorem vC:PC 378 [vi n] (vb (decide (0<n))):=by
 refine Ps D0 Tryz.func378 rfl (Nz rfl) (Yi ?_ ?_)
 .intro h;rw[As h];exact .refl _
 .intro h;rw[Av h];exact .refl _
theorem gK(l:List AS)(p:Int):decide (fy l p=l.length)=l.all fun s=>has s p:=by
 grind [fy,List.countP_eq_length]
theorem gL(l:List AS)(p:Int):decide (0<fy l p)=l.any fun s=>has s p:=by
 grind [fy,List.countP_pos_iff]
theorem uH(l:List AS)(hl:Cr l)(hs:∀s∈l,Cr s):PC 376 [sl FO l] (sl Aj (OT l)):=by
 have hc:=nE (.clo 390 [.cptr [sl FO l]]) (fun n=>decide (n=l.length)) l hl hs (fun _=>rfl) (fun h n h0 _=>by
  have:=uQ n l
  have e:decide (n=(l.length:Int))=decide (n.toNat=l.length):=by grind
  rw[e]at this;exact this) (OT l) (Vu l) fun p=>by rw[RJ,gK]
 refine Ps (jx [1]) Tryz.func376 rfl (Nz rfl) (Xi .pure (Xi _ (Yi (hc) ?_)));exact .refl _
theorem ny(hs:Cr s):PC 295 [sl Aj s] (sl Aj (Eh s)):=by
 have hc:=nE (.v (Gl 342)) (fun n=>decide (n=0)) [s] (by simp_all) (fun t ht=>by simp_all) (fun _=>rfl) (fun h n h0 _=>by
  have:=uS n
  have e:decide (n=0)=decide (n.toNat=0):=by grind
  rw[e]at this;exact this) (Eh s) (GK s) fun p=>by
   grind [Ft,fy]
 refine Ps D0 Tryz.func295 rfl (Nz rfl) (Xi .pure (Xi _ (Yi (hc) ?_)));exact .refl _
theorem vz(l:List AS)(hl:Cr l)(hs:∀s∈l,Cr s):PC 352 [sl FO l] (sl Aj (Px l)):=by
 have hc:=nE (.v (Gl 378)) (fun n=>decide (0<n)) l hl hs (fun _=>rfl) (fun h n h0 _=>by
  have:=vC n
  have e:decide (0<n)=decide (0<n.toNat):=by simp_all
  rw[e]at this;exact this) (Px l) (VT l) fun p=>by
   grind [RK,gL,OQ,Qs]
 refine Ps D0 Tryz.func352 rfl (Nz rfl) (Xi .pure (Xi _ (Yi (hc) ?_)));exact .refl _
-- terms
theorem c59(ht:Cr t.set):PC 348 [.agg (Am t)] (vb (!t.absent&&(canon t.set).isEmpty)):=by
 refine Ps D0 Tryz.func348 rfl (Nz rfl) (Yi ?_ ?_)
 .intro h;rw[h];exact .refl _
 .intro h;refine Xi .pure (Xi _ (Yi (Wl t.set ht) (Yi ?_ ?_)))
  .intro h2;have h2:canon t.set=[]:=AI (by simp_all);rw[h,h2];exact .refl _
  .intro h2;have h2:(canon t.set).isEmpty=false:=by
    simp_all
   rw[h,h2];exact .refl _
theorem c60(ht:Cr t.set):PC 349 [.agg (Am t)] (vb (t.absent&&(Eh t.set).isEmpty)):=by
 refine Ps D0 Tryz.func349 rfl (Nz rfl) (Yi ?_ ?_)
 .intro h;refine Xi .pure (Xi _ (Yi (ny t.set ht) (Yi ?_ ?_)))
  .intro h2;have h2:Eh t.set=[]:=AI (by simp_all);rw[h,h2];exact .refl _
  .intro h2;have h2:(Eh t.set).isEmpty=false:=by
    simp_all
   rw[h,h2];exact .refl _
 .intro h;rw[h];exact .refl _
abbrev Ec(l:List Nat):MF:=⟨[],[],[],[],[],[],[],[],[],[],l⟩
theorem yT(hu:Cr u.set)(ht:Cr t.set):PC 347 [.agg (Am u),.agg (Am t)] (.agg (Am (Gn u t))):=by
 have hc:PC 376 [sl FO [u.set,t.set]] (sl Aj (Mr u.set t.set)):=uH [u.set,t.set] (by simp_all) (fun s hs=>by
  grind)
 refine Ps (Ec []) Tryz.func347 rfl (Nz rfl) (Yi ?_ ?_)
 .intro h;refine Yi ?_ ?_
  .intro h2;have e:[vs u.path,vb true,sl Aj (Mr u.set t.set)]=Am (Gn u t):=by grind [Gn]
   refine Xi _ (Yi (hc) (Yi (Nz rfl) (Yi aa0 (yN ?_))));exact .of_eq (Aa AV.agg e)
  .intro h2;have e:[vs u.path,vb false,sl Aj (Mr u.set t.set)]=Am (Gn u t):=by grind [Gn]
   refine Xi _ (Yi (hc) (Yi (Nz rfl) (Yi aa0 (yN ?_))));exact .of_eq (Aa AV.agg e)
 .intro h;have e:[vs u.path,vb false,sl Aj (Mr u.set t.set)]=Am (Gn u t):=by grind [Gn]
  refine Xi _ (Yi (hc) (Yi (Nz rfl) (Yi aa0 (yN ?_))));exact .of_eq (Aa AV.agg e)
theorem vr(hu:Cr u.set)(ht:Cr t.set):PC 298 [.agg (Am u),.agg (Am t)] (.agg (Am (CD u t))):=by
 have hc:PC 352 [sl FO [u.set,t.set]] (sl Aj (Ou u.set t.set)):=vz [u.set,t.set] (by simp_all) (fun s hs=>by
  grind)
 refine Ps (Ec []) Tryz.func298 rfl (Nz rfl) (Yi ?_ ?_)
 .intro h;have e:[vs u.path,vb true,sl Aj (Ou u.set t.set)]=Am (CD u t):=by grind [CD]
  refine Xi _ (Yi (hc) (Yi (Nz rfl) (Yi aa0 (yN ?_))));exact .of_eq (Aa AV.agg e)
 .intro h;refine Yi ?_ ?_
  .intro h2;have e:[vs u.path,vb true,sl Aj (Ou u.set t.set)]=Am (CD u t):=by grind [CD]
   refine Xi _ (Yi (hc) (Yi (Nz rfl) (Yi aa0 (yN ?_))));exact .of_eq (Aa AV.agg e)
  .intro h2;have e:[vs u.path,vb false,sl Aj (Ou u.set t.set)]=Am (CD u t):=by grind [CD]
   refine Xi _ (Yi (hc) (Yi (Nz rfl) (Yi aa0 (yN ?_))));exact .of_eq (Aa AV.agg e)
theorem qy(hq:Cr q.set):PC 293 [.agg (Ac q)] (.agg (Am (CU q))):=by
 refine Ps D0 Tryz.func293 rfl (Nz rfl) (Xi _ (Yi (ny q.set hq) (Yi (Nz rfl) (Yi aa0 (yN ?_)))));exact .refl _
abbrev BS:D7:=⟨false,[.str]⟩
abbrev Sb:Value×AV:=(.string t.path,.agg (Am t))
abbrev sw(fin cut:List Nat):MF:=⟨[],[],[],[],fin,[],[],[],[],[],cut⟩
theorem aC{p:ByteArray}{a:AV}:(Value.string p,a)∈m.map Sb↔∃t∈m,t.path=p/\a=.agg (Am t):=by
 grind
theorem gU(m:List Tm)(t:Tm):Ej (m.map Sb) (.string t.path) (.agg (Am t))=(VH m t).map Sb:=by
 unfold VH
 by_cases h:(m.any fun u=>decide (u.path=t.path))=true
 .rw[A1 h];obtain⟨u,h1,h2⟩:=Ci.1 h;have h2:=BD h2
  have:(Value.string t.path,AV.agg (Am u))∈m.map Sb:=aC.2 ⟨u,h1,h2,rfl⟩
  rw[OY this,Bx,Bx]
  grind [List.map_congr_left]
 grind [JD]
theorem fR(hn:(Ee m).Nodup)(p:ByteArray){K:AV->Prop}{Z:Prop}(hy:∀u,CP m p=some u->K (.agg (Am u)))(NW:CP m p=none->Z) :
  (∀a,(Value.string p,a)∈m.map Sb->K a)/\((∀a,(Value.string p,a)∉m.map Sb)->Z):=
 ⟨fun a h=>by
  grind [PN],fun h=>NW (by
  cases e:CP m p with
  |none=>rfl
  |some u=>exact absurd (aC.2 ⟨u,F2 e,J4 e,rfl⟩) (h _))⟩
theorem Qz{t:Tm}(h:D3 t.set):Cr t.set:=by
 grind [Hl]
theorem c57(hl:Cr l)(hs:∀t∈l,Cr t.set):PC 346 [sl Am l,.v (Gl 347)] (.cmap BS ((CL l).map Sb)):=by
 refine Ps (sw [10] []) Tryz.func346 rfl (Nz rfl) (Xi {i:Nat // i<=l.length} (Xi (fun i=>⟨[(0,sl Am l),(1,.v (Gl 347)),(5,.mref 10),(11,sl Am l),(12,vi (l.map Am).length),(13,vi i.1)],[(10,.map BS ((CL (l.take i.1)).map Sb))],Ab⟩) (Xi (fun i=>l.length-i.1) (Yi (Xi ⟨0,Ar _⟩ ?_) ?_))))
 .exact⟨Z6,Z1,Fh,Tv⟩
 intro⟨i,h1⟩;have hn:=G9 (l.take i);refine Yi ?_ ?_
 .intro h;have h:i<l.length:=by simp_all
  have hg:l[i]?=some l[i]:=Ge h;refine Xi (Am l[i]) (Yi (Yi ch (by simp_all)) (Yi rfl ?_));refine Yi (Nz rfl) (yN ?_);have EV:=hs l[i] (Ao h);have tail:∀u:Tm,Cr u.set->Gn u l[i]=Qt (CP (CL (l.take i)) l[i].path) l[i]->Ej ((CL (l.take i)).map Sb) (.string l[i].path) (.agg (Am (Gn u l[i])))=(CL (l.take (i+1))).map Sb:=fun u hu e=>by
   have hp:(Qt (CP (CL (l.take i)) l[i].path) l[i]).path=l[i].path:=Pg _ _ fun u h=>J4 h;have e2:=gU (CL (l.take i)) (Gn u l[i]);have e3:(Gn u l[i]).path=l[i].path:=by simp_all
   rw[e3]at e2;rw[e2,PW l i h,e];rfl
  refine fR hn l[i].path (fun u hu=>?_) (fun hu=>?_)
  .have Mf:Cr u.set:=Qz (N4 _ u (F2 hu));refine yN ?_;have Az:=tail u Mf (by grind [aW]);refine Yi (Nz rfl) (yN (Xi _ (Yi (yT u l[i] Mf EV) (Yi aa0 (Yi (by show AQ ((i:Int)+1);grind [AQ]) (Xi ⟨i+1,by omega⟩ ?_))))));have e1:HO.map BS (Ej ((CL (l.take i)).map Sb) (.string l[i].path) (.agg (Am (Gn u l[i]))))=.map BS ((CL (l.take (i+1))).map Sb):=by simp_all
   exact⟨by grind,Z6,⟨⟨e1,rfl⟩,Tv⟩,Fh,Tv⟩
  .refine yN (Yi (Nz rfl) (yN ?_));have Az:=tail l[i] EV (by grind [aW]);refine Yi (Nz rfl) (yN (Xi _ (Yi (yT l[i] l[i] EV EV) (Yi aa0 (Yi (by grind [AQ]) (Xi ⟨i+1,by omega⟩ ?_))))));have e1:HO.map BS (Ej ((CL (l.take i)).map Sb) (.string l[i].path) (.agg (Am (Gn l[i] l[i]))))=.map BS ((CL (l.take (i+1))).map Sb):=by simp_all
   exact⟨by grind,Z6,⟨⟨e1,rfl⟩,Tv⟩,Fh,Tv⟩
 .intro h;have h:¬i<l.length:=by simp_all
  have e:(CL (l.take i)).map Sb=(CL l).map Sb:=by grind
  exact .of_eq (Aa (AV.cmap BS) e)
abbrev JR:AV:=.tup [sl Am (Pb l),vb (Ck l).isSome]
abbrev xD:MF:=⟨[],[],[(4,3)],[],[],[],[],[],[],[(25,4)],[]⟩
abbrev ZP:HO:=.arr 3 (l.map Am)
abbrev Gb:List Tm:=l.filter fun t=>!Gx t
theorem lp{l:List Tm}{kv:Value×AV}{Ol : List (Value×AV)}(h:(l.map Sb).Perm (kv::Ol)):∃t r,kv=Sb t/\Ol=r.map Sb/\l.Perm (t::r):=by
 obtain⟨ps,h1,h2⟩:=Lv h l rfl;cases ps<;>grind
theorem Wm{l:List Tm}{t:Tm}(h:t∈CL l)(hn:HS t=true):Ck l=none:=by
 grind [Ck,Im]
theorem Yq{l done s:List Tm}(h:done.Perm (CL l))(hn:∀t∈done,HS t=false)(hp:s.Perm (Gb done))(hs:s.Pairwise fun x y=>EL y.path x.path=false):Ck l=some s:=by
 unfold Ck;rw[AO]
 .congr 1
  exact(OH _ (hp.trans (h.filter _)) hs).symm
 grind [Im]
theorem cI:(Gb l).length<=l.length:=Hg _ _
theorem tv(hl:Cr l)(hs:∀t∈l,Cr t.set):PC 297 [sl Am l] (JR l):=by
 have cy:l.length<=1073741824:=hl;have zG:(CL l).length<=l.length:=by grind [M1,List.take_length]
 refine Ps xD Tryz.func297 rfl (Nz rfl) (Xi .pure (Xi _ (Yi (c57 l hl hs) (Xi {p:List Tm×List Tm×Option (Value×AV) // (p.1++p.2.1).Perm (CL l)/\∀t∈p.1,HS t=false} (Xi (fun p=>⟨[(4,.msl 4 (Gb p.1.1).length),(9,.ref 9 0)],[(4,ZP (Gb p.1.1)),(9,.iter ((CL l).map Sb) (p.1.2.1.map Sb) p.1.2.2)],Ab⟩) (Xi (fun p=>p.1.2.1.length) (Yi (Xi ⟨([],CL l,none),.refl _,fun t ht=>by cases ht⟩ ?_) ?_)))))))
 .exact⟨Z2,Z2,Fh,Tv⟩
 intro⟨⟨done,rem,DD⟩,r1,r2⟩;have r1:(done++rem).Perm (CL l):=r1;have hdl:done.length+rem.length<=l.length:=by grind [List.length_append,List.Perm.length_eq]
 have oz:=cI done;refine Yi ?_ ?_
 .intro hr;have hr:rem=[]:=Dv.1 hr;subst hr;rw[Dm]at r1;refine Xi (.gen [(4,1000)] 0) (Yi rfl ((c61 (Gb done) ch).to ?_));intro s hq;have X4:s.length=(Gb done).length:=hq.1.length_eq;have hc:=Yq r1 r2 hq.1 hq.2;refine Yi (by simp_all) ?_;have e:AV.tup [sl Am s,vb true]=JR l:=by grind [Pb]
  exact .of_eq e
 .intro kv Ol hp;refine AJ (lp hp) (fun t hp=>AJ hp (fun r hp=>?_));have e1:=hp.1;have e2:=hp.2.1;subst e1;subst e2;have hp:=hp.2.2;have uf:t∈CL l:=r1.mem_iff.1 (BP _ (hp.mem_iff.2 (Ad ..)));have xl:=N4 l t uf;have zZ:=Qz xl;refine Yi (Nz rfl) (yN ?_);have hv:PC 348 [.agg (Am t)] (vb (HS t)):=gY xl▸c59 t zZ;have ha:PC 349 [.agg (Am t)] (vb (Gx t)):=bB xl▸c60 t zZ;refine Bs (Bt (HS t)) (fun h=>?_) (fun h=>?_)
  .rw[h]at hv;refine Xi .pure (Xi _ (Yi (hv) ?_));have hc:=Wm uf h;have e:AV.tup [.slice .none [],vb false]=JR l:=by grind [Pb]
   have e0:DC (.tup [nzA,vb false]) (.tup [.slice .none [],vb false]):=DC.tup ⟨.nil,.refl _,trivial⟩;exact e0.trans (.of_eq e)
  .rw[h]at hv;refine Xi .pure (Xi _ (Yi (hv) (yN ?_)));have aw:((done++[t])++r).Perm (CL l):=by
    grind
   have zL:∀u∈done++[t],HS u=false:=fun u hu=>by
    grind
   have hrl:r.length<rem.length:=by grind [List.length_cons,List.Perm.length_eq]
   refine Bs (Bt (Gx t)) (fun h2=>?_) (fun h2=>?_)
   rotate_left
   .rw[h2]at ha;refine Xi .pure (Xi _ (Yi (ha) ?_));have Di:BJ 3 [Am t]/\((Gb done).map Am).length=(Gb done).length/\(((Gb done).map Am).length+[Am t].length)*48<=140737488355328/\((Gb done).map Am).length+[Am t].length<=9223372036854775807:=
     ⟨⟨rfl,trivial⟩,by simp_all,by grind,by grind⟩
    refine yN (Yi Di ?_);have hk:Gb (done++[t])=Gb done++[t]:=by simp_all
    have e1:AV.msl 4 (((Gb done).map Am).length+[Am t].length)=.msl 4 (Gb (done++[t])).length:=by simp_all
    have e2:HO.arr 3 ((Gb done).map Am++[Am t])=ZP (Gb (done++[t])):=by simp_all
    refine Xi ⟨(done++[t],r,some (Sb t)),aw,zL⟩ ?_;exact⟨hrl,⟨⟨e1,rfl⟩,Zr,Tv⟩,⟨⟨e2,rfl⟩,Zr,Tv⟩,Fh,Tv⟩
   .rw[h2]at ha;refine Xi .pure (Xi _ (Yi (ha) ?_));have hk:Gb (done++[t])=Gb done:=by simp_all
    have e1:AV.msl 4 (Gb done).length=.msl 4 (Gb (done++[t])).length:=by rw[hk]
    have e2:ZP (Gb done)=ZP (Gb (done++[t])):=by rw[hk]
    refine Xi ⟨(done++[t],r,some (Sb t)),aw,zL⟩ ?_;exact⟨hrl,⟨⟨e1,rfl⟩,Zr,Tv⟩,⟨⟨e2,rfl⟩,Zr,Tv⟩,Fh,Tv⟩
theorem nO(hl:Cr l)(hs:∀t∈l,Cr t.set):PC 292 [sl Am l] (sl Am (Pb l)):=by
 refine Ps D0 Tryz.func292 rfl (Nz rfl) (Xi .pure (Xi _ (Yi (tv l hl hs) ?_)));exact .refl _
theorem ON:Cr (Eh s):=by
 grind [Hl,GK]
theorem qM:Cr [x]:=by simp_all
theorem vM(y:α):Cr [x,y]:=by simp_all
theorem qr(hq:Cr q.set):PC 225 [.agg (Ac q)] (sl Am (Gc q)):=by
 have hc:PC 292 [sl Am [CU q]] (sl Am (Gc q)):=nO [CU q] (qM _) fun t ht=>by rw[AB.1 ht];exact ON _
 refine Ps D0 Tryz.func225 rfl (Nz rfl) (yN (Xi .pure (Xi _ (Yi (qy q hq) (Xi .pure (Xi _ (Yi (hc) ?_)))))));exact .refl _
theorem qt(pl:Int)(q:Rq)(hp:AQ (pl+1))(hq:Cr q.set):PC 226 [vs p,vi pl,.agg (Ac q)] (sl Am (Co p pl q)):=by
 have hc:PC 292 [sl Am [⟨p,false,[(pl,pl+1)]⟩,CU q]] (sl Am (Co p pl q)):=nO [⟨p,false,[(pl,pl+1)]⟩,CU q] (vM _ _) fun t ht=>by
  rcases AA.1 ht with rfl | ht
  .simp_all
  .rw[AB.1 ht];exact ON _
 refine Ps D0 Tryz.func226 rfl (Nz rfl) (Yi hp (yN (Xi .pure (Xi _ (Yi (qy q hq) (Xi .pure (Xi _ (Yi (hc) ?_))))))));exact .refl _
theorem nK(hs:Cr s):PC 229 [vs p,sl Aj s] (sl Am (EK p s)):=by
 have hc:PC 292 [sl Am [⟨p,false,Eh s⟩]] (sl Am (EK p s)):=nO [⟨p,false,Eh s⟩] (qM _) fun t ht=>by grind [ON]
 refine Ps D0 Tryz.func229 rfl (Nz rfl) (Xi .pure (Xi _ (Yi (ny s hs) (Xi .pure (Xi _ (Yi (hc) ?_))))));exact .refl _
end Go.Eng
namespace Go.Eng
open Go.Proofs Go.Shelf Go.RowKit Go.Lib Go.Sort
theorem oU(F:Array Value)(i n:Nat)(hF:F.size=n*3)(hi:i<n)(z:List Value)(hz:z.length=3):(lay (lay F (i*3) (F.toList.drop ((i+1)*3))) ((n-1)*3) z).toList=F.toList.take (i*3)++F.toList.drop ((i+1)*3)++z:=by
 have l1:(F.toList.take (i*3)).length=i*3:=by simp;omega
 have l2:(F.toList.drop ((i+1)*3)).length=(n-(i+1))*3:=by simp;omega
 apply B7
 intro t
 rw[CV,lay_get? _ _ _ _ (by rw[Lib.lay_size];omega),lay_get? _ _ _ _ (by rw[l2];omega)]
 rw[hz,l2]
 by_cases c1:t<i*3
 .rw[AO ch,AO ch,BZ (by rw[Au];omega),BZ ch,Nj,A1 c1,CV]
 .by_cases c2:t<(n-1)*3
  .rw[AO ch,A1 ch,BZ (by rw[Au];omega),Bp ch,l1]
  .rw[Bp (by rw[Au];omega),Au,l1,l2]
   by_cases c3:t<n*3
   .rw[A1 ch];congr 1;omega
   .rw[AO ch,AO ch,Te ch,Kr ch]
abbrev jB:List Value:=[.string ⟨#[]⟩,.bool false,.slice none 0 0]
set_option maxHeartbeats 4000000 in
set_option maxRecDepth 1000000 in
theorem fA(w:World)(b cap i n:Nat)(F:Array Value)(hF:F.size=n*3)(hi:i<n)(KG:n<=cap)(hH:Holds id w b 0 F)(h1:∀x∈F.toList,x.oneCell'=true) :
  Calls Tryz.prog 344 #[.slice (some ⟨b,0,none⟩) n cap,.int .i64 i,.int .i64 ((i:Int)+1)] w fun e w'=>e=.returned (.slice (some ⟨b,0,none⟩) (n-1) cap) /\
   w'=putRow id (Sort.ahead w 1) b 0 (lay (lay F (i*3) (F.toList.drop ((i+1)*3))) ((n-1)*3) jB):=by
 obtain⟨i0,rA,kV⟩:∃i0,Tryz.prog.info? 325=some i0/\i0.size=3:=by
  obtain⟨i,z,h1,_,h2,_⟩:=FZ (P:=Tryz.prog) (T:=jz) Bu (e:=325) (n:=2) aa0
  exact⟨i,h1,h2.trans aa0⟩
 obtain⟨news,Ga⟩:∃news,news=F.toList.drop ((i+1)*3):=⟨_,rfl⟩
 have B5:news.length=(n-(i+1))*3:=by rw[Ga];simp;omega
 have EV:∀t,t<(n-(i+1))*3->news[t]?=some F[(i+1)*3+t]!:=by
  intro t ht
  rw[Ga,Ew,CV,Jw F ((i+1)*3+t) ch,Cg ch]
 obtain⟨A,hA,gA⟩:∃A:Addr,(if cap=i+1 then some (⟨b,0,none⟩:Addr)else some ⟨b,(i+1)*3,none⟩)=some A/\Hid (∀t u,news[t]?=some u->w.drew.cell? (A.add t)=some u):=by
  by_cases h:cap=i+1
  .refine⟨⟨b,0,none⟩,by simp[h],fun t u hu=>?_⟩
   have h0:news.length=0:=by rw[B5];omega
   rw[List.length_eq_zero_iff.1 h0]at hu
   simp at hu
  .refine⟨⟨b,(i+1)*3,none⟩,by simp[h],fun t u hu=>?_⟩
   have ht:t<(n-(i+1))*3:=by
    have:=(AZ.1 hu).1
    rwa [B5]at this
   rw[EV t ht]at hu
   rw[Addr.add_lit]
   have:=(hH ((i+1)*3+t) ch).1
   rw[EC]at this
   exact this.trans hu
 have s1:Hid (news.length=(n-(i+1))*3):=B5
 have s2:Hid (∀u∈news,u.oneCell'=true):=by
  intro u hu
  rw[Ga]at hu
  exact h1 u (FK hu)
 have s3:Hid (∀t,t<news.length->(w.drew.cell? ⟨b,0+i*3+t,none⟩).isSome=true/\w.drew.frozen? ⟨b,0+i*3+t,none⟩=false):=by
  intro t ht
  rw[B5]at ht
  have:=hH (i*3+t) ch
  rw[Nat.add_assoc]
  exact⟨by show(w.cell? _).isSome=true;rw[this.1];rfl,this.2⟩
 obtain⟨W1,dY⟩:∃W1,W1=w.drew.setCells b (0+i*3) news:=⟨_,rfl⟩
 have YN : W1=putRow id (Sort.ahead w 1) b 0 (lay F (i*3) news):=by
  have:=putRow_setCells id (Sort.ahead w 1) b 0 news F (i*3) ch
  rw[putRow_self id (Sort.ahead w 1) b 0 F (holds_ahead id w 1 b 0 F hH),GI]at this
  rw[dY,<-this]
  rfl
 have od:Holds id W1 b 0 (lay F (i*3) news):=by rw[YN];exact holds_putRow id _ b 0 F _ (holds_ahead id w 1 b 0 F hH) (Lib.lay_size _ _ _)
 have HF:(storeCells ⟨b,0+(n-1)*3,none⟩ jB 0).run Tryz.prog W1=.ok () (W1.setCells b (0+(n-1)*3) jB):=by
  have:=run_storeCells_cells (P:=Tryz.prog) b (0+(n-1)*3) jB 0 W1 (fun j hj=>by
   have hj:j<3:=hj
   have:=od ((n-1)*3+j) (by rw[Lib.lay_size];omega)
   rw[show 0+(n-1)*3+0+j=0+((n-1)*3+j) by omega,this.1];rfl) (fun j hj=>by
   have hj:j<3:=hj
   have:=od ((n-1)*3+j) (by rw[Lib.lay_size];omega)
   rw[show 0+(n-1)*3+0+j=0+((n-1)*3+j) by omega];exact this.2) (fun v hv=>by
   simp only[AA,Gm,or_false]at hv
   rcases hv with rfl | rfl | rfl<;>rfl)
  exact this
 have hcl:∀ty c,(Builtin.clear_ #[258] ty #[.slice (some ⟨b,(n-1)*3,none⟩) 1 c]).run Tryz.prog W1=.ok (.tuple #[]) (W1.setCells b (0+(n-1)*3) jB):=fun ty c=>by
  have hv:=Tryz.zeroValue325
  rw[EC]at HF⊢
  have hz:(Builtin.zeroCells (Value.agg #[Value.string { data:=#[] },Value.bool false,Value.slice none 0 0]).cells 1).toList=jB:=by kernel_rfl
  simp[Builtin.clear_,run_underlying Tryz.underlying258,hv,hz,HF]
 have wq:∀ty,(Builtin.clear_ #[258] ty #[.slice (some ⟨b,(i+(n-(i+1)))*3,none⟩) (n-(i+(n-(i+1)))) (cap-(i+(n-(i+1))))]).run Tryz.prog W1=.ok (.tuple #[]) (W1.setCells b (0+(n-1)*3) jB):=fun ty=>by
  have e1:i+(n-(i+1))=n-1:=by omega
  have e2:n-(n-1)=1:=by omega
  rw[e1,e2];exact hcl ty _
 have X:Aside (W1=putRow id (Sort.ahead w 1) b 0 (lay F (i*3) news)):=YN
 have hW:Hid (W1=w.drew.setCells b (0+i*3) news):=dY
 have Y:Aside (news=F.toList.drop ((i+1)*3)):=Ga
 have Z:Aside (news.length=(n-(i+1))*3):=B5
 have tQ:i<=cap:=by omega
 have hjc:i+1<=cap:=by omega
 have mixed:=Go.Eng.hm
 have hb1:(0:Int)<=(i:Int)+1:=by omega
 have gg:(i:Int)+1<=(n:Int):=by omega
 clear dY YN od hH EV Ga B5 HF hcl
 go_enter Tryz.func344,Tryz.ntmps344
 go_wp2_with fail
 go_region_law_o (refine step_append_room rfl (.tmp 22) (.tmp 25) 258 rfl 325 i0 3 Tryz.underlying258 rA kV b 0 i cap (by simp[Act.eval,Act.put]) A (n-(i+1)) (cap-(i+1)) news (by simp[Act.eval,Act.put]) s1.out gA.out s2.out ch s3.out ?_;rw[<-hW.out])
 go_wp2
 go_ret
 refine⟨by rw[show i+(n-(i+1))=n-1 by omega];rfl,?_⟩
 rw[X.out]
 have e1:=Y.out
 have e2:=Z.out
 rw[<-e1]
 have:=putRow_setCells id (Sort.ahead w 1) b 0 jB (lay F (i*3) news) ((n-1)*3) (by rw[Lib.lay_size];show _+3<=_;omega)
 rw[GI,EC]at this
 exact this
abbrev XZ:List AV:=[Go.Eng.vs ⟨#[]⟩,vb false,nzA]
theorem vw(l:List Tm)(i:Nat)(hi:i<l.length) :
  AW Tryz.prog 344 [.msl 1000 l.length,vi i,vi ((i:Int)+1)] (Ae [(1000,.arr 3 (l.map Am))] Ab) fun r h'=>r=.msl 2000 (l.length-1)/\h'=Ae [(1000,.dead),(2000,.arr 3 ((l.eraseIdx i).map Am))] Ab:=by
 have hE:Fb Tryz.prog 344:=ZX 344 Tryz.func344 aa0 rfl
 have B5:(l.eraseIdx i).length=l.length-1:=Hy hi
 have G7:=OB (P:=Tryz.prog) (f:=344) (es:=l.map Am) (sz:=3) (rest:=[.int .i64 i,.int .i64 ((i:Int)+1)]) (n':=l.length-1) (Q:=fun EZ=>EZ=(l.eraseIdx i).map Am++[XZ]) hE (fun e=>by
  rw[Dv]at e;subst e;simp at hi) (by rw[A2];omega) ?_
 .rw[A2]at G7
  refine⟨hE,fun g w vals q1 q2 q3=>(G7.2 g w vals q1 q2 q3).mono fun _ _ ⟨v,r,h',g',e1,⟨e2,EZ,p1,p2⟩,rest⟩=>⟨v,r,h',g',e1,⟨e2,by rw[p2,p1,KN (by rw[A2,B5];exact Ai _),Bd (by rw[A2,B5];exact Ai _)]⟩,rest⟩⟩
 .intro g w b cap F hr hF hH hb hc
  rw[A2]at hF hc⊢
  have hu:∀e∈l.map Am,e.length=3:=fun e he=>by
   obtain⟨t,_,rfl⟩:=Ak.1 he;rfl
  refine(fA w b cap i l.length F hF hi hc hH hr.2.1).mono ?_
  rintro e w' ⟨rfl,rfl⟩
  refine⟨rfl,_,_,1,#[],?_,rfl,?_,fun cs hcs=>?_,fun g w hr=>?_,rfl⟩
  .rw[Lib.lay_size,Lib.lay_size]
  .rw[Au,A2,B5,A6];omega
  .rcases Bc.1 hcs with h | h
   .obtain⟨t,_,rfl⟩:=Ak.1 h;rfl
   .rw[AB.1 h];rfl
  .rw[oU F i l.length hF hi jB rfl,List.eraseIdx_eq_take_drop_succ,CA,Bm,CA,List.map_take,List.map_drop,<-Ih _ i hu,<-J5 _ (i+1) hu]
   refine BR.append (BR.append (hr.take _) (hr.drop _)) ?_
   exact JJ g w ES jB fun x hx=>by
    simp only[AA,Gm,or_false]at hx
    rcases hx with rfl | rfl | rfl<;>rfl
end Go.Eng
