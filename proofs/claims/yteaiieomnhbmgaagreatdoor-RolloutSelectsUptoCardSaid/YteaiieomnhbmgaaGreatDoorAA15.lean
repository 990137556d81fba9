/- Lemmas 15. -/
import Derived.Test.YteaiieomnhbmgaaGreatDoorAA14
import Derived.Test.YteaiieomnhbmgaaGreatDoorAA02
import Derived.Shelf.Slices.Delete
namespace Go.Eng
open Go.Proofs Go.Proofs.Tryz
variable {h0:Nat->HO}{α:Type}{P:Program}{args:List AV}{f:Nat}(s:A7)(l:List (Int×Int))(j:A7)(i:Nat)
theorem AU.imp{Q Q' : AV->(Nat->HO)->Prop}(h:AU P f args h0 Q)(hq:∀r h',Q r h'->Q' r h'):AU P f args h0 Q':=h.mono fun r h' q=>⟨r,.refl _,hq r h' q⟩
theorem AU.to{r0:AV}{p:α->Prop}{H:α->Nat->HO}{Q' : AV->(Nat->HO)->Prop}(h:AU P f args h0 fun r h'=>r=r0/\∃x,p x/\h'=H x)(k:∀x,p x->Q' r0 (H x)):AU P f args h0 Q':=
 h.imp fun r h' ⟨e1,x,e2,e3⟩=>by simp_all
theorem md(n:Nat)(h:n<=1073741824):∃lim:Nat,lim<100/\PC 161 [.v (.int .u64 (IntKind.u64.wrap (n:Int)))] (vi lim):=by
 refine⟨Lib.bitLen n,Nat.lt_of_le_of_lt (Lib.bitLen_le n 62 ch ch) ch,?_⟩;have wr:IntKind.u64.wrap (n:Int)=n:=by grind [IntKind.wrap,IntKind.bits]
 rw[wr];refine JN [.int .u64 n] (.int .i64 (Lib.bitLen n:Nat)) (ZX 161 func161 aa1 rfl) rfl (fun _ _=>.v _ _) fun w _=>?_
 have:=Any.bits_Len Tryz.layBits (n:Int) w ch ch
 rw[E0]at this;exact this
theorem Ae7(hl:BD l)(h:∀x∈l,0<=x.1/\x.1<=1000000) :
  AU Tryz.prog 235 [.msl 1000 l.length,.v (Ye 236)] (Ak [(1000,.arr 2 (l.map Ag))] Ae) fun r h'=>
   r=.tup []/\∃l' : List (Int×Int),(l'.Perm l/\l'.Pairwise (fun x y=>x.1<=y.1))/\h'=Ak [(1000,.arr 2 (l'.map Ag))] Ae:=by
 obtain⟨lim,aB,hb⟩:=md l.length hl;refine BX (Ms CQ) [(1000,1000)] rfl Ct hm rfl func235 aa1 rfl (Nz rfl) aa1 rfl (C1 (C2 (hb) (Xi (.gen [(1000,1000)] 0) (Yi rfl ((Aeg l hl h lim aB).imp ?_)))));intro r h' hq;refine Be hq.2 (fun l' Sx=>?_);refine Xi (.tup []) (Yi ?_ (Yi rfl (Xi l' (Yi ⟨Sx.1,Sx.2.1⟩ ?_))))
 .exact .refl _
 .rw[Sx.2.2];rfl
theorem c61(l:List Tm)(hl:BD l) :
  AU Tryz.prog 350 [.msl 1000 l.length,.v (Ye 351)] (Ak [(1000,.arr 3 (l.map AH))] Ae) fun r h'=>
   r=.tup []/\∃l' : List Tm,(l'.Perm l/\l'.Pairwise (fun x y=>Dq y.path x.path=false))/\h'=Ak [(1000,.arr 3 (l'.map AH))] Ae:=by
 obtain⟨lim,aB,hb⟩:=md l.length hl;refine BX (Ms CQ) [(1000,1000)] rfl Ct hm rfl func350 aa1 rfl (Nz rfl) aa1 rfl (C1 (C2 (hb) (Xi (.gen [(1000,1000)] 0) (Yi rfl ((AdV l hl lim aB).imp ?_)))));intro r h' hq;refine Be hq.2 (fun l' Sx=>?_);refine Xi (.tup []) (Yi ?_ (Yi rfl (Xi l' (Yi ⟨Sx.1,Sx.2.1⟩ ?_))))
 .exact .refl _
 .rw[Sx.2.2];rfl
abbrev pla(l:List (Nat×Nat))(cut:List Nat):Qx:=⟨[],[],l,[],[],[],[],[],[],[],cut⟩
abbrev GQ:HO:=.arr 2 (l.map Ag)
theorem TH(l:A7)(i:Nat):(D4 (l.take i)).length<=i:=by
 grind [D4]
theorem QF{l:A7}{i:Nat}(h:i<l.length)(h3:(GV l[i]).1<(GV l[i]).2):D4 (l.take (i+1))=D4 (l.take i)++[GV l[i]]:=by
 grind [List.take_add_one,D4]
theorem TG{l:A7}{i:Nat}(h:i<l.length)(h3:¬(GV l[i]).1<(GV l[i]).2):D4 (l.take (i+1))=D4 (l.take i):=by
 grind [List.take_add_one,D4]
abbrev arr2:A7:=(BF (s.take i)).reverse++(j++s.drop i)
theorem qY(h:i<s.length)(hj:(BF (s.take i)).length+j.length=i):(arr2 s j i)[i]?=some s[i]:=by
 unfold arr2;rw[BM aa0,BM aa0,List.length_reverse,F2]
 grind
theorem lP(h:i<=s.length)(hj:(BF (s.take i)).length+j.length=i):(arr2 s j i).length=s.length:=by
 grind
theorem fN(s:List α)(i:Nat)(h:i<s.length):s.drop i=s[i]::s.drop (i+1):=AD h
theorem Wf(h:i<s.length)(e:JS (BF (s.take i)) s[i]=s[i]::BF (s.take i)) :
  (arr2 s j i).set (BF (s.take i)).length s[i]=arr2 s (j++[s[i]]).tail (i+1):=by
 unfold arr2;rw[Fv s i h,e,List.reverse_cons,List.set_append_right _ _ B0,List.length_reverse,IS,BT,fN s i h]
 congr 1
 cases j<;>grind
theorem iM(h:i<s.length){y:Int×Int}{t:A7}(e:BF (s.take i)=y::t)(Jk:s[i].1<=y.2) :
  (arr2 s j i).set t.length (y.1,max y.2 s[i].2)=arr2 s (j++[s[i]]) (i+1):=by
 unfold arr2;have e2:JS (y::t) s[i]=(y.1,max y.2 s[i].2)::t:=by show(if s[i].1<=y.2 then _ else _)=_;simp_all
 rw[Fv s i h,e,e2,List.reverse_cons,List.reverse_cons,BT,List.set_append_right _ _ B0,List.length_reverse,IS,fN s i h];simp
theorem El{enc:α->List AV}{l:List α}{i:Nat}{x:α}(h:l[i]?=some x):(l.map enc)[i]?=some (enc x):=B0
theorem XZ(hl:BD l):PC 169 [sl Ag l] (sl Ag (canon l)):=by
 refine FM (jd (pla [(3,2)] [])) rfl Ct hm rfl func169 aa1 rfl (Nz rfl) aa1 (Xi {i:Nat // i<=l.length} (Xi (fun i=>⟨[(0,sl Ag l),(3,.msl 3 (D4 (l.take i.1)).length),(9,sl Ag l),(10,vi (l.map Ag).length),(11,vi i.1)],[(3,GQ (D4 (l.take i.1)))],Ae⟩) (Xi (fun i=>l.length-i.1) (Yi (Xi ⟨0,by simp⟩ ?_) ?_))))
 .exact⟨Z5,Z1,Fh,Tv⟩
 .intro⟨i,h1⟩;have hn:=TH l i;refine Yi ?_ ?_
  .intro h;have h:i<l.length:=B0
   have hg:l[i]?=some l[i]:=Ge h;refine Xi (Ag l[i]) (Yi (Yi ch B0) (Yi rfl ?_));refine Yi (Nz rfl) (yN (yN (Yi ?_ ?_)))
   .intro h3;refine yN ?_;have F5:Bi 2 [[vi (max l[i].1 0),vi (min l[i].2 1000000)]]/\((D4 (l.take i)).map Ag).length=(D4 (l.take i)).length/\(((D4 (l.take i)).map Ag).length+[[vi (max l[i].1 0),vi (min l[i].2 1000000)]].length)*16<=140737488355328/\((D4 (l.take i)).map Ag).length+[[vi (max l[i].1 0),vi (min l[i].2 1000000)]].length<=9223372036854775807:=
     ⟨⟨rfl,trivial⟩,by simp_all,by grind,by grind⟩
    refine Yi F5 (Yi (by grind [Az]) (Xi ⟨i+1,by omega⟩ ?_));have e1:AV.msl 3 (((D4 (l.take i)).map Ag).length+[[vi (max l[i].1 0),vi (min l[i].2 1000000)]].length)=.msl 3 (D4 (l.take (i+1))).length:=by rw[QF h h3];simp
    have e2:HO.arr 2 ((D4 (l.take i)).map Ag++[[vi (max l[i].1 0),vi (min l[i].2 1000000)]])=GQ (D4 (l.take (i+1))):=by rw[QF h h3];simp[GV]
    exact⟨by grind,⟨Zr,⟨e1,rfl⟩,Zr,Zr,Zr,Tv⟩,⟨⟨e2,rfl⟩,Tv⟩,Fh,Tv⟩
   .intro h3;refine Yi (by grind [Az]) (Xi ⟨i+1,by omega⟩ ?_);have e1:AV.msl 3 (D4 (l.take i)).length=.msl 3 (D4 (l.take (i+1))).length:=by rw[TG h h3]
    have e2:GQ (D4 (l.take i))=GQ (D4 (l.take (i+1))):=by rw[TG h h3]
    exact⟨by grind,⟨Zr,⟨e1,rfl⟩,Zr,Zr,Zr,Tv⟩,⟨⟨e2,rfl⟩,Tv⟩,Fh,Tv⟩
  .intro h;have h:¬i<l.length:=B0
   have ei:D4 (l.take i)=D4 l:=aa0
   have hN:(D4 (l.take i)).length=(D4 l).length:=by rw[ei]
   refine Xi (.gen [(3,1000)] 0) (Yi rfl ((Ae7 (D4 (l.take i)) ch (fun x hx=>by have:=Ws hx;omega)).to ?_));intro s hs;have VH:s.length=(D4 (l.take i)).length:=hs.1.length_eq;have hsN:s.length<=1073741824:=ch
   have fin:(BF s).reverse=canon l:=LR B0 hs.2;refine Xi {p:Nat×A7 // p.1<=s.length/\(BF (s.take p.1)).length+p.2.length=p.1} (Xi (fun p=>⟨[(3,.msl 3 (D4 (l.take i)).length),(6,vi (BF (s.take p.1.1)).length),(34,.msl 3 (D4 (l.take i)).length),(35,vi (D4 (l.take i)).length),(36,vi p.1.1)],[(3,GQ (arr2 s p.1.2 p.1.1))],Ae⟩) (Xi (fun p=>s.length-p.1.1) (Yi (Xi ⟨(0,[]),Aj _,rfl⟩ ?_) ?_)))
   .exact⟨Z5,Z1,Fh,Tv⟩
   intro⟨⟨k,j⟩,k1,k2⟩;have k2:(BF (s.take k)).length+j.length=k:=k2;have Dr:=lP s j k k1 k2;have Un:(D4 (l.take i)).length=((arr2 s j k).map Ag).length:=B0
   refine Yi ?_ ?_
   .intro h2;have h2:(k:Int)<(D4 (l.take i)).length:=h2;have hk:k<s.length:=ch
    have Sv:=El (enc:=Ag) (qY s j k hk k2);refine Yi ⟨by omega,by omega⟩ ?_;refine Yi Un (Xi (Ag s[k]) (Yi Sv (Yi (Nz rfl) (yN ?_))));have hr:=Om s k k1;refine A1 (Nat.eq_zero_or_pos k) (fun k0=>?_) (fun k0=>?_)
    .refine Yi ?_ ?_
     .intro h4;have h4:(0:Int)<k:=h4;omega
     .intro _;refine Yi aa1 ?_;have KP:JS (BF (s.take k)) s[k]=s[k]::BF (s.take k):=by subst k0;rfl
      have qH:(BF (s.take k)).length<(arr2 s j k).length:=ch
      have hz:=El (enc:=Ag) (Ge qH);refine Yi (Nz rfl) (Yi ⟨by omega,by simp_all⟩ ?_);refine Yi Un (Xi (Ag (arr2 s j k)[(BF (s.take k)).length]) (Yi hz (yN (Yi (by show Az (((BF (s.take k)).length:Int)+1);unfold Az;omega) ?_))));refine Yi (Ii k ch) ?_;have hm:=Fv s k hk;have e1:vi (((BF (s.take k)).length:Int)+1)=vi (BF (s.take (k+1))).length:=B0
      have e2:HO.arr 2 (((arr2 s j k).map Ag).set (BF (s.take k)).length [vi s[k].1,vi s[k].2])=GQ (arr2 s (j++[s[k]]).tail (k+1)):=by rw[<-Wf s j k hk KP];simp only[GQ,IR]
      refine Xi ⟨(k+1,(j++[s[k]]).tail),by omega,by simp_all⟩ ?_;exact⟨Dl s.length k ch,⟨Zr,⟨e1,rfl⟩,Zr,Zr,Zr,Tv⟩,⟨⟨e2,rfl⟩,Tv⟩,Fh,Tv⟩
    .refine Yi ?_ ?_
     .intro _;obtain⟨y,t,e⟩:∃y t,BF (s.take k)=y::t:=by
       cases hc:BF (s.take k)with
       |nil=>simp_all
       |cons y t=>grind
      have ht:(((BF (s.take k)).length:Int)-1).toNat=t.length:=aa0
      have hy:((arr2 s j k).map Ag)[(((BF (s.take k)).length:Int)-1).toNat]?=some (Ag y):=by rw[ht];grind
      refine Yi (by show Az (((BF (s.take k)).length:Int)-1);unfold Az;omega) ?_;have Abd:=hr.2 k0;refine Yi ⟨by grind,by grind⟩ ?_;refine Yi Un (Xi (Ag y) (Yi hy (Yi ?_ ?_)))
      .intro h5;refine Yi aa1 (Yi (by show Az (((BF (s.take k)).length:Int)-1);unfold Az;omega) (Yi (by show Az (((BF (s.take k)).length:Int)-1);unfold Az;omega) ?_));refine Yi ⟨by grind,by grind⟩ ?_;refine Yi Un (Xi (Ag y) (Yi hy (Yi ⟨by grind,by grind⟩ ?_)));refine Yi Un (Xi (Ag y) (Yi hy (yN (Yi aa1 (Yi (Ii k ch) ?_)))));have hm:=Fv s k hk;have KP:JS (BF (s.take k)) s[k]=(y.1,max y.2 s[k].2)::t:=by rw[e];show(if s[k].1<=y.2 then _ else _)=_;grind
       have e1:vi (BF (s.take k)).length=vi (BF (s.take (k+1))).length:=by rw[hm,KP,e];simp
       have e2:HO.arr 2 (((arr2 s j k).map Ag).set (((BF (s.take k)).length:Int)-1).toNat [vi y.1,vi (max y.2 s[k].2)])=GQ (arr2 s (j++[s[k]]) (k+1)):=by rw[<-iM s j k hk e h5,ht];simp only[GQ,IR]
       refine Xi ⟨(k+1,j++[s[k]]),by omega,by show(BF (s.take (k+1))).length+(j++[s[k]]).length=k+1;rw[hm,KP,Ac,H8];grind⟩ ?_;exact⟨Dl s.length k ch,⟨Zr,⟨e1,rfl⟩,Zr,Zr,Zr,Tv⟩,⟨⟨e2,rfl⟩,Tv⟩,Fh,Tv⟩
      .intro h5;refine Yi aa1 ?_;have KP:JS (BF (s.take k)) s[k]=s[k]::BF (s.take k):=by rw[e];show(if s[k].1<=y.2 then _ else _)=_;grind
       have qH:(BF (s.take k)).length<(arr2 s j k).length:=ch
       have hz:=El (enc:=Ag) (Ge qH);refine Yi (Nz rfl) (Yi ⟨by omega,by grind⟩ ?_);refine Yi Un (Xi (Ag (arr2 s j k)[(BF (s.take k)).length]) (Yi hz (yN (Yi (by show Az (((BF (s.take k)).length:Int)+1);unfold Az;omega) ?_))));refine Yi (Ii k ch) ?_;have hm:=Fv s k hk;have e1:vi (((BF (s.take k)).length:Int)+1)=vi (BF (s.take (k+1))).length:=by rw[hm,KP];simp
       have e2:HO.arr 2 (((arr2 s j k).map Ag).set (BF (s.take k)).length [vi s[k].1,vi s[k].2])=GQ (arr2 s (j++[s[k]]).tail (k+1)):=by rw[<-Wf s j k hk KP];simp only[GQ,IR]
       refine Xi ⟨(k+1,(j++[s[k]]).tail),by omega,by show(BF (s.take (k+1))).length+((j++[s[k]]).tail).length=k+1;rw[hm,KP];simp;omega⟩ ?_;exact⟨Dl s.length k ch,⟨Zr,⟨e1,rfl⟩,Zr,Zr,Zr,Tv⟩,⟨⟨e2,rfl⟩,Tv⟩,Fh,Tv⟩
     .intro h4;have h4:¬(0:Int)<k:=h4;omega
   .intro h2;have h2:¬(k:Int)<(D4 (l.take i)).length:=h2;have hk:k=s.length:=ch
    have hr:=Om s k k1;have sq:((((arr2 s j k).map Ag).take ((BF (s.take k)).length:Int).toNat).drop 0)=(canon l).map Ag:=by
     rw[List.drop_zero,E0,<-So,<-fin]
     grind
    refine Yi ⟨Un,by simp_all,by simp_all,by grind,.inr ⟨rfl,by simp⟩⟩ ?_;exact .of_eq (Aa (AV.slice .none) sq)
end Go.Eng
namespace Go.Eng
open Go.Proofs Go.Sort
variable {m:List (Int×Int)}{S:A7}(zs:List Int)(z:Int)
abbrev GL:List AV:=[vi z]
theorem Re{α:Type}[Inhabited α](enc:α->Value)(w:World)(b:Nat)(d:Array α):putRow enc w b 0 d=putRow id w b 0 (d.map enc):=by
 unfold putRow
 congr 1
 grind [putCells]
theorem WC:(zs.map GL).flatten=(zs.map fun z=>Value.int .i64 z).map AV.v:=by
 induction zs<;>simp_all
theorem Nt(g:Gh)(w:World)(U:Nat->Prop)(vs:List Value)(h:∀x∈vs,x.oneCell'=true):Ck g w U (vs.map .v) vs:=
 ⟨by simp,h,fun i av x q1 q2=>by
  grind [Ba.v]⟩
theorem LJ{g:Gh}{w:World}{U:Nat->Prop}{vs us:List Value}(h:Ck g w U (vs.map .v) us):us=vs:=by
 apply Da;intro i;have hl:=h.1;rw[Lm]at hl
 by_cases hi:i<vs.length
 .have:=h.2.2 i (.v vs[i]) us[i] B0 (Ge ch)
  grind [Ba.v_eq]
 simp_all
theorem Aef(hl:BD zs)(Ef:zs≠[]) :
  AU Tryz.prog 366 [.msl 1000 zs.length] (Ak [(1000,.arr 1 (zs.map GL))] Ae) fun r h'=>
   r=.tup []/\∃l' : List Int,(l'.Perm zs/\l'.Pairwise fun a b=>a<=b)/\h'=Ak [(1000,.arr 1 (l'.map GL))] Ae:=by
 have hE:FL Tryz.prog 366:=ZX 366 Tryz.func366 aa1 rfl;have I4:=Qz (P:=Tryz.prog) (f:=366) (es:=zs.map GL) (sz:=1) (rest:=[]) (Q:=fun FR=>∃l' : List Int,(l'.Perm zs/\l'.Pairwise fun a b=>a<=b)/\FR=l'.map GL) hE ?_ ?_
 .grind
 .simp_all
 .intro g w b cap F hr hF hH hb;have hFl:F.toList=zs.map fun z=>Value.int .i64 z:=LJ (by rw[<-WC];exact hr);have hFz:F=zs.toArray.map fun z=>Value.int .i64 z:=Tb.1 B0;have hH2:Holds (Value.int .i64) w b 0 zs.toArray:=fun j hj=>by
   have:=hH j B0
   simp_all
  have hc:=Any.slices_Sort_int Tryz.laySortInts b 0 cap zs w hH2 hb ch;rw[Lm];refine hc.mono ?_
  rintro e w' ⟨rfl,n,os,rfl⟩
  have I6:(zs.mergeSort fun x y=>decide (x<=y)).Perm zs:=NG _ _;have Dr:=I6.length_eq;refine⟨rfl,(zs.mergeSort fun x y=>decide (x<=y)).toArray.map fun z=>Value.int .i64 z,(zs.mergeSort fun x y=>decide (x<=y)).map GL,n,os,?_,⟨_,⟨I6,?_⟩,rfl⟩,by simp_all,fun cs hcs=>?_,fun g w _=>?_,by rw[Re]⟩
  .simp_all
  .grind [List.pairwise_mergeSort]
  .grind
  .rw[WC];have e:((zs.mergeSort fun x y=>decide (x<=y)).toArray.map fun z=>Value.int .i64 z).toList=(zs.mergeSort fun x y=>decide (x<=y)).map fun z=>Value.int .i64 z:=Cl
   rw[e];exact Nt _ _ _ _ fun x hx=>by
    obtain⟨z,_,rfl⟩:=Ay.1 hx;rfl
-- maps from numbers to numbers
abbrev YW:E1:=⟨false,[.int .i64]⟩
abbrev kI:Value:=.int .i64 z
abbrev Nb(p:Int×Int):Value×AV:=(kI p.1,vi p.2)
abbrev Gy(s:A7):List AV:=[sl Ag s]
theorem YA{k:Int}{a:AV}:(kI k,a)∈m.map Nb↔∃v,(k,v)∈m/\a=vi v:=by
 grind
theorem SQ(m:List (Int×Int))(k v:Int):EV (m.map Nb) (kI k) (vi v)=(LI m k v).map Nb:=by
 unfold LI
 by_cases h:(m.any fun p=>decide (p.1=k))=true
 .rw[Ax h];obtain⟨p,h1,h2⟩:=Ce.1 h;have h2:=AT h2
  have:(kI k,vi p.2)∈m.map Nb:=YA.2 ⟨p.2,by grind,rfl⟩
  rw[Nh this,Bw,Bw]
  grind [List.map_congr_left]
 grind [Im]
theorem Pv{T:GK}{e:Nat}{BU:List (Value×AV)}{kx:Value}{K:AV->Prop}(a0 z0:AV)(h1:∀a,(kx,a)∈BU->a=a0)(hz:(∀a,(kx,a)∉BU)->a0=z0)(h2:K z0->KA T e K)(k:K a0) :
  (∀a,(kx,a)∈BU->K a)/\((∀a,(kx,a)∉BU)->KA T e K):=⟨fun a h=>by grind,fun hn=>h2 (hz hn▸k)⟩
theorem Ry(m:List (Int×Int))(k:Int):(∀a,(kI k,a)∉m.map Nb)->vi (FJ m k)=vi 0:=fun Qs=>by
 rw[qb fun hk=>by
  obtain⟨p,hp,e⟩:=Ay.1 hk;exact Qs (vi p.2) (YA.2 ⟨p.2,by grind,rfl⟩)]
theorem Rx(hn:(Fp m).Nodup)(k:Int):∀a,(kI k,a)∈m.map Nb->a=vi (FJ m k):=fun a h=>by
 obtain⟨v,h1,rfl⟩:=YA.1 h;rw[qa hn h1]
theorem F1.bound(h:F1 m S)(k:Int):-(S.length:Int)<=FJ m k/\FJ m k<=S.length:=by
 rw[h.val]
 grind [cF,cT]
theorem dp(l:List A7):(l.map canon).flatten.length<=l.length*1000000:=by
 induction l<;>grind [Ij,B6]
theorem F1.few(h:F1 m S):m.length<=1000001:=by
 have:=G9 (m:=(List.range 1000001).map Int.ofNat) h.nd fun k hk=>by
  have:=h.rng k hk
  grind [Int]
 grind [Fp]
theorem WL(keep:Nat->Bool)(m:List (Int×Int))(B:List Int):∀n,(EJ keep m B n).length<=n
 |0=>Ao _
 |n+1=>by
  unfold EJ
  have:=WL keep m B n
  grind
end Go.Eng
namespace Go.Eng
open Go.Proofs Go.Proofs.Tryz
variable {m:List Tm}{α:Type}(u:Tm)(n:Int)(l:List Tm)(p:CS)(x:α)(s:A7)(q:Rq)(t:Tm)
abbrev plC:Qx:=⟨[],[(12,2)],[(44,1)],[],[],[],[],[],[],[],[8,9,15,23,25,26]⟩
theorem wh(F:AV)(keep:Nat->Bool)(l:List A7)(hl:BD l)(hs:∀s∈l,BD s)(hid:∀h,Uq h F=true)(hF:∀h (n:Int),0<=n->n<=l.length->Qw Tryz.prog (str h F) [vi n] (vb (keep n.toNat)))
  (R:A7) (hR:EY R) (hRh:∀p,has R p=(SB p&&keep (mD l p))):PC 341 [F,sl Gy l] (sl Ag R):=by
 refine Ps plC func341 rfl (Nz rfl) (Xi {p:Nat×List (Int×Int) // p.1<=l.length/\F1 p.2 ((l.take p.1).map canon).flatten} (Xi (fun p=>⟨[(0,F),(5,.mref 15),(17,sl Gy l),(18,vi (l.map Gy).length),(19,vi p.1.1)],[(15,.map YW (p.1.2.map Nb))],Ae⟩) (Xi (fun p=>l.length-p.1.1) (Yi (Xi ⟨(0,ch0),Aj _,rx⟩ ?_) ?_))))
 .have e0:HO.map YW (EV (EV [] (kI 0) (vi 0)) (kI 1000000) (vi 0))=.map YW (ch0.map Nb):=by
   have e1:=SQ [] 0 0;have e2:=SQ [(0,0)] 1000000 0;show HO.map YW (EV (EV (List.map Nb []) (kI 0) (vi 0)) (kI 1000000) (vi 0))=_;rw[e1];show HO.map YW (EV (List.map Nb [(0,0)]) (kI 1000000) (vi 0))=_;rw[e2];rfl
  exact⟨⟨⟨rfl,hid _⟩,Zr,Zr,Zr,Zr,Tv⟩,⟨⟨e0,rfl⟩,Tv⟩,Fh,Tv⟩
 intro⟨⟨i,cm⟩,i1,i2⟩;refine Yi ?_ ?_
 .intro h;have h:i<l.length:=B0
  have hg:l[i]?=some l[i]:=Ge h;refine Xi (Gy l[i]) (Yi (Yi ch B0) (Yi rfl ?_));refine C1 (C2 (XZ l[i] (hs _ (Ai h))) (Xi {p:Nat×List (Int×Int) // p.1<=(canon l[i]).length/\F1 p.2 (((l.take i).map canon).flatten++(canon l[i]).take p.1)} (Xi (fun p=>⟨[(0,F),(5,.mref 15),(17,sl Gy l),(18,vi (l.map Gy).length),(19,vi i),(24,sl Ag (canon l[i])),(25,vi ((canon l[i]).map Ag).length),(26,vi p.1.1)],[(15,.map YW (p.1.2.map Nb))],Ae⟩) (Xi (fun p=>(canon l[i]).length-p.1.1) (Yi (Xi ⟨(0,cm),Aj _,by grind⟩ ?_) ?_)))))
  .exact⟨⟨⟨rfl,hid _⟩,Zr,Zr,Zr,Zr,Zr,Zr,Zr,Tv⟩,Z1,Fh,Tv⟩
  intro⟨⟨j,dm⟩,j1,j2⟩;have j2:F1 dm (((l.take i).map canon).flatten++(canon l[i]).take j):=j2;have hS:(((l.take i).map canon).flatten++(canon l[i]).take j).length<=1073741825000000:=by
   grind [dp,Ij,B6]
  refine Yi ?_ ?_
  .intro hj;have hj:j<(canon l[i]).length:=B0
   have hgj:(canon l[i])[j]?=some (canon l[i])[j]:=Ge hj;have xm:=(B6 l[i]).low _ (Ai hj);have j3:F1 (bW dm (canon l[i])[j]) (((l.take i).map canon).flatten++(canon l[i]).take (j+1)):=by
    grind [kU,List.take_add_one]
   generalize (canon l[i])[j]=x at hgj xm j3;have b1:=j2.bound x.1;have qH:=ME j2.nd x.1 (FJ dm x.1+1);refine Xi (Ag x) (Yi (Yi ch B0) (Yi rfl ?_));refine Yi (Nz rfl) (yN (Xi ⟨[(0,F),(5,.mref 15),(9,.ref 9 0),(17,sl Gy l),(18,vi (l.map Gy).length),(19,vi i),(24,sl Ag (canon l[i])),(25,vi ((canon l[i]).map Ag).length),(26,vi j)],[(9,.cells (Ag x)),(15,.map YW (dm.map Nb))],Ae⟩ (Yi ⟨⟨⟨rfl,hid _⟩,Zr,Zr,Zr,Zr,Zr,Zr,Zr,Zr,Tv⟩,Z2,Fh,Tv⟩ (Pv (vi (FJ dm x.1)) (vi 0) (Rx j2.nd x.1) (Ry dm x.1) (fun q=>q) (Yi (by grind [Az]) ?_)))));have m1:HO.map YW (EV (dm.map Nb) (kI x.1) (vi (FJ dm x.1+1)))=.map YW ((LI dm x.1 (FJ dm x.1+1)).map Nb):=by rw[SQ]
   refine Xi ⟨[(0,F),(5,.mref 15),(9,.ref 9 0),(17,sl Gy l),(18,vi (l.map Gy).length),(19,vi i),(24,sl Ag (canon l[i])),(25,vi ((canon l[i]).map Ag).length),(26,vi j)],[(9,.cells (Ag x)),(15,.map YW ((LI dm x.1 (FJ dm x.1+1)).map Nb))],Ae⟩ (Yi ⟨⟨⟨rfl,hid _⟩,Zr,Zr,Zr,Zr,Zr,Zr,Zr,Zr,Tv⟩,⟨Zr,⟨m1,rfl⟩,Tv⟩,Fh,Tv⟩ ?_)
   have b2:-(1073741825000001:Int)<=FJ (LI dm x.1 (FJ dm x.1+1)) x.2/\FJ (LI dm x.1 (FJ dm x.1+1)) x.2<=1073741825000001:=by
    have b3:=j2.bound x.2
    grind [Qp]
   refine Pv (vi (FJ (LI dm x.1 (FJ dm x.1+1)) x.2)) (vi 0) (Rx qH x.2) (Ry _ x.2) (fun q=>q) (Yi (by show Az (FJ (LI dm x.1 (FJ dm x.1+1)) x.2-1);grind [Az]) ?_);have hcl:=Ij (B6 l[i]);refine Yi (by grind [Az]) ?_;have m2:HO.map YW (EV ((LI dm x.1 (FJ dm x.1+1)).map Nb) (kI x.2) (vi (FJ (LI dm x.1 (FJ dm x.1+1)) x.2-1)))=.map YW ((bW dm x).map Nb):=by rw[SQ];rfl
   refine Xi ⟨(j+1,bW dm x),by omega,j3⟩ ?_;exact⟨by grind,⟨⟨rfl,hid _⟩,Zr,Zr,Zr,Zr,Zr,Zr,Zr,Tv⟩,⟨⟨m2,rfl⟩,Tv⟩,Fh,Tv⟩
  .intro hj;have hj:¬j<(canon l[i]).length:=B0
   refine Yi (by grind [Az]) ?_;have i3:F1 dm ((l.take (i+1)).map canon).flatten:=by
    have e1:(canon l[i]).take j=canon l[i]:=As ch;rw[e1]at j2;have e2:((l.take (i+1)).map canon).flatten=((l.take i).map canon).flatten++canon l[i]:=by
     rw[DI,hg,Ar,Ci];simp_all
    simp_all
   refine Xi ⟨(i+1,dm),by omega,i3⟩ ?_;exact⟨by grind,⟨⟨rfl,hid _⟩,Zr,Zr,Zr,Zr,Tv⟩,Z1,Fh,Tv⟩
 .intro h;have h:¬i<l.length:=B0
  have i3:F1 cm (l.map canon).flatten:=by
   grind
  have AaP:=i3.few;have hmk:(0:Int)<=0/\(0:Int)<=((cm.map Nb).length:Int)/\((cm.map Nb).length:Int)*((8:Nat):Int)<=140737488355328/\((cm.map Nb).length:Int)<=9223372036854775807:=aa0
  refine Yi hmk (Xi {p:List (Value×AV)×List Int×Option (Value×AV) // ((p.2.1.map kI)++p.1.map (·.1)).Perm ((cm.map Nb).map (·.1))/\∀kv∈p.1,kv∈cm.map Nb} (Xi (fun p=>⟨[(0,F),(5,.mref 15),(10,.msl 44 p.1.2.1.length),(46,.ref 46 0)],[(15,.rom YW (cm.map Nb)),(44,.arr 1 (p.1.2.1.map GL)),(46,.iter (cm.map Nb) p.1.1 p.1.2.2)],Ae⟩) (Xi (fun p=>p.1.1.length) (Yi (Xi ⟨(cm.map Nb,[],none),.refl _,fun _ h=>h⟩ ?_) ?_))))
  .exact⟨⟨⟨rfl,hid _⟩,Zr,Zr,Zr,Tv⟩,Z3,Fh,Tv⟩
  intro⟨⟨rem,bs,Ep⟩,r1,r2⟩;have hbl:bs.length<=1000001:=by
   grind [List.length_append,Lm,List.Perm.length_eq]
  refine Yi ?_ ?_
  .intro hr;subst hr;rw[FQ,Bg,Bw]at r1;have dD:bs.Perm (Fp cm):=by
    have r1:(bs.map kI).Perm ((Fp cm).map kI):=by unfold Fp;rw[Bw];exact r1
    have:=r1.map (fun v:Value=>match v with | .int _ n=>n | _=>0)
    rw[Bw,Bw]at this;have e:((fun v:Value=>match v with | .int _ n=>n | _=>0) ∘ kI)=id:=rfl;simp_all
   have Ef:bs≠[]:=fun e=>by
    subst e
    have:=dD.length_eq
    have h0:=i3.keys.1;simp_all
   refine Xi (.gen [(44,1000)] 0) (Yi rfl ((Aef bs ch Ef).to ?_));intro B hBs;have hBl:B.length=bs.length:=hBs.1.length_eq;have hBn:B.Nodup:=(hBs.1.trans dD).nodup_iff.2 i3.nd;have hB:qS B cm:=⟨hBs.1.trans dD,by
    grind [List.pairwise_iff_getElem]⟩
   have AhG:0<B.length:=by
    grind
   have hNE:bs.length=(B.map GL).length:=B0
   refine Yi (by grind [Az]) (Xi {k:Nat // k<=B.length-1} (Xi (fun k=>⟨[(0,F),(5,.mref 15),(10,.msl 44 bs.length),(12,.slice (.id 12 2) ((EJ keep cm B k.1).map Ag)),(13,vi (IZ cm (B.take k.1))),(59,vi ((bs.length:Int)-1)),(60,vi k.1)],[(12,.tok 2 ((EJ keep cm B k.1).map Ag).length),(15,.rom YW (cm.map Nb)),(44,.arr 1 (B.map GL))],Ae⟩) (Xi (fun k=>B.length-k.1) (Yi (Xi ⟨0,Aj _⟩ ?_) ?_))))
   .exact⟨⟨⟨rfl,hid _⟩,Zr,Zr,Zr,Zr,Zr,Zr,Tv⟩,Z3,Fh,Tv⟩
   intro⟨k,k1⟩;have zx:=WL keep cm B k;refine Yi ?_ ?_
   .intro hk;have hk:(k:Int)<(bs.length:Int)-1:=hk;have Qr:k+1<B.length:=ch
    have jz:k<B.length:=ch
    have Sv:(B.map GL)[k]?=some (GL B[k]):=El (Ge jz);have AjW:(B.map GL)[k+1]?=some (GL B[k+1]):=El (Ge Qr);have jF:=Rv cm B k jz;have AkI:=pR i3 hB k jz;have uU:EJ keep cm B (k+1)=EJ keep cm B k++(if keep (IZ cm (B.take (k+1))).toNat then [(B[k],B[k+1])]else []):=by
     show _++(match B[k]?,B[k+1]? with | some a,some b=>if keep (IZ cm (B.take (k+1))).toNat then [(a,b)]else [] | _,_=>[])=_
     grind
    refine Xi ⟨[(0,F),(5,.mref 15),(10,.msl 44 bs.length),(12,.slice (.id 12 2) ((EJ keep cm B k).map Ag)),(13,vi (IZ cm (B.take k))),(14,vi k),(59,vi ((bs.length:Int)-1)),(60,vi k)],[(12,.tok 2 ((EJ keep cm B k).map Ag).length),(15,.rom YW (cm.map Nb)),(44,.arr 1 (B.map GL))],Ae⟩ (Yi ⟨⟨⟨rfl,hid _⟩,Zr,Zr,Zr,Zr,Zr,Zr,Zr,Tv⟩,Z3,Fh,Tv⟩ (Yi ⟨by omega,by omega⟩ ?_));refine Yi hNE (Xi (GL B[k]) (Yi Sv (Pv (vi (FJ cm B[k])) (vi 0) (Rx i3.nd B[k]) (Ry cm B[k]) (fun q=>q) (Yi (by grind [Az]) ?_))));have BQ:∀h,Qw Tryz.prog (str h F) [vi (IZ cm (B.take k)+FJ cm B[k])] (vb (keep (IZ cm (B.take (k+1))).toNat)):=fun h=>by
     grind
    refine A1 (Bt (keep (IZ cm (B.take (k+1))).toNat)) (fun hp=>?_) (fun hp=>?_)
    .rw[hp]at BQ;rw[hp,Ax rfl]at uU;refine Xi .pure (Xi (vb true) (Yi (BQ _) (Xi ⟨[(0,F),(5,.mref 15),(10,.msl 44 bs.length),(12,.slice (.id 12 2) ((EJ keep cm B k).map Ag)),(13,vi (IZ cm (B.take k)+FJ cm B[k])),(14,vi k),(59,vi ((bs.length:Int)-1)),(60,vi k)],[(12,.tok 2 ((EJ keep cm B k).map Ag).length),(15,.rom YW (cm.map Nb)),(44,.arr 1 (B.map GL))],Ae⟩ (Yi ⟨⟨⟨rfl,hid _⟩,Zr,Zr,Zr,Zr,Zr,Zr,Zr,Tv⟩,Z3,Fh,Tv⟩ ?_))))
     have b1:(0:Int)<=(k:Int)+1/\(k:Int)+1<bs.length:=ch
     have Afm:(B.map GL)[((k:Int)+1).toNat]?=some (GL B[k+1]):=aa0
     refine Yi ⟨by omega,by omega⟩ ?_;refine Yi hNE (Xi (GL B[k]) (Yi Sv (Yi (Ii k ch) (Yi b1 (Yi hNE (Xi (GL B[k+1]) (Yi Afm ?_)))))));have F5:Bi 2 [[vi B[k],vi B[k+1]]]/\((EJ keep cm B k).map Ag).length=((EJ keep cm B k).map Ag).length/\(((EJ keep cm B k).map Ag).length+[[vi B[k],vi B[k+1]]].length)*16<=140737488355328/\((EJ keep cm B k).map Ag).length+[[vi B[k],vi B[k+1]]].length<=9223372036854775807:=
      ⟨⟨rfl,trivial⟩,rfl,by grind,by grind⟩
     refine Yi F5 (Yi aa1 (Xi ⟨[(0,F),(5,.mref 15),(10,.msl 44 bs.length),(12,.slice (.id 12 2) ((EJ keep cm B k).map Ag++[[vi B[k],vi B[k+1]]])),(13,vi (IZ cm (B.take k)+FJ cm B[k])),(59,vi ((bs.length:Int)-1)),(60,vi k)],[(12,.tok 2 (((EJ keep cm B k).map Ag).length+[[vi B[k],vi B[k+1]]].length)),(15,.rom YW (cm.map Nb)),(44,.arr 1 (B.map GL))],Ae⟩ (Yi ⟨⟨⟨rfl,hid _⟩,Zr,Zr,Zr,Zr,Zr,Zr,Tv⟩,Z3,Fh,Tv⟩ (Yi (Ii k ch) (Xi ⟨k+1,by omega⟩ ?_)))));have e1:AV.slice (.id 12 2) ((EJ keep cm B k).map Ag++[[vi B[k],vi B[k+1]]])=.slice (.id 12 2) ((EJ keep cm B (k+1)).map Ag):=aa0
     have e2:vi (IZ cm (B.take k)+FJ cm B[k])=vi (IZ cm (B.take (k+1))):=aa0
     have e3:HO.tok 2 (((EJ keep cm B k).map Ag).length+[[vi B[k],vi B[k+1]]].length)=.tok 2 ((EJ keep cm B (k+1)).map Ag).length:=aa0
     exact⟨by grind,⟨⟨rfl,hid _⟩,Zr,Zr,⟨e1,rfl⟩,⟨e2,rfl⟩,Zr,Zr,Tv⟩,⟨⟨e3,rfl⟩,Zr,Zr,Tv⟩,Fh,Tv⟩
    .rw[hp]at BQ;have uU:EJ keep cm B (k+1)=EJ keep cm B k:=aa0
     refine Xi .pure (Xi (vb false) (Yi (BQ _) (Xi ⟨[(0,F),(5,.mref 15),(10,.msl 44 bs.length),(12,.slice (.id 12 2) ((EJ keep cm B k).map Ag)),(13,vi (IZ cm (B.take k)+FJ cm B[k])),(59,vi ((bs.length:Int)-1)),(60,vi k)],[(12,.tok 2 ((EJ keep cm B k).map Ag).length),(15,.rom YW (cm.map Nb)),(44,.arr 1 (B.map GL))],Ae⟩ (Yi ⟨⟨⟨rfl,hid _⟩,Zr,Zr,Zr,Zr,Zr,Zr,Tv⟩,Z3,Fh,Tv⟩ (Yi (by grind [Az]) (Xi ⟨k+1,by omega⟩ ?_))))));have e1:AV.slice (.id 12 2) ((EJ keep cm B k).map Ag)=.slice (.id 12 2) ((EJ keep cm B (k+1)).map Ag):=aa0
     have e2:vi (IZ cm (B.take k)+FJ cm B[k])=vi (IZ cm (B.take (k+1))):=aa0
     have e3:HO.tok 2 ((EJ keep cm B k).map Ag).length=.tok 2 ((EJ keep cm B (k+1)).map Ag).length:=aa0
     exact⟨by grind,⟨⟨rfl,hid _⟩,Zr,Zr,⟨e1,rfl⟩,⟨e2,rfl⟩,Zr,Zr,Tv⟩,⟨⟨e3,rfl⟩,Zr,Zr,Tv⟩,Fh,Tv⟩
   .intro hk;have hk:¬(k:Int)<(bs.length:Int)-1:=hk;have Qr:k=B.length-1:=ch
    have Afo:canon (EJ keep cm B k)=R:=by
     grind [TC,oh]
    have hc:=XZ (EJ keep cm B k) ch;rw[Afo]at hc;refine C1 (C2 hc ?_);exact .refl _
  .intro kv Me hp;refine Be (Ay.1 (r2 kv (hp.mem_iff.2 (Ah ..)))) (fun q hq=>?_);have hq2:=hq.2;subst hq2;refine Xi ⟨[(0,F),(5,.mref 15),(10,.msl 44 bs.length),(46,.ref 46 0)],[(15,.rom YW (cm.map Nb)),(44,.arr 1 (bs.map GL)),(46,.iter (cm.map Nb) Me (some (Nb q)))],Ae⟩ (Yi ⟨⟨⟨rfl,hid _⟩,Zr,Zr,Zr,Tv⟩,Z3,Fh,Tv⟩ ?_)
   have F5:Bi 1 [GL q.1]/\(bs.map GL).length=bs.length/\((bs.map GL).length+[GL q.1].length)*8<=140737488355328/\(bs.map GL).length+[GL q.1].length<=9223372036854775807:=
    ⟨⟨rfl,trivial⟩,by simp_all,by grind,by grind⟩
   refine Yi F5 ?_;have e1:AV.msl 44 ((bs.map GL).length+[GL q.1].length)=.msl 44 (bs++[q.1]).length:=Cl
   have e2:HO.arr 1 (bs.map GL++[GL q.1])=.arr 1 ((bs++[q.1]).map GL):=Cl
   refine Xi ⟨(Me,bs++[q.1],some (Nb q)),?_,fun kv jA=>r2 kv (hp.mem_iff.2 (Am _ jA))⟩ ?_
   .grind [List.Perm.append_left,List.Perm.trans,List.Perm.symm]
   .exact⟨by show Me.length<rem.length;rw[hp.length_eq];simp,⟨⟨rfl,hid _⟩,Zr,⟨e1,rfl⟩,Zr,Tv⟩,⟨Zr,⟨e2,rfl⟩,Zr,Tv⟩,Fh,Tv⟩
theorem Ae6(l:List A7):PC 377 [vi n,.cptr [sl Gy l]] (vb (decide (n=l.length))):=by
 refine Ps CQ func377 rfl (Nz rfl) ?_;have e:((l.map Gy).length:Int)=l.length:=B0
 refine Yi ?_ ?_
 .intro h;rw[show decide (n=(l.length:Int))=true from AB (h.trans e)];exact .refl _
 .intro h;rw[show decide (n=(l.length:Int))=false from Aw (fun c=>h (c.trans e.symm))];exact .refl _
theorem Ae8:PC 342 [vi n] (vb (decide (n=0))):=by
 refine Ps CQ func342 rfl (Nz rfl) (Yi ?_ ?_)
 .intro h;rw[AB h];exact .refl _
 .intro h;rw[Aw h];exact .refl _
theorem AeD:PC 369 [vi n] (vb (decide (0<n))):=by
 refine Ps CQ func369 rfl (Nz rfl) (Yi ?_ ?_)
 .intro h;rw[AB h];exact .refl _
 .intro h;rw[Aw h];exact .refl _
theorem oe(l:List A7)(p:Int):decide (mD l p=l.length)=l.all fun s=>has s p:=by
 grind [mD,List.countP_eq_length]
theorem og(l:List A7)(p:Int):decide (0<mD l p)=l.any fun s=>has s p:=by
 grind [mD,List.countP_pos_iff]
theorem AdU(l:List A7)(hl:BD l)(hs:∀s∈l,BD s):PC 367 [sl Gy l] (sl Ag (QP l)):=by
 have hc:=wh (.clo 377 [.cptr [sl Gy l]]) (fun n=>decide (n=l.length)) l hl hs (fun _=>rfl) (fun h n h0 _=>by
  have:=Ae6 n l
  have e:decide (n=(l.length:Int))=decide (n.toNat=l.length):=aa0
  rw[e]at this;exact this) (QP l) (Yy l) fun p=>by rw[Uf,oe]
 refine Ps (qO [1]) func367 rfl (Nz rfl) (C1 (C2 (hc) ?_));exact .refl _
theorem wb(hs:BD s):PC 310 [sl Ag s] (sl Ag (Fc s)):=by
 have hc:=wh (.v (Ye 342)) (fun n=>decide (n=0)) [s] B0 (fun t ht=>by simp_all) (fun _=>rfl) (fun h n h0 _=>by
  have:=Ae8 n
  have e:decide (n=0)=decide (n.toNat=0):=aa0
  rw[e]at this;exact this) (Fc s) (Hs s) fun p=>by
   grind [Gg,mD]
 refine Ps CQ func310 rfl (Nz rfl) (C1 (C2 (hc) ?_));exact .refl _
theorem Aez(l:List A7)(hl:BD l)(hs:∀s∈l,BD s):PC 352 [sl Gy l] (sl Ag (Rw l)):=by
 have hc:=wh (.v (Ye 369)) (fun n=>decide (0<n)) l hl hs (fun _=>rfl) (fun h n h0 _=>by
  have:=AeD n
  have e:decide (0<n)=decide (0<n.toNat):=B0
  rw[e]at this;exact this) (Rw l) (Y2 l) fun p=>by
   grind [Ug,og,QN,SB]
 refine Ps CQ func352 rfl (Nz rfl) (C1 (C2 (hc) ?_));exact .refl _
-- terms
theorem c59(ht:BD t.set):PC 348 [.agg (AH t)] (vb (!t.absent&&(canon t.set).isEmpty)):=by
 refine Ps CQ func348 rfl (Nz rfl) (Yi ?_ ?_)
 .intro h;rw[h];exact .refl _
 .intro h;refine C1 (C2 (XZ t.set ht) (Yi ?_ ?_))
  .intro h2;have h2:canon t.set=[]:=AY B0;rw[h,h2];exact .refl _
  .intro h2;have h2:(canon t.set).isEmpty=false:=by
    simp_all
   rw[h,h2];exact .refl _
theorem c60(ht:BD t.set):PC 349 [.agg (AH t)] (vb (t.absent&&(Fc t.set).isEmpty)):=by
 refine Ps CQ func349 rfl (Nz rfl) (Yi ?_ ?_)
 .intro h;refine C1 (C2 (wb t.set ht) (Yi ?_ ?_))
  .intro h2;have h2:Fc t.set=[]:=AY B0;rw[h,h2];exact .refl _
  .intro h2;have h2:(Fc t.set).isEmpty=false:=by
    simp_all
   rw[h,h2];exact .refl _
 .intro h;rw[h];exact .refl _
abbrev Hy(l:List Nat):Qx:=⟨[],[],[],[],[],[],[],[],[],[],l⟩
theorem c58(hu:BD u.set)(ht:BD t.set):PC 347 [.agg (AH u),.agg (AH t)] (.agg (AH (G4 u t))):=by
 have hc:PC 367 [sl Gy [u.set,t.set]] (sl Ag (PE u.set t.set)):=AdU [u.set,t.set] B0 (fun s hs=>by
  grind)
 refine Ps (Hy []) func347 rfl (Nz rfl) (Yi ?_ ?_)
 .intro h;refine Yi ?_ ?_
  .intro h2;have e:[vs u.path,vb true,sl Ag (PE u.set t.set)]=AH (G4 u t):=by grind [G4]
   refine C2 (hc) (Yi (Nz rfl) (Yi aa1 (yN ?_)));exact .of_eq (Aa AV.agg e)
  .intro h2;have e:[vs u.path,vb false,sl Ag (PE u.set t.set)]=AH (G4 u t):=by grind [G4]
   refine C2 (hc) (Yi (Nz rfl) (Yi aa1 (yN ?_)));exact .of_eq (Aa AV.agg e)
 .intro h;have e:[vs u.path,vb false,sl Ag (PE u.set t.set)]=AH (G4 u t):=by grind [G4]
  refine C2 (hc) (Yi (Nz rfl) (Yi aa1 (yN ?_)));exact .of_eq (Aa AV.agg e)
theorem Aer(hu:BD u.set)(ht:BD t.set):PC 313 [.agg (AH u),.agg (AH t)] (.agg (AH (Ds u t))):=by
 have hc:PC 352 [sl Gy [u.set,t.set]] (sl Ag (Qo u.set t.set)):=Aez [u.set,t.set] B0 (fun s hs=>by
  grind)
 refine Ps (Hy []) func313 rfl (Nz rfl) (Yi ?_ ?_)
 .intro h;have e:[vs u.path,vb true,sl Ag (Qo u.set t.set)]=AH (Ds u t):=by grind [Ds]
  refine C2 (hc) (Yi (Nz rfl) (Yi aa1 (yN ?_)));exact .of_eq (Aa AV.agg e)
 .intro h;refine Yi ?_ ?_
  .intro h2;have e:[vs u.path,vb true,sl Ag (Qo u.set t.set)]=AH (Ds u t):=by grind [Ds]
   refine C2 (hc) (Yi (Nz rfl) (Yi aa1 (yN ?_)));exact .of_eq (Aa AV.agg e)
  .intro h2;have e:[vs u.path,vb false,sl Ag (Qo u.set t.set)]=AH (Ds u t):=by grind [Ds]
   refine C2 (hc) (Yi (Nz rfl) (Yi aa1 (yN ?_)));exact .of_eq (Aa AV.agg e)
theorem Aab(hq:BD q.set):PC 305 [.agg (AI q)] (.agg (AH (DE q))):=by
 refine Ps CQ func305 rfl (Nz rfl) (C2 (wb q.set hq) (Yi (Nz rfl) (Yi aa1 (yN ?_))));exact .refl _
abbrev BW:E1:=⟨false,[.str]⟩
abbrev Uz:Value×AV:=(.string t.path,.agg (AH t))
abbrev AbI(fin cut:List Nat):Qx:=⟨[],[],[],[],fin,[],[],[],[],[],cut⟩
theorem gw{p:CS}{a:AV}:(Value.string p,a)∈m.map Uz↔∃t∈m,t.path=p/\a=.agg (AH t):=by
 grind
theorem oA(m:List Tm)(t:Tm):EV (m.map Uz) (.string t.path) (.agg (AH t))=(YN m t).map Uz:=by
 unfold YN
 by_cases h:(m.any fun u=>decide (u.path=t.path))=true
 .rw[Ax h];obtain⟨u,h1,h2⟩:=Ce.1 h;have h2:=AT h2
  have:(Value.string t.path,AV.agg (AH u))∈m.map Uz:=gw.2 ⟨u,h1,h2,rfl⟩
  rw[Nh this,Bw,Bw]
  grind [List.map_congr_left]
 grind [Im]
theorem m0(hn:(E6 m).Nodup)(p:CS){K:AV->Prop}{Z:Prop}(hy:∀u,DB m p=some u->K (.agg (AH u)))(Qs:DB m p=none->Z) :
  (∀a,(Value.string p,a)∈m.map Uz->K a)/\((∀a,(Value.string p,a)∉m.map Uz)->Z):=
 ⟨fun a h=>by
  grind [RM],fun h=>Qs (by
  cases e:DB m p with
  |none=>rfl
  |some u=>exact absurd (gw.2 ⟨u,GM e,Lu e,rfl⟩) (h _))⟩
theorem SL{t:Tm}(h:EY t.set):BD t.set:=by
 grind [Ij]
theorem c57(hl:BD l)(hs:∀t∈l,BD t.set):PC 346 [sl AH l,.v (Ye 347)] (.cmap BW ((Dz l).map Uz)):=by
 refine Ps (AbI [10] []) func346 rfl (Nz rfl) (Xi {i:Nat // i<=l.length} (Xi (fun i=>⟨[(0,sl AH l),(1,.v (Ye 347)),(5,.mref 10),(11,sl AH l),(12,vi (l.map AH).length),(13,vi i.1)],[(10,.map BW ((Dz (l.take i.1)).map Uz))],Ae⟩) (Xi (fun i=>l.length-i.1) (Yi (Xi ⟨0,Aj _⟩ ?_) ?_))))
 .exact⟨Z6,Z1,Fh,Tv⟩
 intro⟨i,h1⟩;have hn:=H1 (l.take i);refine Yi ?_ ?_
 .intro h;have h:i<l.length:=B0
  have hg:l[i]?=some l[i]:=Ge h;refine Xi (AH l[i]) (Yi (Yi ch B0) (Yi rfl ?_));refine Yi (Nz rfl) (yN ?_);have FW:=hs l[i] (Ai h);have tail:∀u:Tm,BD u.set->G4 u l[i]=SD (DB (Dz (l.take i)) l[i].path) l[i]->EV ((Dz (l.take i)).map Uz) (.string l[i].path) (.agg (AH (G4 u l[i])))=(Dz (l.take (i+1))).map Uz:=fun u hu e=>by
   have hp:(SD (DB (Dz (l.take i)) l[i].path) l[i]).path=l[i].path:=Rd _ _ fun u h=>Lu h;have e2:=oA (Dz (l.take i)) (G4 u l[i]);have e3:(G4 u l[i]).path=l[i].path:=B0
   rw[e3]at e2;rw[e2,RX l i h,e];rfl
  refine m0 hn l[i].path (fun u hu=>?_) (fun hu=>?_)
  .have Mh:BD u.set:=SL (PK _ u (GM hu));refine yN ?_;have AO:=tail u Mh (by grind [gU]);refine Yi (Nz rfl) (yN (C2 (c58 u l[i] Mh FW) (Yi aa1 (Yi (by show Az ((i:Int)+1);grind [Az]) (Xi ⟨i+1,by omega⟩ ?_)))));have e1:HO.map BW (EV ((Dz (l.take i)).map Uz) (.string l[i].path) (.agg (AH (G4 u l[i]))))=.map BW ((Dz (l.take (i+1))).map Uz):=B0
   exact⟨by grind,Z6,⟨⟨e1,rfl⟩,Tv⟩,Fh,Tv⟩
  .refine yN (Yi (Nz rfl) (yN ?_));have AO:=tail l[i] FW (by grind [gU]);refine Yi (Nz rfl) (yN (C2 (c58 l[i] l[i] FW FW) (Yi aa1 (Yi (by grind [Az]) (Xi ⟨i+1,by omega⟩ ?_)))));have e1:HO.map BW (EV ((Dz (l.take i)).map Uz) (.string l[i].path) (.agg (AH (G4 l[i] l[i]))))=.map BW ((Dz (l.take (i+1))).map Uz):=B0
   exact⟨by grind,Z6,⟨⟨e1,rfl⟩,Tv⟩,Fh,Tv⟩
 .intro h;have h:¬i<l.length:=B0
  have e:(Dz (l.take i)).map Uz=(Dz l).map Uz:=aa0
  exact .of_eq (Aa (AV.cmap BW) e)
abbrev Lj:AV:=.tup [sl AH (QZ l),vb (C3 l).isSome]
abbrev Agf:Qx:=⟨[],[],[(4,3)],[],[],[],[],[],[],[(25,4)],[]⟩
abbrev fA:HO:=.arr 3 (l.map AH)
abbrev GR:List Tm:=l.filter fun t=>!Hc t
theorem sV{l:List Tm}{kv:Value×AV}{Me : List (Value×AV)}(h:(l.map Uz).Perm (kv::Me)):∃t r,kv=Uz t/\Me=r.map Uz/\l.Perm (t::r):=by
 obtain⟨ps,h1,h2⟩:=Kl h l rfl;cases ps<;>grind
theorem ZG{l:List Tm}{t:Tm}(h:t∈Dz l)(hn:IX t=true):C3 l=none:=by
 grind [C3,Jr]
theorem cZ{l done s:List Tm}(h:done.Perm (Dz l))(hn:∀t∈done,IX t=false)(hp:s.Perm (GR done))(hs:s.Pairwise fun x y=>Dq y.path x.path=false):C3 l=some s:=by
 unfold C3;rw[AA]
 .congr 1
  exact(QE _ (hp.trans (h.filter _)) hs).symm
 grind [Jr]
theorem jM:(GR l).length<=l.length:=Em _ _
theorem c29(hl:BD l)(hs:∀t∈l,BD t.set):PC 312 [sl AH l] (Lj l):=by
 have jB:l.length<=1073741824:=hl;have hml:(Dz l).length<=l.length:=by grind [Ol,List.take_length]
 refine Ps Agf func312 rfl (Nz rfl) (C1 (C2 (c57 l hl hs) (Xi {p:List Tm×List Tm×Option (Value×AV) // (p.1++p.2.1).Perm (Dz l)/\∀t∈p.1,IX t=false} (Xi (fun p=>⟨[(4,.msl 4 (GR p.1.1).length),(9,.ref 9 0)],[(4,fA (GR p.1.1)),(9,.iter ((Dz l).map Uz) (p.1.2.1.map Uz) p.1.2.2)],Ae⟩) (Xi (fun p=>p.1.2.1.length) (Yi (Xi ⟨([],Dz l,none),.refl _,fun t ht=>by cases ht⟩ ?_) ?_))))))
 .exact⟨Z2,Z2,Fh,Tv⟩
 intro⟨⟨done,rem,Ep⟩,r1,r2⟩;have r1:(done++rem).Perm (Dz l):=r1;have hdl:done.length+rem.length<=l.length:=by grind [List.length_append,List.Perm.length_eq]
 have zx:=jM done;refine Yi ?_ ?_
 .intro hr;have hr:rem=[]:=Eg.1 hr;subst hr;rw[Bg]at r1;refine Xi (.gen [(4,1000)] 0) (Yi rfl ((c61 (GR done) ch).to ?_));intro s hq;have VH:s.length=(GR done).length:=hq.1.length_eq;have hc:=cZ r1 r2 hq.1 hq.2;refine Yi B0 ?_;have e:AV.tup [sl AH s,vb true]=Lj l:=by grind [QZ]
  exact .of_eq e
 .intro kv Me hp;refine Be (sV hp) (fun t hp=>Be hp (fun r hp=>?_));have e1:=hp.1;have e2:=hp.2.1;subst e1;subst e2;have hp:=hp.2.2;have htm:t∈Dz l:=r1.mem_iff.1 (Cv _ (hp.mem_iff.2 (Ah ..)));have htc:=PK l t htm;have htf:=SL htc;refine Yi (Nz rfl) (yN ?_);have hv:PC 348 [.agg (AH t)] (vb (IX t)):=oF htc▸c59 t htf;have ha:PC 349 [.agg (AH t)] (vb (Hc t)):=iJ htc▸c60 t htf;refine A1 (Bt (IX t)) (fun h=>?_) (fun h=>?_)
  .rw[h]at hv;refine C1 (C2 (hv) ?_);have hc:=ZG htm h;have e:AV.tup [.slice .none [],vb false]=Lj l:=by grind [QZ]
   have e0:BC (.tup [nzA,vb false]) (.tup [.slice .none [],vb false]):=BC.tup ⟨.nil,.refl _,trivial⟩;exact e0.trans (.of_eq e)
  .rw[h]at hv;refine C1 (C2 (hv) (yN ?_));have Zl:((done++[t])++r).Perm (Dz l):=by
    grind
   have hnv:∀u∈done++[t],IX u=false:=fun u hu=>by
    grind
   have hrl:r.length<rem.length:=by grind [List.length_cons,List.Perm.length_eq]
   refine A1 (Bt (Hc t)) (fun h2=>?_) (fun h2=>?_)
   rotate_left
   .rw[h2]at ha;refine C1 (C2 (ha) ?_);have F5:Bi 3 [AH t]/\((GR done).map AH).length=(GR done).length/\(((GR done).map AH).length+[AH t].length)*48<=140737488355328/\((GR done).map AH).length+[AH t].length<=9223372036854775807:=
     ⟨⟨rfl,trivial⟩,by simp_all,by grind,by grind⟩
    refine yN (Yi F5 ?_);have hk:GR (done++[t])=GR done++[t]:=B0
    have e1:AV.msl 4 (((GR done).map AH).length+[AH t].length)=.msl 4 (GR (done++[t])).length:=B0
    have e2:HO.arr 3 ((GR done).map AH++[AH t])=fA (GR (done++[t])):=B0
    refine Xi ⟨(done++[t],r,some (Uz t)),Zl,hnv⟩ ?_;exact⟨hrl,⟨⟨e1,rfl⟩,Zr,Tv⟩,⟨⟨e2,rfl⟩,Zr,Tv⟩,Fh,Tv⟩
   .rw[h2]at ha;refine C1 (C2 (ha) ?_);have hk:GR (done++[t])=GR done:=B0
    have e1:AV.msl 4 (GR done).length=.msl 4 (GR (done++[t])).length:=by rw[hk]
    have e2:fA (GR done)=fA (GR (done++[t])):=by rw[hk]
    refine Xi ⟨(done++[t],r,some (Uz t)),Zl,hnv⟩ ?_;exact⟨hrl,⟨⟨e1,rfl⟩,Zr,Tv⟩,⟨⟨e2,rfl⟩,Zr,Tv⟩,Fh,Tv⟩
theorem wt(hl:BD l)(hs:∀t∈l,BD t.set):PC 304 [sl AH l] (sl AH (QZ l)):=by
 refine Ps CQ func304 rfl (Nz rfl) (C1 (C2 (c29 l hl hs) ?_));exact .refl _
theorem QL:BD (Fc s):=by
 grind [Ij,Hs]
theorem Aao:BD [x]:=B0
theorem AeZ(y:α):BD [x,y]:=B0
theorem Aej(hq:BD q.set):PC 256 [.agg (AI q)] (sl AH (JP q)):=by
 have hc:PC 304 [sl AH [DE q]] (sl AH (JP q)):=wt [DE q] (Aao _) fun t ht=>by rw[AQ.1 ht];exact QL _
 refine Ps CQ func256 rfl (Nz rfl) (yN (C1 (C2 (Aab q hq) (C1 (C2 (hc) ?_)))));exact .refl _
theorem Aek(pl:Int)(q:Rq)(hp:Az (pl+1))(hq:BD q.set):PC 257 [vs p,vi pl,.agg (AI q)] (sl AH (EQ p pl q)):=by
 have hc:PC 304 [sl AH [⟨p,false,[(pl,pl+1)]⟩,DE q]] (sl AH (EQ p pl q)):=wt [⟨p,false,[(pl,pl+1)]⟩,DE q] (AeZ _ _) fun t ht=>by
  rcases AZ.1 ht with rfl | ht
  .simp_all
  .rw[AQ.1 ht];exact QL _
 refine Ps CQ func257 rfl (Nz rfl) (Yi hp (yN (C1 (C2 (Aab q hq) (C1 (C2 (hc) ?_))))));exact .refl _
theorem Aa7(hs:BD s):PC 261 [vs p,sl Ag s] (sl AH (Ie p s)):=by
 have hc:PC 304 [sl AH [⟨p,false,Fc s⟩]] (sl AH (Ie p s)):=wt [⟨p,false,Fc s⟩] (Aao _) fun t ht=>by grind [QL]
 refine Ps CQ func261 rfl (Nz rfl) (C1 (C2 (wb s hs) (C1 (C2 (hc) ?_))));exact .refl _
end Go.Eng
namespace Go.Eng
open Go.Proofs Go.Proofs.Tryz Go.Shelf Go.RowKit Go.Lib Go.Sort
theorem xB(F:Array Value)(i n:Nat)(hF:F.size=n*3)(hi:i<n)(z:List Value)(hz:z.length=3):(lay (lay F (i*3) (F.toList.drop ((i+1)*3))) ((n-1)*3) z).toList=F.toList.take (i*3)++F.toList.drop ((i+1)*3)++z:=by
 have l1:(F.toList.take (i*3)).length=i*3:=by simp;omega
 have l2:(F.toList.drop ((i+1)*3)).length=(n-(i+1))*3:=by simp;omega
 apply Da
 intro t
 rw[CN,lay_get? _ _ _ _ (by rw[Lib.lay_size];omega),lay_get? _ _ _ _ (by rw[l2];omega)]
 rw[hz,l2]
 by_cases c1:t<i*3
 .rw[AA ch,AA ch,D6 (by rw[Ac];omega),D6 ch,List.getElem?_take,Ax c1,CN]
 .by_cases c2:t<(n-1)*3
  .rw[AA ch,Ax ch,D6 (by rw[Ac];omega),BM ch,l1]
  .rw[BM (by rw[Ac];omega),Ac,l1,l2]
   by_cases c3:t<n*3
   .rw[Ax ch];congr 1;omega
   .rw[AA ch,AA ch,Array.getElem?_eq_none ch,List.getElem?_eq_none ch]
abbrev qR:List Value:=[.string ⟨#[]⟩,.bool false,.slice none 0 0]
set_option maxHeartbeats 4000000 in
set_option maxRecDepth 1000000 in
theorem mI(w:World)(b cap i n:Nat)(F:Array Value)(hF:F.size=n*3)(hi:i<n)(Py:n<=cap)(hH:Holds id w b 0 F)(h1:∀x∈F.toList,x.oneCell'=true) :
  Calls Tryz.prog 344 #[.slice (some ⟨b,0,none⟩) n cap,.int .i64 i,.int .i64 ((i:Int)+1)] w fun e w'=>e=.returned (.slice (some ⟨b,0,none⟩) (n-1) cap) /\
   w'=putRow id (Sort.ahead w 1) b 0 (lay (lay F (i*3) (F.toList.drop ((i+1)*3))) ((n-1)*3) qR):=by
 obtain⟨i0,uT,xn⟩:∃i0,Tryz.prog.info? 343=some i0/\i0.size=3:=by
  obtain⟨i,z,h1,_,h2,_⟩:=HQ (P:=Tryz.prog) (T:=tU) Ct (e:=343) (n:=2) aa1
  exact⟨i,h1,h2.trans aa1⟩
 obtain⟨news,I5⟩:∃news,news=F.toList.drop ((i+1)*3):=⟨_,rfl⟩
 have Dr:news.length=(n-(i+1))*3:=by rw[I5];simp;omega
 have FW:∀t,t<(n-(i+1))*3->news[t]?=some F[(i+1)*3+t]!:=by
  intro t ht
  rw[I5,F2,CN,getElem!_pos F ((i+1)*3+t) ch,B9 ch]
 obtain⟨A,hA,xk⟩:∃A:Addr,(if cap=i+1 then some (⟨b,0,none⟩:Addr)else some ⟨b,(i+1)*3,none⟩)=some A/\Hid (∀t u,news[t]?=some u->w.drew.cell? (A.add t)=some u):=by
  by_cases h:cap=i+1
  .refine⟨⟨b,0,none⟩,by simp[h],fun t u hu=>?_⟩
   have h0:news.length=0:=by rw[Dr];omega
   rw[FB.1 h0]at hu
   simp at hu
  .refine⟨⟨b,(i+1)*3,none⟩,by simp[h],fun t u hu=>?_⟩
   have ht:t<(n-(i+1))*3:=by
    have:=(Bf.1 hu).1
    rwa [Dr]at this
   rw[FW t ht]at hu
   rw[Addr.add_lit]
   have:=(hH ((i+1)*3+t) ch).1
   rw[Fq]at this
   exact this.trans hu
 have s1:Hid (news.length=(n-(i+1))*3):=Dr
 have s2:Hid (∀u∈news,u.oneCell'=true):=by
  intro u hu
  rw[I5]at hu
  exact h1 u (Iy hu)
 have s3:Hid (∀t,t<news.length->(w.drew.cell? ⟨b,0+i*3+t,none⟩).isSome=true/\w.drew.frozen? ⟨b,0+i*3+t,none⟩=false):=by
  intro t ht
  rw[Dr]at ht
  have:=hH (i*3+t) ch
  rw[Nat.add_assoc]
  exact⟨by show(w.cell? _).isSome=true;rw[this.1];rfl,this.2⟩
 obtain⟨W1,hW1⟩:∃W1,W1=w.drew.setCells b (0+i*3) news:=⟨_,rfl⟩
 have wP : W1=putRow id (Sort.ahead w 1) b 0 (lay F (i*3) news):=by
  have:=putRow_setCells id (Sort.ahead w 1) b 0 news F (i*3) ch
  rw[putRow_self id (Sort.ahead w 1) b 0 F (holds_ahead id w 1 b 0 F hH),Hp]at this
  rw[hW1,<-this]
  rfl
 have hH1:Holds id W1 b 0 (lay F (i*3) news):=by rw[wP];exact holds_putRow id _ b 0 F _ (holds_ahead id w 1 b 0 F hH) (Lib.lay_size _ _ _)
 have KP:(storeCells ⟨b,0+(n-1)*3,none⟩ qR 0).run Tryz.prog W1=.ok () (W1.setCells b (0+(n-1)*3) qR):=by
  have:=run_storeCells_cells (P:=Tryz.prog) b (0+(n-1)*3) qR 0 W1 (fun j hj=>by
   have hj:j<3:=hj
   have:=hH1 ((n-1)*3+j) (by rw[Lib.lay_size];omega)
   rw[show 0+(n-1)*3+0+j=0+((n-1)*3+j) by omega,this.1];rfl) (fun j hj=>by
   have hj:j<3:=hj
   have:=hH1 ((n-1)*3+j) (by rw[Lib.lay_size];omega)
   rw[show 0+(n-1)*3+0+j=0+((n-1)*3+j) by omega];exact this.2) (fun v hv=>by
   simp only[AZ,L8,or_false]at hv
   rcases hv with rfl | rfl | rfl<;>rfl)
  exact this
 have hcl:∀ty c,(Builtin.clear_ #[283] ty #[.slice (some ⟨b,(n-1)*3,none⟩) 1 c]).run Tryz.prog W1=.ok (.tuple #[]) (W1.setCells b (0+(n-1)*3) qR):=fun ty c=>by
  have hv:=zeroValue343
  rw[Fq]at KP⊢
  have hz:(Builtin.zeroCells (Value.agg #[Value.string { data:=#[] },Value.bool false,Value.slice none 0 0]).cells 1).toList=qR:=by kernel_rfl
  simp[Builtin.clear_,run_underlying underlying283,hv,hz,KP]
 have Ak1:∀ty,(Builtin.clear_ #[283] ty #[.slice (some ⟨b,(i+(n-(i+1)))*3,none⟩) (n-(i+(n-(i+1)))) (cap-(i+(n-(i+1))))]).run Tryz.prog W1=.ok (.tuple #[]) (W1.setCells b (0+(n-1)*3) qR):=fun ty=>by
  have e1:i+(n-(i+1))=n-1:=ch
  have e2:n-(n-1)=1:=ch
  rw[e1,e2];exact hcl ty _
 have X:Aside (W1=putRow id (Sort.ahead w 1) b 0 (lay F (i*3) news)):=wP
 have hW:Hid (W1=w.drew.setCells b (0+i*3) news):=hW1
 have Y:Aside (news=F.toList.drop ((i+1)*3)):=I5
 have Z:Aside (news.length=(n-(i+1))*3):=Dr
 have hic:i<=cap:=ch
 have hjc:i+1<=cap:=ch
 have mixed:=Go.Eng.hm
 have hb1:(0:Int)<=(i:Int)+1:=ch
 have dz:(i:Int)+1<=(n:Int):=ch
 clear hW1 wP hH1 hH FW I5 Dr KP hcl
 go_enter func344,ntmps344
 go_wp2_with fail
 go_region_law_o (refine step_append_room rfl (.tmp 22) (.tmp 25) 283 rfl 343 i0 3 underlying283 uT xn b 0 i cap (by simp[Act.eval,Act.put]) A (n-(i+1)) (cap-(i+1)) news (by simp[Act.eval,Act.put]) s1.out xk.out s2.out ch s3.out ?_;rw[<-hW.out])
 go_wp2
 go_ret
 refine⟨by rw[show i+(n-(i+1))=n-1 by omega];rfl,?_⟩
 rw[X.out]
 have e1:=Y.out
 have e2:=Z.out
 rw[<-e1]
 have:=putRow_setCells id (Sort.ahead w 1) b 0 qR (lay F (i*3) news) ((n-1)*3) (by rw[Lib.lay_size];show _+3<=_;omega)
 rw[Hp,Fq]at this
 exact this
abbrev cr:List AV:=[Go.Eng.vs ⟨#[]⟩,vb false,nzA]
theorem Aey(l:List Tm)(i:Nat)(hi:i<l.length) :
  AU Tryz.prog 344 [.msl 1000 l.length,vi i,vi ((i:Int)+1)] (Ak [(1000,.arr 3 (l.map AH))] Ae) fun r h'=>r=.msl 2000 (l.length-1)/\h'=Ak [(1000,.dead),(2000,.arr 3 ((l.eraseIdx i).map AH))] Ae:=by
 have hE:FL Tryz.prog 344:=ZX 344 func344 aa1 rfl
 have Dr:(l.eraseIdx i).length=l.length-1:=List.length_eraseIdx_of_lt hi
 have I4:=Wa (P:=Tryz.prog) (f:=344) (es:=l.map AH) (sz:=3) (rest:=[.int .i64 i,.int .i64 ((i:Int)+1)]) (n':=l.length-1) (Q:=fun FR=>FR=(l.eraseIdx i).map AH++[cr]) hE (fun e=>by
  rw[Eg]at e;subst e;simp at hi) (by rw[BO];omega) ?_
 .rw[BO]at I4
  refine⟨hE,fun g w vals q1 q2 q3=>(I4.2 g w vals q1 q2 q3).mono fun _ _ ⟨v,r,h',g',e1,⟨e2,FR,p1,p2⟩,rest⟩=>⟨v,r,h',g',e1,⟨e2,by rw[p2,p1,List.take_append_of_le_length (by rw[BO,Dr];exact Ao _),As (by rw[BO,Dr];exact Ao _)]⟩,rest⟩⟩
 .intro g w b cap F hr hF hH hb hc
  rw[BO]at hF hc⊢
  have hu:∀e∈l.map AH,e.length=3:=fun e he=>by
   obtain⟨t,_,rfl⟩:=Ay.1 he;rfl
  refine(mI w b cap i l.length F hF hi hc hH hr.2.1).mono ?_
  rintro e w' ⟨rfl,rfl⟩
  refine⟨rfl,_,_,1,#[],?_,rfl,?_,fun cs hcs=>?_,fun g w hr=>?_,rfl⟩
  .rw[Lib.lay_size,Lib.lay_size]
  .rw[Ac,BO,Dr,H8];omega
  .rcases Bh.1 hcs with h | h
   .obtain⟨t,_,rfl⟩:=Ay.1 h;rfl
   .rw[AQ.1 h];rfl
  .rw[xB F i l.length hF hi qR rfl,List.eraseIdx_eq_take_drop_succ,Ci,Ar,Ci,So,List.map_drop,<-Lv _ i hu,<-Pq _ (i+1) hu]
   refine Ck.append (Ck.append (hr.take _) (hr.drop _)) ?_
   exact Nt g w FD qR fun x hx=>by
    simp only[AZ,L8,or_false]at hx
    rcases hx with rfl | rfl | rfl<;>rfl
end Go.Eng
