/- Lemmas 16. -/
import Derived.Test.YtkjhcikodmiceaaGreatDoorCA15
import Derived.Shelf.Slices.Delete
namespace Go.Eng
open Go.Proofs Go.Proofs.Tryz
abbrev Aq6:=List (Int×Int)
variable {h0:Nat->HO}{α:Type}{P:Program}{args:List AV}{f:Nat}(s:AY)(x:List F)(ifs:AV)(l:Aq6)(j:AY)(roots:List Rq)(d:List (List V))(i:Nat)
-- the checker,and what reads it
abbrev IJ:List AV:=[sl Ay x,ifs,sl Ak roots,sl BD d]
theorem c40(hd:CC d):PC 107 [.cptr (IJ x ifs roots d)] (Q (G4 d)):=by
 unfold CC at hd;refine Ps CF func107 rfl C4 (J ?_ ?_)
 .intro h;have h:(0:Int)<(d.map BD).length:=h;have h:0<d.length:=aa0
  have hg:d[d.length-1]?=some d[d.length-1]:=Ge I;have hl:d.getLast?=some d[d.length-1]:=aa2
  refine J (by grind [As]) (M (BD d[d.length-1]) (J (J I (by rw[show(((d.map BD).length:Int)-1).toNat=d.length-1 by simp_all];grind)) (J rfl ?_)));refine J ?_ ?_
  .intro h2;have h2:((d[d.length-1].map E).length:Int)=0:=h2;have h2:d[d.length-1]=[]:=aa0
   show Da (Q true) (Q (G4 d))
   grind [G4,Da.refl]
  .intro h2;have h2:¬((d[d.length-1].map E).length:Int)=0:=h2;have h2:d[d.length-1]≠[]:=fun e=>h2 aa0;show Da (Q false) (Q (G4 d))
   grind [G4,Da.refl]
 .intro h;have h:¬(0:Int)<(d.map BD).length:=h;have h:d=[]:=AI aa0;subst h;exact .refl _
theorem dF:∀(s:List Sl) (i:Nat) (h:i+1<s.length),K3 (some s[i].path) (s.drop (i+1))=(E3 s[i].path s[i+1].path&&K3 (some s[i+1].path) (s.drop (i+2))):=fun s i h=>by
 rw[Bj h];rfl
theorem Fy(a b:CS):E3 a b=Op.bytesLess a.toList b.toList:=by
 have:∀x y:List UInt8,K7 x y=Op.bytesLess x y:=by
  intro x
  induction x with
  |nil=>intro y;cases y<;>rfl
  |cons a x ih=>
   intro y;cases y with
   |nil=>rfl
   |cons b y=>
    unfold K7 Op.bytesLess;rw[ih];rw[DD];simp
 grind [E3,ByteArray.toList_eq]
theorem A1.imp{Q Q' : AV->(Nat->HO)->Prop}(h:A1 P f args h0 Q)(hq:∀r h',Q r h'->Q' r h'):A1 P f args h0 Q':=h.mono fun r h' q=>⟨r,.refl _,hq r h' q⟩
theorem A1.to{r0:AV}{p:α->Prop}{H:α->Nat->HO}{Q' : AV->(Nat->HO)->Prop}(h:A1 P f args h0 fun r h'=>r=r0/\∃x,p x/\h'=H x)(k:∀x,p x->Q' r0 (H x)):A1 P f args h0 Q':=
 h.imp fun r h' ⟨e1,x,e2,e3⟩=>by simp_all
theorem AaE(n:Nat)(h:n<=2^30):∃lim:Nat,lim<100/\PC 146 [.v (.int .u64 (IntKind.u64.wrap (n:Int)))] (G lim):=by
 refine⟨Lib.bitLen n,Nat.lt_of_le_of_lt (Lib.bitLen_le n 62 I I) I,?_⟩;have wr:IntKind.u64.wrap (n:Int)=n:=by grind [IntKind.wrap,IntKind.bits]
 rw[wr];refine L7 [.int .u64 n] (.int .i64 (Lib.bitLen n:Nat)) (j9 146 func146 aa5 rfl) rfl (fun _ _=>.v _ _) fun w _=>?_
 have:=Any.bits_Len Tryz.layBits (n:Int) w I I
 rw[Gp]at this;exact this
theorem Aiz(hl:CC l)(h:∀x∈l,0<=x.1/\x.1<=10^6) :
  A1 prog 287 [.msl 1000 l.length,.v (TG 288)] (Ah [(1000,.arr 2 (l.map Y))] Ab) fun r h'=>
   r=.tup []/\∃l' : Aq6,(l'.Perm l/\l'.Pairwise (fun x y=>x.1<=y.1))/\h'=Ah [(1000,.arr 2 (l'.map Y))] Ab:=by
 obtain⟨lim,dv,hb⟩:=AaE l.length hl;refine Bv (Ky CF) [(1000,1000)] rfl BO hm rfl func287 aa5 rfl C4 aa5 rfl (C1 (H (hb) (M (.gen [(1000,1000)] 0) (J rfl ((AiO l hl h lim dv).imp ?_)))));intro r h' hq;refine AE hq.2 (fun l' RV=>?_);refine M (.tup []) (J ?_ (J rfl (M l' (J ⟨RV.1,RV.2.1⟩ ?_))))
 .exact .refl _
 .rw[RV.2.2];rfl
theorem c61(l:List V)(hl:CC l) :
  A1 prog 350 [.msl 1000 l.length,.v (TG 351)] (Ah [(1000,.arr 3 (l.map E))] Ab) fun r h'=>
   r=.tup []/\∃l' : List V,(l'.Perm l/\l'.Pairwise (fun x y=>E3 y.path x.path=false))/\h'=Ah [(1000,.arr 3 (l'.map E))] Ab:=by
 obtain⟨lim,dv,hb⟩:=AaE l.length hl;refine Bv (Ky CF) [(1000,1000)] rfl BO hm rfl func350 aa5 rfl C4 aa5 rfl (C1 (H (hb) (M (.gen [(1000,1000)] 0) (J rfl ((Ain l hl lim dv).imp ?_)))));intro r h' hq;refine AE hq.2 (fun l' RV=>?_);refine M (.tup []) (J ?_ (J rfl (M l' (J ⟨RV.1,RV.2.1⟩ ?_))))
 .exact .refl _
 .rw[RV.2.2];rfl
abbrev pla(l:List (Nat×Nat))(cut:List Nat):Of:=⟨[],[],l,[],[],[],[],[],[],[],cut⟩
abbrev GM:HO:=.arr 2 (l.map Y)
theorem Vc(l:AY)(i:Nat):(DG (l.take i)).length<=i:=by
 grind [DG]
theorem RI{l:AY}{i:Nat}(h:i<l.length)(h3:(GO l[i]).1<(GO l[i]).2):DG (l.take (i+1))=DG (l.take i)++[GO l[i]]:=by
 grind [List.take_add_one,DG]
theorem Vb{l:AY}{i:Nat}(h:i<l.length)(h3:¬(GO l[i]).1<(GO l[i]).2):DG (l.take (i+1))=DG (l.take i):=by
 grind [List.take_add_one,DG]
abbrev arr2:AY:=(Bz (s.take i)).reverse++(j++s.drop i)
theorem vI(h:i<s.length)(hj:(Bz (s.take i)).length+j.length=i):(arr2 s j i)[i]?=some s[i]:=by
 unfold arr2;rw[Ba aa2,Ba aa2,List.length_reverse,FR]
 grind
theorem qg(h:i<=s.length)(hj:(Bz (s.take i)).length+j.length=i):(arr2 s j i).length=s.length:=by
 grind
theorem jZ(s:List α)(i:Nat)(h:i<s.length):s.drop i=s[i]::s.drop (i+1):=Bj h
theorem XT(h:i<s.length)(e:JU (Bz (s.take i)) s[i]=s[i]::Bz (s.take i)) :
  (arr2 s j i).set (Bz (s.take i)).length s[i]=arr2 s (j++[s[i]]).tail (i+1):=by
 unfold arr2;rw[Fg s i h,e,List.reverse_cons,List.set_append_right _ _ aa0,List.length_reverse,IW,Ct,jZ s i h]
 congr 1
 cases j<;>grind
theorem mO(h:i<s.length){y:Int×Int}{t:AY}(e:Bz (s.take i)=y::t)(Jo:s[i].1<=y.2) :
  (arr2 s j i).set t.length (y.1,max y.2 s[i].2)=arr2 s (j++[s[i]]) (i+1):=by
 unfold arr2;have e2:JU (y::t) s[i]=(y.1,max y.2 s[i].2)::t:=by show(if s[i].1<=y.2 then _ else _)=_;simp_all
 rw[Fg s i h,e,e2,List.reverse_cons,List.reverse_cons,Ct,List.set_append_right _ _ aa0,List.length_reverse,IW,jZ s i h];simp
theorem FB{enc:α->List AV}{l:List α}{i:Nat}{x:α}(h:l[i]?=some x):(l.map enc)[i]?=some (enc x):=aa0
abbrev qq0:=fun(KT:Int×Int)=>([[G (max KT.1 0),G (min KT.2 1000000)]]:C0)
theorem cr(hl:CC l):PC 221 [sl Y l] (sl Y (canon l)):=by
 refine Fb (jW (pla [(3,2)] [])) rfl BO hm rfl func221 aa5 rfl C4 aa5 (M {i:Nat // i<=l.length} (M (fun i=>⟨[(0,sl Y l),(3,.msl 3 (DG (l.take i.1)).length),(9,sl Y l),(10,G (l.map Y).length),(11,G i.1)],[(3,GM (DG (l.take i.1)))],Ab⟩) (M (fun i=>l.length-i.1) (J (M ⟨0,by simp⟩ ?_) ?_))))
 .exact⟨Z5,Z1,Fh,X⟩
 .intro⟨i,h1⟩;have hn:=Vc l i;refine J ?_ ?_
  .intro h;have h:i<l.length:=aa0
   have hg:l[i]?=some l[i]:=Ge h;refine M (Y l[i]) (J (J I aa0) (J rfl ?_));refine J C4 (U (U (J ?_ ?_)))
   .intro h3;refine U ?_;have El:Cq 2 (qq0 l[i])/\((DG (l.take i)).map Y).length=(DG (l.take i)).length/\(((DG (l.take i)).map Y).length+(qq0 l[i]).length)*16<=2^47/\((DG (l.take i)).map Y).length+(qq0 l[i]).length<=2^63-1:=
     ⟨⟨rfl,trivial⟩,by simp_all,by grind,by grind⟩
    refine J El (J (by grind [As]) (M ⟨i+1,by omega⟩ ?_));have e1:AV.msl 3 (((DG (l.take i)).map Y).length+(qq0 l[i]).length)=.msl 3 (DG (l.take (i+1))).length:=by rw[RI h h3];simp
    have e2:HO.arr 2 ((DG (l.take i)).map Y++(qq0 l[i]))=GM (DG (l.take (i+1))):=by rw[RI h h3];simp[GO]
    exact⟨by grind,⟨Z,⟨e1,rfl⟩,Z,Z,Z,X⟩,⟨⟨e2,rfl⟩,X⟩,Fh,X⟩
   .intro h3;refine J (by grind [As]) (M ⟨i+1,by omega⟩ ?_);have e1:AV.msl 3 (DG (l.take i)).length=.msl 3 (DG (l.take (i+1))).length:=by rw[Vb h h3]
    have e2:GM (DG (l.take i))=GM (DG (l.take (i+1))):=by rw[Vb h h3]
    exact⟨by grind,⟨Z,⟨e1,rfl⟩,Z,Z,Z,X⟩,⟨⟨e2,rfl⟩,X⟩,Fh,X⟩
  .intro h;have h:¬i<l.length:=aa0
   have ei:DG (l.take i)=DG l:=aa2
   have hN:(DG (l.take i)).length=(DG l).length:=by rw[ei]
   refine M (.gen [(3,1000)] 0) (J rfl ((Aiz (DG (l.take i)) I (fun x hx=>by have:=X4 hx;omega)).to ?_));intro s hs;have VO:s.length=(DG (l.take i)).length:=hs.1.length_eq;have hsN:s.length<=2^30:=I
   have fin:(Bz s).reverse=canon l:=Mk aa0 hs.2;refine M {p:Nat×AY // p.1<=s.length/\(Bz (s.take p.1)).length+p.2.length=p.1} (M (fun p=>⟨[(3,.msl 3 (DG (l.take i)).length),(6,G (Bz (s.take p.1.1)).length),(34,.msl 3 (DG (l.take i)).length),(35,G (DG (l.take i)).length),(36,G p.1.1)],[(3,GM (arr2 s p.1.2 p.1.1))],Ab⟩) (M (fun p=>s.length-p.1.1) (J (M ⟨(0,[]),Ai _,rfl⟩ ?_) ?_)))
   .exact⟨Z5,Z1,Fh,X⟩
   intro⟨⟨k,j⟩,k1,k2⟩;have k2:(Bz (s.take k)).length+j.length=k:=k2;have CN:=qg s j k k1 k2;have VM:(DG (l.take i)).length=((arr2 s j k).map Y).length:=aa0
   refine J ?_ ?_
   .intro h2;have h2:(k:Int)<(DG (l.take i)).length:=h2;have hk:k<s.length:=I
    have Ij:=FB (enc:=Y) (vI s j k hk k2);refine J ⟨by omega,by omega⟩ ?_;refine J VM (M (Y s[k]) (J Ij (J C4 (U ?_))));have hr:=Pq s k k1;refine Be (Nat.eq_zero_or_pos k) (fun k0=>?_) (fun k0=>?_)
    .refine J ?_ ?_
     .intro h4;have h4:(0:Int)<k:=h4;omega
     .intro _;refine J aa5 ?_;have Jp:JU (Bz (s.take k)) s[k]=s[k]::Bz (s.take k):=by subst k0;rfl
      have vl:(Bz (s.take k)).length<(arr2 s j k).length:=I
      have hz:=FB (enc:=Y) (Ge vl);refine J C4 (J ⟨by omega,by simp_all⟩ ?_);refine J VM (M (Y (arr2 s j k)[(Bz (s.take k)).length]) (J hz (U (J (by show As (((Bz (s.take k)).length:Int)+1);unfold As;omega) ?_))));refine J (Ii k I) ?_;have hm:=Fg s k hk;have e1:G (((Bz (s.take k)).length:Int)+1)=G (Bz (s.take (k+1))).length:=aa0
      have e2:HO.arr 2 (((arr2 s j k).map Y).set (Bz (s.take k)).length [G s[k].1,G s[k].2])=GM (arr2 s (j++[s[k]]).tail (k+1)):=by rw[<-XT s j k hk Jp];simp only[GM,Xk]
      refine M ⟨(k+1,(j++[s[k]]).tail),by omega,by simp_all⟩ ?_;exact⟨Dl s.length k I,⟨Z,⟨e1,rfl⟩,Z,Z,Z,X⟩,⟨⟨e2,rfl⟩,X⟩,Fh,X⟩
    .refine J ?_ ?_
     .intro _;obtain⟨y,t,e⟩:∃y t,Bz (s.take k)=y::t:=by
       cases hc:Bz (s.take k)with
       |nil=>simp_all
       |cons y t=>grind
      have ht:(((Bz (s.take k)).length:Int)-1).toNat=t.length:=aa2
      have hy:((arr2 s j k).map Y)[(((Bz (s.take k)).length:Int)-1).toNat]?=some (Y y):=by rw[ht];grind
      refine J (by show As (((Bz (s.take k)).length:Int)-1);unfold As;omega) ?_;have Afr:=hr.2 k0;refine J ⟨by grind,by grind⟩ ?_;refine J VM (M (Y y) (J hy (J ?_ ?_)))
      .intro h5;refine J aa5 (J (by show As (((Bz (s.take k)).length:Int)-1);unfold As;omega) (J (by show As (((Bz (s.take k)).length:Int)-1);unfold As;omega) ?_));refine J ⟨by grind,by grind⟩ ?_;refine J VM (M (Y y) (J hy (J ⟨by grind,by grind⟩ ?_)));refine J VM (M (Y y) (J hy (U (J aa5 (J (Ii k I) ?_)))));have hm:=Fg s k hk;have Jp:JU (Bz (s.take k)) s[k]=(y.1,max y.2 s[k].2)::t:=by rw[e];show(if s[k].1<=y.2 then _ else _)=_;grind
       have e1:G (Bz (s.take k)).length=G (Bz (s.take (k+1))).length:=by rw[hm,Jp,e];simp
       have e2:HO.arr 2 (((arr2 s j k).map Y).set (((Bz (s.take k)).length:Int)-1).toNat [G y.1,G (max y.2 s[k].2)])=GM (arr2 s (j++[s[k]]) (k+1)):=by rw[<-mO s j k hk e h5,ht];simp only[GM,Xk]
       refine M ⟨(k+1,j++[s[k]]),by omega,by show(Bz (s.take (k+1))).length+(j++[s[k]]).length=k+1;rw[hm,Jp,Ac,D0];grind⟩ ?_;exact⟨Dl s.length k I,⟨Z,⟨e1,rfl⟩,Z,Z,Z,X⟩,⟨⟨e2,rfl⟩,X⟩,Fh,X⟩
      .intro h5;refine J aa5 ?_;have Jp:JU (Bz (s.take k)) s[k]=s[k]::Bz (s.take k):=by rw[e];show(if s[k].1<=y.2 then _ else _)=_;grind
       have vl:(Bz (s.take k)).length<(arr2 s j k).length:=I
       have hz:=FB (enc:=Y) (Ge vl);refine J C4 (J ⟨by omega,by grind⟩ ?_);refine J VM (M (Y (arr2 s j k)[(Bz (s.take k)).length]) (J hz (U (J (by show As (((Bz (s.take k)).length:Int)+1);unfold As;omega) ?_))));refine J (Ii k I) ?_;have hm:=Fg s k hk;have e1:G (((Bz (s.take k)).length:Int)+1)=G (Bz (s.take (k+1))).length:=by rw[hm,Jp];simp
       have e2:HO.arr 2 (((arr2 s j k).map Y).set (Bz (s.take k)).length [G s[k].1,G s[k].2])=GM (arr2 s (j++[s[k]]).tail (k+1)):=by rw[<-XT s j k hk Jp];simp only[GM,Xk]
       refine M ⟨(k+1,(j++[s[k]]).tail),by omega,by show(Bz (s.take (k+1))).length+((j++[s[k]]).tail).length=k+1;rw[hm,Jp];simp;omega⟩ ?_;exact⟨Dl s.length k I,⟨Z,⟨e1,rfl⟩,Z,Z,Z,X⟩,⟨⟨e2,rfl⟩,X⟩,Fh,X⟩
     .intro h4;have h4:¬(0:Int)<k:=h4;omega
   .intro h2;have h2:¬(k:Int)<(DG (l.take i)).length:=h2;have hk:k=s.length:=I
    have hr:=Pq s k k1;have xg:((((arr2 s j k).map Y).take ((Bz (s.take k)).length:Int).toNat).drop 0)=(canon l).map Y:=by
     rw[List.drop_zero,Gp,<-List.map_take,<-fin]
     grind
    refine J ⟨VM,by simp_all,by simp_all,by grind,.inr ⟨rfl,by simp⟩⟩ ?_;exact C (AV.slice .none) xg
end Go.Eng
namespace Go.Eng
open Go.Proofs Go.Sort
variable {m:Aq6}{S:AY}(zs:List Int)(z:Int)
abbrev GH:List AV:=[G z]
theorem Sx{α:Type}[Inhabited α](enc:α->Value)(w:World)(b:Nat)(d:Array α):putRow enc w b 0 d=putRow id w b 0 (d.map enc):=by
 unfold putRow
 congr 1
 grind [putCells]
theorem Yc:(zs.map GH).flatten=(zs.map fun z=>Value.int .i64 z).map AV.v:=by
 induction zs<;>simp_all
theorem N6(g:D)(w:World)(U:Nat->Prop)(vs:List Value)(h:∀x∈vs,x.oneCell'=true):Cg g w U (vs.map .v) vs:=
 ⟨by simp,h,fun i av x q1 q2=>by
  grind [O.v]⟩
theorem Ma{g:D}{w:World}{U:Nat->Prop}{vs us:List Value}(h:Cg g w U (vs.map .v) us):us=vs:=by
 apply Cu;intro i;have hl:=h.1;rw[Lm]at hl
 by_cases hi:i<vs.length
 .have:=h.2.2 i (.v vs[i]) us[i] aa0 (Ge I)
  grind [O.v_eq]
 simp_all
theorem AiN(hl:CC zs)(Ec:zs≠[]) :
  A1 Tryz.prog 375 [.msl 1000 zs.length] (Ah [(1000,.arr 1 (zs.map GH))] Ab) fun r h'=>
   r=.tup []/\∃l' : List Int,(l'.Perm zs/\l'.Pairwise fun a b=>a<=b)/\h'=Ah [(1000,.arr 1 (l'.map GH))] Ab:=by
 have hE:Fx Tryz.prog 375:=j9 375 Tryz.func375 aa5 rfl;have Jc:=Rz (P:=Tryz.prog) (f:=375) (es:=zs.map GH) (sz:=1) (rest:=[]) (Q:=fun FG=>∃l' : List Int,(l'.Perm zs/\l'.Pairwise fun a b=>a<=b)/\FG=l'.map GH) hE ?_ ?_
 .grind
 .simp_all
 .intro g w b cap F hr hF hH hb;have hFl:F.toList=zs.map fun z=>Value.int .i64 z:=Ma (by rw[<-Yc];exact hr);have zy:F=zs.toArray.map fun z=>Value.int .i64 z:=Mt.1 aa0;have hH2:Holds (Value.int .i64) w b 0 zs.toArray:=fun j hj=>by
   have:=hH j aa0
   simp_all
  have hc:=Any.slices_Sort_int Tryz.laySortInts b 0 cap zs w hH2 hb I;rw[Lm];refine hc.mono ?_
  rintro e w' ⟨rfl,n,os,rfl⟩
  have Jd:(zs.mergeSort fun x y=>decide (x<=y)).Perm zs:=List.mergeSort_perm _ _;have CN:=Jd.length_eq;refine⟨rfl,(zs.mergeSort fun x y=>decide (x<=y)).toArray.map fun z=>Value.int .i64 z,(zs.mergeSort fun x y=>decide (x<=y)).map GH,n,os,?_,⟨_,⟨Jd,?_⟩,rfl⟩,by simp_all,fun cs hcs=>?_,fun g w _=>?_,by rw[Sx]⟩
  .simp_all
  .grind [List.pairwise_mergeSort]
  .grind
  .rw[Yc];have e:((zs.mergeSort fun x y=>decide (x<=y)).toArray.map fun z=>Value.int .i64 z).toList=(zs.mergeSort fun x y=>decide (x<=y)).map fun z=>Value.int .i64 z:=aa1
   rw[e];exact N6 _ _ _ _ fun x hx=>by
    obtain⟨z,_,rfl⟩:=Ap.1 hx;rfl
-- maps from numbers to numbers
abbrev bu:Ez:=⟨false,[.int .i64]⟩
abbrev kI:Value:=.int .i64 z
abbrev NX(p:Int×Int):Value×AV:=(kI p.1,G p.2)
abbrev Hg(s:AY):List AV:=[sl Y s]
theorem aJ{k:Int}{a:AV}:(kI k,a)∈m.map NX↔∃v,(k,v)∈m/\a=G v:=by
 grind
theorem UD(m:Aq6)(k v:Int):EN (m.map NX) (kI k) (G v)=(L8 m k v).map NX:=by
 unfold L8
 by_cases h:(m.any fun p=>decide (p.1=k))=true
 .rw[AO h];obtain⟨p,h1,h2⟩:=Cs.1 h;have h2:=B7 h2
  have:(kI k,G p.2)∈m.map NX:=aJ.2 ⟨p.2,by grind,rfl⟩
  rw[Sh this,Bo,Bo]
  grind [List.map_congr_left]
 grind [Lb]
theorem Qu{T:GL}{e:Nat}{BM:List (Value×AV)}{kx:Value}{K:AV->Prop}(a0 z0:AV)(h1:∀a,(kx,a)∈BM->a=a0)(hz:(∀a,(kx,a)∉BM)->a0=z0)(h2:K z0->KG T e K)(k:K a0) :
  (∀a,(kx,a)∈BM->K a)/\((∀a,(kx,a)∉BM)->KG T e K):=⟨fun a h=>by grind,fun hn=>h2 (hz hn▸k)⟩
theorem SW(m:Aq6)(k:Int):(∀a,(kI k,a)∉m.map NX)->G (Fw m k)=G 0:=fun OB=>by
 rw[uC fun hk=>by
  obtain⟨p,hp,e⟩:=Ap.1 hk;exact OB (G p.2) (aJ.2 ⟨p.2,by grind,rfl⟩)]
theorem SV(hn:(E0 m).Nodup)(k:Int):∀a,(kI k,a)∈m.map NX->a=G (Fw m k):=fun a h=>by
 obtain⟨v,h1,rfl⟩:=aJ.1 h;rw[uA hn h1]
theorem FQ.bound(h:FQ m S)(k:Int):-(S.length:Int)<=Fw m k/\Fw m k<=S.length:=by
 rw[h.val]
 grind [cF,cT]
theorem hZ(l:List AY):(l.map canon).flatten.length<=l.length*1000000:=by
 induction l<;>grind [Io,BV]
theorem FQ.few(h:FQ m S):m.length<=1000001:=by
 have:=De (m:=(List.range 1000001).map Int.ofNat) h.nd fun k hk=>by
  have:=h.rng k hk
  grind [Int]
 grind [E0]
theorem Yq(keep:Nat->Bool)(m:Aq6)(B:List Int):∀n,(Eh keep m B n).length<=n
 |0=>Af _
 |n+1=>by
  unfold Eh
  have:=Yq keep m B n
  grind
end Go.Eng
namespace Go.Eng
open Go.Proofs Go.Proofs.Tryz
variable {m:List V}{α:Type}(u:V)(n:Int)(l:List V)(p:CS)(x:α)(s:AY)(q:Rq)(t:V)
abbrev plC:Of:=⟨[],[(12,2)],[(44,1)],[],[],[],[],[],[],[],[8,9,15,23,25,26]⟩
abbrev qq1:=fun KT (F:AV) (l:List AY) i j=>([(0,F),(5,.mref 15),(9,.ref 9 0),(17,sl Hg l),(18,G (l.map Hg).length),(19,G i),(24,sl Y (canon KT)),(25,G ((canon KT).map Y).length),(26,G j)]:List (Nat×AV))
theorem AaI(F:AV)(keep:Nat->Bool)(l:List AY)(hl:CC l)(hs:∀s∈l,CC s)(hid:∀h,aB h F=true)(hF:∀h (n:Int),0<=n->n<=l.length->Rw prog (str h F) [G n] (Q (keep n.toNat)))
  (R:AY) (hR:Ev R) (hRh:∀p,has R p=(Uk p&&keep (qB l p))):PC 341 [F,sl Hg l] (sl Y R):=by
 refine Ps plC func341 rfl C4 (M {p:Nat×Aq6 // p.1<=l.length/\FQ p.2 ((l.take p.1).map canon).flatten} (M (fun p=>⟨[(0,F),(5,.mref 15),(17,sl Hg l),(18,G (l.map Hg).length),(19,G p.1.1)],[(15,.map bu (p.1.2.map NX))],Ab⟩) (M (fun p=>l.length-p.1.1) (J (M ⟨(0,ch0),Ai _,vZ⟩ ?_) ?_))))
 .have e0:HO.map bu (EN (EN [] (kI 0) (G 0)) (kI 1000000) (G 0))=.map bu (ch0.map NX):=by
   have e1:=UD [] 0 0;have e2:=UD [(0,0)] 1000000 0;show HO.map bu (EN (EN (List.map NX []) (kI 0) (G 0)) (kI 1000000) (G 0))=_;rw[e1];show HO.map bu (EN (List.map NX [(0,0)]) (kI 1000000) (G 0))=_;rw[e2];rfl
  exact⟨⟨⟨rfl,hid _⟩,Z,Z,Z,Z,X⟩,⟨⟨e0,rfl⟩,X⟩,Fh,X⟩
 intro⟨⟨i,cm⟩,i1,i2⟩;refine J ?_ ?_
 .intro h;have h:i<l.length:=aa0
  have hg:l[i]?=some l[i]:=Ge h;refine M (Hg l[i]) (J (J I aa0) (J rfl ?_));refine C1 (H (cr l[i] (hs _ (Am h))) (M {p:Nat×Aq6 // p.1<=(canon l[i]).length/\FQ p.2 (((l.take i).map canon).flatten++(canon l[i]).take p.1)} (M (fun p=>⟨[(0,F),(5,.mref 15),(17,sl Hg l),(18,G (l.map Hg).length),(19,G i),(24,sl Y (canon l[i])),(25,G ((canon l[i]).map Y).length),(26,G p.1.1)],[(15,.map bu (p.1.2.map NX))],Ab⟩) (M (fun p=>(canon l[i]).length-p.1.1) (J (M ⟨(0,cm),Ai _,by grind⟩ ?_) ?_)))))
  .exact⟨⟨⟨rfl,hid _⟩,Z,Z,Z,Z,Z,Z,Z,X⟩,Z1,Fh,X⟩
  intro⟨⟨j,dm⟩,j1,j2⟩;have j2:FQ dm (((l.take i).map canon).flatten++(canon l[i]).take j):=j2;have hS:(((l.take i).map canon).flatten++(canon l[i]).take j).length<=1073741825000000:=by
   grind [hZ,Io,BV]
  refine J ?_ ?_
  .intro hj;have hj:j<(canon l[i]).length:=aa0
   have hgj:(canon l[i])[j]?=some (canon l[i])[j]:=Ge hj;have hxo:=(BV l[i]).low _ (Am hj);have j3:FQ (fM dm (canon l[i])[j]) (((l.take i).map canon).flatten++(canon l[i]).take (j+1)):=by
    grind [po,List.take_add_one]
   generalize (canon l[i])[j]=x at hgj hxo j3;have b1:=j2.bound x.1;have vl:=Nh j2.nd x.1 (Fw dm x.1+1);refine M (Y x) (J (J I aa0) (J rfl ?_));refine J C4 (U (M ⟨(qq1 l[i] F l i j),[(9,.cells (Y x)),(15,.map bu (dm.map NX))],Ab⟩ (J ⟨⟨⟨rfl,hid _⟩,Z,Z,Z,Z,Z,Z,Z,Z,X⟩,Z2,Fh,X⟩ (Qu (G (Fw dm x.1)) (G 0) (SV j2.nd x.1) (SW dm x.1) (fun q=>q) (J (by grind [As]) ?_)))));have m1:HO.map bu (EN (dm.map NX) (kI x.1) (G (Fw dm x.1+1)))=.map bu ((L8 dm x.1 (Fw dm x.1+1)).map NX):=by rw[UD]
   refine M ⟨(qq1 l[i] F l i j),[(9,.cells (Y x)),(15,.map bu ((L8 dm x.1 (Fw dm x.1+1)).map NX))],Ab⟩ (J ⟨⟨⟨rfl,hid _⟩,Z,Z,Z,Z,Z,Z,Z,Z,X⟩,⟨Z,⟨m1,rfl⟩,X⟩,Fh,X⟩ ?_)
   have b2:-(1073741825000001:Int)<=Fw (L8 dm x.1 (Fw dm x.1+1)) x.2/\Fw (L8 dm x.1 (Fw dm x.1+1)) x.2<=1073741825000001:=by
    have b3:=j2.bound x.2
    grind [Rm]
   refine Qu (G (Fw (L8 dm x.1 (Fw dm x.1+1)) x.2)) (G 0) (SV vl x.2) (SW _ x.2) (fun q=>q) (J (by show As (Fw (L8 dm x.1 (Fw dm x.1+1)) x.2-1);grind [As]) ?_);have hcl:=Io (BV l[i]);refine J (by grind [As]) ?_;have m2:HO.map bu (EN ((L8 dm x.1 (Fw dm x.1+1)).map NX) (kI x.2) (G (Fw (L8 dm x.1 (Fw dm x.1+1)) x.2-1)))=.map bu ((fM dm x).map NX):=by rw[UD];rfl
   refine M ⟨(j+1,fM dm x),by omega,j3⟩ ?_;exact⟨by grind,⟨⟨rfl,hid _⟩,Z,Z,Z,Z,Z,Z,Z,X⟩,⟨⟨m2,rfl⟩,X⟩,Fh,X⟩
  .intro hj;have hj:¬j<(canon l[i]).length:=aa0
   refine J (by grind [As]) ?_;have i3:FQ dm ((l.take (i+1)).map canon).flatten:=by
    have e1:(canon l[i]).take j=canon l[i]:=AD I;rw[e1]at j2;have e2:((l.take (i+1)).map canon).flatten=((l.take i).map canon).flatten++canon l[i]:=by
     rw[DV,hg,Au,DQ];simp_all
    simp_all
   refine M ⟨(i+1,dm),by omega,i3⟩ ?_;exact⟨by grind,⟨⟨rfl,hid _⟩,Z,Z,Z,Z,X⟩,Z1,Fh,X⟩
 .intro h;have h:¬i<l.length:=aa0
  have i3:FQ cm (l.map canon).flatten:=by
   grind
  have Abx:=i3.few;have hmk:(0:Int)<=0/\(0:Int)<=((cm.map NX).length:Int)/\((cm.map NX).length:Int)*((8:Nat):Int)<=2^47/\((cm.map NX).length:Int)<=2^63-1:=aa2
  refine J hmk (M {p:List (Value×AV)×List Int×Option (Value×AV) // ((p.2.1.map kI)++p.1.map (·.1)).Perm ((cm.map NX).map (·.1))/\∀kv∈p.1,kv∈cm.map NX} (M (fun p=>⟨[(0,F),(5,.mref 15),(10,.msl 44 p.1.2.1.length),(46,.ref 46 0)],[(15,.rom bu (cm.map NX)),(44,.arr 1 (p.1.2.1.map GH)),(46,.iter (cm.map NX) p.1.1 p.1.2.2)],Ab⟩) (M (fun p=>p.1.1.length) (J (M ⟨(cm.map NX,[],none),.refl _,fun _ h=>h⟩ ?_) ?_))))
  .exact⟨⟨⟨rfl,hid _⟩,Z,Z,Z,X⟩,Z3,Fh,X⟩
  intro⟨⟨rem,bs,DU⟩,r1,r2⟩;have hbl:bs.length<=1000001:=by
   grind [List.length_append,Lm,List.Perm.length_eq]
  refine J ?_ ?_
  .intro hr;subst hr;rw[HC,B9,Bo]at r1;have hpk:bs.Perm (E0 cm):=by
    have r1:(bs.map kI).Perm ((E0 cm).map kI):=by unfold E0;rw[Bo];exact r1
    have:=r1.map (fun v:Value=>match v with | .int _ n=>n | _=>0)
    rw[Bo,Bo]at this;have e:((fun v:Value=>match v with | .int _ n=>n | _=>0) ∘ kI)=id:=rfl;simp_all
   have Ec:bs≠[]:=fun e=>by
    subst e
    have:=hpk.length_eq
    have h0:=i3.keys.1;simp_all
   refine M (.gen [(44,1000)] 0) (J rfl ((AiN bs I Ec).to ?_));intro B hBs;have hBl:B.length=bs.length:=hBs.1.length_eq;have hBn:B.Nodup:=(hBs.1.trans hpk).nodup_iff.2 i3.nd;have hB:vB B cm:=⟨hBs.1.trans hpk,by
    grind [List.pairwise_iff_getElem]⟩
   have Amx:0<B.length:=by
    grind
   have hNE:bs.length=(B.map GH).length:=aa0
   refine J (by grind [As]) (M {k:Nat // k<=B.length-1} (M (fun k=>⟨[(0,F),(5,.mref 15),(10,.msl 44 bs.length),(12,.slice (.id 12 2) ((Eh keep cm B k.1).map Y)),(13,G (I6 cm (B.take k.1))),(59,G ((bs.length:Int)-1)),(60,G k.1)],[(12,.tok 2 ((Eh keep cm B k.1).map Y).length),(15,.rom bu (cm.map NX)),(44,.arr 1 (B.map GH))],Ab⟩) (M (fun k=>B.length-k.1) (J (M ⟨0,Ai _⟩ ?_) ?_))))
   .exact⟨⟨⟨rfl,hid _⟩,Z,Z,Z,Z,Z,Z,X⟩,Z3,Fh,X⟩
   intro⟨k,k1⟩;have hkl:=Yq keep cm B k;refine J ?_ ?_
   .intro hk;have hk:(k:Int)<(bs.length:Int)-1:=hk;have QB:k+1<B.length:=I
    have nF:k<B.length:=I
    have Ij:(B.map GH)[k]?=some (GH B[k]):=FB (Ge nF);have dj:(B.map GH)[k+1]?=some (GH B[k+1]):=FB (Ge QB);have Afy:=SQ cm B k nF;have ApS:=uk i3 hB k nF;have zG:Eh keep cm B (k+1)=Eh keep cm B k++(if keep (I6 cm (B.take (k+1))).toNat then [(B[k],B[k+1])]else []):=by
     show _++(match B[k]?,B[k+1]? with | some a,some b=>if keep (I6 cm (B.take (k+1))).toNat then [(a,b)]else [] | _,_=>[])=_
     grind
    refine M ⟨[(0,F),(5,.mref 15),(10,.msl 44 bs.length),(12,.slice (.id 12 2) ((Eh keep cm B k).map Y)),(13,G (I6 cm (B.take k))),(14,G k),(59,G ((bs.length:Int)-1)),(60,G k)],[(12,.tok 2 ((Eh keep cm B k).map Y).length),(15,.rom bu (cm.map NX)),(44,.arr 1 (B.map GH))],Ab⟩ (J ⟨⟨⟨rfl,hid _⟩,Z,Z,Z,Z,Z,Z,Z,X⟩,Z3,Fh,X⟩ (J ⟨by omega,by omega⟩ ?_));refine J hNE (M (GH B[k]) (J Ij (Qu (G (Fw cm B[k])) (G 0) (SV i3.nd B[k]) (SW cm B[k]) (fun q=>q) (J (by grind [As]) ?_))));have Cj:∀h,Rw prog (str h F) [G (I6 cm (B.take k)+Fw cm B[k])] (Q (keep (I6 cm (B.take (k+1))).toNat)):=fun h=>by
     grind
    refine Be (Bt (keep (I6 cm (B.take (k+1))).toNat)) (fun hp=>?_) (fun hp=>?_)
    .rw[hp]at Cj;rw[hp,AO rfl]at zG;refine M .pure (M (Q true) (J (Cj _) (M ⟨[(0,F),(5,.mref 15),(10,.msl 44 bs.length),(12,.slice (.id 12 2) ((Eh keep cm B k).map Y)),(13,G (I6 cm (B.take k)+Fw cm B[k])),(14,G k),(59,G ((bs.length:Int)-1)),(60,G k)],[(12,.tok 2 ((Eh keep cm B k).map Y).length),(15,.rom bu (cm.map NX)),(44,.arr 1 (B.map GH))],Ab⟩ (J ⟨⟨⟨rfl,hid _⟩,Z,Z,Z,Z,Z,Z,Z,X⟩,Z3,Fh,X⟩ ?_))))
     have b1:(0:Int)<=(k:Int)+1/\(k:Int)+1<bs.length:=I
     have AjO:(B.map GH)[((k:Int)+1).toNat]?=some (GH B[k+1]):=aa2
     refine J ⟨by omega,by omega⟩ ?_;refine J hNE (M (GH B[k]) (J Ij (J (Ii k I) (J b1 (J hNE (M (GH B[k+1]) (J AjO ?_)))))));have El:Cq 2 [[G B[k],G B[k+1]]]/\((Eh keep cm B k).map Y).length=((Eh keep cm B k).map Y).length/\(((Eh keep cm B k).map Y).length+[[G B[k],G B[k+1]]].length)*16<=2^47/\((Eh keep cm B k).map Y).length+[[G B[k],G B[k+1]]].length<=2^63-1:=
      ⟨⟨rfl,trivial⟩,rfl,by grind,by grind⟩
     refine J El (J aa5 (M ⟨[(0,F),(5,.mref 15),(10,.msl 44 bs.length),(12,.slice (.id 12 2) ((Eh keep cm B k).map Y++[[G B[k],G B[k+1]]])),(13,G (I6 cm (B.take k)+Fw cm B[k])),(59,G ((bs.length:Int)-1)),(60,G k)],[(12,.tok 2 (((Eh keep cm B k).map Y).length+[[G B[k],G B[k+1]]].length)),(15,.rom bu (cm.map NX)),(44,.arr 1 (B.map GH))],Ab⟩ (J ⟨⟨⟨rfl,hid _⟩,Z,Z,Z,Z,Z,Z,X⟩,Z3,Fh,X⟩ (J (Ii k I) (M ⟨k+1,by omega⟩ ?_)))));have e1:AV.slice (.id 12 2) ((Eh keep cm B k).map Y++[[G B[k],G B[k+1]]])=.slice (.id 12 2) ((Eh keep cm B (k+1)).map Y):=aa2
     have e2:G (I6 cm (B.take k)+Fw cm B[k])=G (I6 cm (B.take (k+1))):=aa2
     have e3:HO.tok 2 (((Eh keep cm B k).map Y).length+[[G B[k],G B[k+1]]].length)=.tok 2 ((Eh keep cm B (k+1)).map Y).length:=aa2
     exact⟨by grind,⟨⟨rfl,hid _⟩,Z,Z,⟨e1,rfl⟩,⟨e2,rfl⟩,Z,Z,X⟩,⟨⟨e3,rfl⟩,Z,Z,X⟩,Fh,X⟩
    .rw[hp]at Cj;have zG:Eh keep cm B (k+1)=Eh keep cm B k:=aa2
     refine M .pure (M (Q false) (J (Cj _) (M ⟨[(0,F),(5,.mref 15),(10,.msl 44 bs.length),(12,.slice (.id 12 2) ((Eh keep cm B k).map Y)),(13,G (I6 cm (B.take k)+Fw cm B[k])),(59,G ((bs.length:Int)-1)),(60,G k)],[(12,.tok 2 ((Eh keep cm B k).map Y).length),(15,.rom bu (cm.map NX)),(44,.arr 1 (B.map GH))],Ab⟩ (J ⟨⟨⟨rfl,hid _⟩,Z,Z,Z,Z,Z,Z,X⟩,Z3,Fh,X⟩ (J (by grind [As]) (M ⟨k+1,by omega⟩ ?_))))));have e1:AV.slice (.id 12 2) ((Eh keep cm B k).map Y)=.slice (.id 12 2) ((Eh keep cm B (k+1)).map Y):=aa2
     have e2:G (I6 cm (B.take k)+Fw cm B[k])=G (I6 cm (B.take (k+1))):=aa2
     have e3:HO.tok 2 ((Eh keep cm B k).map Y).length=.tok 2 ((Eh keep cm B (k+1)).map Y).length:=aa2
     exact⟨by grind,⟨⟨rfl,hid _⟩,Z,Z,⟨e1,rfl⟩,⟨e2,rfl⟩,Z,Z,X⟩,⟨⟨e3,rfl⟩,Z,Z,X⟩,Fh,X⟩
   .intro hk;have hk:¬(k:Int)<(bs.length:Int)-1:=hk;have QB:k=B.length-1:=I
    have Abv:canon (Eh keep cm B k)=R:=by
     grind [U9,r6]
    have hc:=cr (Eh keep cm B k) I;rw[Abv]at hc;refine C1 (H hc ?_);exact .refl _
  .intro kv QW hp;refine AE (Ap.1 (r2 kv (hp.mem_iff.2 (Ad ..)))) (fun q hq=>?_);have hq2:=hq.2;subst hq2;refine M ⟨[(0,F),(5,.mref 15),(10,.msl 44 bs.length),(46,.ref 46 0)],[(15,.rom bu (cm.map NX)),(44,.arr 1 (bs.map GH)),(46,.iter (cm.map NX) QW (some (NX q)))],Ab⟩ (J ⟨⟨⟨rfl,hid _⟩,Z,Z,Z,X⟩,Z3,Fh,X⟩ ?_)
   have El:Cq 1 [GH q.1]/\(bs.map GH).length=bs.length/\((bs.map GH).length+[GH q.1].length)*8<=2^47/\(bs.map GH).length+[GH q.1].length<=2^63-1:=
    ⟨⟨rfl,trivial⟩,by simp_all,by grind,by grind⟩
   refine J El ?_;have e1:AV.msl 44 ((bs.map GH).length+[GH q.1].length)=.msl 44 (bs++[q.1]).length:=aa1
   have e2:HO.arr 1 (bs.map GH++[GH q.1])=.arr 1 ((bs++[q.1]).map GH):=aa1
   refine M ⟨(QW,bs++[q.1],some (NX q)),?_,fun kv nG=>r2 kv (hp.mem_iff.2 (Aj _ nG))⟩ ?_
   .grind [List.Perm.append_left,List.Perm.trans,List.Perm.symm]
   .exact⟨by show QW.length<rem.length;rw[hp.length_eq];simp,⟨⟨rfl,hid _⟩,Z,⟨e1,rfl⟩,Z,X⟩,⟨Z,⟨e2,rfl⟩,Z,X⟩,Fh,X⟩
theorem Aiy(l:List AY):PC 390 [G n,.cptr [sl Hg l]] (Q (decide (n=l.length))):=by
 refine Ps CF func390 rfl C4 ?_;have e:((l.map Hg).length:Int)=l.length:=aa0
 refine J ?_ ?_
 .intro h;rw[show decide (n=(l.length:Int))=true from Aq (h.trans e)];exact .refl _
 .intro h;rw[show decide (n=(l.length:Int))=false from Al (fun c=>h (c.trans e.symm))];exact .refl _
theorem AiA:PC 342 [G n] (Q (decide (n=0))):=by
 refine Ps CF func342 rfl C4 (J ?_ ?_)
 .intro h;rw[Aq h];exact .refl _
 .intro h;rw[Al h];exact .refl _
theorem Aj8:PC 378 [G n] (Q (decide (0<n))):=by
 refine Ps CF func378 rfl C4 (J ?_ ?_)
 .intro h;rw[Aq h];exact .refl _
 .intro h;rw[Al h];exact .refl _
theorem rY(l:List AY)(p:Int):decide (qB l p=l.length)=l.all fun s=>has s p:=by
 grind [qB,List.countP_eq_length]
theorem rZ(l:List AY)(p:Int):decide (0<qB l p)=l.any fun s=>has s p:=by
 grind [qB,List.countP_pos_iff]
theorem Aim(l:List AY)(hl:CC l)(hs:∀s∈l,CC s):PC 376 [sl Hg l] (sl Y (RZ l)):=by
 have hc:=AaI (.clo 390 [.cptr [sl Hg l]]) (fun n=>decide (n=l.length)) l hl hs (fun _=>rfl) (fun h n h0 _=>by
  have:=Aiy n l
  have e:decide (n=(l.length:Int))=decide (n.toNat=l.length):=aa2
  rw[e]at this;exact this) (RZ l) (aF l) fun p=>by rw[VG,rY]
 refine Ps (vu [1]) func376 rfl C4 (C1 (H (hc) ?_));exact .refl _
theorem AaD(hs:CC s):PC 295 [sl Y s] (sl Y (EJ s)):=by
 have hc:=AaI (.v (TG 342)) (fun n=>decide (n=0)) [s] aa0 (fun t ht=>by simp_all) (fun _=>rfl) (fun h n h0 _=>by
  have:=AiA n
  have e:decide (n=0)=decide (n.toNat=0):=aa2
  rw[e]at this;exact this) (EJ s) (Hm s) fun p=>by
   grind [FZ,qB]
 refine Ps CF func295 rfl C4 (C1 (H (hc) ?_));exact .refl _
theorem Aj4(l:List AY)(hl:CC l)(hs:∀s∈l,CC s):PC 352 [sl Hg l] (sl Y (SU l)):=by
 have hc:=AaI (.v (TG 378)) (fun n=>decide (0<n)) l hl hs (fun _=>rfl) (fun h n h0 _=>by
  have:=Aj8 n
  have e:decide (0<n)=decide (0<n.toNat):=aa0
  rw[e]at this;exact this) (SU l) (bG l) fun p=>by
   grind [VH,rZ,RU,Uk]
 refine Ps CF func352 rfl C4 (C1 (H (hc) ?_));exact .refl _
-- terms
theorem c59(ht:CC t.set):PC 348 [.agg (E t)] (Q (!t.absent&&(canon t.set).isEmpty)):=by
 refine Ps CF func348 rfl C4 (J ?_ ?_)
 .intro h;rw[h];exact .refl _
 .intro h;refine C1 (H (cr t.set ht) (J ?_ ?_))
  .intro h2;have h2:canon t.set=[]:=AI aa0;rw[h,h2];exact .refl _
  .intro h2;have h2:(canon t.set).isEmpty=false:=by
    simp_all
   rw[h,h2];exact .refl _
theorem c60(ht:CC t.set):PC 349 [.agg (E t)] (Q (t.absent&&(EJ t.set).isEmpty)):=by
 refine Ps CF func349 rfl C4 (J ?_ ?_)
 .intro h;refine C1 (H (AaD t.set ht) (J ?_ ?_))
  .intro h2;have h2:EJ t.set=[]:=AI aa0;rw[h,h2];exact .refl _
  .intro h2;have h2:(EJ t.set).isEmpty=false:=by
    simp_all
   rw[h,h2];exact .refl _
 .intro h;rw[h];exact .refl _
abbrev FX(l:List Nat):Of:=⟨[],[],[],[],[],[],[],[],[],[],l⟩
theorem c58(hu:CC u.set)(ht:CC t.set):PC 347 [.agg (E u),.agg (E t)] (.agg (E (GZ u t))):=by
 have hc:PC 376 [sl Hg [u.set,t.set]] (sl Y (QE u.set t.set)):=Aim [u.set,t.set] aa0 (fun s hs=>by
  grind)
 refine Ps (FX []) func347 rfl C4 (J ?_ ?_)
 .intro h;refine J ?_ ?_
  .intro h2;have e:[vs u.path,Q true,sl Y (QE u.set t.set)]=E (GZ u t):=by grind [GZ]
   refine H (hc) (J C4 (J aa5 (U ?_)));exact C AV.agg e
  .intro h2;have e:[vs u.path,Q false,sl Y (QE u.set t.set)]=E (GZ u t):=by grind [GZ]
   refine H (hc) (J C4 (J aa5 (U ?_)));exact C AV.agg e
 .intro h;have e:[vs u.path,Q false,sl Y (QE u.set t.set)]=E (GZ u t):=by grind [GZ]
  refine H (hc) (J C4 (J aa5 (U ?_)));exact C AV.agg e
theorem AiW(hu:CC u.set)(ht:CC t.set):PC 298 [.agg (E u),.agg (E t)] (.agg (E (Dd u t))):=by
 have hc:PC 352 [sl Hg [u.set,t.set]] (sl Y (Rk u.set t.set)):=Aj4 [u.set,t.set] aa0 (fun s hs=>by
  grind)
 refine Ps (FX []) func298 rfl C4 (J ?_ ?_)
 .intro h;have e:[vs u.path,Q true,sl Y (Rk u.set t.set)]=E (Dd u t):=by grind [Dd]
  refine H (hc) (J C4 (J aa5 (U ?_)));exact C AV.agg e
 .intro h;refine J ?_ ?_
  .intro h2;have e:[vs u.path,Q true,sl Y (Rk u.set t.set)]=E (Dd u t):=by grind [Dd]
   refine H (hc) (J C4 (J aa5 (U ?_)));exact C AV.agg e
  .intro h2;have e:[vs u.path,Q false,sl Y (Rk u.set t.set)]=E (Dd u t):=by grind [Dd]
   refine H (hc) (J C4 (J aa5 (U ?_)));exact C AV.agg e
theorem Ael(hq:CC q.set):PC 293 [.agg (Ak q)] (.agg (E (Do q))):=by
 refine Ps CF func293 rfl C4 (H (AaD q.set hq) (J C4 (J aa5 (U ?_))));exact .refl _
abbrev CU:Ez:=⟨false,[.str]⟩
abbrev VZ:Value×AV:=(.string t.path,.agg (E t))
abbrev Ag6(fin cut:List Nat):Of:=⟨[],[],[],[],fin,[],[],[],[],[],cut⟩
theorem kV{p:CS}{a:AV}:(Value.string p,a)∈m.map VZ↔∃t∈m,t.path=p/\a=.agg (E t):=by
 grind
theorem sw(m:List V)(t:V):EN (m.map VZ) (.string t.path) (.agg (E t))=(be m t).map VZ:=by
 unfold be
 by_cases h:(m.any fun u=>decide (u.path=t.path))=true
 .rw[AO h];obtain⟨u,h1,h2⟩:=Cs.1 h;have h2:=B7 h2
  have:(Value.string t.path,AV.agg (E u))∈m.map VZ:=kV.2 ⟨u,h1,h2,rfl⟩
  rw[Sh this,Bo,Bo]
  grind [List.map_congr_left]
 grind [Lb]
theorem qW(hn:(EE m).Nodup)(p:CS){K:AV->Prop}{Z:Prop}(hy:∀u,Di m p=some u->K (.agg (E u)))(OB:Di m p=none->Z) :
  (∀a,(Value.string p,a)∈m.map VZ->K a)/\((∀a,(Value.string p,a)∉m.map VZ)->Z):=
 ⟨fun a h=>by
  grind [TE],fun h=>OB (by
  cases e:Di m p with
  |none=>rfl
  |some u=>exact absurd (kV.2 ⟨u,GI e,LO e,rfl⟩) (h _))⟩
theorem Uv{t:V}(h:Ev t.set):CC t.set:=by
 grind [Io]
theorem c57(hl:CC l)(hs:∀t∈l,CC t.set):PC 346 [sl E l,.v (TG 347)] (.cmap CU ((Df l).map VZ)):=by
 refine Ps (Ag6 [10] []) func346 rfl C4 (M {i:Nat // i<=l.length} (M (fun i=>⟨[(0,sl E l),(1,.v (TG 347)),(5,.mref 10),(11,sl E l),(12,G (l.map E).length),(13,G i.1)],[(10,.map CU ((Df (l.take i.1)).map VZ))],Ab⟩) (M (fun i=>l.length-i.1) (J (M ⟨0,Ai _⟩ ?_) ?_))))
 .exact⟨Z6,Z1,Fh,X⟩
 intro⟨i,h1⟩;have hn:=H6 (l.take i);refine J ?_ ?_
 .intro h;have h:i<l.length:=aa0
  have hg:l[i]?=some l[i]:=Ge h;refine M (E l[i]) (J (J I aa0) (J rfl ?_));refine J C4 (U ?_);have FA:=hs l[i] (Am h);have tail:∀u:V,CC u.set->GZ u l[i]=Ul (Di (Df (l.take i)) l[i].path) l[i]->EN ((Df (l.take i)).map VZ) (.string l[i].path) (.agg (E (GZ u l[i])))=(Df (l.take (i+1))).map VZ:=fun u hu e=>by
   have hp:(Ul (Di (Df (l.take i)) l[i].path) l[i]).path=l[i].path:=Sw _ _ fun u h=>LO h;have e2:=sw (Df (l.take i)) (GZ u l[i]);have e3:(GZ u l[i]).path=l[i].path:=aa0
   rw[e3]at e2;rw[e2,TS l i h,e];rfl
  refine qW hn l[i].path (fun u hu=>?_) (fun hu=>?_)
  .have Na:CC u.set:=Uv (QI _ u (GI hu));refine U ?_;have AS:=tail u Na (by grind [lJ]);refine J C4 (U (H (c58 u l[i] Na FA) (J aa5 (J (by show As ((i:Int)+1);grind [As]) (M ⟨i+1,by omega⟩ ?_)))));have e1:HO.map CU (EN ((Df (l.take i)).map VZ) (.string l[i].path) (.agg (E (GZ u l[i]))))=.map CU ((Df (l.take (i+1))).map VZ):=aa0
   exact⟨by grind,Z6,⟨⟨e1,rfl⟩,X⟩,Fh,X⟩
  .refine U (J C4 (U ?_));have AS:=tail l[i] FA (by grind [lJ]);refine J C4 (U (H (c58 l[i] l[i] FA FA) (J aa5 (J (by grind [As]) (M ⟨i+1,by omega⟩ ?_)))));have e1:HO.map CU (EN ((Df (l.take i)).map VZ) (.string l[i].path) (.agg (E (GZ l[i] l[i]))))=.map CU ((Df (l.take (i+1))).map VZ):=aa0
   exact⟨by grind,Z6,⟨⟨e1,rfl⟩,X⟩,Fh,X⟩
 .intro h;have h:¬i<l.length:=aa0
  have e:(Df (l.take i)).map VZ=(Df l).map VZ:=aa2
  exact C (AV.cmap CU) e
abbrev LA:AV:=.tup [sl E (So l),Q (CK l).isSome]
abbrev Al2:Of:=⟨[],[],[(4,3)],[],[],[],[],[],[],[(25,4)],[]⟩
abbrev jP:HO:=.arr 3 (l.map E)
abbrev GN:List V:=l.filter fun t=>!G6 t
theorem xD{l:List V}{kv:Value×AV}{QW : List (Value×AV)}(h:(l.map VZ).Perm (kv::QW)):∃t r,kv=VZ t/\QW=r.map VZ/\l.Perm (t::r):=by
 obtain⟨ps,h1,h2⟩:=Nt h l rfl;cases ps<;>grind
theorem ct{l:List V}{t:V}(h:t∈Df l)(hn:I2 t=true):CK l=none:=by
 grind [CK,Ju]
theorem gM{l done s:List V}(h:done.Perm (Df l))(hn:∀t∈done,I2 t=false)(hp:s.Perm (GN done))(hs:s.Pairwise fun x y=>E3 y.path x.path=false):CK l=some s:=by
 unfold CK;rw[AB]
 .congr 1
  exact(RH _ (hp.trans (h.filter _)) hs).symm
 grind [Ju]
theorem nU:(GN l).length<=l.length:=CW _ _
theorem c29(hl:CC l)(hs:∀t∈l,CC t.set):PC 297 [sl E l] (LA l):=by
 have Xu:l.length<=2^30:=hl;have hml:(Df l).length<=l.length:=by grind [Pp,List.take_length]
 refine Ps Al2 func297 rfl C4 (C1 (H (c57 l hl hs) (M {p:List V×List V×Option (Value×AV) // (p.1++p.2.1).Perm (Df l)/\∀t∈p.1,I2 t=false} (M (fun p=>⟨[(4,.msl 4 (GN p.1.1).length),(9,.ref 9 0)],[(4,jP (GN p.1.1)),(9,.iter ((Df l).map VZ) (p.1.2.1.map VZ) p.1.2.2)],Ab⟩) (M (fun p=>p.1.2.1.length) (J (M ⟨([],Df l,none),.refl _,fun t ht=>by cases ht⟩ ?_) ?_))))))
 .exact⟨Z2,Z2,Fh,X⟩
 intro⟨⟨done,rem,DU⟩,r1,r2⟩;have r1:(done++rem).Perm (Df l):=r1;have hdl:done.length+rem.length<=l.length:=by grind [List.length_append,List.Perm.length_eq]
 have hkl:=nU done;refine J ?_ ?_
 .intro hr;have hr:rem=[]:=DR.1 hr;subst hr;rw[B9]at r1;refine M (.gen [(4,1000)] 0) (J rfl ((c61 (GN done) I).to ?_));intro s hq;have VO:s.length=(GN done).length:=hq.1.length_eq;have hc:=gM r1 r2 hq.1 hq.2;refine J aa0 ?_;have e:AV.tup [sl E s,Q true]=LA l:=by grind [So]
  exact .of_eq e
 .intro kv QW hp;refine AE (xD hp) (fun t hp=>AE hp (fun r hp=>?_));have e1:=hp.1;have e2:=hp.2.1;subst e1;subst e2;have hp:=hp.2.2;have htm:t∈Df l:=r1.mem_iff.1 (BZ _ (hp.mem_iff.2 (Ad ..)));have htc:=QI l t htm;have htf:=Uv htc;refine J C4 (U ?_);have hv:PC 348 [.agg (E t)] (Q (I2 t)):=sC htc▸c59 t htf;have ha:PC 349 [.agg (E t)] (Q (G6 t)):=mK htc▸c60 t htf;refine Be (Bt (I2 t)) (fun h=>?_) (fun h=>?_)
  .rw[h]at hv;refine C1 (H (hv) ?_);have hc:=ct htm h;have e:AV.tup [.slice .none [],Q false]=LA l:=by grind [So]
   have e0:Da (.tup [nzA,Q false]) (.tup [.slice .none [],Q false]):=Da.tup ⟨.nil,.refl _,trivial⟩;exact e0.trans (.of_eq e)
  .rw[h]at hv;refine C1 (H (hv) (U ?_));have kM:((done++[t])++r).Perm (Df l):=by
    grind
   have hnv:∀u∈done++[t],I2 u=false:=fun u hu=>by
    grind
   have hrl:r.length<rem.length:=by grind [List.length_cons,List.Perm.length_eq]
   refine Be (Bt (G6 t)) (fun h2=>?_) (fun h2=>?_)
   rotate_left
   .rw[h2]at ha;refine C1 (H (ha) ?_);have El:Cq 3 [E t]/\((GN done).map E).length=(GN done).length/\(((GN done).map E).length+[E t].length)*48<=2^47/\((GN done).map E).length+[E t].length<=2^63-1:=
     ⟨⟨rfl,trivial⟩,by simp_all,by grind,by grind⟩
    refine U (J El ?_);have hk:GN (done++[t])=GN done++[t]:=aa0
    have e1:AV.msl 4 (((GN done).map E).length+[E t].length)=.msl 4 (GN (done++[t])).length:=aa0
    have e2:HO.arr 3 ((GN done).map E++[E t])=jP (GN (done++[t])):=aa0
    refine M ⟨(done++[t],r,some (VZ t)),kM,hnv⟩ ?_;exact⟨hrl,⟨⟨e1,rfl⟩,Z,X⟩,⟨⟨e2,rfl⟩,Z,X⟩,Fh,X⟩
   .rw[h2]at ha;refine C1 (H (ha) ?_);have hk:GN (done++[t])=GN done:=aa0
    have e1:AV.msl 4 (GN done).length=.msl 4 (GN (done++[t])).length:=by rw[hk]
    have e2:jP (GN done)=jP (GN (done++[t])):=by rw[hk]
    refine M ⟨(done++[t],r,some (VZ t)),kM,hnv⟩ ?_;exact⟨hrl,⟨⟨e1,rfl⟩,Z,X⟩,⟨⟨e2,rfl⟩,Z,X⟩,Fh,X⟩
theorem AaP(hl:CC l)(hs:∀t∈l,CC t.set):PC 292 [sl E l] (sl E (So l)):=by
 refine Ps CF func292 rfl C4 (C1 (H (c29 l hl hs) ?_));exact .refl _
theorem RO:CC (EJ s):=by
 grind [Io,Hm]
theorem AeE:CC [x]:=aa0
theorem Ajq(y:α):CC [x,y]:=aa0
theorem Aee(hq:CC q.set):PC 225 [.agg (Ak q)] (sl E (Ib q)):=by
 have hc:PC 292 [sl E [Do q]] (sl E (Ib q)):=AaP [Do q] (AeE _) fun t ht=>by rw[AA.1 ht];exact RO _
 refine Ps CF func225 rfl C4 (U (C1 (H (Ael q hq) (C1 (H (hc) ?_)))));exact .refl _
theorem Aef(pl:Int)(q:Rq)(hp:As (pl+1))(hq:CC q.set):PC 226 [vs p,G pl,.agg (Ak q)] (sl E (Dc p pl q)):=by
 have hc:PC 292 [sl E [⟨p,false,[(pl,pl+1)]⟩,Do q]] (sl E (Dc p pl q)):=AaP [⟨p,false,[(pl,pl+1)]⟩,Do q] (Ajq _ _) fun t ht=>by
  rcases AJ.1 ht with rfl | ht
  .simp_all
  .rw[AA.1 ht];exact RO _
 refine Ps CF func226 rfl C4 (J hp (U (C1 (H (Ael q hq) (C1 (H (hc) ?_))))));exact .refl _
theorem AaK(hs:CC s):PC 229 [vs p,sl Y s] (sl E (FK p s)):=by
 have hc:PC 292 [sl E [⟨p,false,EJ s⟩]] (sl E (FK p s)):=AaP [⟨p,false,EJ s⟩] (AeE _) fun t ht=>by grind [RO]
 refine Ps CF func229 rfl C4 (C1 (H (AaD s hs) (C1 (H (hc) ?_))));exact .refl _
end Go.Eng
namespace Go.Eng
open Go.Proofs Go.Proofs.Tryz Go.Shelf Go.RowKit Go.Lib Go.Sort
theorem Ac3(F:Array Value)(i n:Nat)(hF:F.size=n*3)(hi:i<n)(z:List Value)(hz:z.length=3):(lay (lay F (i*3) (F.toList.drop ((i+1)*3))) ((n-1)*3) z).toList=F.toList.take (i*3)++F.toList.drop ((i+1)*3)++z:=by
 have l1:(F.toList.take (i*3)).length=i*3:=by simp;omega
 have l2:(F.toList.drop ((i+1)*3)).length=(n-(i+1))*3:=by simp;omega
 apply Cu
 intro t
 rw[BY,lay_get? _ _ _ _ (by rw[Lib.lay_size];omega),lay_get? _ _ _ _ (by rw[l2];omega)]
 rw[hz,l2]
 by_cases c1:t<i*3
 .rw[AB I,AB I,Cm (by rw[Ac];omega),Cm I,List.getElem?_take,AO c1,BY]
 .by_cases c2:t<(n-1)*3
  .rw[AB I,AO I,Cm (by rw[Ac];omega),Ba I,l1]
  .rw[Ba (by rw[Ac];omega),Ac,l1,l2]
   by_cases c3:t<n*3
   .rw[AO I];congr 1;omega
   .rw[AB I,AB I,Array.getElem?_eq_none I,EP I]
abbrev vA:List Value:=[.string ⟨#[]⟩,.bool false,.slice none 0 0]
set_option maxHeartbeats 4000000 in
set_option maxRecDepth 1000000 in
theorem qH(w:World)(b cap i n:Nat)(F:Array Value)(hF:F.size=n*3)(hi:i<n)(Pf:n<=cap)(hH:Holds id w b 0 F)(h1:∀x∈F.toList,x.oneCell'=true) :
  Calls prog 344 #[.slice (some ⟨b,0,none⟩) n cap,.int .i64 i,.int .i64 ((i:Int)+1)] w fun e w'=>e=.returned (.slice (some ⟨b,0,none⟩) (n-1) cap) /\
   w'=putRow id (Sort.ahead w 1) b 0 (lay (lay F (i*3) (F.toList.drop ((i+1)*3))) ((n-1)*3) vA):=by
 obtain⟨i0,hi0,hz0⟩:∃i0,prog.info? 325=some i0/\i0.size=3:=by
  obtain⟨i,z,h1,_,h2,_⟩:=HQ (P:=prog) (T:=yB) BO (e:=325) (n:=2) aa5
  exact⟨i,h1,h2.trans aa5⟩
 obtain⟨news,Hr⟩:∃news,news=F.toList.drop ((i+1)*3):=⟨_,rfl⟩
 have CN:news.length=(n-(i+1))*3:=by rw[Hr];simp;omega
 have FA:∀t,t<(n-(i+1))*3->news[t]?=some F[(i+1)*3+t]!:=by
  intro t ht
  rw[Hr,FR,BY,Pc F ((i+1)*3+t) I,BB I]
 obtain⟨A,hA,AbM⟩:∃A:Addr,(if cap=i+1 then some (⟨b,0,none⟩:Addr)else some ⟨b,(i+1)*3,none⟩)=some A/\Hid (∀t u,news[t]?=some u->w.drew.cell? (A.add t)=some u):=by
  by_cases h:cap=i+1
  .refine⟨⟨b,0,none⟩,by simp[h],fun t u hu=>?_⟩
   have h0:news.length=0:=by rw[CN];omega
   rw[List.length_eq_zero_iff.1 h0]at hu
   simp at hu
  .refine⟨⟨b,(i+1)*3,none⟩,by simp[h],fun t u hu=>?_⟩
   have ht:t<(n-(i+1))*3:=by
    have:=(AN.1 hu).1
    rwa [CN]at this
   rw[FA t ht]at hu
   rw[Addr.add_lit]
   have:=(hH ((i+1)*3+t) I).1
   rw[Dp]at this
   exact this.trans hu
 have s1:Hid (news.length=(n-(i+1))*3):=CN
 have s2:Hid (∀u∈news,u.oneCell'=true):=by
  intro u hu
  rw[Hr]at hu
  exact h1 u (IF hu)
 have s3:Hid (∀t,t<news.length->(w.drew.cell? ⟨b,0+i*3+t,none⟩).isSome=true/\w.drew.frozen? ⟨b,0+i*3+t,none⟩=false):=by
  intro t ht
  rw[CN]at ht
  have:=hH (i*3+t) I
  rw[Nat.add_assoc]
  exact⟨by show(w.cell? _).isSome=true;rw[this.1];rfl,this.2⟩
 obtain⟨W1,zz⟩:∃W1,W1=w.drew.setCells b (0+i*3) news:=⟨_,rfl⟩
 have Abp : W1=putRow id (Sort.ahead w 1) b 0 (lay F (i*3) news):=by
  have:=putRow_setCells id (Sort.ahead w 1) b 0 news F (i*3) I
  rw[putRow_self id (Sort.ahead w 1) b 0 F (holds_ahead id w 1 b 0 F hH),Kc]at this
  rw[zz,<-this]
  rfl
 have hH1:Holds id W1 b 0 (lay F (i*3) news):=by rw[Abp];exact holds_putRow id _ b 0 F _ (holds_ahead id w 1 b 0 F hH) (Lib.lay_size _ _ _)
 have Jp:(storeCells ⟨b,0+(n-1)*3,none⟩ vA 0).run prog W1=.ok () (W1.setCells b (0+(n-1)*3) vA):=by
  have:=run_storeCells_cells (P:=prog) b (0+(n-1)*3) vA 0 W1 (fun j hj=>by
   have hj:j<3:=hj
   have:=hH1 ((n-1)*3+j) (by rw[Lib.lay_size];omega)
   rw[show 0+(n-1)*3+0+j=0+((n-1)*3+j) by omega,this.1];rfl) (fun j hj=>by
   have hj:j<3:=hj
   have:=hH1 ((n-1)*3+j) (by rw[Lib.lay_size];omega)
   rw[show 0+(n-1)*3+0+j=0+((n-1)*3+j) by omega];exact this.2) (fun v hv=>by
   simp only[AJ,My,or_false]at hv
   rcases hv with rfl | rfl | rfl<;>rfl)
  exact this
 have hcl:∀ty c,(Builtin.clear_ #[258] ty #[.slice (some ⟨b,(n-1)*3,none⟩) 1 c]).run prog W1=.ok (.tuple #[]) (W1.setCells b (0+(n-1)*3) vA):=fun ty c=>by
  have hv:=zeroValue325
  rw[Dp]at Jp⊢
  have hz:(Builtin.zeroCells (Value.agg #[Value.string { data:=#[] },Value.bool false,Value.slice none 0 0]).cells 1).toList=vA:=by kernel_rfl
  simp[Builtin.clear_,run_underlying underlying258,hv,hz,Jp]
 have Apc:∀ty,(Builtin.clear_ #[258] ty #[.slice (some ⟨b,(i+(n-(i+1)))*3,none⟩) (n-(i+(n-(i+1)))) (cap-(i+(n-(i+1))))]).run prog W1=.ok (.tuple #[]) (W1.setCells b (0+(n-1)*3) vA):=fun ty=>by
  have e1:i+(n-(i+1))=n-1:=I
  have e2:n-(n-1)=1:=I
  rw[e1,e2];exact hcl ty _
 have X:Aside (W1=putRow id (Sort.ahead w 1) b 0 (lay F (i*3) news)):=Abp
 have hW:Hid (W1=w.drew.setCells b (0+i*3) news):=zz
 have Y:Aside (news=F.toList.drop ((i+1)*3)):=Hr
 have Z:Aside (news.length=(n-(i+1))*3):=CN
 have hic:i<=cap:=I
 have hjc:i+1<=cap:=I
 have mixed:=Go.Eng.hm
 have hb1:(0:Int)<=(i:Int)+1:=I
 have kz:(i:Int)+1<=(n:Int):=I
 clear zz Abp hH1 hH FA Hr CN Jp hcl
 go_enter func344,ntmps344
 go_wp2_with fail
 go_region_law_o (refine step_append_room rfl (.tmp 22) (.tmp 25) 258 rfl 325 i0 3 underlying258 hi0 hz0 b 0 i cap (by simp[Act.eval,Act.put]) A (n-(i+1)) (cap-(i+1)) news (by simp[Act.eval,Act.put]) s1.out AbM.out s2.out I s3.out ?_;rw[<-hW.out])
 go_wp2
 go_ret
 refine⟨by rw[show i+(n-(i+1))=n-1 by omega];rfl,?_⟩
 rw[X.out]
 have e1:=Y.out
 have e2:=Z.out
 rw[<-e1]
 have:=putRow_setCells id (Sort.ahead w 1) b 0 vA (lay F (i*3) news) ((n-1)*3) (by rw[Lib.lay_size];show _+3<=_;omega)
 rw[Kc,Dp]at this
 exact this
abbrev gc:List AV:=[Go.Eng.vs ⟨#[]⟩,Q false,nzA]
theorem Aj3(l:List V)(i:Nat)(hi:i<l.length) :
  A1 prog 344 [.msl 1000 l.length,G i,G ((i:Int)+1)] (Ah [(1000,.arr 3 (l.map E))] Ab) fun r h'=>r=.msl 2000 (l.length-1)/\h'=Ah [(1000,.dead),(2000,.arr 3 ((l.eraseIdx i).map E))] Ab:=by
 have hE:Fx prog 344:=j9 344 func344 aa5 rfl
 have CN:(l.eraseIdx i).length=l.length-1:=List.length_eraseIdx_of_lt hi
 have Jc:=XP (P:=prog) (f:=344) (es:=l.map E) (sz:=3) (rest:=[.int .i64 i,.int .i64 ((i:Int)+1)]) (n':=l.length-1) (Q:=fun FG=>FG=(l.eraseIdx i).map E++[gc]) hE (fun e=>by
  rw[DR]at e;subst e;simp at hi) (by rw[Bs];omega) ?_
 .rw[Bs]at Jc
  refine⟨hE,fun g w vals q1 q2 q3=>(Jc.2 g w vals q1 q2 q3).mono fun _ _ ⟨v,r,h',g',e1,⟨e2,FG,p1,p2⟩,rest⟩=>⟨v,r,h',g',e1,⟨e2,by rw[p2,p1,MM (by rw[Bs,CN];exact Af _),AD (by rw[Bs,CN];exact Af _)]⟩,rest⟩⟩
 .intro g w b cap F hr hF hH hb hc
  rw[Bs]at hF hc⊢
  have hu:∀e∈l.map E,e.length=3:=fun e he=>by
   obtain⟨t,_,rfl⟩:=Ap.1 he;rfl
  refine(qH w b cap i l.length F hF hi hc hH hr.2.1).mono ?_
  rintro e w' ⟨rfl,rfl⟩
  refine⟨rfl,_,_,1,#[],?_,rfl,?_,fun cs hcs=>?_,fun g w hr=>?_,rfl⟩
  .rw[Lib.lay_size,Lib.lay_size]
  .rw[Ac,Bs,CN,D0];omega
  .rcases Bh.1 hcs with h | h
   .obtain⟨t,_,rfl⟩:=Ap.1 h;rfl
   .rw[AA.1 h];rfl
  .rw[Ac3 F i l.length hF hi vA rfl,List.eraseIdx_eq_take_drop_succ,DQ,Au,DQ,List.map_take,List.map_drop,<-LP _ i hu,<-Qr _ (i+1) hu]
   refine Cg.append (Cg.append (hr.take _) (hr.drop _)) ?_
   exact N6 g w DS vA fun x hx=>by
    simp only[AJ,My,or_false]at hx
    rcases hx with rfl | rfl | rfl<;>rfl
end Go.Eng
