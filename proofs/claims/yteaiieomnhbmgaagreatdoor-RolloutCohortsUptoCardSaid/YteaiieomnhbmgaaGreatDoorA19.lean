/- Lemmas for the claims of this seat, without a condition: part 19 (C17, C18, C19, C20, C21, C22, C23, C24). -/
import Derived.Test.YteaiieomnhbmgaaGreatDoorA18
namespace Go.Eng
open Go.Proofs
variable {y:Int×Int}{α:Type}{t:Bu}(s:Bu)(l:List (Int×Int))(j:Bu)(i:Nat)
abbrev pla(l:List (Nat×Nat))(cut:List Nat):SB:=⟨[],[],l,[],[],[],[],[],[],[],cut⟩
abbrev MG:HO:=.arr 2 (l.map AC)
theorem bW(l:Bu)(i:Nat):(DW (l.take i)).length<=i:=by
 unfold DW
 have:=Bq (fun x:Int×Int=>decide (x.1<x.2)) ((l.take i).map I2)
 rw[Lm,Av]at this;omega
theorem Wz{l:Bu}{i:Nat}(h:i<l.length)(h3:(I2 l[i]).1<(I2 l[i]).2):DW (l.take (i+1))=DW (l.take i)++[I2 l[i]]:=by
 rw[Bi,Ge h,Pl];unfold DW;simp[h3]
theorem Zl{l:Bu}{i:Nat}(h:i<l.length)(h3:¬(I2 l[i]).1<(I2 l[i]).2):DW (l.take (i+1))=DW (l.take i):=by
 rw[Bi,Ge h,Pl];unfold DW;simp[h3]
abbrev arr2:Bu:=(BQ (s.take i)).reverse++(j++s.drop i)
theorem oJ(h:i<s.length)(hj:(BQ (s.take i)).length+j.length=i):(arr2 s j i)[i]?=some s[i]:=by
 unfold arr2;rw[AZ (by rw[DD];omega),AZ (by rw[DD];omega),DD,DP];rw[show i+(i-(BQ (List.take i s)).length-j.length)=i by omega,Ge h]
theorem gv(e:BQ (s.take i)=y::t):(arr2 s j i)[t.length]?=some y:=by
 unfold arr2;rw[e,RJ,BA,AZ (by rw[DD];omega),DD,E1];rfl
theorem j9(h:i<=s.length)(hj:(BQ (s.take i)).length+j.length=i):(arr2 s j i).length=s.length:=by
 unfold arr2;simp only[Ac,DD,Dc];omega
theorem dX(s:List α)(i:Nat)(h:i<s.length):s.drop i=s[i]::s.drop (i+1):=AH h
theorem Wm(h:i<s.length)(e:LC (BQ (s.take i)) s[i]=s[i]::BQ (s.take i)) :
  (arr2 s j i).set (BQ (s.take i)).length s[i]=arr2 s (j++[s[i]]).tail (i+1):=by
 unfold arr2;rw[GN s i h,e,RJ,List.set_append_right _ _ (by rw[DD];exact Aj _),DD,E1,BA,dX s i h]
 congr 1
 cases j with
 |nil=>rfl
 |cons a b=>simp
theorem gu(h:i<s.length)(e:BQ (s.take i)=y::t)(H2:s[i].1<=y.2) :
  (arr2 s j i).set t.length (y.1,max y.2 s[i].2)=arr2 s (j++[s[i]]) (i+1):=by
 unfold arr2;have e2:LC (y::t) s[i]=(y.1,max y.2 s[i].2)::t:=by show(if s[i].1<=y.2 then _ else _)=_;rw[Al H2]
 rw[GN s i h,e,e2,RJ,RJ,BA,List.set_append_right _ _ (by rw[DD];exact Aj _),DD,E1,dX s i h];simp
theorem Ed{enc:α->List AV}{l:List α}{i:Nat}{x:α}(h:l[i]?=some x):(l.map enc)[i]?=some (enc x):=by rw[AG,h];rfl
theorem XV(hl:B9 l):PC 169 [sl AC l] (sl AC (canon l)):=by
 refine FZ (gO (pla [(3,2)] [])) rfl CQ hm rfl Tryz.func169 Wk rfl (Nz rfl) Wk (Xi {i:Nat // i<=l.length} (Xi (fun i=>⟨[(0,sl AC l),(3,.msl 3 (DW (l.take i.1)).length),(9,sl AC l),(10,vi (l.map AC).length),(11,vi i.1)],[(3,MG (DW (l.take i.1)))],Af⟩) (Xi (fun i=>l.length-i.1) (Yi (Xi ⟨0,by simp⟩ ?_) ?_))))
 .exact⟨Z5,Z1,Fh,Tv⟩
 .intro⟨i,h1⟩;have hn:=bW l i;refine Yi ?_ ?_
  .intro h;have h:i<l.length:=by simpa using h
   have hg:l[i]?=some l[i]:=Ge h;refine Xi (AC l[i]) (Yi (Yi (Nn i) (by simp[hg])) (Yi rfl ?_));refine Yi (Nz rfl) (yN (yN (Yi ?_ ?_)))
   .intro h3;refine yN ?_;have Ho:Cn 2 [[vi (max l[i].1 0),vi (min l[i].2 1000000)]]/\((DW (l.take i)).map AC).length=(DW (l.take i)).length/\(((DW (l.take i)).map AC).length+[[vi (max l[i].1 0),vi (min l[i].2 1000000)]].length)*16<=140737488355328/\((DW (l.take i)).map AC).length+[[vi (max l[i].1 0),vi (min l[i].2 1000000)]].length<=9223372036854775807 :=
     ⟨⟨rfl,trivial⟩,by rw[Lm],by rw[Lm,Bb];omega,by rw[Lm,Bb];omega⟩
    refine Yi Ho (Yi (Ii i ch) (Xi ⟨i+1,by omega⟩ ?_));have e1:AV.msl 3 (((DW (l.take i)).map AC).length+[[vi (max l[i].1 0),vi (min l[i].2 1000000)]].length)=.msl 3 (DW (l.take (i+1))).length:=by rw[Wz h h3];simp
    have e2:HO.arr 2 ((DW (l.take i)).map AC++[[vi (max l[i].1 0),vi (min l[i].2 1000000)]])=MG (DW (l.take (i+1))):=by rw[Wz h h3];simp[I2]
    exact⟨Dl l.length i ch,⟨Zr,⟨e1,rfl⟩,Zr,Zr,Zr,Tv⟩,⟨⟨e2,rfl⟩,Tv⟩,Fh,Tv⟩
   .intro h3;refine Yi (Ii i ch) (Xi ⟨i+1,by omega⟩ ?_);have e1:AV.msl 3 (DW (l.take i)).length=.msl 3 (DW (l.take (i+1))).length:=by rw[Zl h h3]
    have e2:MG (DW (l.take i))=MG (DW (l.take (i+1))):=by rw[Zl h h3]
    exact⟨Dl l.length i ch,⟨Zr,⟨e1,rfl⟩,Zr,Zr,Zr,Tv⟩,⟨⟨e2,rfl⟩,Tv⟩,Fh,Tv⟩
  .intro h;have h:¬i<l.length:=by simpa using h
   have ei:DW (l.take i)=DW l:=by rw[As ch]
   have hN:(DW (l.take i)).length=(DW l).length:=by rw[ei]
   refine Xi (.gen [(3,1000)] 0) (Yi rfl ((Aaq (DW (l.take i)) (by unfold B9;omega) (fun x hx=>by have:=Wy hx;omega)).to ?_));intro s hs;have Sa:s.length=(DW (l.take i)).length:=hs.1.length_eq;have hsN:s.length<=1073741824:=by omega
   have fin:(BQ s).reverse=canon l:=SE (by rw[<-ei];exact hs.1) hs.2;refine Xi {p:Nat×Bu // p.1<=s.length/\(BQ (s.take p.1)).length+p.2.length=p.1} (Xi (fun p=>⟨[(3,.msl 3 (DW (l.take i)).length),(6,vi (BQ (s.take p.1.1)).length),(34,.msl 3 (DW (l.take i)).length),(35,vi (DW (l.take i)).length),(36,vi p.1.1)],[(3,MG (arr2 s p.1.2 p.1.1))],Af⟩) (Xi (fun p=>s.length-p.1.1) (Yi (Xi ⟨(0,[]),AE _,rfl⟩ ?_) ?_)))
   .exact⟨Z5,Z1,Fh,Tv⟩
   intro⟨⟨k,j⟩,k1,k2⟩;have k2:(BQ (s.take k)).length+j.length=k:=k2;have CL:=j9 s j k k1 k2;have Ut:(DW (l.take i)).length=((arr2 s j k).map AC).length:=by rw[Lm,CL,Sa]
   refine Yi ?_ ?_
   .intro h2;have h2:(k:Int)<(DW (l.take i)).length:=h2;have hk:k<s.length:=by omega
    have rp:=Ed (enc:=AC) (oJ s j k hk k2);refine Yi ⟨by show(0:Int)<=k;omega,by show(k:Int)<_;omega⟩ ?_;refine Yi Ut (Xi (AC s[k]) (Yi rp (Yi (Nz rfl) (yN ?_))));have hr:=UO s k k1;refine B8 (Nat.eq_zero_or_pos k) (fun k0=>?_) (fun k0=>?_)
    .refine Yi ?_ ?_
     .intro h4;have h4:(0:Int)<k:=h4;omega
     .intro _;refine Yi Wk ?_;have Ku:LC (BQ (s.take k)) s[k]=s[k]::BQ (s.take k):=by subst k0;rfl
      have jM:(BQ (s.take k)).length<(arr2 s j k).length:=by omega
      have hz:=Ed (enc:=AC) (Ge jM);refine Yi (Nz rfl) (Yi ⟨by show(0:Int)<=((BQ (s.take k)).length:Int);omega,by show((BQ (s.take k)).length:Int)<_;omega⟩ ?_);refine Yi Ut (Xi (AC (arr2 s j k)[(BQ (s.take k)).length]) (Yi hz (yN (Yi (by show A7 (((BQ (s.take k)).length:Int)+1);unfold A7;omega) ?_))));refine Yi (Ii k ch) ?_;have hm:=GN s k hk;have e1:vi (((BQ (s.take k)).length:Int)+1)=vi (BQ (s.take (k+1))).length:=by rw[hm,Ku];simp
      have e2:HO.arr 2 (((arr2 s j k).map AC).set (BQ (s.take k)).length [vi s[k].1,vi s[k].2])=MG (arr2 s (j++[s[k]]).tail (k+1)):=by rw[<-Wm s j k hk Ku];simp only[MG,Oh]
      refine Xi ⟨(k+1,(j++[s[k]]).tail),by show k+1<=s.length;omega,by show(BQ (s.take (k+1))).length+((j++[s[k]]).tail).length=k+1;rw[hm,Ku];simp;omega⟩ ?_;exact⟨Dl s.length k ch,⟨Zr,⟨e1,rfl⟩,Zr,Zr,Zr,Tv⟩,⟨⟨e2,rfl⟩,Tv⟩,Fh,Tv⟩
    .refine Yi ?_ ?_
     .intro _;obtain⟨y,t,e⟩:∃y t,BQ (s.take k)=y::t:=by
       cases hc:BQ (s.take k)with
       |nil=>have:=hr.2 k0;rw[hc]at this;simp at this
       |cons y t=>exact⟨y,t,rfl⟩
      have ht:(((BQ (s.take k)).length:Int)-1).toNat=t.length:=by rw[e];simp
      have hy:((arr2 s j k).map AC)[(((BQ (s.take k)).length:Int)-1).toNat]?=some (AC y):=by rw[ht];exact Ed (gv s j k e)
      refine Yi (by show A7 (((BQ (s.take k)).length:Int)-1);unfold A7;omega) ?_;have cH:=hr.2 k0;refine Yi ⟨by show(0:Int)<=((BQ (s.take k)).length:Int)-1;omega,by show((BQ (s.take k)).length:Int)-1<_;omega⟩ ?_;refine Yi Ut (Xi (AC y) (Yi hy (Yi ?_ ?_)))
      .intro h5;refine Yi Wk (Yi (by show A7 (((BQ (s.take k)).length:Int)-1);unfold A7;omega) (Yi (by show A7 (((BQ (s.take k)).length:Int)-1);unfold A7;omega) ?_));refine Yi ⟨by show(0:Int)<=((BQ (s.take k)).length:Int)-1;omega,by show((BQ (s.take k)).length:Int)-1<_;omega⟩ ?_;refine Yi Ut (Xi (AC y) (Yi hy (Yi ⟨by show(0:Int)<=((BQ (s.take k)).length:Int)-1;omega,by show((BQ (s.take k)).length:Int)-1<_;omega⟩ ?_)));refine Yi Ut (Xi (AC y) (Yi hy (yN (Yi Wk (Yi (Ii k ch) ?_)))));have hm:=GN s k hk;have Ku:LC (BQ (s.take k)) s[k]=(y.1,max y.2 s[k].2)::t:=by rw[e];show(if s[k].1<=y.2 then _ else _)=_;rw[Al h5]
       have e1:vi (BQ (s.take k)).length=vi (BQ (s.take (k+1))).length:=by rw[hm,Ku,e];simp
       have e2:HO.arr 2 (((arr2 s j k).map AC).set (((BQ (s.take k)).length:Int)-1).toNat [vi y.1,vi (max y.2 s[k].2)])=MG (arr2 s (j++[s[k]]) (k+1)):=by rw[<-gu s j k hk e h5,ht];simp only[MG,Oh]
       refine Xi ⟨(k+1,j++[s[k]]),by show k+1<=s.length;omega,by show(BQ (s.take (k+1))).length+(j++[s[k]]).length=k+1;rw[hm,Ku,Ac,Bb];rw[e]at k2;simp only[Ak]at k2⊢;omega⟩ ?_;exact⟨Dl s.length k ch,⟨Zr,⟨e1,rfl⟩,Zr,Zr,Zr,Tv⟩,⟨⟨e2,rfl⟩,Tv⟩,Fh,Tv⟩
      .intro h5;refine Yi Wk ?_;have Ku:LC (BQ (s.take k)) s[k]=s[k]::BQ (s.take k):=by rw[e];show(if s[k].1<=y.2 then _ else _)=_;rw[Ai h5]
       have jM:(BQ (s.take k)).length<(arr2 s j k).length:=by omega
       have hz:=Ed (enc:=AC) (Ge jM);refine Yi (Nz rfl) (Yi ⟨by show(0:Int)<=((BQ (s.take k)).length:Int);omega,by show((BQ (s.take k)).length:Int)<_;omega⟩ ?_);refine Yi Ut (Xi (AC (arr2 s j k)[(BQ (s.take k)).length]) (Yi hz (yN (Yi (by show A7 (((BQ (s.take k)).length:Int)+1);unfold A7;omega) ?_))));refine Yi (Ii k ch) ?_;have hm:=GN s k hk;have e1:vi (((BQ (s.take k)).length:Int)+1)=vi (BQ (s.take (k+1))).length:=by rw[hm,Ku];simp
       have e2:HO.arr 2 (((arr2 s j k).map AC).set (BQ (s.take k)).length [vi s[k].1,vi s[k].2])=MG (arr2 s (j++[s[k]]).tail (k+1)):=by rw[<-Wm s j k hk Ku];simp only[MG,Oh]
       refine Xi ⟨(k+1,(j++[s[k]]).tail),by show k+1<=s.length;omega,by show(BQ (s.take (k+1))).length+((j++[s[k]]).tail).length=k+1;rw[hm,Ku];simp;omega⟩ ?_;exact⟨Dl s.length k ch,⟨Zr,⟨e1,rfl⟩,Zr,Zr,Zr,Tv⟩,⟨⟨e2,rfl⟩,Tv⟩,Fh,Tv⟩
     .intro h4;have h4:¬(0:Int)<k:=h4;omega
   .intro h2;have h2:¬(k:Int)<(DW (l.take i)).length:=h2;have hk:k=s.length:=by omega
    have hr:=UO s k k1;have lI:((((arr2 s j k).map AC).take ((BQ (s.take k)).length:Int).toNat).drop 0)=(canon l).map AC:=by
     rw[List.drop_zero,Cb,<-SA,<-fin];unfold arr2
     have:(BQ (s.take k)).length=(BQ (s.take k)).reverse.length:=by rw[DD]
     rw[this,List.take_left,hk,B4]
    refine Yi ⟨Ut,by show(0:Int)<=0;omega,by show(0:Int)<=((BQ (s.take k)).length:Int);omega,by show((BQ (s.take k)).length:Int)<=(((arr2 s j k).map AC).length:Int);omega,.inr ⟨rfl,by simp⟩⟩ ?_;exact .of_eq (Aa (AV.slice .none) lI)
end Go.Eng
namespace Go.Eng
open Go.Proofs Go.Sort
variable {m:List (Int×Int)}{S:Bu}(zs:List Int)(z:Int)
abbrev G0:List AV:=[vi z]
theorem Rk{α:Type}[Inhabited α](enc:α->Value)(w:World)(b:Nat)(d:Array α):putRow enc w b 0 d=putRow id w b 0 (d.map enc):=by
 unfold putRow
 congr 1
 funext c
 unfold putCells;apply OS
 .simp
 .intro i h1 h2;simp only[Array.getElem_mapIdx,Array.size_map]
  by_cases h:i<d.size
  .rw[Al ch,Al ch];rw[DR d (i-0) ch,DR (d.map enc) (i-0) (by simpa using h)];simp
  .rw[Ai ch,Ai ch]
theorem WI:(zs.map G0).flatten=(zs.map fun z=>Value.int .i64 z).map AV.v:=by
 induction zs with
 |nil=>rfl
 |cons z zs ih=>rw[AI,BB,ih];rfl
theorem NJ(g:Gh)(w:World)(U:Nat->Prop)(vs:List Value)(h:∀x∈vs,x.oneCell'=true):CO g w U (vs.map .v) vs :=
 ⟨by simp,h,fun i av x q1 q2=>by
  rw[AG,q2]at q1;cases q1;exact .v _ _⟩
theorem Mb{g:Gh}{w:World}{U:Nat->Prop}{vs us:List Value}(h:CO g w U (vs.map .v) us):us=vs:=by
 apply Do;intro i;have hl:=h.1;rw[Lm]at hl
 by_cases hi:i<vs.length
 .have:=h.2.2 i (.v vs[i]) us[i] (by rw[AG,Ge hi];rfl) (Ge ch)
  rw[Ge hi,Ge ch,this.v_eq]
 .rw[A6 ch,A6 ch]
theorem Aaw(hl:B9 zs)(Dy:zs≠[]) :
  A9 Tryz.prog 366 [.msl 1000 zs.length] (Ao [(1000,.arr 1 (zs.map G0))] Af) fun r h' =>
   r=.tup []/\∃l' : List Int,(l'.Perm zs/\l'.Pairwise fun a b=>a<=b)/\h'=Ao [(1000,.arr 1 (l'.map G0))] Af:=by
 have hE:FQ Tryz.prog 366:=Zy 366 Tryz.func366 Wk rfl;have HT:=QF (P:=Tryz.prog) (f:=366) (es:=zs.map G0) (sz:=1) (rest:=[]) (Q:=fun FP=>∃l' : List Int,(l'.Perm zs/\l'.Pairwise fun a b=>a<=b)/\FP=l'.map G0) hE ?_ ?_
 .rw[Lm]at HT;refine⟨hE,fun g w vals q1 q2 q3=>(HT.2 g w vals q1 q2 q3).mono fun _ _ ⟨v,r,h',g',e1,⟨e2,FP,⟨l',p1,p2⟩,p3⟩,rest⟩=>⟨v,r,h',g',e1,⟨e2,l',p1,by rw[p3,p2]⟩,rest⟩⟩
 .intro e
  have:zs=[]:=by simpa using e
  exact absurd this Dy
 .intro g w b cap F hr hF hH hb;have wN:F.toList=zs.map fun z=>Value.int .i64 z:=Mb (by rw[<-WI];exact hr);have ll:F=zs.toArray.map fun z=>Value.int .i64 z:=Jf.1 (by rw[wN];simp);have wO:Holds (Value.int .i64) w b 0 zs.toArray:=fun j hj=>by
   have:=hH j (by rw[ll];simpa using hj)
   refine⟨this.1.trans ?_,this.2⟩;rw[ll,DR _ j (by simpa using hj),DR _ j hj];simp
  have hc:=Any.slices_Sort_int Tryz.laySortInts b 0 cap zs w wO hb ch;rw[Lm];refine hc.mono ?_
  rintro e w' ⟨rfl,n,os,rfl⟩
  have Ju:(zs.mergeSort fun x y=>decide (x<=y)).Perm zs:=NT _ _;have CL:=Ju.length_eq;refine⟨rfl,(zs.mergeSort fun x y=>decide (x<=y)).toArray.map fun z=>Value.int .i64 z,(zs.mergeSort fun x y=>decide (x<=y)).map G0,n,os,?_,⟨_,⟨Ju,?_⟩,rfl⟩,by simp[CL],fun cs hcs=>?_,fun g w _=>?_,by rw[Rk]⟩
  .rw[ll];simp[CL]
  .have:=Ky (le:=fun x y:Int=>decide (x<=y)) (fun a b c h1 h2=>by simp only[AA]at *;omega) (fun a b=>by simp only[CJ,AA];omega) zs
   exact this.imp fun h=>AU h
  .obtain⟨x,_,rfl⟩:=Ag.1 hcs;rfl
  .rw[WI];have e:((zs.mergeSort fun x y=>decide (x<=y)).toArray.map fun z=>Value.int .i64 z).toList=(zs.mergeSort fun x y=>decide (x<=y)).map fun z=>Value.int .i64 z:=by simp
   rw[e];exact NJ _ _ _ _ fun x hx=>by
    obtain⟨z,_,rfl⟩:=Ag.1 hx;rfl
-- maps from numbers to numbers
abbrev YK:E2:=⟨false,[.int .i64]⟩
abbrev kI:Value:=.int .i64 z
abbrev MY(p:Int×Int):Value×AV:=(kI p.1,vi p.2)
abbrev GI(s:Bu):List AV:=[sl AC s]
theorem Te{k:Int}{a:AV}:(kI k,a)∈m.map MY↔∃v,(k,v)∈m/\a=vi v:=by
 rw[Ag];constructor
 .rintro⟨⟨k',v⟩,h1,h2⟩
  simp only[F4,Value.int.injEq,true_and]at h2;obtain⟨rfl,rfl⟩:=h2;exact⟨v,h1,rfl⟩
 .rintro⟨v,h1,rfl⟩
  exact⟨(k,v),h1,rfl⟩
theorem Th(m:List (Int×Int))(k v:Int):EX (m.map MY) (kI k) (vi v)=(L9 m k v).map MY:=by
 unfold L9
 by_cases h:(m.any fun p=>decide (p.1=k))=true
 .rw[Al h];obtain⟨p,h1,h2⟩:=Bd.1 h;have h2:=AU h2
  have:(kI k,vi p.2)∈m.map MY:=Te.2 ⟨p.2,by rw[<-h2];exact h1,rfl⟩
  rw[Ny this,Bo,Bo];apply Bh;intro q _;simp only[Function.comp]
  by_cases e:q.1=k
  .simp[e]
  .have:¬kI q.1=kI k:=fun c=>e (by injection c)
   simp[e]
 .rw[Ai h]
  have:∀b,(kI k,b)∉m.map MY:=fun b hb=>by
   obtain⟨v,h1,_⟩:=Te.1 hb;exact h (Bd.2 ⟨(k,v),h1,by simp⟩)
  rw[IL this,Ar];rfl
theorem PL{T:GU}{e:Nat}{B7:List (Value×AV)}{kx:Value}{K:AV->Prop}(a0 z0:AV)(h1:∀a,(kx,a)∈B7->a=a0)(hz:(∀a,(kx,a)∉B7)->a0=z0)(h2:K z0->K6 T e K)(k:K a0) :
  (∀a,(kx,a)∈B7->K a)/\((∀a,(kx,a)∉B7)->K6 T e K):=⟨fun a h=>by rw[h1 a h];exact k,fun hn=>h2 (hz hn▸k)⟩
theorem RD(m:List (Int×Int))(k:Int):(∀a,(kI k,a)∉m.map MY)->vi (FB m k)=vi 0:=fun NO=>by
 rw[nE fun hk=>by
  obtain⟨p,hp,e⟩:=Ag.1 hk;exact NO (vi p.2) (Te.2 ⟨p.2,by rw[<-e];exact hp,rfl⟩)]
theorem RC(hn:(Fp m).Nodup)(k:Int):∀a,(kI k,a)∈m.map MY->a=vi (FB m k):=fun a h=>by
 obtain⟨v,h1,rfl⟩:=Te.1 h;rw[nD hn h1]
theorem Jo.bound(h:Jo m S)(k:Int):-(S.length:Int)<=FB m k/\FB m k<=S.length:=by
 rw[h.val]
 have:cF S k<=S.length:=List.countP_le_length
 have:cT S k<=S.length:=List.countP_le_length
 omega
theorem cj(l:List Bu):(l.map canon).flatten.length<=l.length*1000000:=by
 induction l with
 |nil=>simp
 |cons s l ih =>
  rw[AI,BB,Ac,Ak]
  have:=IF (Cv s)
  omega
theorem Jo.few(h:Jo m S):m.length<=1000001:=by
 have:=IV (m:=(List.range 1000001).map Int.ofNat) h.nd fun k hk=>by
  have:=h.rng k hk
  exact Ag.2 ⟨k.toNat,Gi.2 ch,by show(k.toNat:Int)=k;omega⟩
 unfold Fp at this;rw[Lm,Lm,La]at this;exact this
theorem WR(keep:Nat->Bool)(m:List (Int×Int))(B:List Int):∀n,(EN keep m B n).length<=n
 |0=>Aj _
 |n+1=>by
  unfold EN
  have:=WR keep m B n
  rw[Ac];split
  .split<;>simp<;>omega
  .simp;omega
end Go.Eng
namespace Go.Eng
open Go.Proofs
variable {m:List Tm}{α:Type}(u:Tm)(n:Int)(l:List Tm)(p:ByteArray)(x:α)(s:Bu)(q:Rq)(t:Tm)
abbrev plC:SB:=⟨[],[(12,2)],[(44,1)],[],[],[],[],[],[],[],[8,9,15,23,25,26]⟩
theorem sL(F:AV)(keep:Nat->Bool)(l:List Bu)(hl:B9 l)(hs:∀s∈l,B9 s)(hid:∀h,VQ h F=true)(hF:∀h (n:Int),0<=n->n<=l.length->QD Tryz.prog (str h F) [vi n] (vb (keep n.toNat)))
  (R:Bu) (hR:EZ R) (hRh:∀p,has R p=(Mx p&&keep (jG l p))):PC 341 [F,sl GI l] (sl AC R):=by
 refine Ps plC Tryz.func341 rfl (Nz rfl) (Xi {p:Nat×List (Int×Int) // p.1<=l.length/\Jo p.2 ((l.take p.1).map canon).flatten} (Xi (fun p=>⟨[(0,F),(5,.mref 15),(17,sl GI l),(18,vi (l.map GI).length),(19,vi p.1.1)],[(15,.map YK (p.1.2.map MY))],Af⟩) (Xi (fun p=>l.length-p.1.1) (Yi (Xi ⟨(0,ww),AE _,o5⟩ ?_) ?_))))
 .have e0:HO.map YK (EX (EX [] (kI 0) (vi 0)) (kI 1000000) (vi 0))=.map YK (ww.map MY):=by
   have e1:=Th [] 0 0;have e2:=Th [(0,0)] 1000000 0;show HO.map YK (EX (EX (List.map MY []) (kI 0) (vi 0)) (kI 1000000) (vi 0))=_;rw[e1];show HO.map YK (EX (List.map MY [(0,0)]) (kI 1000000) (vi 0))=_;rw[e2];rfl
  exact⟨⟨⟨rfl,hid _⟩,Zr,Zr,Zr,Zr,Tv⟩,⟨⟨e0,rfl⟩,Tv⟩,Fh,Tv⟩
 intro⟨⟨i,cm⟩,i1,i2⟩;refine Yi ?_ ?_
 .intro h;have h:i<l.length:=by simpa using h
  have hg:l[i]?=some l[i]:=Ge h;refine Xi (GI l[i]) (Yi (Yi (Nn i) (by simp[hg])) (Yi rfl ?_));refine Xi .pure (Xi _ (Yi (XV l[i] (hs _ (Aq h))) (Xi {p:Nat×List (Int×Int) // p.1<=(canon l[i]).length/\Jo p.2 (((l.take i).map canon).flatten++(canon l[i]).take p.1)} (Xi (fun p=>⟨[(0,F),(5,.mref 15),(17,sl GI l),(18,vi (l.map GI).length),(19,vi i),(24,sl AC (canon l[i])),(25,vi ((canon l[i]).map AC).length),(26,vi p.1.1)],[(15,.map YK (p.1.2.map MY))],Af⟩) (Xi (fun p=>(canon l[i]).length-p.1.1) (Yi (Xi ⟨(0,cm),AE _,by rw[List.take_zero,BP];exact i2⟩ ?_) ?_))))))
  .exact⟨⟨⟨rfl,hid _⟩,Zr,Zr,Zr,Zr,Zr,Zr,Zr,Tv⟩,Z1,Fh,Tv⟩
  intro⟨⟨j,dm⟩,j1,j2⟩;have j2:Jo dm (((l.take i).map canon).flatten++(canon l[i]).take j):=j2;have hS:(((l.take i).map canon).flatten++(canon l[i]).take j).length<=1073741825000000:=by
   have a1:=cj (l.take i);have a2:=IF (Cv l[i]);rw[Av]at a1;rw[Ac,Av];omega
  refine Yi ?_ ?_
  .intro hj;have hj:j<(canon l[i]).length:=by simpa using hj
   have hgj:(canon l[i])[j]?=some (canon l[i])[j]:=Ge hj;have rL:=(Cv l[i]).low _ (Aq hj);have j3:Jo (bh dm (canon l[i])[j]) (((l.take i).map canon).flatten++(canon l[i]).take (j+1)):=by
    have:=jr j2 (x:=(canon l[i])[j]) rL
    rw[BA]at this;rw[Bi,hgj];exact this
   generalize (canon l[i])[j]=x at hgj rL j3;have b1:=j2.bound x.1;have jM:=MX j2.nd x.1 (FB dm x.1+1);refine Xi (AC x) (Yi (Yi (Nn j) (by simp[hgj])) (Yi rfl ?_));refine Yi (Nz rfl) (yN (Xi ⟨[(0,F),(5,.mref 15),(9,.ref 9 0),(17,sl GI l),(18,vi (l.map GI).length),(19,vi i),(24,sl AC (canon l[i])),(25,vi ((canon l[i]).map AC).length),(26,vi j)],[(9,.cells (AC x)),(15,.map YK (dm.map MY))],Af⟩ (Yi ⟨⟨⟨rfl,hid _⟩,Zr,Zr,Zr,Zr,Zr,Zr,Zr,Zr,Tv⟩,Z2,Fh,Tv⟩ (PL (vi (FB dm x.1)) (vi 0) (RC j2.nd x.1) (RD dm x.1) (fun q=>q) (Yi (by show A7 (FB dm x.1+1);unfold A7;omega) ?_)))));have m1:HO.map YK (EX (dm.map MY) (kI x.1) (vi (FB dm x.1+1)))=.map YK ((L9 dm x.1 (FB dm x.1+1)).map MY):=by rw[Th]
   refine Xi ⟨[(0,F),(5,.mref 15),(9,.ref 9 0),(17,sl GI l),(18,vi (l.map GI).length),(19,vi i),(24,sl AC (canon l[i])),(25,vi ((canon l[i]).map AC).length),(26,vi j)],[(9,.cells (AC x)),(15,.map YK ((L9 dm x.1 (FB dm x.1+1)).map MY))],Af⟩ (Yi ⟨⟨⟨rfl,hid _⟩,Zr,Zr,Zr,Zr,Zr,Zr,Zr,Zr,Tv⟩,⟨Zr,⟨m1,rfl⟩,Tv⟩,Fh,Tv⟩ ?_)
   have b2:-(1073741825000001:Int)<=FB (L9 dm x.1 (FB dm x.1+1)) x.2/\FB (L9 dm x.1 (FB dm x.1+1)) x.2<=1073741825000001:=by
    have b3:=j2.bound x.2;rw[Qx];split<;>omega
   refine PL (vi (FB (L9 dm x.1 (FB dm x.1+1)) x.2)) (vi 0) (RC jM x.2) (RD _ x.2) (fun q=>q) (Yi (by show A7 (FB (L9 dm x.1 (FB dm x.1+1)) x.2-1);unfold A7;omega) ?_);have hcl:=IF (Cv l[i]);refine Yi (Ii j ch) ?_;have m2:HO.map YK (EX ((L9 dm x.1 (FB dm x.1+1)).map MY) (kI x.2) (vi (FB (L9 dm x.1 (FB dm x.1+1)) x.2-1)))=.map YK ((bh dm x).map MY):=by rw[Th];rfl
   refine Xi ⟨(j+1,bh dm x),by show j+1<=_;omega,j3⟩ ?_;exact⟨by show(canon l[i]).length-(j+1)<(canon l[i]).length-j;omega,⟨⟨rfl,hid _⟩,Zr,Zr,Zr,Zr,Zr,Zr,Zr,Tv⟩,⟨⟨m2,rfl⟩,Tv⟩,Fh,Tv⟩
  .intro hj;have hj:¬j<(canon l[i]).length:=by simpa using hj
   refine Yi (Ii i ch) ?_;have i3:Jo dm ((l.take (i+1)).map canon).flatten:=by
    have e1:(canon l[i]).take j=canon l[i]:=As ch;rw[e1]at j2;have e2:((l.take (i+1)).map canon).flatten=((l.take i).map canon).flatten++canon l[i]:=by
     rw[Bi,hg,Ar,Cc];show _++(canon l[i]++[])=_;rw[BP]
    rw[e2];exact j2
   refine Xi ⟨(i+1,dm),by show i+1<=_;omega,i3⟩ ?_;exact⟨Dl l.length i ch,⟨⟨rfl,hid _⟩,Zr,Zr,Zr,Zr,Tv⟩,Z1,Fh,Tv⟩
 .intro h;have h:¬i<l.length:=by simpa using h
  have i3:Jo cm (l.map canon).flatten:=by
   rw[As ch]at i2;exact i2
  have AfY:=i3.few;have hmk:(0:Int)<=0/\(0:Int)<=((cm.map MY).length:Int)/\((cm.map MY).length:Int)*((8:Nat):Int)<=140737488355328/\((cm.map MY).length:Int)<=9223372036854775807:=by rw[Lm];omega
  refine Yi hmk (Xi {p:List (Value×AV)×List Int×Option (Value×AV) // ((p.2.1.map kI)++p.1.map (·.1)).Perm ((cm.map MY).map (·.1))/\∀kv∈p.1,kv∈cm.map MY} (Xi (fun p=>⟨[(0,F),(5,.mref 15),(10,.msl 44 p.1.2.1.length),(46,.ref 46 0)],[(15,.rom YK (cm.map MY)),(44,.arr 1 (p.1.2.1.map G0)),(46,.iter (cm.map MY) p.1.1 p.1.2.2)],Af⟩) (Xi (fun p=>p.1.1.length) (Yi (Xi ⟨(cm.map MY,[],none),.refl _,fun _ h=>h⟩ ?_) ?_))))
  .exact⟨⟨⟨rfl,hid _⟩,Zr,Zr,Zr,Tv⟩,Z3,Fh,Tv⟩
  intro⟨⟨rem,bs,EC⟩,r1,r2⟩;have hbl:bs.length<=1000001:=by
   have:=r1.length_eq
   simp only[Ac,Lm]at this;omega
  refine Yi ?_ ?_
  .intro hr;subst hr;rw[E0,BP,Bo]at r1;have YX:bs.Perm (Fp cm):=by
    have r1:(bs.map kI).Perm ((Fp cm).map kI):=by unfold Fp;rw[Bo];exact r1
    have:=r1.map (fun v:Value=>match v with | .int _ n=>n | _=>0)
    rw[Bo,Bo]at this;have e:((fun v:Value=>match v with | .int _ n=>n | _=>0) ∘ kI)=id:=rfl;rw[e,F3,F3]at this;exact this
   have Dy:bs≠[]:=fun e=>by
    subst e
    have:=YX.length_eq
    have h0:=i3.keys.1;rw[AP this.symm]at h0;cases h0
   refine Xi (.gen [(44,1000)] 0) (Yi rfl ((Aaw bs (by unfold B9;omega) Dy).to ?_));intro B wM;have pm:B.length=bs.length:=wM.1.length_eq;have hBn:B.Nodup:=(wM.1.trans YX).nodup_iff.2 i3.nd;have hB:oC B cm:=⟨wM.1.trans YX,by
    rw[AX];intro a b ha hb cw;have h1:=(AX.1 wM.2) a b ha hb cw;have h2:B[a]≠B[b]:=(AX.1 hBn) a b ha hb cw;omega⟩
   have AdT:0<B.length:=by
    rw[pm];exact He.2 Dy
   have hNE:bs.length=(B.map G0).length:=by rw[Lm,pm]
   refine Yi (by show A7 ((bs.length:Int)-1);unfold A7;omega) (Xi {k:Nat // k<=B.length-1} (Xi (fun k=>⟨[(0,F),(5,.mref 15),(10,.msl 44 bs.length),(12,.slice (.id 12 2) ((EN keep cm B k.1).map AC)),(13,vi (Jc cm (B.take k.1))),(59,vi ((bs.length:Int)-1)),(60,vi k.1)],[(12,.tok 2 ((EN keep cm B k.1).map AC).length),(15,.rom YK (cm.map MY)),(44,.arr 1 (B.map G0))],Af⟩) (Xi (fun k=>B.length-k.1) (Yi (Xi ⟨0,AE _⟩ ?_) ?_))))
   .exact⟨⟨⟨rfl,hid _⟩,Zr,Zr,Zr,Zr,Zr,Zr,Tv⟩,Z3,Fh,Tv⟩
   intro⟨k,k1⟩;have vF:=WR keep cm B k;refine Yi ?_ ?_
   .intro hk;have hk:(k:Int)<(bs.length:Int)-1:=hk;have IH:k+1<B.length:=by omega
    have cC:k<B.length:=by omega
    have rp:(B.map G0)[k]?=some (G0 B[k]):=Ed (Ge cC);have Abo:(B.map G0)[k+1]?=some (G0 B[k+1]):=Ed (Ge IH);have VN:=RA cm B k cC;have xF:=np i3 hB k cC;have Us:EN keep cm B (k+1)=EN keep cm B k++(if keep (Jc cm (B.take (k+1))).toNat then [(B[k],B[k+1])]else []):=by
     show _++(match B[k]?,B[k+1]? with | some a,some b=>if keep (Jc cm (B.take (k+1))).toNat then [(a,b)]else [] | _,_=>[])=_;rw[Ge cC,Ge IH]
    refine Xi ⟨[(0,F),(5,.mref 15),(10,.msl 44 bs.length),(12,.slice (.id 12 2) ((EN keep cm B k).map AC)),(13,vi (Jc cm (B.take k))),(14,vi k),(59,vi ((bs.length:Int)-1)),(60,vi k)],[(12,.tok 2 ((EN keep cm B k).map AC).length),(15,.rom YK (cm.map MY)),(44,.arr 1 (B.map G0))],Af⟩ (Yi ⟨⟨⟨rfl,hid _⟩,Zr,Zr,Zr,Zr,Zr,Zr,Zr,Tv⟩,Z3,Fh,Tv⟩ (Yi ⟨by show(0:Int)<=k;omega,by show(k:Int)<bs.length;omega⟩ ?_));refine Yi hNE (Xi (G0 B[k]) (Yi rp (PL (vi (FB cm B[k])) (vi 0) (RC i3.nd B[k]) (RD cm B[k]) (fun q=>q) (Yi (by show A7 (Jc cm (B.take k)+FB cm B[k]);rw[<-VN];unfold A7;omega) ?_))));have Ca:∀h,QD Tryz.prog (str h F) [vi (Jc cm (B.take k)+FB cm B[k])] (vb (keep (Jc cm (B.take (k+1))).toNat)):=fun h=>by
     rw[<-VN];exact hF h _ xF.1 xF.2
    refine B8 (Bt (keep (Jc cm (B.take (k+1))).toNat)) (fun hp=>?_) (fun hp=>?_)
    .rw[hp]at Ca;rw[hp,Al rfl]at Us;refine Xi .pure (Xi (vb true) (Yi (Ca _) (Xi ⟨[(0,F),(5,.mref 15),(10,.msl 44 bs.length),(12,.slice (.id 12 2) ((EN keep cm B k).map AC)),(13,vi (Jc cm (B.take k)+FB cm B[k])),(14,vi k),(59,vi ((bs.length:Int)-1)),(60,vi k)],[(12,.tok 2 ((EN keep cm B k).map AC).length),(15,.rom YK (cm.map MY)),(44,.arr 1 (B.map G0))],Af⟩ (Yi ⟨⟨⟨rfl,hid _⟩,Zr,Zr,Zr,Zr,Zr,Zr,Zr,Tv⟩,Z3,Fh,Tv⟩ ?_))))
     have b1:(0:Int)<=(k:Int)+1/\(k:Int)+1<bs.length:=by omega
     have Abp:(B.map G0)[((k:Int)+1).toNat]?=some (G0 B[k+1]):=by rw[show((k:Int)+1).toNat=k+1 by omega];exact Abo
     refine Yi ⟨by show(0:Int)<=k;omega,by show(k:Int)<bs.length;omega⟩ ?_;refine Yi hNE (Xi (G0 B[k]) (Yi rp (Yi (Ii k ch) (Yi b1 (Yi hNE (Xi (G0 B[k+1]) (Yi Abp ?_)))))));have Ho:Cn 2 [[vi B[k],vi B[k+1]]]/\((EN keep cm B k).map AC).length=((EN keep cm B k).map AC).length/\(((EN keep cm B k).map AC).length+[[vi B[k],vi B[k+1]]].length)*16<=140737488355328/\((EN keep cm B k).map AC).length+[[vi B[k],vi B[k+1]]].length<=9223372036854775807 :=
      ⟨⟨rfl,trivial⟩,rfl,by rw[Lm,Bb];omega,by rw[Lm,Bb];omega⟩
     refine Yi Ho (Yi Wk (Xi ⟨[(0,F),(5,.mref 15),(10,.msl 44 bs.length),(12,.slice (.id 12 2) ((EN keep cm B k).map AC++[[vi B[k],vi B[k+1]]])),(13,vi (Jc cm (B.take k)+FB cm B[k])),(59,vi ((bs.length:Int)-1)),(60,vi k)],[(12,.tok 2 (((EN keep cm B k).map AC).length+[[vi B[k],vi B[k+1]]].length)),(15,.rom YK (cm.map MY)),(44,.arr 1 (B.map G0))],Af⟩ (Yi ⟨⟨⟨rfl,hid _⟩,Zr,Zr,Zr,Zr,Zr,Zr,Tv⟩,Z3,Fh,Tv⟩ (Yi (Ii k ch) (Xi ⟨k+1,by omega⟩ ?_)))));have e1:AV.slice (.id 12 2) ((EN keep cm B k).map AC++[[vi B[k],vi B[k+1]]])=.slice (.id 12 2) ((EN keep cm B (k+1)).map AC):=by rw[Us,Ar];rfl
     have e2:vi (Jc cm (B.take k)+FB cm B[k])=vi (Jc cm (B.take (k+1))):=by rw[VN]
     have e3:HO.tok 2 (((EN keep cm B k).map AC).length+[[vi B[k],vi B[k+1]]].length)=.tok 2 ((EN keep cm B (k+1)).map AC).length:=by rw[Us,Ar,Ac];rfl
     exact⟨Dl B.length k ch,⟨⟨rfl,hid _⟩,Zr,Zr,⟨e1,rfl⟩,⟨e2,rfl⟩,Zr,Zr,Tv⟩,⟨⟨e3,rfl⟩,Zr,Zr,Tv⟩,Fh,Tv⟩
    .rw[hp]at Ca;have Us:EN keep cm B (k+1)=EN keep cm B k:=by rw[Us,hp,Ai Ko,BP]
     refine Xi .pure (Xi (vb false) (Yi (Ca _) (Xi ⟨[(0,F),(5,.mref 15),(10,.msl 44 bs.length),(12,.slice (.id 12 2) ((EN keep cm B k).map AC)),(13,vi (Jc cm (B.take k)+FB cm B[k])),(59,vi ((bs.length:Int)-1)),(60,vi k)],[(12,.tok 2 ((EN keep cm B k).map AC).length),(15,.rom YK (cm.map MY)),(44,.arr 1 (B.map G0))],Af⟩ (Yi ⟨⟨⟨rfl,hid _⟩,Zr,Zr,Zr,Zr,Zr,Zr,Tv⟩,Z3,Fh,Tv⟩ (Yi (Ii k ch) (Xi ⟨k+1,by omega⟩ ?_))))));have e1:AV.slice (.id 12 2) ((EN keep cm B k).map AC)=.slice (.id 12 2) ((EN keep cm B (k+1)).map AC):=by rw[Us]
     have e2:vi (Jc cm (B.take k)+FB cm B[k])=vi (Jc cm (B.take (k+1))):=by rw[VN]
     have e3:HO.tok 2 ((EN keep cm B k).map AC).length=.tok 2 ((EN keep cm B (k+1)).map AC).length:=by rw[Us]
     exact⟨Dl B.length k ch,⟨⟨rfl,hid _⟩,Zr,Zr,⟨e1,rfl⟩,⟨e2,rfl⟩,Zr,Zr,Tv⟩,⟨⟨e3,rfl⟩,Zr,Zr,Tv⟩,Fh,Tv⟩
   .intro hk;have hk:¬(k:Int)<(bs.length:Int)-1:=hk;have IH:k=B.length-1:=by omega
    have Abt:canon (EN keep cm B k)=R:=by
     refine(TX hR fun p=>?_).symm;rw[IH,hRh,lY i3 hB]
    have hc:=XV (EN keep cm B k) (by unfold B9;omega);rw[Abt]at hc;refine Xi .pure (Xi _ (Yi hc ?_));exact .refl _
  .intro kv Ma hp;refine CN (Ag.1 (r2 kv (hp.mem_iff.2 (Ab ..)))) (fun q hq=>?_);have hq2:=hq.2;subst hq2;refine Xi ⟨[(0,F),(5,.mref 15),(10,.msl 44 bs.length),(46,.ref 46 0)],[(15,.rom YK (cm.map MY)),(44,.arr 1 (bs.map G0)),(46,.iter (cm.map MY) Ma (some (MY q)))],Af⟩ (Yi ⟨⟨⟨rfl,hid _⟩,Zr,Zr,Zr,Tv⟩,Z3,Fh,Tv⟩ ?_)
   have Ho:Cn 1 [G0 q.1]/\(bs.map G0).length=bs.length/\((bs.map G0).length+[G0 q.1].length)*8<=140737488355328/\(bs.map G0).length+[G0 q.1].length<=9223372036854775807 :=
    ⟨⟨rfl,trivial⟩,by rw[Lm],by rw[Lm,Bb];omega,by rw[Lm,Bb];omega⟩
   refine Yi Ho ?_;have e1:AV.msl 44 ((bs.map G0).length+[G0 q.1].length)=.msl 44 (bs++[q.1]).length:=by simp
   have e2:HO.arr 1 (bs.map G0++[G0 q.1])=.arr 1 ((bs++[q.1]).map G0):=by simp
   refine Xi ⟨(Ma,bs++[q.1],some (MY q)),?_,fun kv QB=>r2 kv (hp.mem_iff.2 (Ah _ QB))⟩ ?_
   .show(((bs++[q.1]).map kI)++Ma.map (·.1)).Perm _;have h1:=hp.map (fun x:Value×AV=>x.1);rw[AI]at h1;rw[Ar,BA];exact(Iw _ h1.symm).trans r1
   .exact⟨by show Ma.length<rem.length;rw[hp.length_eq];simp,⟨⟨rfl,hid _⟩,Zr,⟨e1,rfl⟩,Zr,Tv⟩,⟨Zr,⟨e2,rfl⟩,Zr,Tv⟩,Fh,Tv⟩
theorem Aap(l:List Bu):PC 377 [vi n,.cptr [sl GI l]] (vb (decide (n=l.length))):=by
 refine Ps Ee Tryz.func377 rfl (Nz rfl) ?_;have e:((l.map GI).length:Int)=l.length:=by rw[Lm]
 refine Yi ?_ ?_
 .intro h;rw[show decide (n=(l.length:Int))=true from Ax (h.trans e)];exact .refl _
 .intro h;rw[show decide (n=(l.length:Int))=false from AB (fun c=>h (c.trans e.symm))];exact .refl _
theorem Aar:PC 342 [vi n] (vb (decide (n=0))):=by
 refine Ps Ee Tryz.func342 rfl (Nz rfl) (Yi ?_ ?_)
 .intro h;rw[Ax h];exact .refl _
 .intro h;rw[AB h];exact .refl _
theorem AaP:PC 369 [vi n] (vb (decide (0<n))):=by
 refine Ps Ee Tryz.func369 rfl (Nz rfl) (Yi ?_ ?_)
 .intro h;rw[Ax h];exact .refl _
 .intro h;rw[AB h];exact .refl _
theorem lW(l:List Bu)(p:Int):decide (jG l p=l.length)=l.all fun s=>has s p:=by
 unfold jG;rw[B1,AA,List.countP_eq_length,Bc]
theorem lX(l:List Bu)(p:Int):decide (0<jG l p)=l.any fun s=>has s p:=by
 unfold jG;rw[B1,AA,List.countP_pos_iff,Bd]
theorem Aah(l:List Bu)(hl:B9 l)(hs:∀s∈l,B9 s):PC 367 [sl GI l] (sl AC (QY l)):=by
 have hc:=sL (.clo 377 [.cptr [sl GI l]]) (fun n=>decide (n=l.length)) l hl hs (fun _=>rfl) (fun h n h0 _=>by
  have:=Aap n l
  have e:decide (n=(l.length:Int))=decide (n.toNat=l.length):=by rw[decide_eq_decide];omega
  rw[e]at this;exact this) (QY l) (Ys l) fun p=>by rw[Un,lW]
 refine Ps (ox [1]) Tryz.func367 rfl (Nz rfl) (Xi .pure (Xi _ (Yi (hc) ?_)));exact .refl _
theorem sH(hs:B9 s):PC 310 [sl AC s] (sl AC (ES s)):=by
 have hc:=sL (.v (Yb 342)) (fun n=>decide (n=0)) [s] (by unfold B9;simp) (fun t ht=>by rw[Ap.1 ht];exact hs) (fun _=>rfl) (fun h n h0 _=>by
  have:=Aar n
  have e:decide (n=0)=decide (n.toNat=0):=by rw[decide_eq_decide];omega
  rw[e]at this;exact this) (ES s) (HN s) fun p=>by
   rw[FV]
   have:jG [s] p=if has s p then 1 else 0:=by unfold jG;rw[Jh];simp
   rw[this];cases has s p<;>rfl
 refine Ps Ee Tryz.func310 rfl (Nz rfl) (Xi .pure (Xi _ (Yi (hc) ?_)));exact .refl _
theorem AaM(l:List Bu)(hl:B9 l)(hs:∀s∈l,B9 s):PC 352 [sl GI l] (sl AC (RB l)):=by
 have hc:=sL (.v (Yb 369)) (fun n=>decide (0<n)) l hl hs (fun _=>rfl) (fun h n h0 _=>by
  have:=AaP n
  have e:decide (0<n)=decide (0<n.toNat):=by rw[decide_eq_decide];omega
  rw[e]at this;exact this) (RB l) (YM l) fun p=>by
   rw[Uo,lX];cases h:l.any fun s=>has s p with
   |false=>simp
   |true =>
    obtain⟨s,_,h2⟩:=Bd.1 h
    have:=MU h2
    simp[Mx,this]
 refine Ps Ee Tryz.func352 rfl (Nz rfl) (Xi .pure (Xi _ (Yi (hc) ?_)));exact .refl _
-- terms
theorem c59(ht:B9 t.set):PC 348 [.agg (AN t)] (vb (!t.absent&&(canon t.set).isEmpty)):=by
 refine Ps Ee Tryz.func348 rfl (Nz rfl) (Yi ?_ ?_)
 .intro h;rw[h];exact .refl _
 .intro h;refine Xi .pure (Xi _ (Yi (XV t.set ht) (Yi ?_ ?_)))
  .intro h2;have h2:canon t.set=[]:=AP (by rw[Lm]at h2;omega);rw[h,h2];exact .refl _
  .intro h2;have h2:(canon t.set).isEmpty=false:=by
    cases hc:canon t.set with
    |nil=>rw[hc]at h2;exact absurd rfl h2
    |cons _ _=>rfl
   rw[h,h2];exact .refl _
theorem c60(ht:B9 t.set):PC 349 [.agg (AN t)] (vb (t.absent&&(ES t.set).isEmpty)):=by
 refine Ps Ee Tryz.func349 rfl (Nz rfl) (Yi ?_ ?_)
 .intro h;refine Xi .pure (Xi _ (Yi (sH t.set ht) (Yi ?_ ?_)))
  .intro h2;have h2:ES t.set=[]:=AP (by rw[Lm]at h2;omega);rw[h,h2];exact .refl _
  .intro h2;have h2:(ES t.set).isEmpty=false:=by
    cases hc:ES t.set with
    |nil=>rw[hc]at h2;exact absurd rfl h2
    |cons _ _=>rfl
   rw[h,h2];exact .refl _
 .intro h;rw[h];exact .refl _
abbrev Kf(l:List Nat):SB:=⟨[],[],[],[],[],[],[],[],[],[],l⟩
theorem c58(hu:B9 u.set)(ht:B9 t.set):PC 347 [.agg (AN u),.agg (AN t)] (.agg (AN (Hm u t))):=by
 have hc:PC 367 [sl GI [u.set,t.set]] (sl AC (PS u.set t.set)):=Aah [u.set,t.set] (by unfold B9;simp) (fun s hs=>by
  rcases Az.1 hs with rfl | hs
  .exact hu
  .rw[Ap.1 hs];exact ht)
 refine Ps (Kf []) Tryz.func347 rfl (Nz rfl) (Yi ?_ ?_)
 .intro h;refine Yi ?_ ?_
  .intro h2;have e:[vs u.path,vb true,sl AC (PS u.set t.set)]=AN (Hm u t):=by unfold Hm;rw[h,h2];rfl
   refine Xi _ (Yi (hc) (Yi (Nz rfl) (Yi Wk (yN ?_))));exact .of_eq (Aa AV.agg e)
  .intro h2;have e:[vs u.path,vb false,sl AC (PS u.set t.set)]=AN (Hm u t):=by unfold Hm;rw[h,h2];rfl
   refine Xi _ (Yi (hc) (Yi (Nz rfl) (Yi Wk (yN ?_))));exact .of_eq (Aa AV.agg e)
 .intro h;have e:[vs u.path,vb false,sl AC (PS u.set t.set)]=AN (Hm u t):=by unfold Hm;rw[h];rfl
  refine Xi _ (Yi (hc) (Yi (Nz rfl) (Yi Wk (yN ?_))));exact .of_eq (Aa AV.agg e)
theorem AaH(hu:B9 u.set)(ht:B9 t.set):PC 313 [.agg (AN u),.agg (AN t)] (.agg (AN (Dt u t))):=by
 have hc:PC 352 [sl GI [u.set,t.set]] (sl AC (Qw u.set t.set)):=AaM [u.set,t.set] (by unfold B9;simp) (fun s hs=>by
  rcases Az.1 hs with rfl | hs
  .exact hu
  .rw[Ap.1 hs];exact ht)
 refine Ps (Kf []) Tryz.func313 rfl (Nz rfl) (Yi ?_ ?_)
 .intro h;have e:[vs u.path,vb true,sl AC (Qw u.set t.set)]=AN (Dt u t):=by unfold Dt;rw[h];rfl
  refine Xi _ (Yi (hc) (Yi (Nz rfl) (Yi Wk (yN ?_))));exact .of_eq (Aa AV.agg e)
 .intro h;refine Yi ?_ ?_
  .intro h2;have e:[vs u.path,vb true,sl AC (Qw u.set t.set)]=AN (Dt u t):=by unfold Dt;rw[h,h2];rfl
   refine Xi _ (Yi (hc) (Yi (Nz rfl) (Yi Wk (yN ?_))));exact .of_eq (Aa AV.agg e)
  .intro h2;have e:[vs u.path,vb false,sl AC (Qw u.set t.set)]=AN (Dt u t):=by unfold Dt;rw[h,h2];rfl
   refine Xi _ (Yi (hc) (Yi (Nz rfl) (Yi Wk (yN ?_))));exact .of_eq (Aa AV.agg e)
theorem wo(hq:B9 q.set):PC 305 [.agg (Ba q)] (.agg (AN (DV q))):=by
 refine Ps Ee Tryz.func305 rfl (Nz rfl) (Xi _ (Yi (sH q.set hq) (Yi (Nz rfl) (Yi Wk (yN ?_)))));exact .refl _
abbrev Cm:E2:=⟨false,[.str]⟩
abbrev Tf:Value×AV:=(.string t.path,.agg (AN t))
abbrev x9(fin cut:List Nat):SB:=⟨[],[],[],[],fin,[],[],[],[],[],cut⟩
theorem Tg{p:ByteArray}{a:AV}:(Value.string p,a)∈m.map Tf↔∃t∈m,t.path=p/\a=.agg (AN t):=by
 rw[Ag];constructor
 .rintro⟨t,h1,h2⟩
  simp only[F4,Value.string.injEq]at h2;exact⟨t,h1,h2.1,h2.2.symm⟩
 .rintro⟨t,h1,rfl,rfl⟩
  exact⟨t,h1,rfl⟩
theorem me(m:List Tm)(t:Tm):EX (m.map Tf) (.string t.path) (.agg (AN t))=(YD m t).map Tf:=by
 unfold YD
 by_cases h:(m.any fun u=>decide (u.path=t.path))=true
 .rw[Al h];obtain⟨u,h1,h2⟩:=Bd.1 h;have h2:=AU h2
  have:(Value.string t.path,AV.agg (AN u))∈m.map Tf:=Tg.2 ⟨u,h1,h2,rfl⟩
  rw[Ny this,Bo,Bo];apply Bh;intro q _;simp only[Function.comp]
  by_cases e:q.path=t.path
  .simp[e]
  .have:¬Value.string q.path=.string t.path:=fun c=>e (by injection c)
   simp[e]
 .rw[Ai h]
  have:∀b,(Value.string t.path,b)∉m.map Tf:=fun b hb=>by
   obtain⟨u,h1,h2,_⟩:=Tg.1 hb;exact h (Bd.2 ⟨u,h1,by simp[h2]⟩)
  rw[IL this,Ar];rfl
theorem kX(hn:(EP m).Nodup)(p:ByteArray){K:AV->Prop}{Z:Prop}(hy:∀u,Dx m p=some u->K (.agg (AN u)))(NO:Dx m p=none->Z) :
  (∀a,(Value.string p,a)∈m.map Tf->K a)/\((∀a,(Value.string p,a)∉m.map Tf)->Z) :=
 ⟨fun a h=>by
  obtain⟨t,h1,h2,rfl⟩:=Tg.1 h;subst h2;exact hy t ((MP hn).1 h1),fun h=>NO (by
  cases e:Dx m p with
  |none=>rfl
  |some u=>exact absurd (Tg.2 ⟨u,Fs e,HB e,rfl⟩) (h _))⟩
theorem Pz{t:Tm}(h:EZ t.set):B9 t.set:=by
 unfold B9
 have:=IF h;omega
theorem c57(hl:B9 l)(hs:∀t∈l,B9 t.set):PC 346 [sl AN l,.v (Yb 347)] (.cmap Cm ((DG l).map Tf)):=by
 refine Ps (x9 [10] []) Tryz.func346 rfl (Nz rfl) (Xi {i:Nat // i<=l.length} (Xi (fun i=>⟨[(0,sl AN l),(1,.v (Yb 347)),(5,.mref 10),(11,sl AN l),(12,vi (l.map AN).length),(13,vi i.1)],[(10,.map Cm ((DG (l.take i.1)).map Tf))],Af⟩) (Xi (fun i=>l.length-i.1) (Yi (Xi ⟨0,AE _⟩ ?_) ?_))))
 .exact⟨Z6,Z1,Fh,Tv⟩
 intro⟨i,h1⟩;have hn:=Il (l.take i);refine Yi ?_ ?_
 .intro h;have h:i<l.length:=by simpa using h
  have hg:l[i]?=some l[i]:=Ge h;refine Xi (AN l[i]) (Yi (Yi (Nn i) (by simp[hg])) (Yi rfl ?_));refine Yi (Nz rfl) (yN ?_);have Fz:=hs l[i] (Aq h);have tail:∀u:Tm,B9 u.set->Hm u l[i]=OJ (Dx (DG (l.take i)) l[i].path) l[i]->EX ((DG (l.take i)).map Tf) (.string l[i].path) (.agg (AN (Hm u l[i])))=(DG (l.take (i+1))).map Tf:=fun u hu e=>by
   have hp:(OJ (Dx (DG (l.take i)) l[i].path) l[i]).path=l[i].path:=Rj _ _ fun u h=>HB h;have e2:=me (DG (l.take i)) (Hm u l[i]);have e3:(Hm u l[i]).path=l[i].path:=by rw[e];exact hp
   rw[e3]at e2;rw[e2,Sm l i h,e];rfl
  refine kX hn l[i].path (fun u hu=>?_) (fun hu=>?_)
  .have K8:B9 u.set:=Pz (PW _ u (Fs hu));refine yN ?_;have A0:=tail u K8 (by rw[fG,hu];rfl);refine Yi (Nz rfl) (yN (Xi _ (Yi (c58 u l[i] K8 Fz) (Yi Wk (Yi (Ii i ch) (Xi ⟨i+1,by omega⟩ ?_))))));have e1:HO.map Cm (EX ((DG (l.take i)).map Tf) (.string l[i].path) (.agg (AN (Hm u l[i]))))=.map Cm ((DG (l.take (i+1))).map Tf):=by rw[A0]
   exact⟨Dl l.length i ch,Z6,⟨⟨e1,rfl⟩,Tv⟩,Fh,Tv⟩
  .refine yN (Yi (Nz rfl) (yN ?_));have A0:=tail l[i] Fz (by rw[fG,hu];rfl);refine Yi (Nz rfl) (yN (Xi _ (Yi (c58 l[i] l[i] Fz Fz) (Yi Wk (Yi (Ii i ch) (Xi ⟨i+1,by omega⟩ ?_))))));have e1:HO.map Cm (EX ((DG (l.take i)).map Tf) (.string l[i].path) (.agg (AN (Hm l[i] l[i]))))=.map Cm ((DG (l.take (i+1))).map Tf):=by rw[A0]
   exact⟨Dl l.length i ch,Z6,⟨⟨e1,rfl⟩,Tv⟩,Fh,Tv⟩
 .intro h;have h:¬i<l.length:=by simpa using h
  have e:(DG (l.take i)).map Tf=(DG l).map Tf:=by rw[As ch]
  exact .of_eq (Aa (AV.cmap Cm) e)
abbrev Ha:AV:=.tup [sl AN (Rf l),vb (C3 l).isSome]
abbrev Acq:SB:=⟨[],[],[(4,3)],[],[],[],[],[],[],[(25,4)],[]⟩
abbrev dM:HO:=.arr 3 (l.map AN)
abbrev GA:List Tm:=l.filter fun t=>!GX t
theorem p5{l:List Tm}{kv:Value×AV}{Ma : List (Value×AV)}(h:(l.map Tf).Perm (kv::Ma)):∃t r,kv=Tf t/\Ma=r.map Tf/\l.Perm (t::r):=by
 obtain⟨ps,h1,h2⟩:=KJ h l rfl;cases ps with
 |nil=>cases h2
 |cons t r =>
  rw[AI,E7]at h2;exact⟨t,r,h2.1.symm,h2.2.symm,h1.symm⟩
theorem Zh{l:List Tm}{t:Tm}(h:t∈DG l)(hn:IM t=true):C3 l=none:=by
 unfold C3;rw[Al (Bd.2 ⟨t,(JN l t).1 h,hn⟩)]
theorem bR{l done s:List Tm}(h:done.Perm (DG l))(hn:∀t∈done,IM t=false)(hp:s.Perm (GA done))(hs:s.Pairwise fun x y=>Ea y.path x.path=false):C3 l=some s:=by
 unfold C3;rw[Ai]
 .congr 1
  exact(QL _ (hp.trans (h.filter _)) hs).symm
 .intro c;obtain⟨t,h1,h2⟩:=Bd.1 c
  have:=hn t (h.mem_iff.2 ((JN l t).2 h1))
  rw[h2]at this;cases this
theorem iv:(GA l).length<=l.length:=Bq _ _
theorem zq(hl:B9 l)(hs:∀t∈l,B9 t.set):PC 312 [sl AN l] (Ha l):=by
 have ib:l.length<=1073741824:=hl;have zJ:(DG l).length<=l.length:=by have:=OE l l.length (Aj _);rwa [B4]at this
 refine Ps Acq Tryz.func312 rfl (Nz rfl) (Xi .pure (Xi _ (Yi (c57 l hl hs) (Xi {p:List Tm×List Tm×Option (Value×AV) // (p.1++p.2.1).Perm (DG l)/\∀t∈p.1,IM t=false} (Xi (fun p=>⟨[(4,.msl 4 (GA p.1.1).length),(9,.ref 9 0)],[(4,dM (GA p.1.1)),(9,.iter ((DG l).map Tf) (p.1.2.1.map Tf) p.1.2.2)],Af⟩) (Xi (fun p=>p.1.2.1.length) (Yi (Xi ⟨([],DG l,none),.refl _,fun t ht=>by cases ht⟩ ?_) ?_)))))))
 .exact⟨Z2,Z2,Fh,Tv⟩
 intro⟨⟨done,rem,EC⟩,r1,r2⟩;have r1:(done++rem).Perm (DG l):=r1;have hdl:done.length+rem.length<=l.length:=by have:=r1.length_eq;rw[Ac]at this;omega
 have vF:=iv done;refine Yi ?_ ?_
 .intro hr;have hr:rem=[]:=DE.1 hr;subst hr;rw[BP]at r1;refine Xi (.gen [(4,1000)] 0) (Yi rfl ((c61 (GA done) (by unfold B9;omega)).to ?_));intro s hq;have Sa:s.length=(GA done).length:=hq.1.length_eq;have hc:=bR r1 r2 hq.1 hq.2;refine Yi (by rw[Lm,Sa]) ?_;have e:AV.tup [sl AN s,vb true]=Ha l:=by unfold Ha Rf;rw[hc];rfl
  exact .of_eq e
 .intro kv Ma hp;refine CN (p5 hp) (fun t hp=>CN hp (fun r hp=>?_));have e1:=hp.1;have e2:=hp.2.1;subst e1;subst e2;have hp:=hp.2.2;have zN:t∈DG l:=r1.mem_iff.1 (Br _ (hp.mem_iff.2 (Ab ..)));have htc:=PW l t zN;have htf:=Pz htc;refine Yi (Nz rfl) (yN ?_);have hv:PC 348 [.agg (AN t)] (vb (IM t)):=mi htc▸c59 t htf;have ha:PC 349 [.agg (AN t)] (vb (GX t)):=gp htc▸c60 t htf;refine B8 (Bt (IM t)) (fun h=>?_) (fun h=>?_)
  .rw[h]at hv;refine Xi .pure (Xi _ (Yi (hv) ?_));have hc:=Zh zN h;have e:AV.tup [.slice .none [],vb false]=Ha l:=by unfold Ha Rf;rw[hc];rfl
   have e0:CZ (.tup [nzA,vb false]) (.tup [.slice .none [],vb false]):=CZ.tup ⟨.nil,.refl _,trivial⟩;exact e0.trans (.of_eq e)
  .rw[h]at hv;refine Xi .pure (Xi _ (Yi (hv) (yN ?_)));have RY:((done++[t])++r).Perm (DG l):=by
    rw[BA];exact(Iw _ hp.symm).trans r1
   have hnv:∀u∈done++[t],IM u=false:=fun u hu=>by
    rcases AO.1 hu with hu | hu
    .exact r2 u hu
    .rw[Ap.1 hu];exact h
   have hrl:r.length<rem.length:=by rw[hp.length_eq,Ak];omega
   refine B8 (Bt (GX t)) (fun h2=>?_) (fun h2=>?_)
   rotate_left
   .rw[h2]at ha;refine Xi .pure (Xi _ (Yi (ha) ?_));have Ho:Cn 3 [AN t]/\((GA done).map AN).length=(GA done).length/\(((GA done).map AN).length+[AN t].length)*48<=140737488355328/\((GA done).map AN).length+[AN t].length<=9223372036854775807 :=
     ⟨⟨rfl,trivial⟩,by rw[Lm],by rw[Lm,Bb];omega,by rw[Lm,Bb];omega⟩
    refine yN (Yi Ho ?_);have hk:GA (done++[t])=GA done++[t]:=by unfold GA;rw[EE,Ef,Al (by rw[h2];rfl)];rfl
    have e1:AV.msl 4 (((GA done).map AN).length+[AN t].length)=.msl 4 (GA (done++[t])).length:=by rw[hk];simp
    have e2:HO.arr 3 ((GA done).map AN++[AN t])=dM (GA (done++[t])):=by rw[hk];simp
    refine Xi ⟨(done++[t],r,some (Tf t)),RY,hnv⟩ ?_;exact⟨hrl,⟨⟨e1,rfl⟩,Zr,Tv⟩,⟨⟨e2,rfl⟩,Zr,Tv⟩,Fh,Tv⟩
   .rw[h2]at ha;refine Xi .pure (Xi _ (Yi (ha) ?_));have hk:GA (done++[t])=GA done:=by unfold GA;rw[EE,Ef,Ai (by rw[h2];decide)];simp
    have e1:AV.msl 4 (GA done).length=.msl 4 (GA (done++[t])).length:=by rw[hk]
    have e2:dM (GA done)=dM (GA (done++[t])):=by rw[hk]
    refine Xi ⟨(done++[t],r,some (Tf t)),RY,hnv⟩ ?_;exact⟨hrl,⟨⟨e1,rfl⟩,Zr,Tv⟩,⟨⟨e2,rfl⟩,Zr,Tv⟩,Fh,Tv⟩
theorem sR(hl:B9 l)(hs:∀t∈l,B9 t.set):PC 304 [sl AN l] (sl AN (Rf l)):=by
 refine Ps Ee Tryz.func304 rfl (Nz rfl) (Xi .pure (Xi _ (Yi (zq l hl hs) ?_)));exact .refl _
theorem QS:B9 (ES s):=by
 unfold B9;have:=IF (HN s);omega
theorem s8:B9 [x]:=by unfold B9;simp
theorem Ab2(y:α):B9 [x,y]:=by unfold B9;simp
theorem AaA(hq:B9 q.set):PC 256 [.agg (Ba q)] (sl AN (Kg q)):=by
 have hc:PC 304 [sl AN [DV q]] (sl AN (Kg q)):=sR [DV q] (s8 _) fun t ht=>by rw[Ap.1 ht];exact QS _
 refine Ps Ee Tryz.func256 rfl (Nz rfl) (yN (Xi .pure (Xi _ (Yi (wo q hq) (Xi .pure (Xi _ (Yi (hc) ?_)))))));exact .refl _
theorem AaB(pl:Int)(q:Rq)(hp:A7 (pl+1))(hq:B9 q.set):PC 257 [vs p,vi pl,.agg (Ba q)] (sl AN (EA p pl q)):=by
 have hc:PC 304 [sl AN [⟨p,false,[(pl,pl+1)]⟩,DV q]] (sl AN (EA p pl q)):=sR [⟨p,false,[(pl,pl+1)]⟩,DV q] (Ab2 _ _) fun t ht=>by
  rcases Az.1 ht with rfl | ht
  .exact s8 _
  .rw[Ap.1 ht];exact QS _
 refine Ps Ee Tryz.func257 rfl (Nz rfl) (Yi hp (yN (Xi .pure (Xi _ (Yi (wo q hq) (Xi .pure (Xi _ (Yi (hc) ?_))))))));exact .refl _
theorem wk(hs:B9 s):PC 261 [vs p,sl AC s] (sl AN (IA p s)):=by
 have hc:PC 304 [sl AN [⟨p,false,ES s⟩]] (sl AN (IA p s)):=sR [⟨p,false,ES s⟩] (s8 _) fun t ht=>by rw[Ap.1 ht];exact QS _
 refine Ps Ee Tryz.func261 rfl (Nz rfl) (Xi .pure (Xi _ (Yi (sH s hs) (Xi .pure (Xi _ (Yi (hc) ?_))))));exact .refl _
end Go.Eng
