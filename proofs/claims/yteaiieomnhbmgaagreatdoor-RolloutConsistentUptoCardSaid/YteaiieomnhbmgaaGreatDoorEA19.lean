/- Lemmas 19. -/
import Derived.Test.YteaiieomnhbmgaaGreatDoorEA18
namespace Go.Eng
open Go.Proofs
variable {y:Int×Int}{α:Type}{t:Bx}(s:Bx)(l:List (Int×Int))(j:Bx)(i:Nat)
abbrev pla(l:List (Nat×Nat))(cut:List Nat):Th:=⟨[],[],l,[],[],[],[],[],[],[],cut⟩
abbrev MX:HO:=.arr 2 (l.map AE)
theorem cO(l:Bx)(i:Nat):(D1 (l.take i)).length<=i:=by
 unfold D1
 have:=Bv (fun x:Int×Int=>decide (x.1<x.2)) ((l.take i).map Jf)
 rw[Lm,Aw]at this;omega
theorem Xd{l:Bx}{i:Nat}(h:i<l.length)(h3:(Jf l[i]).1<(Jf l[i]).2):D1 (l.take (i+1))=D1 (l.take i)++[Jf l[i]]:=by
 rw[Bj,Ge h,PS];unfold D1;simp[h3]
theorem ZU{l:Bx}{i:Nat}(h:i<l.length)(h3:¬(Jf l[i]).1<(Jf l[i]).2):D1 (l.take (i+1))=D1 (l.take i):=by
 rw[Bj,Ge h,PS];unfold D1;simp[h3]
abbrev arr2:Bx:=(BR (s.take i)).reverse++(j++s.drop i)
theorem pL(h:i<s.length)(hj:(BR (s.take i)).length+j.length=i):(arr2 s j i)[i]?=some s[i]:=by
 unfold arr2;rw[A1 (by rw[DI];omega),A1 (by rw[DI];omega),DI,DV];rw[show i+(i-(BR (List.take i s)).length-j.length)=i by omega,Ge h]
theorem iu(e:BR (s.take i)=y::t):(arr2 s j i)[t.length]?=some y:=by
 unfold arr2;rw[e,So,BB,A1 (by rw[DI];omega),DI,E8];rfl
theorem ld(h:i<=s.length)(hj:(BR (s.take i)).length+j.length=i):(arr2 s j i).length=s.length:=by
 unfold arr2;simp only[Ac,DI,Di];omega
theorem fy(s:List α)(i:Nat)(h:i<s.length):s.drop i=s[i]::s.drop (i+1):=AI h
theorem WR(h:i<s.length)(e:LU (BR (s.take i)) s[i]=s[i]::BR (s.take i)) :
  (arr2 s j i).set (BR (s.take i)).length s[i]=arr2 s (j++[s[i]]).tail (i+1):=by
 unfold arr2;rw[GV s i h,e,So,List.set_append_right _ _ (by rw[DI];exact Ak _),DI,E8,BB,fy s i h]
 congr 1
 cases j with
 |nil=>rfl
 |cons a b=>simp
theorem ir(h:i<s.length)(e:BR (s.take i)=y::t)(Ib:s[i].1<=y.2) :
  (arr2 s j i).set t.length (y.1,max y.2 s[i].2)=arr2 s (j++[s[i]]) (i+1):=by
 unfold arr2;have e2:LU (y::t) s[i]=(y.1,max y.2 s[i].2)::t:=by show(if s[i].1<=y.2 then _ else _)=_;rw[Ao Ib]
 rw[GV s i h,e,e2,So,So,BB,List.set_append_right _ _ (by rw[DI];exact Ak _),DI,E8,fy s i h];simp
theorem Ed{enc:α->List AV}{l:List α}{i:Nat}{x:α}(h:l[i]?=some x):(l.map enc)[i]?=some (enc x):=by rw[AH,h];rfl
theorem Ys(hl:B8 l):PC 169 [sl AE l] (sl AE (canon l)):=by
 refine F8 (iN (pla [(3,2)] [])) rfl CW hm rfl Tryz.func169 Wk rfl (Nz rfl) Wk (Xi {i:Nat // i<=l.length} (Xi (fun i=>⟨[(0,sl AE l),(3,.msl 3 (D1 (l.take i.1)).length),(9,sl AE l),(10,vi (l.map AE).length),(11,vi i.1)],[(3,MX (D1 (l.take i.1)))],Af⟩) (Xi (fun i=>l.length-i.1) (Yi (Xi ⟨0,by simp⟩ ?_) ?_))))
 .exact⟨Z5,Z1,Fh,Tv⟩
 .intro⟨i,h1⟩;have hn:=cO l i;refine Yi ?_ ?_
  .intro h;have h:i<l.length:=by simpa using h
   have hg:l[i]?=some l[i]:=Ge h;refine Xi (AE l[i]) (Yi (Yi (Nn i) (by simp[hg])) (Yi rfl ?_));refine Yi (Nz rfl) (yN (yN (Yi ?_ ?_)))
   .intro h3;refine yN ?_;have Hw:Cf 2 [[vi (max l[i].1 0),vi (min l[i].2 1000000)]]/\((D1 (l.take i)).map AE).length=(D1 (l.take i)).length/\(((D1 (l.take i)).map AE).length+[[vi (max l[i].1 0),vi (min l[i].2 1000000)]].length)*16<=140737488355328/\((D1 (l.take i)).map AE).length+[[vi (max l[i].1 0),vi (min l[i].2 1000000)]].length<=9223372036854775807:=
     ⟨⟨rfl,trivial⟩,by rw[Lm],by rw[Lm,Bg];omega,by rw[Lm,Bg];omega⟩
    refine Yi Hw (Yi (Ii i ch) (Xi ⟨i+1,by omega⟩ ?_));have e1:AV.msl 3 (((D1 (l.take i)).map AE).length+[[vi (max l[i].1 0),vi (min l[i].2 1000000)]].length)=.msl 3 (D1 (l.take (i+1))).length:=by rw[Xd h h3];simp
    have e2:HO.arr 2 ((D1 (l.take i)).map AE++[[vi (max l[i].1 0),vi (min l[i].2 1000000)]])=MX (D1 (l.take (i+1))):=by rw[Xd h h3];simp[Jf]
    exact⟨Dl l.length i ch,⟨Zr,⟨e1,rfl⟩,Zr,Zr,Zr,Tv⟩,⟨⟨e2,rfl⟩,Tv⟩,Fh,Tv⟩
   .intro h3;refine Yi (Ii i ch) (Xi ⟨i+1,by omega⟩ ?_);have e1:AV.msl 3 (D1 (l.take i)).length=.msl 3 (D1 (l.take (i+1))).length:=by rw[ZU h h3]
    have e2:MX (D1 (l.take i))=MX (D1 (l.take (i+1))):=by rw[ZU h h3]
    exact⟨Dl l.length i ch,⟨Zr,⟨e1,rfl⟩,Zr,Zr,Zr,Tv⟩,⟨⟨e2,rfl⟩,Tv⟩,Fh,Tv⟩
  .intro h;have h:¬i<l.length:=by simpa using h
   have ei:D1 (l.take i)=D1 l:=by rw[At ch]
   have hN:(D1 (l.take i)).length=(D1 l).length:=by rw[ei]
   refine Xi (.gen [(3,1000)] 0) (Yi rfl ((Abr (D1 (l.take i)) (by unfold B8;omega) (fun x hx=>by have:=Xc hx;omega)).to ?_));intro s hs;have SH:s.length=(D1 (l.take i)).length:=hs.1.length_eq;have hsN:s.length<=1073741824:=by omega
   have fin:(BR s).reverse=canon l:=Tl (by rw[<-ei];exact hs.1) hs.2;refine Xi {p:Nat×Bx // p.1<=s.length/\(BR (s.take p.1)).length+p.2.length=p.1} (Xi (fun p=>⟨[(3,.msl 3 (D1 (l.take i)).length),(6,vi (BR (s.take p.1.1)).length),(34,.msl 3 (D1 (l.take i)).length),(35,vi (D1 (l.take i)).length),(36,vi p.1.1)],[(3,MX (arr2 s p.1.2 p.1.1))],Af⟩) (Xi (fun p=>s.length-p.1.1) (Yi (Xi ⟨(0,[]),AA _,rfl⟩ ?_) ?_)))
   .exact⟨Z5,Z1,Fh,Tv⟩
   intro⟨⟨k,j⟩,k1,k2⟩;have k2:(BR (s.take k)).length+j.length=k:=k2;have CP:=ld s j k k1 k2;have U0:(D1 (l.take i)).length=((arr2 s j k).map AE).length:=by rw[Lm,CP,SH]
   refine Yi ?_ ?_
   .intro h2;have h2:(k:Int)<(D1 (l.take i)).length:=h2;have hk:k<s.length:=by omega
    have sH:=Ed (enc:=AE) (pL s j k hk k2);refine Yi ⟨by show(0:Int)<=k;omega,by show(k:Int)<_;omega⟩ ?_;refine Yi U0 (Xi (AE s[k]) (Yi sH (Yi (Nz rfl) (yN ?_))));have hr:=Vm s k k1;refine BN (Nat.eq_zero_or_pos k) (fun k0=>?_) (fun k0=>?_)
    .refine Yi ?_ ?_
     .intro h4;have h4:(0:Int)<k:=h4;omega
     .intro _;refine Yi Wk ?_;have Kh:LU (BR (s.take k)) s[k]=s[k]::BR (s.take k):=by subst k0;rfl
      have kM:(BR (s.take k)).length<(arr2 s j k).length:=by omega
      have hz:=Ed (enc:=AE) (Ge kM);refine Yi (Nz rfl) (Yi ⟨by show(0:Int)<=((BR (s.take k)).length:Int);omega,by show((BR (s.take k)).length:Int)<_;omega⟩ ?_);refine Yi U0 (Xi (AE (arr2 s j k)[(BR (s.take k)).length]) (Yi hz (yN (Yi (by show Ba (((BR (s.take k)).length:Int)+1);unfold Ba;omega) ?_))));refine Yi (Ii k ch) ?_;have hm:=GV s k hk;have e1:vi (((BR (s.take k)).length:Int)+1)=vi (BR (s.take (k+1))).length:=by rw[hm,Kh];simp
      have e2:HO.arr 2 (((arr2 s j k).map AE).set (BR (s.take k)).length [vi s[k].1,vi s[k].2])=MX (arr2 s (j++[s[k]]).tail (k+1)):=by rw[<-WR s j k hk Kh];simp only[MX,OJ]
      refine Xi ⟨(k+1,(j++[s[k]]).tail),by show k+1<=s.length;omega,by show(BR (s.take (k+1))).length+((j++[s[k]]).tail).length=k+1;rw[hm,Kh];simp;omega⟩ ?_;exact⟨Dl s.length k ch,⟨Zr,⟨e1,rfl⟩,Zr,Zr,Zr,Tv⟩,⟨⟨e2,rfl⟩,Tv⟩,Fh,Tv⟩
    .refine Yi ?_ ?_
     .intro _;obtain⟨y,t,e⟩:∃y t,BR (s.take k)=y::t:=by
       cases hc:BR (s.take k)with
       |nil=>have:=hr.2 k0;rw[hc]at this;simp at this
       |cons y t=>exact⟨y,t,rfl⟩
      have ht:(((BR (s.take k)).length:Int)-1).toNat=t.length:=by rw[e];simp
      have hy:((arr2 s j k).map AE)[(((BR (s.take k)).length:Int)-1).toNat]?=some (AE y):=by rw[ht];exact Ed (iu s j k e)
      refine Yi (by show Ba (((BR (s.take k)).length:Int)-1);unfold Ba;omega) ?_;have dv:=hr.2 k0;refine Yi ⟨by show(0:Int)<=((BR (s.take k)).length:Int)-1;omega,by show((BR (s.take k)).length:Int)-1<_;omega⟩ ?_;refine Yi U0 (Xi (AE y) (Yi hy (Yi ?_ ?_)))
      .intro h5;refine Yi Wk (Yi (by show Ba (((BR (s.take k)).length:Int)-1);unfold Ba;omega) (Yi (by show Ba (((BR (s.take k)).length:Int)-1);unfold Ba;omega) ?_));refine Yi ⟨by show(0:Int)<=((BR (s.take k)).length:Int)-1;omega,by show((BR (s.take k)).length:Int)-1<_;omega⟩ ?_;refine Yi U0 (Xi (AE y) (Yi hy (Yi ⟨by show(0:Int)<=((BR (s.take k)).length:Int)-1;omega,by show((BR (s.take k)).length:Int)-1<_;omega⟩ ?_)));refine Yi U0 (Xi (AE y) (Yi hy (yN (Yi Wk (Yi (Ii k ch) ?_)))));have hm:=GV s k hk;have Kh:LU (BR (s.take k)) s[k]=(y.1,max y.2 s[k].2)::t:=by rw[e];show(if s[k].1<=y.2 then _ else _)=_;rw[Ao h5]
       have e1:vi (BR (s.take k)).length=vi (BR (s.take (k+1))).length:=by rw[hm,Kh,e];simp
       have e2:HO.arr 2 (((arr2 s j k).map AE).set (((BR (s.take k)).length:Int)-1).toNat [vi y.1,vi (max y.2 s[k].2)])=MX (arr2 s (j++[s[k]]) (k+1)):=by rw[<-ir s j k hk e h5,ht];simp only[MX,OJ]
       refine Xi ⟨(k+1,j++[s[k]]),by show k+1<=s.length;omega,by show(BR (s.take (k+1))).length+(j++[s[k]]).length=k+1;rw[hm,Kh,Ac,Bg];rw[e]at k2;simp only[Am]at k2⊢;omega⟩ ?_;exact⟨Dl s.length k ch,⟨Zr,⟨e1,rfl⟩,Zr,Zr,Zr,Tv⟩,⟨⟨e2,rfl⟩,Tv⟩,Fh,Tv⟩
      .intro h5;refine Yi Wk ?_;have Kh:LU (BR (s.take k)) s[k]=s[k]::BR (s.take k):=by rw[e];show(if s[k].1<=y.2 then _ else _)=_;rw[Aj h5]
       have kM:(BR (s.take k)).length<(arr2 s j k).length:=by omega
       have hz:=Ed (enc:=AE) (Ge kM);refine Yi (Nz rfl) (Yi ⟨by show(0:Int)<=((BR (s.take k)).length:Int);omega,by show((BR (s.take k)).length:Int)<_;omega⟩ ?_);refine Yi U0 (Xi (AE (arr2 s j k)[(BR (s.take k)).length]) (Yi hz (yN (Yi (by show Ba (((BR (s.take k)).length:Int)+1);unfold Ba;omega) ?_))));refine Yi (Ii k ch) ?_;have hm:=GV s k hk;have e1:vi (((BR (s.take k)).length:Int)+1)=vi (BR (s.take (k+1))).length:=by rw[hm,Kh];simp
       have e2:HO.arr 2 (((arr2 s j k).map AE).set (BR (s.take k)).length [vi s[k].1,vi s[k].2])=MX (arr2 s (j++[s[k]]).tail (k+1)):=by rw[<-WR s j k hk Kh];simp only[MX,OJ]
       refine Xi ⟨(k+1,(j++[s[k]]).tail),by show k+1<=s.length;omega,by show(BR (s.take (k+1))).length+((j++[s[k]]).tail).length=k+1;rw[hm,Kh];simp;omega⟩ ?_;exact⟨Dl s.length k ch,⟨Zr,⟨e1,rfl⟩,Zr,Zr,Zr,Tv⟩,⟨⟨e2,rfl⟩,Tv⟩,Fh,Tv⟩
     .intro h4;have h4:¬(0:Int)<k:=h4;omega
   .intro h2;have h2:¬(k:Int)<(D1 (l.take i)).length:=h2;have hk:k=s.length:=by omega
    have hr:=Vm s k k1;have mJ:((((arr2 s j k).map AE).take ((BR (s.take k)).length:Int).toNat).drop 0)=(canon l).map AE:=by
     rw[List.drop_zero,Ch,<-Tg,<-fin];unfold arr2
     have:(BR (s.take k)).length=(BR (s.take k)).reverse.length:=by rw[DI]
     rw[this,List.take_left,hk,B9]
    refine Yi ⟨U0,by show(0:Int)<=0;omega,by show(0:Int)<=((BR (s.take k)).length:Int);omega,by show((BR (s.take k)).length:Int)<=(((arr2 s j k).map AE).length:Int);omega,.inr ⟨rfl,by simp⟩⟩ ?_;exact .of_eq (Aa (AV.slice .none) mJ)
end Go.Eng
namespace Go.Eng
open Go.Proofs Go.Sort
variable {m:List (Int×Int)}{S:Bx}(zs:List Int)(z:Int)
abbrev G7:List AV:=[vi z]
theorem RP{α:Type}[Inhabited α](enc:α->Value)(w:World)(b:Nat)(d:Array α):putRow enc w b 0 d=putRow id w b 0 (d.map enc):=by
 unfold putRow
 congr 1
 funext c
 unfold putCells;apply Pr
 .simp
 .intro i h1 h2;simp only[Array.getElem_mapIdx,Array.size_map]
  by_cases h:i<d.size
  .rw[Ao ch,Ao ch];rw[DW d (i-0) ch,DW (d.map enc) (i-0) (by simpa using h)];simp
  .rw[Aj ch,Aj ch]
theorem Xm:(zs.map G7).flatten=(zs.map fun z=>Value.int .i64 z).map AV.v:=by
 induction zs with
 |nil=>rfl
 |cons z zs ih=>rw[AL,BC,ih];rfl
theorem N6(g:Gh)(w:World)(U:Nat->Prop)(vs:List Value)(h:∀x∈vs,x.oneCell'=true):CU g w U (vs.map .v) vs:=
 ⟨by simp,h,fun i av x q1 q2=>by
  rw[AH,q2]at q1;cases q1;exact .v _ _⟩
theorem Mp{g:Gh}{w:World}{U:Nat->Prop}{vs us:List Value}(h:CU g w U (vs.map .v) us):us=vs:=by
 apply Du;intro i;have hl:=h.1;rw[Lm]at hl
 by_cases hi:i<vs.length
 .have:=h.2.2 i (.v vs[i]) us[i] (by rw[AH,Ge hi];rfl) (Ge ch)
  rw[Ge hi,Ge ch,this.v_eq]
 .rw[A9 ch,A9 ch]
theorem Abx(hl:B8 zs)(DD:zs≠[]) :
  Bc Tryz.prog 366 [.msl 1000 zs.length] (Ap [(1000,.arr 1 (zs.map G7))] Af) fun r h'=>
   r=.tup []/\∃l' : List Int,(l'.Perm zs/\l'.Pairwise fun a b=>a<=b)/\h'=Ap [(1000,.arr 1 (l'.map G7))] Af:=by
 have hE:F1 Tryz.prog 366:=ah 366 Tryz.func366 Wk rfl;have H4:=Rg (P:=Tryz.prog) (f:=366) (es:=zs.map G7) (sz:=1) (rest:=[]) (Q:=fun F0=>∃l' : List Int,(l'.Perm zs/\l'.Pairwise fun a b=>a<=b)/\F0=l'.map G7) hE ?_ ?_
 .rw[Lm]at H4;refine⟨hE,fun g w vals q1 q2 q3=>(H4.2 g w vals q1 q2 q3).mono fun _ _ ⟨v,r,h',g',e1,⟨e2,F0,⟨l',p1,p2⟩,p3⟩,rest⟩=>⟨v,r,h',g',e1,⟨e2,l',p1,by rw[p3,p2]⟩,rest⟩⟩
 .intro e
  have:zs=[]:=by simpa using e
  exact absurd this DD
 .intro g w b cap F hr hF hH hb;have xV:F.toList=zs.map fun z=>Value.int .i64 z:=Mp (by rw[<-Xm];exact hr);have mo:F=zs.toArray.map fun z=>Value.int .i64 z:=Js.1 (by rw[xV];simp);have xW:Holds (Value.int .i64) w b 0 zs.toArray:=fun j hj=>by
   have:=hH j (by rw[mo];simpa using hj)
   refine⟨this.1.trans ?_,this.2⟩;rw[mo,DW _ j (by simpa using hj),DW _ j hj];simp
  have hc:=Any.slices_Sort_int Tryz.laySortInts b 0 cap zs w xW hb ch;rw[Lm];refine hc.mono ?_
  rintro e w' ⟨rfl,n,os,rfl⟩
  have JH:(zs.mergeSort fun x y=>decide (x<=y)).Perm zs:=Og _ _;have CP:=JH.length_eq;refine⟨rfl,(zs.mergeSort fun x y=>decide (x<=y)).toArray.map fun z=>Value.int .i64 z,(zs.mergeSort fun x y=>decide (x<=y)).map G7,n,os,?_,⟨_,⟨JH,?_⟩,rfl⟩,by simp[CP],fun cs hcs=>?_,fun g w _=>?_,by rw[RP]⟩
  .rw[mo];simp[CP]
  .have:=KG (le:=fun x y:Int=>decide (x<=y)) (fun a b c h1 h2=>by simp only[AD]at *;omega) (fun a b=>by simp only[CO,AD];omega) zs
   exact this.imp fun h=>AK h
  .obtain⟨x,_,rfl⟩:=Ai.1 hcs;rfl
  .rw[Xm];have e:((zs.mergeSort fun x y=>decide (x<=y)).toArray.map fun z=>Value.int .i64 z).toList=(zs.mergeSort fun x y=>decide (x<=y)).map fun z=>Value.int .i64 z:=by simp
   rw[e];exact N6 _ _ _ _ fun x hx=>by
    obtain⟨z,_,rfl⟩:=Ai.1 hx;rfl
-- maps from numbers to numbers
abbrev Zi:E9:=⟨false,[.int .i64]⟩
abbrev kI:Value:=.int .i64 z
abbrev Nk(p:Int×Int):Value×AV:=(kI p.1,vi p.2)
abbrev GR(s:Bx):List AV:=[sl AE s]
theorem TP{k:Int}{a:AV}:(kI k,a)∈m.map Nk↔∃v,(k,v)∈m/\a=vi v:=by
 rw[Ai];constructor
 .rintro⟨⟨k',v⟩,h1,h2⟩
  simp only[Gd,Value.int.injEq,true_and]at h2;obtain⟨rfl,rfl⟩:=h2;exact⟨v,h1,rfl⟩
 .rintro⟨v,h1,rfl⟩
  exact⟨(k,v),h1,rfl⟩
theorem TS(m:List (Int×Int))(k v:Int):E4 (m.map Nk) (kI k) (vi v)=(Mn m k v).map Nk:=by
 unfold Mn
 by_cases h:(m.any fun p=>decide (p.1=k))=true
 .rw[Ao h];obtain⟨p,h1,h2⟩:=Bd.1 h;have h2:=AK h2
  have:(kI k,vi p.2)∈m.map Nk:=TP.2 ⟨p.2,by rw[<-h2];exact h1,rfl⟩
  rw[NX this,Br,Br];apply Bi;intro q _;simp only[Function.comp]
  by_cases e:q.1=k
  .simp[e]
  .have:¬kI q.1=kI k:=fun c=>e (by injection c)
   simp[e]
 .rw[Aj h]
  have:∀b,(kI k,b)∉m.map Nk:=fun b hb=>by
   obtain⟨v,h1,_⟩:=TP.1 hb;exact h (Bd.2 ⟨(k,v),h1,by simp⟩)
  rw[IY this,As];rfl
theorem Qo{T:G2}{e:Nat}{Cc:List (Value×AV)}{kx:Value}{K:AV->Prop}(a0 z0:AV)(h1:∀a,(kx,a)∈Cc->a=a0)(hz:(∀a,(kx,a)∉Cc)->a0=z0)(h2:K z0->Lo T e K)(k:K a0) :
  (∀a,(kx,a)∈Cc->K a)/\((∀a,(kx,a)∉Cc)->Lo T e K):=⟨fun a h=>by rw[h1 a h];exact k,fun hn=>h2 (hz hn▸k)⟩
theorem Sg(m:List (Int×Int))(k:Int):(∀a,(kI k,a)∉m.map Nk)->vi (FJ m k)=vi 0:=fun Ob=>by
 rw[oN fun hk=>by
  obtain⟨p,hp,e⟩:=Ai.1 hk;exact Ob (vi p.2) (TP.2 ⟨p.2,by rw[<-e];exact hp,rfl⟩)]
theorem Sf(hn:(Fv m).Nodup)(k:Int):∀a,(kI k,a)∈m.map Nk->a=vi (FJ m k):=fun a h=>by
 obtain⟨v,h1,rfl⟩:=TP.1 h;rw[oM hn h1]
theorem JB.bound(h:JB m S)(k:Int):-(S.length:Int)<=FJ m k/\FJ m k<=S.length:=by
 rw[h.val]
 have:cF S k<=S.length:=List.countP_le_length
 have:cT S k<=S.length:=List.countP_le_length
 omega
theorem c8(l:List Bx):(l.map canon).flatten.length<=l.length*1000000:=by
 induction l with
 |nil=>simp
 |cons s l ih=>
  rw[AL,BC,Ac,Am]
  have:=IR (CB s)
  omega
theorem JB.few(h:JB m S):m.length<=1000001:=by
 have:=I7 (m:=(List.range 1000001).map Int.ofNat) h.nd fun k hk=>by
  have:=h.rng k hk
  exact Ai.2 ⟨k.toNat,FC.2 ch,by show(k.toNat:Int)=k;omega⟩
 unfold Fv at this;rw[Lm,Lm,Ls]at this;exact this
theorem Xx(keep:Nat->Bool)(m:List (Int×Int))(B:List Int):∀n,(EU keep m B n).length<=n
 |0=>Ak _
 |n+1=>by
  unfold EU
  have:=Xx keep m B n
  rw[Ac];split
  .split<;>simp<;>omega
  .simp;omega
end Go.Eng
namespace Go.Eng
open Go.Proofs
variable {m:List Tm}{α:Type}(u:Tm)(n:Int)(l:List Tm)(p:ByteArray)(x:α)(s:Bx)(q:Rq)(t:Tm)
abbrev plC:Th:=⟨[],[(12,2)],[(44,1)],[],[],[],[],[],[],[],[8,9,15,23,25,26]⟩
theorem t8(F:AV)(keep:Nat->Bool)(l:List Bx)(hl:B8 l)(hs:∀s∈l,B8 s)(hid:∀h,Ww h F=true)(hF:∀h (n:Int),0<=n->n<=l.length->Re Tryz.prog (str h F) [vi n] (vb (keep n.toNat)))
  (R:Bx) (hR:E6 R) (hRh:∀p,has R p=(MN p&&keep (kE l p))):PC 341 [F,sl GR l] (sl AE R):=by
 refine Ps plC Tryz.func341 rfl (Nz rfl) (Xi {p:Nat×List (Int×Int) // p.1<=l.length/\JB p.2 ((l.take p.1).map canon).flatten} (Xi (fun p=>⟨[(0,F),(5,.mref 15),(17,sl GR l),(18,vi (l.map GR).length),(19,vi p.1.1)],[(15,.map Zi (p.1.2.map Nk))],Af⟩) (Xi (fun p=>l.length-p.1.1) (Yi (Xi ⟨(0,xF),AA _,p9⟩ ?_) ?_))))
 .have e0:HO.map Zi (E4 (E4 [] (kI 0) (vi 0)) (kI 1000000) (vi 0))=.map Zi (xF.map Nk):=by
   have e1:=TS [] 0 0;have e2:=TS [(0,0)] 1000000 0;show HO.map Zi (E4 (E4 (List.map Nk []) (kI 0) (vi 0)) (kI 1000000) (vi 0))=_;rw[e1];show HO.map Zi (E4 (List.map Nk [(0,0)]) (kI 1000000) (vi 0))=_;rw[e2];rfl
  exact⟨⟨⟨rfl,hid _⟩,Zr,Zr,Zr,Zr,Tv⟩,⟨⟨e0,rfl⟩,Tv⟩,Fh,Tv⟩
 intro⟨⟨i,cm⟩,i1,i2⟩;refine Yi ?_ ?_
 .intro h;have h:i<l.length:=by simpa using h
  have hg:l[i]?=some l[i]:=Ge h;refine Xi (GR l[i]) (Yi (Yi (Nn i) (by simp[hg])) (Yi rfl ?_));refine Xi .pure (Xi _ (Yi (Ys l[i] (hs _ (Al h))) (Xi {p:Nat×List (Int×Int) // p.1<=(canon l[i]).length/\JB p.2 (((l.take i).map canon).flatten++(canon l[i]).take p.1)} (Xi (fun p=>⟨[(0,F),(5,.mref 15),(17,sl GR l),(18,vi (l.map GR).length),(19,vi i),(24,sl AE (canon l[i])),(25,vi ((canon l[i]).map AE).length),(26,vi p.1.1)],[(15,.map Zi (p.1.2.map Nk))],Af⟩) (Xi (fun p=>(canon l[i]).length-p.1.1) (Yi (Xi ⟨(0,cm),AA _,by rw[PB,BM];exact i2⟩ ?_) ?_))))))
  .exact⟨⟨⟨rfl,hid _⟩,Zr,Zr,Zr,Zr,Zr,Zr,Zr,Tv⟩,Z1,Fh,Tv⟩
  intro⟨⟨j,dm⟩,j1,j2⟩;have j2:JB dm (((l.take i).map canon).flatten++(canon l[i]).take j):=j2;have hS:(((l.take i).map canon).flatten++(canon l[i]).take j).length<=1073741825000000:=by
   have a1:=c8 (l.take i);have a2:=IR (CB l[i]);rw[Aw]at a1;rw[Ac,Aw];omega
  refine Yi ?_ ?_
  .intro hj;have hj:j<(canon l[i]).length:=by simpa using hj
   have hgj:(canon l[i])[j]?=some (canon l[i])[j]:=Ge hj;have s5:=(CB l[i]).low _ (Al hj);have j3:JB (bV dm (canon l[i])[j]) (((l.take i).map canon).flatten++(canon l[i]).take (j+1)):=by
    have:=ki j2 (x:=(canon l[i])[j]) s5
    rw[BB]at this;rw[Bj,hgj];exact this
   generalize (canon l[i])[j]=x at hgj s5 j3;have b1:=j2.bound x.1;have kM:=Nj j2.nd x.1 (FJ dm x.1+1);refine Xi (AE x) (Yi (Yi (Nn j) (by simp[hgj])) (Yi rfl ?_));refine Yi (Nz rfl) (yN (Xi ⟨[(0,F),(5,.mref 15),(9,.ref 9 0),(17,sl GR l),(18,vi (l.map GR).length),(19,vi i),(24,sl AE (canon l[i])),(25,vi ((canon l[i]).map AE).length),(26,vi j)],[(9,.cells (AE x)),(15,.map Zi (dm.map Nk))],Af⟩ (Yi ⟨⟨⟨rfl,hid _⟩,Zr,Zr,Zr,Zr,Zr,Zr,Zr,Zr,Tv⟩,Z2,Fh,Tv⟩ (Qo (vi (FJ dm x.1)) (vi 0) (Sf j2.nd x.1) (Sg dm x.1) (fun q=>q) (Yi (by show Ba (FJ dm x.1+1);unfold Ba;omega) ?_)))));have m1:HO.map Zi (E4 (dm.map Nk) (kI x.1) (vi (FJ dm x.1+1)))=.map Zi ((Mn dm x.1 (FJ dm x.1+1)).map Nk):=by rw[TS]
   refine Xi ⟨[(0,F),(5,.mref 15),(9,.ref 9 0),(17,sl GR l),(18,vi (l.map GR).length),(19,vi i),(24,sl AE (canon l[i])),(25,vi ((canon l[i]).map AE).length),(26,vi j)],[(9,.cells (AE x)),(15,.map Zi ((Mn dm x.1 (FJ dm x.1+1)).map Nk))],Af⟩ (Yi ⟨⟨⟨rfl,hid _⟩,Zr,Zr,Zr,Zr,Zr,Zr,Zr,Zr,Tv⟩,⟨Zr,⟨m1,rfl⟩,Tv⟩,Fh,Tv⟩ ?_)
   have b2:-(1073741825000001:Int)<=FJ (Mn dm x.1 (FJ dm x.1+1)) x.2/\FJ (Mn dm x.1 (FJ dm x.1+1)) x.2<=1073741825000001:=by
    have b3:=j2.bound x.2;rw[Ra];split<;>omega
   refine Qo (vi (FJ (Mn dm x.1 (FJ dm x.1+1)) x.2)) (vi 0) (Sf kM x.2) (Sg _ x.2) (fun q=>q) (Yi (by show Ba (FJ (Mn dm x.1 (FJ dm x.1+1)) x.2-1);unfold Ba;omega) ?_);have hcl:=IR (CB l[i]);refine Yi (Ii j ch) ?_;have m2:HO.map Zi (E4 ((Mn dm x.1 (FJ dm x.1+1)).map Nk) (kI x.2) (vi (FJ (Mn dm x.1 (FJ dm x.1+1)) x.2-1)))=.map Zi ((bV dm x).map Nk):=by rw[TS];rfl
   refine Xi ⟨(j+1,bV dm x),by show j+1<=_;omega,j3⟩ ?_;exact⟨by show(canon l[i]).length-(j+1)<(canon l[i]).length-j;omega,⟨⟨rfl,hid _⟩,Zr,Zr,Zr,Zr,Zr,Zr,Zr,Tv⟩,⟨⟨m2,rfl⟩,Tv⟩,Fh,Tv⟩
  .intro hj;have hj:¬j<(canon l[i]).length:=by simpa using hj
   refine Yi (Ii i ch) ?_;have i3:JB dm ((l.take (i+1)).map canon).flatten:=by
    have e1:(canon l[i]).take j=canon l[i]:=At ch;rw[e1]at j2;have e2:((l.take (i+1)).map canon).flatten=((l.take i).map canon).flatten++canon l[i]:=by
     rw[Bj,hg,As,Ci];show _++(canon l[i]++[])=_;rw[BM]
    rw[e2];exact j2
   refine Xi ⟨(i+1,dm),by show i+1<=_;omega,i3⟩ ?_;exact⟨Dl l.length i ch,⟨⟨rfl,hid _⟩,Zr,Zr,Zr,Zr,Tv⟩,Z1,Fh,Tv⟩
 .intro h;have h:¬i<l.length:=by simpa using h
  have i3:JB cm (l.map canon).flatten:=by
   rw[At ch]at i2;exact i2
  have Ahd:=i3.few;have hmk:(0:Int)<=0/\(0:Int)<=((cm.map Nk).length:Int)/\((cm.map Nk).length:Int)*((8:Nat):Int)<=140737488355328/\((cm.map Nk).length:Int)<=9223372036854775807:=by rw[Lm];omega
  refine Yi hmk (Xi {p:List (Value×AV)×List Int×Option (Value×AV) // ((p.2.1.map kI)++p.1.map (·.1)).Perm ((cm.map Nk).map (·.1))/\∀kv∈p.1,kv∈cm.map Nk} (Xi (fun p=>⟨[(0,F),(5,.mref 15),(10,.msl 44 p.1.2.1.length),(46,.ref 46 0)],[(15,.rom Zi (cm.map Nk)),(44,.arr 1 (p.1.2.1.map G7)),(46,.iter (cm.map Nk) p.1.1 p.1.2.2)],Af⟩) (Xi (fun p=>p.1.1.length) (Yi (Xi ⟨(cm.map Nk,[],none),.refl _,fun _ h=>h⟩ ?_) ?_))))
  .exact⟨⟨⟨rfl,hid _⟩,Zr,Zr,Zr,Tv⟩,Z3,Fh,Tv⟩
  intro⟨⟨rem,bs,EI⟩,r1,r2⟩;have hbl:bs.length<=1000001:=by
   have:=r1.length_eq
   simp only[Ac,Lm]at this;omega
  refine Yi ?_ ?_
  .intro hr;subst hr;rw[E7,BM,Br]at r1;have Xs:bs.Perm (Fv cm):=by
    have r1:(bs.map kI).Perm ((Fv cm).map kI):=by unfold Fv;rw[Br];exact r1
    have:=r1.map (fun v:Value=>match v with | .int _ n=>n | _=>0)
    rw[Br,Br]at this;have e:((fun v:Value=>match v with | .int _ n=>n | _=>0) ∘ kI)=id:=rfl;rw[e,Gc,Gc]at this;exact this
   have DD:bs≠[]:=fun e=>by
    subst e
    have:=Xs.length_eq
    have h0:=i3.keys.1;rw[AQ this.symm]at h0;cases h0
   refine Xi (.gen [(44,1000)] 0) (Yi rfl ((Abx bs (by unfold B8;omega) DD).to ?_));intro B xU;have qo:B.length=bs.length:=xU.1.length_eq;have hBn:B.Nodup:=(xU.1.trans Xs).nodup_iff.2 i3.nd;have hB:pE B cm:=⟨xU.1.trans Xs,by
    rw[AT];intro a b ha hb dh;have h1:=(AT.1 xU.2) a b ha hb dh;have h2:B[a]≠B[b]:=(AT.1 hBn) a b ha hb dh;omega⟩
   have Af1:0<B.length:=by
    rw[qo];exact Hm.2 DD
   have hNE:bs.length=(B.map G7).length:=by rw[Lm,qo]
   refine Yi (by show Ba ((bs.length:Int)-1);unfold Ba;omega) (Xi {k:Nat // k<=B.length-1} (Xi (fun k=>⟨[(0,F),(5,.mref 15),(10,.msl 44 bs.length),(12,.slice (.id 12 2) ((EU keep cm B k.1).map AE)),(13,vi (Jp cm (B.take k.1))),(59,vi ((bs.length:Int)-1)),(60,vi k.1)],[(12,.tok 2 ((EU keep cm B k.1).map AE).length),(15,.rom Zi (cm.map Nk)),(44,.arr 1 (B.map G7))],Af⟩) (Xi (fun k=>B.length-k.1) (Yi (Xi ⟨0,AA _⟩ ?_) ?_))))
   .exact⟨⟨⟨rfl,hid _⟩,Zr,Zr,Zr,Zr,Zr,Zr,Tv⟩,Z3,Fh,Tv⟩
   intro⟨k,k1⟩;have wW:=Xx keep cm B k;refine Yi ?_ ?_
   .intro hk;have hk:(k:Int)<(bs.length:Int)-1:=hk;have IT:k+1<B.length:=by omega
    have dq:k<B.length:=by omega
    have sH:(B.map G7)[k]?=some (G7 B[k]):=Ed (Ge dq);have Acu:(B.map G7)[k+1]?=some (G7 B[k+1]):=Ed (Ge IT);have Ws:=Sd cm B k dq;have yS:=oz i3 hB k dq;have UZ:EU keep cm B (k+1)=EU keep cm B k++(if keep (Jp cm (B.take (k+1))).toNat then [(B[k],B[k+1])]else []):=by
     show _++(match B[k]?,B[k+1]? with | some a,some b=>if keep (Jp cm (B.take (k+1))).toNat then [(a,b)]else [] | _,_=>[])=_;rw[Ge dq,Ge IT]
    refine Xi ⟨[(0,F),(5,.mref 15),(10,.msl 44 bs.length),(12,.slice (.id 12 2) ((EU keep cm B k).map AE)),(13,vi (Jp cm (B.take k))),(14,vi k),(59,vi ((bs.length:Int)-1)),(60,vi k)],[(12,.tok 2 ((EU keep cm B k).map AE).length),(15,.rom Zi (cm.map Nk)),(44,.arr 1 (B.map G7))],Af⟩ (Yi ⟨⟨⟨rfl,hid _⟩,Zr,Zr,Zr,Zr,Zr,Zr,Zr,Tv⟩,Z3,Fh,Tv⟩ (Yi ⟨by show(0:Int)<=k;omega,by show(k:Int)<bs.length;omega⟩ ?_));refine Yi hNE (Xi (G7 B[k]) (Yi sH (Qo (vi (FJ cm B[k])) (vi 0) (Sf i3.nd B[k]) (Sg cm B[k]) (fun q=>q) (Yi (by show Ba (Jp cm (B.take k)+FJ cm B[k]);rw[<-Ws];unfold Ba;omega) ?_))));have Cg:∀h,Re Tryz.prog (str h F) [vi (Jp cm (B.take k)+FJ cm B[k])] (vb (keep (Jp cm (B.take (k+1))).toNat)):=fun h=>by
     rw[<-Ws];exact hF h _ yS.1 yS.2
    refine BN (Bt (keep (Jp cm (B.take (k+1))).toNat)) (fun hp=>?_) (fun hp=>?_)
    .rw[hp]at Cg;rw[hp,Ao rfl]at UZ;refine Xi .pure (Xi (vb true) (Yi (Cg _) (Xi ⟨[(0,F),(5,.mref 15),(10,.msl 44 bs.length),(12,.slice (.id 12 2) ((EU keep cm B k).map AE)),(13,vi (Jp cm (B.take k)+FJ cm B[k])),(14,vi k),(59,vi ((bs.length:Int)-1)),(60,vi k)],[(12,.tok 2 ((EU keep cm B k).map AE).length),(15,.rom Zi (cm.map Nk)),(44,.arr 1 (B.map G7))],Af⟩ (Yi ⟨⟨⟨rfl,hid _⟩,Zr,Zr,Zr,Zr,Zr,Zr,Zr,Tv⟩,Z3,Fh,Tv⟩ ?_))))
     have b1:(0:Int)<=(k:Int)+1/\(k:Int)+1<bs.length:=by omega
     have Acv:(B.map G7)[((k:Int)+1).toNat]?=some (G7 B[k+1]):=by rw[show((k:Int)+1).toNat=k+1 by omega];exact Acu
     refine Yi ⟨by show(0:Int)<=k;omega,by show(k:Int)<bs.length;omega⟩ ?_;refine Yi hNE (Xi (G7 B[k]) (Yi sH (Yi (Ii k ch) (Yi b1 (Yi hNE (Xi (G7 B[k+1]) (Yi Acv ?_)))))));have Hw:Cf 2 [[vi B[k],vi B[k+1]]]/\((EU keep cm B k).map AE).length=((EU keep cm B k).map AE).length/\(((EU keep cm B k).map AE).length+[[vi B[k],vi B[k+1]]].length)*16<=140737488355328/\((EU keep cm B k).map AE).length+[[vi B[k],vi B[k+1]]].length<=9223372036854775807:=
      ⟨⟨rfl,trivial⟩,rfl,by rw[Lm,Bg];omega,by rw[Lm,Bg];omega⟩
     refine Yi Hw (Yi Wk (Xi ⟨[(0,F),(5,.mref 15),(10,.msl 44 bs.length),(12,.slice (.id 12 2) ((EU keep cm B k).map AE++[[vi B[k],vi B[k+1]]])),(13,vi (Jp cm (B.take k)+FJ cm B[k])),(59,vi ((bs.length:Int)-1)),(60,vi k)],[(12,.tok 2 (((EU keep cm B k).map AE).length+[[vi B[k],vi B[k+1]]].length)),(15,.rom Zi (cm.map Nk)),(44,.arr 1 (B.map G7))],Af⟩ (Yi ⟨⟨⟨rfl,hid _⟩,Zr,Zr,Zr,Zr,Zr,Zr,Tv⟩,Z3,Fh,Tv⟩ (Yi (Ii k ch) (Xi ⟨k+1,by omega⟩ ?_)))));have e1:AV.slice (.id 12 2) ((EU keep cm B k).map AE++[[vi B[k],vi B[k+1]]])=.slice (.id 12 2) ((EU keep cm B (k+1)).map AE):=by rw[UZ,As];rfl
     have e2:vi (Jp cm (B.take k)+FJ cm B[k])=vi (Jp cm (B.take (k+1))):=by rw[Ws]
     have e3:HO.tok 2 (((EU keep cm B k).map AE).length+[[vi B[k],vi B[k+1]]].length)=.tok 2 ((EU keep cm B (k+1)).map AE).length:=by rw[UZ,As,Ac];rfl
     exact⟨Dl B.length k ch,⟨⟨rfl,hid _⟩,Zr,Zr,⟨e1,rfl⟩,⟨e2,rfl⟩,Zr,Zr,Tv⟩,⟨⟨e3,rfl⟩,Zr,Zr,Tv⟩,Fh,Tv⟩
    .rw[hp]at Cg;have UZ:EU keep cm B (k+1)=EU keep cm B k:=by rw[UZ,hp,Aj CL,BM]
     refine Xi .pure (Xi (vb false) (Yi (Cg _) (Xi ⟨[(0,F),(5,.mref 15),(10,.msl 44 bs.length),(12,.slice (.id 12 2) ((EU keep cm B k).map AE)),(13,vi (Jp cm (B.take k)+FJ cm B[k])),(59,vi ((bs.length:Int)-1)),(60,vi k)],[(12,.tok 2 ((EU keep cm B k).map AE).length),(15,.rom Zi (cm.map Nk)),(44,.arr 1 (B.map G7))],Af⟩ (Yi ⟨⟨⟨rfl,hid _⟩,Zr,Zr,Zr,Zr,Zr,Zr,Tv⟩,Z3,Fh,Tv⟩ (Yi (Ii k ch) (Xi ⟨k+1,by omega⟩ ?_))))));have e1:AV.slice (.id 12 2) ((EU keep cm B k).map AE)=.slice (.id 12 2) ((EU keep cm B (k+1)).map AE):=by rw[UZ]
     have e2:vi (Jp cm (B.take k)+FJ cm B[k])=vi (Jp cm (B.take (k+1))):=by rw[Ws]
     have e3:HO.tok 2 ((EU keep cm B k).map AE).length=.tok 2 ((EU keep cm B (k+1)).map AE).length:=by rw[UZ]
     exact⟨Dl B.length k ch,⟨⟨rfl,hid _⟩,Zr,Zr,⟨e1,rfl⟩,⟨e2,rfl⟩,Zr,Zr,Tv⟩,⟨⟨e3,rfl⟩,Zr,Zr,Tv⟩,Fh,Tv⟩
   .intro hk;have hk:¬(k:Int)<(bs.length:Int)-1:=hk;have IT:k=B.length-1:=by omega
    have Acz:canon (EU keep cm B k)=R:=by
     refine(Ut hR fun p=>?_).symm;rw[IT,hRh,mY i3 hB]
    have hc:=Ys (EU keep cm B k) (by unfold B8;omega);rw[Acz]at hc;refine Xi .pure (Xi _ (Yi hc ?_));exact .refl _
  .intro kv Mo hp;refine CR (Ai.1 (r2 kv (hp.mem_iff.2 (Ab ..)))) (fun q hq=>?_);have hq2:=hq.2;subst hq2;refine Xi ⟨[(0,F),(5,.mref 15),(10,.msl 44 bs.length),(46,.ref 46 0)],[(15,.rom Zi (cm.map Nk)),(44,.arr 1 (bs.map G7)),(46,.iter (cm.map Nk) Mo (some (Nk q)))],Af⟩ (Yi ⟨⟨⟨rfl,hid _⟩,Zr,Zr,Zr,Tv⟩,Z3,Fh,Tv⟩ ?_)
   have Hw:Cf 1 [G7 q.1]/\(bs.map G7).length=bs.length/\((bs.map G7).length+[G7 q.1].length)*8<=140737488355328/\(bs.map G7).length+[G7 q.1].length<=9223372036854775807:=
    ⟨⟨rfl,trivial⟩,by rw[Lm],by rw[Lm,Bg];omega,by rw[Lm,Bg];omega⟩
   refine Yi Hw ?_;have e1:AV.msl 44 ((bs.map G7).length+[G7 q.1].length)=.msl 44 (bs++[q.1]).length:=by simp
   have e2:HO.arr 1 (bs.map G7++[G7 q.1])=.arr 1 ((bs++[q.1]).map G7):=by simp
   refine Xi ⟨(Mo,bs++[q.1],some (Nk q)),?_,fun kv Rd=>r2 kv (hp.mem_iff.2 (Ah _ Rd))⟩ ?_
   .show(((bs++[q.1]).map kI)++Mo.map (·.1)).Perm _;have h1:=hp.map (fun x:Value×AV=>x.1);rw[AL]at h1;rw[As,BB];exact(II _ h1.symm).trans r1
   .exact⟨by show Mo.length<rem.length;rw[hp.length_eq];simp,⟨⟨rfl,hid _⟩,Zr,⟨e1,rfl⟩,Zr,Tv⟩,⟨Zr,⟨e2,rfl⟩,Zr,Tv⟩,Fh,Tv⟩
theorem Abq(l:List Bx):PC 377 [vi n,.cptr [sl GR l]] (vb (decide (n=l.length))):=by
 refine Ps Ej Tryz.func377 rfl (Nz rfl) ?_;have e:((l.map GR).length:Int)=l.length:=by rw[Lm]
 refine Yi ?_ ?_
 .intro h;rw[show decide (n=(l.length:Int))=true from Ar (h.trans e)];exact .refl _
 .intro h;rw[show decide (n=(l.length:Int))=false from Av (fun c=>h (c.trans e.symm))];exact .refl _
theorem Abs:PC 342 [vi n] (vb (decide (n=0))):=by
 refine Ps Ej Tryz.func342 rfl (Nz rfl) (Yi ?_ ?_)
 .intro h;rw[Ar h];exact .refl _
 .intro h;rw[Av h];exact .refl _
theorem AbQ:PC 369 [vi n] (vb (decide (0<n))):=by
 refine Ps Ej Tryz.func369 rfl (Nz rfl) (Yi ?_ ?_)
 .intro h;rw[Ar h];exact .refl _
 .intro h;rw[Av h];exact .refl _
theorem mW(l:List Bx)(p:Int):decide (kE l p=l.length)=l.all fun s=>has s p:=by
 unfold kE;rw[B5,AD,List.countP_eq_length,AZ]
theorem mX(l:List Bx)(p:Int):decide (0<kE l p)=l.any fun s=>has s p:=by
 unfold kE;rw[B5,AD,List.countP_pos_iff,Bd]
theorem Abi(l:List Bx)(hl:B8 l)(hs:∀s∈l,B8 s):PC 367 [sl GR l] (sl AE (RC l)):=by
 have hc:=t8 (.clo 377 [.cptr [sl GR l]]) (fun n=>decide (n=l.length)) l hl hs (fun _=>rfl) (fun h n h0 _=>by
  have:=Abq n l
  have e:decide (n=(l.length:Int))=decide (n.toNat=l.length):=by rw[decide_eq_decide];omega
  rw[e]at this;exact this) (RC l) (Y0 l) fun p=>by rw[UU,mW]
 refine Ps (pA [1]) Tryz.func367 rfl (Nz rfl) (Xi .pure (Xi _ (Yi (hc) ?_)));exact .refl _
theorem tY(hs:B8 s):PC 310 [sl AE s] (sl AE (EZ s)):=by
 have hc:=t8 (.v (YK 342)) (fun n=>decide (n=0)) [s] (by unfold B8;simp) (fun t ht=>by rw[Aq.1 ht];exact hs) (fun _=>rfl) (fun h n h0 _=>by
  have:=Abs n
  have e:decide (n=0)=decide (n.toNat=0):=by rw[decide_eq_decide];omega
  rw[e]at this;exact this) (EZ s) (H1 s) fun p=>by
   rw[F5]
   have:kE [s] p=if has s p then 1 else 0:=by unfold kE;rw[Ju];simp
   rw[this];cases has s p<;>rfl
 refine Ps Ej Tryz.func310 rfl (Nz rfl) (Xi .pure (Xi _ (Yi (hc) ?_)));exact .refl _
theorem AbN(l:List Bx)(hl:B8 l)(hs:∀s∈l,B8 s):PC 352 [sl GR l] (sl AE (Se l)):=by
 have hc:=t8 (.v (YK 369)) (fun n=>decide (0<n)) l hl hs (fun _=>rfl) (fun h n h0 _=>by
  have:=AbQ n
  have e:decide (0<n)=decide (0<n.toNat):=by rw[decide_eq_decide];omega
  rw[e]at this;exact this) (Se l) (Zk l) fun p=>by
   rw[UV,mX];cases h:l.any fun s=>has s p with
   |false=>simp
   |true=>
    obtain⟨s,_,h2⟩:=Bd.1 h
    have:=Ng h2
    simp[MN,this]
 refine Ps Ej Tryz.func352 rfl (Nz rfl) (Xi .pure (Xi _ (Yi (hc) ?_)));exact .refl _
-- terms
theorem c59(ht:B8 t.set):PC 348 [.agg (AO t)] (vb (!t.absent&&(canon t.set).isEmpty)):=by
 refine Ps Ej Tryz.func348 rfl (Nz rfl) (Yi ?_ ?_)
 .intro h;rw[h];exact .refl _
 .intro h;refine Xi .pure (Xi _ (Yi (Ys t.set ht) (Yi ?_ ?_)))
  .intro h2;have h2:canon t.set=[]:=AQ (by rw[Lm]at h2;omega);rw[h,h2];exact .refl _
  .intro h2;have h2:(canon t.set).isEmpty=false:=by
    cases hc:canon t.set with
    |nil=>rw[hc]at h2;exact absurd rfl h2
    |cons _ _=>rfl
   rw[h,h2];exact .refl _
theorem c60(ht:B8 t.set):PC 349 [.agg (AO t)] (vb (t.absent&&(EZ t.set).isEmpty)):=by
 refine Ps Ej Tryz.func349 rfl (Nz rfl) (Yi ?_ ?_)
 .intro h;refine Xi .pure (Xi _ (Yi (tY t.set ht) (Yi ?_ ?_)))
  .intro h2;have h2:EZ t.set=[]:=AQ (by rw[Lm]at h2;omega);rw[h,h2];exact .refl _
  .intro h2;have h2:(EZ t.set).isEmpty=false:=by
    cases hc:EZ t.set with
    |nil=>rw[hc]at h2;exact absurd rfl h2
    |cons _ _=>rfl
   rw[h,h2];exact .refl _
 .intro h;rw[h];exact .refl _
abbrev Kr(l:List Nat):Th:=⟨[],[],[],[],[],[],[],[],[],[],l⟩
theorem c58(hu:B8 u.set)(ht:B8 t.set):PC 347 [.agg (AO u),.agg (AO t)] (.agg (AO (Hv u t))):=by
 have hc:PC 367 [sl GR [u.set,t.set]] (sl AE (Qu u.set t.set)):=Abi [u.set,t.set] (by unfold B8;simp) (fun s hs=>by
  rcases AC.1 hs with rfl | hs
  .exact hu
  .rw[Aq.1 hs];exact ht)
 refine Ps (Kr []) Tryz.func347 rfl (Nz rfl) (Yi ?_ ?_)
 .intro h;refine Yi ?_ ?_
  .intro h2;have e:[vs u.path,vb true,sl AE (Qu u.set t.set)]=AO (Hv u t):=by unfold Hv;rw[h,h2];rfl
   refine Xi _ (Yi (hc) (Yi (Nz rfl) (Yi Wk (yN ?_))));exact .of_eq (Aa AV.agg e)
  .intro h2;have e:[vs u.path,vb false,sl AE (Qu u.set t.set)]=AO (Hv u t):=by unfold Hv;rw[h,h2];rfl
   refine Xi _ (Yi (hc) (Yi (Nz rfl) (Yi Wk (yN ?_))));exact .of_eq (Aa AV.agg e)
 .intro h;have e:[vs u.path,vb false,sl AE (Qu u.set t.set)]=AO (Hv u t):=by unfold Hv;rw[h];rfl
  refine Xi _ (Yi (hc) (Yi (Nz rfl) (Yi Wk (yN ?_))));exact .of_eq (Aa AV.agg e)
theorem AbI(hu:B8 u.set)(ht:B8 t.set):PC 313 [.agg (AO u),.agg (AO t)] (.agg (AO (Dz u t))):=by
 have hc:PC 352 [sl GR [u.set,t.set]] (sl AE (QZ u.set t.set)):=AbN [u.set,t.set] (by unfold B8;simp) (fun s hs=>by
  rcases AC.1 hs with rfl | hs
  .exact hu
  .rw[Aq.1 hs];exact ht)
 refine Ps (Kr []) Tryz.func313 rfl (Nz rfl) (Yi ?_ ?_)
 .intro h;have e:[vs u.path,vb true,sl AE (QZ u.set t.set)]=AO (Dz u t):=by unfold Dz;rw[h];rfl
  refine Xi _ (Yi (hc) (Yi (Nz rfl) (Yi Wk (yN ?_))));exact .of_eq (Aa AV.agg e)
 .intro h;refine Yi ?_ ?_
  .intro h2;have e:[vs u.path,vb true,sl AE (QZ u.set t.set)]=AO (Dz u t):=by unfold Dz;rw[h,h2];rfl
   refine Xi _ (Yi (hc) (Yi (Nz rfl) (Yi Wk (yN ?_))));exact .of_eq (Aa AV.agg e)
  .intro h2;have e:[vs u.path,vb false,sl AE (QZ u.set t.set)]=AO (Dz u t):=by unfold Dz;rw[h,h2];rfl
   refine Xi _ (Yi (hc) (Yi (Nz rfl) (Yi Wk (yN ?_))));exact .of_eq (Aa AV.agg e)
theorem xB(hq:B8 q.set):PC 305 [.agg (A8 q)] (.agg (AO (DZ q))):=by
 refine Ps Ej Tryz.func305 rfl (Nz rfl) (Xi _ (Yi (tY q.set hq) (Yi (Nz rfl) (Yi Wk (yN ?_)))));exact .refl _
abbrev Cr:E9:=⟨false,[.str]⟩
abbrev TQ:Value×AV:=(.string t.path,.agg (AO t))
abbrev zn(fin cut:List Nat):Th:=⟨[],[],[],[],fin,[],[],[],[],[],cut⟩
theorem TR{p:ByteArray}{a:AV}:(Value.string p,a)∈m.map TQ↔∃t∈m,t.path=p/\a=.agg (AO t):=by
 rw[Ai];constructor
 .rintro⟨t,h1,h2⟩
  simp only[Gd,Value.string.injEq]at h2;exact⟨t,h1,h2.1,h2.2.symm⟩
 .rintro⟨t,h1,rfl,rfl⟩
  exact⟨t,h1,rfl⟩
theorem nf(m:List Tm)(t:Tm):E4 (m.map TQ) (.string t.path) (.agg (AO t))=(Zb m t).map TQ:=by
 unfold Zb
 by_cases h:(m.any fun u=>decide (u.path=t.path))=true
 .rw[Ao h];obtain⟨u,h1,h2⟩:=Bd.1 h;have h2:=AK h2
  have:(Value.string t.path,AV.agg (AO u))∈m.map TQ:=TR.2 ⟨u,h1,h2,rfl⟩
  rw[NX this,Br,Br];apply Bi;intro q _;simp only[Function.comp]
  by_cases e:q.path=t.path
  .simp[e]
  .have:¬Value.string q.path=.string t.path:=fun c=>e (by injection c)
   simp[e]
 .rw[Aj h]
  have:∀b,(Value.string t.path,b)∉m.map TQ:=fun b hb=>by
   obtain⟨u,h1,h2,_⟩:=TR.1 hb;exact h (Bd.2 ⟨u,h1,by simp[h2]⟩)
  rw[IY this,As];rfl
theorem l8(hn:(EW m).Nodup)(p:ByteArray){K:AV->Prop}{Z:Prop}(hy:∀u,DC m p=some u->K (.agg (AO u)))(Ob:DC m p=none->Z) :
  (∀a,(Value.string p,a)∈m.map TQ->K a)/\((∀a,(Value.string p,a)∉m.map TQ)->Z):=
 ⟨fun a h=>by
  obtain⟨t,h1,h2,rfl⟩:=TR.1 h;subst h2;exact hy t ((M7 hn).1 h1),fun h=>Ob (by
  cases e:DC m p with
  |none=>rfl
  |some u=>exact absurd (TR.2 ⟨u,Fz e,HL e,rfl⟩) (h _))⟩
theorem Qe{t:Tm}(h:E6 t.set):B8 t.set:=by
 unfold B8
 have:=IR h;omega
theorem c57(hl:B8 l)(hs:∀t∈l,B8 t.set):PC 346 [sl AO l,.v (YK 347)] (.cmap Cr ((DM l).map TQ)):=by
 refine Ps (zn [10] []) Tryz.func346 rfl (Nz rfl) (Xi {i:Nat // i<=l.length} (Xi (fun i=>⟨[(0,sl AO l),(1,.v (YK 347)),(5,.mref 10),(11,sl AO l),(12,vi (l.map AO).length),(13,vi i.1)],[(10,.map Cr ((DM (l.take i.1)).map TQ))],Af⟩) (Xi (fun i=>l.length-i.1) (Yi (Xi ⟨0,AA _⟩ ?_) ?_))))
 .exact⟨Z6,Z1,Fh,Tv⟩
 intro⟨i,h1⟩;have hn:=Iv (l.take i);refine Yi ?_ ?_
 .intro h;have h:i<l.length:=by simpa using h
  have hg:l[i]?=some l[i]:=Ge h;refine Xi (AO l[i]) (Yi (Yi (Nn i) (by simp[hg])) (Yi rfl ?_));refine Yi (Nz rfl) (yN ?_);have FH:=hs l[i] (Al h);have tail:∀u:Tm,B8 u.set->Hv u l[i]=Pi (DC (DM (l.take i)) l[i].path) l[i]->E4 ((DM (l.take i)).map TQ) (.string l[i].path) (.agg (AO (Hv u l[i])))=(DM (l.take (i+1))).map TQ:=fun u hu e=>by
   have hp:(Pi (DC (DM (l.take i)) l[i].path) l[i]).path=l[i].path:=RO _ _ fun u h=>HL h;have e2:=nf (DM (l.take i)) (Hv u l[i]);have e3:(Hv u l[i]).path=l[i].path:=by rw[e];exact hp
   rw[e3]at e2;rw[e2,SU l i h,e];rfl
  refine l8 hn l[i].path (fun u hu=>?_) (fun hu=>?_)
  .have Lq:B8 u.set:=Qe (Qz _ u (Fz hu));refine yN ?_;have A2:=tail u Lq (by rw[gH,hu];rfl);refine Yi (Nz rfl) (yN (Xi _ (Yi (c58 u l[i] Lq FH) (Yi Wk (Yi (Ii i ch) (Xi ⟨i+1,by omega⟩ ?_))))));have e1:HO.map Cr (E4 ((DM (l.take i)).map TQ) (.string l[i].path) (.agg (AO (Hv u l[i]))))=.map Cr ((DM (l.take (i+1))).map TQ):=by rw[A2]
   exact⟨Dl l.length i ch,Z6,⟨⟨e1,rfl⟩,Tv⟩,Fh,Tv⟩
  .refine yN (Yi (Nz rfl) (yN ?_));have A2:=tail l[i] FH (by rw[gH,hu];rfl);refine Yi (Nz rfl) (yN (Xi _ (Yi (c58 l[i] l[i] FH FH) (Yi Wk (Yi (Ii i ch) (Xi ⟨i+1,by omega⟩ ?_))))));have e1:HO.map Cr (E4 ((DM (l.take i)).map TQ) (.string l[i].path) (.agg (AO (Hv l[i] l[i]))))=.map Cr ((DM (l.take (i+1))).map TQ):=by rw[A2]
   exact⟨Dl l.length i ch,Z6,⟨⟨e1,rfl⟩,Tv⟩,Fh,Tv⟩
 .intro h;have h:¬i<l.length:=by simpa using h
  have e:(DM (l.take i)).map TQ=(DM l).map TQ:=by rw[At ch]
  exact .of_eq (Aa (AV.cmap Cr) e)
abbrev Hi:AV:=.tup [sl AO (RK l),vb (Df l).isSome]
abbrev AdE:Th:=⟨[],[],[(4,3)],[],[],[],[],[],[],[(25,4)],[]⟩
abbrev fb:HO:=.arr 3 (l.map AO)
abbrev GI:List Tm:=l.filter fun t=>!G5 t
theorem qW{l:List Tm}{kv:Value×AV}{Mo : List (Value×AV)}(h:(l.map TQ).Perm (kv::Mo)):∃t r,kv=TQ t/\Mo=r.map TQ/\l.Perm (t::r):=by
 obtain⟨ps,h1,h2⟩:=KU h l rfl;cases ps with
 |nil=>cases h2
 |cons t r=>
  rw[AL,Ff]at h2;exact⟨t,r,h2.1.symm,h2.2.symm,h1.symm⟩
theorem ZQ{l:List Tm}{t:Tm}(h:t∈DM l)(hn:IZ t=true):Df l=none:=by
 unfold Df;rw[Ao (Bd.2 ⟨t,(JZ l t).1 h,hn⟩)]
theorem cK{l done s:List Tm}(h:done.Perm (DM l))(hn:∀t∈done,IZ t=false)(hp:s.Perm (GI done))(hs:s.Pairwise fun x y=>Ef y.path x.path=false):Df l=some s:=by
 unfold Df;rw[Aj]
 .congr 1
  exact(Rn _ (hp.trans (h.filter _)) hs).symm
 .intro c;obtain⟨t,h1,h2⟩:=Bd.1 c
  have:=hn t (h.mem_iff.2 ((JZ l t).2 h1))
  rw[h2]at this;cases this
theorem jo:(GI l).length<=l.length:=Bv _ _
theorem c29(hl:B8 l)(hs:∀t∈l,B8 t.set):PC 312 [sl AO l] (Hi l):=by
 have jd:l.length<=1073741824:=hl;have hml:(DM l).length<=l.length:=by have:=Pd l l.length (Ak _);rwa [B9]at this
 refine Ps AdE Tryz.func312 rfl (Nz rfl) (Xi .pure (Xi _ (Yi (c57 l hl hs) (Xi {p:List Tm×List Tm×Option (Value×AV) // (p.1++p.2.1).Perm (DM l)/\∀t∈p.1,IZ t=false} (Xi (fun p=>⟨[(4,.msl 4 (GI p.1.1).length),(9,.ref 9 0)],[(4,fb (GI p.1.1)),(9,.iter ((DM l).map TQ) (p.1.2.1.map TQ) p.1.2.2)],Af⟩) (Xi (fun p=>p.1.2.1.length) (Yi (Xi ⟨([],DM l,none),.refl _,fun t ht=>by cases ht⟩ ?_) ?_)))))))
 .exact⟨Z2,Z2,Fh,Tv⟩
 intro⟨⟨done,rem,EI⟩,r1,r2⟩;have r1:(done++rem).Perm (DM l):=r1;have hdl:done.length+rem.length<=l.length:=by have:=r1.length_eq;rw[Ac]at this;omega
 have wW:=jo done;refine Yi ?_ ?_
 .intro hr;have hr:rem=[]:=DJ.1 hr;subst hr;rw[BM]at r1;refine Xi (.gen [(4,1000)] 0) (Yi rfl ((c61 (GI done) (by unfold B8;omega)).to ?_));intro s hq;have SH:s.length=(GI done).length:=hq.1.length_eq;have hc:=cK r1 r2 hq.1 hq.2;refine Yi (by rw[Lm,SH]) ?_;have e:AV.tup [sl AO s,vb true]=Hi l:=by unfold Hi RK;rw[hc];rfl
  exact .of_eq e
 .intro kv Mo hp;refine CR (qW hp) (fun t hp=>CR hp (fun r hp=>?_));have e1:=hp.1;have e2:=hp.2.1;subst e1;subst e2;have hp:=hp.2.2;have htm:t∈DM l:=r1.mem_iff.1 (Bw _ (hp.mem_iff.2 (Ab ..)));have htc:=Qz l t htm;have htf:=Qe htc;refine Yi (Nz rfl) (yN ?_);have hv:PC 348 [.agg (AO t)] (vb (IZ t)):=nl htc▸c59 t htf;have ha:PC 349 [.agg (AO t)] (vb (G5 t)):=io htc▸c60 t htf;refine BN (Bt (IZ t)) (fun h=>?_) (fun h=>?_)
  .rw[h]at hv;refine Xi .pure (Xi _ (Yi (hv) ?_));have hc:=ZQ htm h;have e:AV.tup [.slice .none [],vb false]=Hi l:=by unfold Hi RK;rw[hc];rfl
   have e0:CY (.tup [nzA,vb false]) (.tup [.slice .none [],vb false]):=CY.tup ⟨.nil,.refl _,trivial⟩;exact e0.trans (.of_eq e)
  .rw[h]at hv;refine Xi .pure (Xi _ (Yi (hv) (yN ?_)));have SF:((done++[t])++r).Perm (DM l):=by
    rw[BB];exact(II _ hp.symm).trans r1
   have hnv:∀u∈done++[t],IZ u=false:=fun u hu=>by
    rcases AP.1 hu with hu | hu
    .exact r2 u hu
    .rw[Aq.1 hu];exact h
   have hrl:r.length<rem.length:=by rw[hp.length_eq,Am];omega
   refine BN (Bt (G5 t)) (fun h2=>?_) (fun h2=>?_)
   rotate_left
   .rw[h2]at ha;refine Xi .pure (Xi _ (Yi (ha) ?_));have Hw:Cf 3 [AO t]/\((GI done).map AO).length=(GI done).length/\(((GI done).map AO).length+[AO t].length)*48<=140737488355328/\((GI done).map AO).length+[AO t].length<=9223372036854775807:=
     ⟨⟨rfl,trivial⟩,by rw[Lm],by rw[Lm,Bg];omega,by rw[Lm,Bg];omega⟩
    refine yN (Yi Hw ?_);have hk:GI (done++[t])=GI done++[t]:=by unfold GI;rw[EK,El,Ao (by rw[h2];rfl)];rfl
    have e1:AV.msl 4 (((GI done).map AO).length+[AO t].length)=.msl 4 (GI (done++[t])).length:=by rw[hk];simp
    have e2:HO.arr 3 ((GI done).map AO++[AO t])=fb (GI (done++[t])):=by rw[hk];simp
    refine Xi ⟨(done++[t],r,some (TQ t)),SF,hnv⟩ ?_;exact⟨hrl,⟨⟨e1,rfl⟩,Zr,Tv⟩,⟨⟨e2,rfl⟩,Zr,Tv⟩,Fh,Tv⟩
   .rw[h2]at ha;refine Xi .pure (Xi _ (Yi (ha) ?_));have hk:GI (done++[t])=GI done:=by unfold GI;rw[EK,El,Aj (by rw[h2];decide)];simp
    have e1:AV.msl 4 (GI done).length=.msl 4 (GI (done++[t])).length:=by rw[hk]
    have e2:fb (GI done)=fb (GI (done++[t])):=by rw[hk]
    refine Xi ⟨(done++[t],r,some (TQ t)),SF,hnv⟩ ?_;exact⟨hrl,⟨⟨e1,rfl⟩,Zr,Tv⟩,⟨⟨e2,rfl⟩,Zr,Tv⟩,Fh,Tv⟩
theorem uf(hl:B8 l)(hs:∀t∈l,B8 t.set):PC 304 [sl AO l] (sl AO (RK l)):=by
 refine Ps Ej Tryz.func304 rfl (Nz rfl) (Xi .pure (Xi _ (Yi (c29 l hl hs) ?_)));exact .refl _
theorem Rw:B8 (EZ s):=by
 unfold B8;have:=IR (H1 s);omega
theorem uq:B8 [x]:=by unfold B8;simp
theorem Ac3(y:α):B8 [x,y]:=by unfold B8;simp
theorem AbB(hq:B8 q.set):PC 256 [.agg (A8 q)] (sl AO (Ks q)):=by
 have hc:PC 304 [sl AO [DZ q]] (sl AO (Ks q)):=uf [DZ q] (uq _) fun t ht=>by rw[Aq.1 ht];exact Rw _
 refine Ps Ej Tryz.func256 rfl (Nz rfl) (yN (Xi .pure (Xi _ (Yi (xB q hq) (Xi .pure (Xi _ (Yi (hc) ?_)))))));exact .refl _
theorem AbC(pl:Int)(q:Rq)(hp:Ba (pl+1))(hq:B8 q.set):PC 257 [vs p,vi pl,.agg (A8 q)] (sl AO (EG p pl q)):=by
 have hc:PC 304 [sl AO [⟨p,false,[(pl,pl+1)]⟩,DZ q]] (sl AO (EG p pl q)):=uf [⟨p,false,[(pl,pl+1)]⟩,DZ q] (Ac3 _ _) fun t ht=>by
  rcases AC.1 ht with rfl | ht
  .exact uq _
  .rw[Aq.1 ht];exact Rw _
 refine Ps Ej Tryz.func257 rfl (Nz rfl) (Yi hp (yN (Xi .pure (Xi _ (Yi (xB q hq) (Xi .pure (Xi _ (Yi (hc) ?_))))))));exact .refl _
theorem xy(hs:B8 s):PC 261 [vs p,sl AE s] (sl AO (IM p s)):=by
 have hc:PC 304 [sl AO [⟨p,false,EZ s⟩]] (sl AO (IM p s)):=uf [⟨p,false,EZ s⟩] (uq _) fun t ht=>by rw[Aq.1 ht];exact Rw _
 refine Ps Ej Tryz.func261 rfl (Nz rfl) (Xi .pure (Xi _ (Yi (tY s hs) (Xi .pure (Xi _ (Yi (hc) ?_))))));exact .refl _
end Go.Eng
