/- Lemmas 19. -/
import Derived.Test.YteaiieomnhbmgaaGreatDoorFA18
namespace Go.Eng
open Go.Proofs
variable {y:Int×Int}{α:Type}{t:Bz}(s:Bz)(l:List (Int×Int))(j:Bz)(i:Nat)
abbrev pla(l:List (Nat×Nat))(cut:List Nat):Tt:=⟨[],[],l,[],[],[],[],[],[],[],cut⟩
abbrev Ni:HO:=.arr 2 (l.map AE)
theorem dE(l:Bz)(i:Nat):(D2 (l.take i)).length<=i:=by
 unfold D2
 have:=Bx (fun x:Int×Int=>decide (x.1<x.2)) ((l.take i).map Ju)
 rw[Lm,Ax]at this;omega
theorem Xx{l:Bz}{i:Nat}(h:i<l.length)(h3:(Ju l[i]).1<(Ju l[i]).2):D2 (l.take (i+1))=D2 (l.take i)++[Ju l[i]]:=by
 rw[Bh,Ge h,P0];unfold D2;simp[h3]
theorem aA{l:Bz}{i:Nat}(h:i<l.length)(h3:¬(Ju l[i]).1<(Ju l[i]).2):D2 (l.take (i+1))=D2 (l.take i):=by
 rw[Bh,Ge h,P0];unfold D2;simp[h3]
abbrev arr2:Bz:=(BY (s.take i)).reverse++(j++s.drop i)
theorem qn(h:i<s.length)(hj:(BY (s.take i)).length+j.length=i):(arr2 s j i)[i]?=some s[i]:=by
 unfold arr2;rw[A2 (by rw[DN];omega),A2 (by rw[DN];omega),DN,DX];rw[show i+(i-(BY (List.take i s)).length-j.length)=i by omega,Ge h]
theorem iX(e:BY (s.take i)=y::t):(arr2 s j i)[t.length]?=some y:=by
 unfold arr2;rw[e,SA,BD,A2 (by rw[DN];omega),DN,E7];rfl
theorem lL(h:i<=s.length)(hj:(BY (s.take i)).length+j.length=i):(arr2 s j i).length=s.length:=by
 unfold arr2;simp only[Ac,DN,Di];omega
theorem gj(s:List α)(i:Nat)(h:i<s.length):s.drop i=s[i]::s.drop (i+1):=AI h
theorem Xl(h:i<s.length)(e:Ma (BY (s.take i)) s[i]=s[i]::BY (s.take i)) :
  (arr2 s j i).set (BY (s.take i)).length s[i]=arr2 s (j++[s[i]]).tail (i+1):=by
 unfold arr2;rw[G3 s i h,e,SA,List.set_append_right _ _ (by rw[DN];exact Am _),DN,E7,BD,gj s i h]
 congr 1
 cases j with
 |nil=>rfl
 |cons a b=>simp
theorem iW(h:i<s.length)(e:BY (s.take i)=y::t)(Is:s[i].1<=y.2) :
  (arr2 s j i).set t.length (y.1,max y.2 s[i].2)=arr2 s (j++[s[i]]) (i+1):=by
 unfold arr2;have e2:Ma (y::t) s[i]=(y.1,max y.2 s[i].2)::t:=by show(if s[i].1<=y.2 then _ else _)=_;rw[Ap Is]
 rw[G3 s i h,e,e2,SA,SA,BD,List.set_append_right _ _ (by rw[DN];exact Am _),DN,E7,gj s i h];simp
theorem Ek{enc:α->List AV}{l:List α}{i:Nat}{x:α}(h:l[i]?=some x):(l.map enc)[i]?=some (enc x):=by rw[AG,h];rfl
theorem YL(hl:B8 l):PC 169 [sl AE l] (sl AE (canon l)):=by
 refine Gc (jp (pla [(3,2)] [])) rfl C3 hm rfl Tryz.func169 Wk rfl (Nz rfl) Wk (Xi {i:Nat // i<=l.length} (Xi (fun i=>⟨[(0,sl AE l),(3,.msl 3 (D2 (l.take i.1)).length),(9,sl AE l),(10,vi (l.map AE).length),(11,vi i.1)],[(3,Ni (D2 (l.take i.1)))],Ag⟩) (Xi (fun i=>l.length-i.1) (Yi (Xi ⟨0,by simp⟩ ?_) ?_))))
 .exact⟨Z5,Z1,Fh,Tv⟩
 .intro⟨i,h1⟩;have hn:=dE l i;refine Yi ?_ ?_
  .intro h;have h:i<l.length:=by simpa using h
   have hg:l[i]?=some l[i]:=Ge h;refine Xi (AE l[i]) (Yi (Yi (Nn i) (by simp[hg])) (Yi rfl ?_));refine Yi (Nz rfl) (yN (yN (Yi ?_ ?_)))
   .intro h3;refine yN ?_;have HG:Cr 2 [[vi (max l[i].1 0),vi (min l[i].2 1000000)]]/\((D2 (l.take i)).map AE).length=(D2 (l.take i)).length/\(((D2 (l.take i)).map AE).length+[[vi (max l[i].1 0),vi (min l[i].2 1000000)]].length)*16<=140737488355328/\((D2 (l.take i)).map AE).length+[[vi (max l[i].1 0),vi (min l[i].2 1000000)]].length<=9223372036854775807:=
     ⟨⟨rfl,trivial⟩,by rw[Lm],by rw[Lm,Be];omega,by rw[Lm,Be];omega⟩
    refine Yi HG (Yi (Ii i ch) (Xi ⟨i+1,by omega⟩ ?_));have e1:AV.msl 3 (((D2 (l.take i)).map AE).length+[[vi (max l[i].1 0),vi (min l[i].2 1000000)]].length)=.msl 3 (D2 (l.take (i+1))).length:=by rw[Xx h h3];simp
    have e2:HO.arr 2 ((D2 (l.take i)).map AE++[[vi (max l[i].1 0),vi (min l[i].2 1000000)]])=Ni (D2 (l.take (i+1))):=by rw[Xx h h3];simp[Ju]
    exact⟨Dl l.length i ch,⟨Zr,⟨e1,rfl⟩,Zr,Zr,Zr,Tv⟩,⟨⟨e2,rfl⟩,Tv⟩,Fh,Tv⟩
   .intro h3;refine Yi (Ii i ch) (Xi ⟨i+1,by omega⟩ ?_);have e1:AV.msl 3 (D2 (l.take i)).length=.msl 3 (D2 (l.take (i+1))).length:=by rw[aA h h3]
    have e2:Ni (D2 (l.take i))=Ni (D2 (l.take (i+1))):=by rw[aA h h3]
    exact⟨Dl l.length i ch,⟨Zr,⟨e1,rfl⟩,Zr,Zr,Zr,Tv⟩,⟨⟨e2,rfl⟩,Tv⟩,Fh,Tv⟩
  .intro h;have h:¬i<l.length:=by simpa using h
   have ei:D2 (l.take i)=D2 l:=by rw[Av ch]
   have hN:(D2 (l.take i)).length=(D2 l).length:=by rw[ei]
   refine Xi (.gen [(3,1000)] 0) (Yi rfl ((Aca (D2 (l.take i)) (by unfold B8;omega) (fun x hx=>by have:=Xw hx;omega)).to ?_));intro s hs;have OF:s.length=(D2 (l.take i)).length:=hs.1.length_eq;have hsN:s.length<=1073741824:=by omega
   have fin:(BY s).reverse=canon l:=Ty (by rw[<-ei];exact hs.1) hs.2;refine Xi {p:Nat×Bz // p.1<=s.length/\(BY (s.take p.1)).length+p.2.length=p.1} (Xi (fun p=>⟨[(3,.msl 3 (D2 (l.take i)).length),(6,vi (BY (s.take p.1.1)).length),(34,.msl 3 (D2 (l.take i)).length),(35,vi (D2 (l.take i)).length),(36,vi p.1.1)],[(3,Ni (arr2 s p.1.2 p.1.1))],Ag⟩) (Xi (fun p=>s.length-p.1.1) (Yi (Xi ⟨(0,[]),AB _,rfl⟩ ?_) ?_)))
   .exact⟨Z5,Z1,Fh,Tv⟩
   intro⟨⟨k,j⟩,k1,k2⟩;have k2:(BY (s.take k)).length+j.length=k:=k2;have CH:=lL s j k k1 k2;have Vb:(D2 (l.take i)).length=((arr2 s j k).map AE).length:=by rw[Lm,CH,OF]
   refine Yi ?_ ?_
   .intro h2;have h2:(k:Int)<(D2 (l.take i)).length:=h2;have hk:k<s.length:=by omega
    have ta:=Ek (enc:=AE) (qn s j k hk k2);refine Yi ⟨by show(0:Int)<=k;omega,by show(k:Int)<_;omega⟩ ?_;refine Yi Vb (Xi (AE s[k]) (Yi ta (Yi (Nz rfl) (yN ?_))));have hr:=Vv s k k1;refine BX (Nat.eq_zero_or_pos k) (fun k0=>?_) (fun k0=>?_)
    .refine Yi ?_ ?_
     .intro h4;have h4:(0:Int)<k:=h4;omega
     .intro _;refine Yi Wk ?_;have K4:Ma (BY (s.take k)) s[k]=s[k]::BY (s.take k):=by subst k0;rfl
      have lu:(BY (s.take k)).length<(arr2 s j k).length:=by omega
      have hz:=Ek (enc:=AE) (Ge lu);refine Yi (Nz rfl) (Yi ⟨by show(0:Int)<=((BY (s.take k)).length:Int);omega,by show((BY (s.take k)).length:Int)<_;omega⟩ ?_);refine Yi Vb (Xi (AE (arr2 s j k)[(BY (s.take k)).length]) (Yi hz (yN (Yi (by show Bc (((BY (s.take k)).length:Int)+1);unfold Bc;omega) ?_))));refine Yi (Ii k ch) ?_;have hm:=G3 s k hk;have e1:vi (((BY (s.take k)).length:Int)+1)=vi (BY (s.take (k+1))).length:=by rw[hm,K4];simp
      have e2:HO.arr 2 (((arr2 s j k).map AE).set (BY (s.take k)).length [vi s[k].1,vi s[k].2])=Ni (arr2 s (j++[s[k]]).tail (k+1)):=by rw[<-Xl s j k hk K4];simp only[Ni,JK]
      refine Xi ⟨(k+1,(j++[s[k]]).tail),by show k+1<=s.length;omega,by show(BY (s.take (k+1))).length+((j++[s[k]]).tail).length=k+1;rw[hm,K4];simp;omega⟩ ?_;exact⟨Dl s.length k ch,⟨Zr,⟨e1,rfl⟩,Zr,Zr,Zr,Tv⟩,⟨⟨e2,rfl⟩,Tv⟩,Fh,Tv⟩
    .refine Yi ?_ ?_
     .intro _;obtain⟨y,t,e⟩:∃y t,BY (s.take k)=y::t:=by
       cases hc:BY (s.take k)with
       |nil=>have:=hr.2 k0;rw[hc]at this;simp at this
       |cons y t=>exact⟨y,t,rfl⟩
      have ht:(((BY (s.take k)).length:Int)-1).toNat=t.length:=by rw[e];simp
      have hy:((arr2 s j k).map AE)[(((BY (s.take k)).length:Int)-1).toNat]?=some (AE y):=by rw[ht];exact Ek (iX s j k e)
      refine Yi (by show Bc (((BY (s.take k)).length:Int)-1);unfold Bc;omega) ?_;have d8:=hr.2 k0;refine Yi ⟨by show(0:Int)<=((BY (s.take k)).length:Int)-1;omega,by show((BY (s.take k)).length:Int)-1<_;omega⟩ ?_;refine Yi Vb (Xi (AE y) (Yi hy (Yi ?_ ?_)))
      .intro h5;refine Yi Wk (Yi (by show Bc (((BY (s.take k)).length:Int)-1);unfold Bc;omega) (Yi (by show Bc (((BY (s.take k)).length:Int)-1);unfold Bc;omega) ?_));refine Yi ⟨by show(0:Int)<=((BY (s.take k)).length:Int)-1;omega,by show((BY (s.take k)).length:Int)-1<_;omega⟩ ?_;refine Yi Vb (Xi (AE y) (Yi hy (Yi ⟨by show(0:Int)<=((BY (s.take k)).length:Int)-1;omega,by show((BY (s.take k)).length:Int)-1<_;omega⟩ ?_)));refine Yi Vb (Xi (AE y) (Yi hy (yN (Yi Wk (Yi (Ii k ch) ?_)))));have hm:=G3 s k hk;have K4:Ma (BY (s.take k)) s[k]=(y.1,max y.2 s[k].2)::t:=by rw[e];show(if s[k].1<=y.2 then _ else _)=_;rw[Ap h5]
       have e1:vi (BY (s.take k)).length=vi (BY (s.take (k+1))).length:=by rw[hm,K4,e];simp
       have e2:HO.arr 2 (((arr2 s j k).map AE).set (((BY (s.take k)).length:Int)-1).toNat [vi y.1,vi (max y.2 s[k].2)])=Ni (arr2 s (j++[s[k]]) (k+1)):=by rw[<-iW s j k hk e h5,ht];simp only[Ni,JK]
       refine Xi ⟨(k+1,j++[s[k]]),by show k+1<=s.length;omega,by show(BY (s.take (k+1))).length+(j++[s[k]]).length=k+1;rw[hm,K4,Ac,Be];rw[e]at k2;simp only[Al]at k2⊢;omega⟩ ?_;exact⟨Dl s.length k ch,⟨Zr,⟨e1,rfl⟩,Zr,Zr,Zr,Tv⟩,⟨⟨e2,rfl⟩,Tv⟩,Fh,Tv⟩
      .intro h5;refine Yi Wk ?_;have K4:Ma (BY (s.take k)) s[k]=s[k]::BY (s.take k):=by rw[e];show(if s[k].1<=y.2 then _ else _)=_;rw[Aj h5]
       have lu:(BY (s.take k)).length<(arr2 s j k).length:=by omega
       have hz:=Ek (enc:=AE) (Ge lu);refine Yi (Nz rfl) (Yi ⟨by show(0:Int)<=((BY (s.take k)).length:Int);omega,by show((BY (s.take k)).length:Int)<_;omega⟩ ?_);refine Yi Vb (Xi (AE (arr2 s j k)[(BY (s.take k)).length]) (Yi hz (yN (Yi (by show Bc (((BY (s.take k)).length:Int)+1);unfold Bc;omega) ?_))));refine Yi (Ii k ch) ?_;have hm:=G3 s k hk;have e1:vi (((BY (s.take k)).length:Int)+1)=vi (BY (s.take (k+1))).length:=by rw[hm,K4];simp
       have e2:HO.arr 2 (((arr2 s j k).map AE).set (BY (s.take k)).length [vi s[k].1,vi s[k].2])=Ni (arr2 s (j++[s[k]]).tail (k+1)):=by rw[<-Xl s j k hk K4];simp only[Ni,JK]
       refine Xi ⟨(k+1,(j++[s[k]]).tail),by show k+1<=s.length;omega,by show(BY (s.take (k+1))).length+((j++[s[k]]).tail).length=k+1;rw[hm,K4];simp;omega⟩ ?_;exact⟨Dl s.length k ch,⟨Zr,⟨e1,rfl⟩,Zr,Zr,Zr,Tv⟩,⟨⟨e2,rfl⟩,Tv⟩,Fh,Tv⟩
     .intro h4;have h4:¬(0:Int)<k:=h4;omega
   .intro h2;have h2:¬(k:Int)<(D2 (l.take i)).length:=h2;have hk:k=s.length:=by omega
    have hr:=Vv s k k1;have nl:((((arr2 s j k).map AE).take ((BY (s.take k)).length:Int).toNat).drop 0)=(canon l).map AE:=by
     rw[List.drop_zero,Cb,<-Ts,<-fin];unfold arr2
     have:(BY (s.take k)).length=(BY (s.take k)).reverse.length:=by rw[DN]
     rw[this,List.take_left,hk,Ce]
    refine Yi ⟨Vb,by show(0:Int)<=0;omega,by show(0:Int)<=((BY (s.take k)).length:Int);omega,by show((BY (s.take k)).length:Int)<=(((arr2 s j k).map AE).length:Int);omega,.inr ⟨rfl,by simp⟩⟩ ?_;exact .of_eq (Aa (AV.slice .none) nl)
end Go.Eng
namespace Go.Eng
open Go.Proofs Go.Sort
variable {m:List (Int×Int)}{S:Bz}(zs:List Int)(z:Int)
abbrev Hf:List AV:=[vi z]
theorem Sa{α:Type}[Inhabited α](enc:α->Value)(w:World)(b:Nat)(d:Array α):putRow enc w b 0 d=putRow id w b 0 (d.map enc):=by
 unfold putRow
 congr 1
 funext c
 unfold putCells;apply PE
 .simp
 .intro i h1 h2;simp only[Array.getElem_mapIdx,Array.size_map]
  by_cases h:i<d.size
  .rw[Ap ch,Ap ch];rw[DY d (i-0) ch,DY (d.map enc) (i-0) (by simpa using h)];simp
  .rw[Aj ch,Aj ch]
theorem XF:(zs.map Hf).flatten=(zs.map fun z=>Value.int .i64 z).map AV.v:=by
 induction zs with
 |nil=>rfl
 |cons z zs ih=>rw[AJ,BE,ih];rfl
theorem Og(g:Gh)(w:World)(U:Nat->Prop)(vs:List Value)(h:∀x∈vs,x.oneCell'=true):CW g w U (vs.map .v) vs:=
 ⟨by simp,h,fun i av x q1 q2=>by
  rw[AG,q2]at q1;cases q1;exact .v _ _⟩
theorem MI{g:Gh}{w:World}{U:Nat->Prop}{vs us:List Value}(h:CW g w U (vs.map .v) us):us=vs:=by
 apply Dz;intro i;have hl:=h.1;rw[Lm]at hl
 by_cases hi:i<vs.length
 .have:=h.2.2 i (.v vs[i]) us[i] (by rw[AG,Ge hi];rfl) (Ge ch)
  rw[Ge hi,Ge ch,this.v_eq]
 .rw[A8 ch,A8 ch]
theorem Ach(hl:B8 zs)(DJ:zs≠[]) :
  A9 Tryz.prog 366 [.msl 1000 zs.length] (As [(1000,.arr 1 (zs.map Hf))] Ag) fun r h'=>
   r=.tup []/\∃l' : List Int,(l'.Perm zs/\l'.Pairwise fun a b=>a<=b)/\h'=As [(1000,.arr 1 (l'.map Hf))] Ag:=by
 have hE:F3 Tryz.prog 366:=aN 366 Tryz.func366 Wk rfl;have Ig:=Rv (P:=Tryz.prog) (f:=366) (es:=zs.map Hf) (sz:=1) (rest:=[]) (Q:=fun F2=>∃l' : List Int,(l'.Perm zs/\l'.Pairwise fun a b=>a<=b)/\F2=l'.map Hf) hE ?_ ?_
 .rw[Lm]at Ig;refine⟨hE,fun g w vals q1 q2 q3=>(Ig.2 g w vals q1 q2 q3).mono fun _ _ ⟨v,r,h',g',e1,⟨e2,F2,⟨l',p1,p2⟩,p3⟩,rest⟩=>⟨v,r,h',g',e1,⟨e2,l',p1,by rw[p3,p2]⟩,rest⟩⟩
 .intro e
  have:zs=[]:=by simpa using e
  exact absurd this DJ
 .intro g w b cap F hr hF hH hb;have yI:F.toList=zs.map fun z=>Value.int .i64 z:=MI (by rw[<-XF];exact hr);have mT:F=zs.toArray.map fun z=>Value.int .i64 z:=JG.1 (by rw[yI];simp);have yJ:Holds (Value.int .i64) w b 0 zs.toArray:=fun j hj=>by
   have:=hH j (by rw[mT];simpa using hj)
   refine⟨this.1.trans ?_,this.2⟩;rw[mT,DY _ j (by simpa using hj),DY _ j hj];simp
  have hc:=Any.slices_Sort_int Tryz.laySortInts b 0 cap zs w yJ hb ch;rw[Lm];refine hc.mono ?_
  rintro e w' ⟨rfl,n,os,rfl⟩
  have JZ:(zs.mergeSort fun x y=>decide (x<=y)).Perm zs:=Oq _ _;have CH:=JZ.length_eq;refine⟨rfl,(zs.mergeSort fun x y=>decide (x<=y)).toArray.map fun z=>Value.int .i64 z,(zs.mergeSort fun x y=>decide (x<=y)).map Hf,n,os,?_,⟨_,⟨JZ,?_⟩,rfl⟩,by simp[CH],fun cs hcs=>?_,fun g w _=>?_,by rw[Sa]⟩
  .rw[mT];simp[CH]
  .have:=K6 (le:=fun x y:Int=>decide (x<=y)) (fun a b c h1 h2=>by simp only[AA]at *;omega) (fun a b=>by simp only[CQ,AA];omega) zs
   exact this.imp fun h=>AP h
  .obtain⟨x,_,rfl⟩:=Ai.1 hcs;rfl
  .rw[XF];have e:((zs.mergeSort fun x y=>decide (x<=y)).toArray.map fun z=>Value.int .i64 z).toList=(zs.mergeSort fun x y=>decide (x<=y)).map fun z=>Value.int .i64 z:=by simp
   rw[e];exact Og _ _ _ _ fun x hx=>by
    obtain⟨z,_,rfl⟩:=Ai.1 hx;rfl
-- maps from numbers to numbers
abbrev ZG:E8:=⟨false,[.int .i64]⟩
abbrev kI:Value:=.int .i64 z
abbrev ND(p:Int×Int):Value×AV:=(kI p.1,vi p.2)
abbrev GX(s:Bz):List AV:=[sl AE s]
theorem TW{k:Int}{a:AV}:(kI k,a)∈m.map ND↔∃v,(k,v)∈m/\a=vi v:=by
 rw[Ai];constructor
 .rintro⟨⟨k',v⟩,h1,h2⟩
  simp only[Gk,Value.int.injEq,true_and]at h2;obtain⟨rfl,rfl⟩:=h2;exact⟨v,h1,rfl⟩
 .rintro⟨v,h1,rfl⟩
  exact⟨(k,v),h1,rfl⟩
theorem TZ(m:List (Int×Int))(k v:Int):E2 (m.map ND) (kI k) (vi v)=(MG m k v).map ND:=by
 unfold MG
 by_cases h:(m.any fun p=>decide (p.1=k))=true
 .rw[Ap h];obtain⟨p,h1,h2⟩:=Ba.1 h;have h2:=AP h2
  have:(kI k,vi p.2)∈m.map ND:=TW.2 ⟨p.2,by rw[<-h2];exact h1,rfl⟩
  rw[N7 this,Bq,Bq];apply Bg;intro q _;simp only[Function.comp]
  by_cases e:q.1=k
  .simp[e]
  .have:¬kI q.1=kI k:=fun c=>e (by injection c)
   simp[e]
 .rw[Aj h]
  have:∀b,(kI k,b)∉m.map ND:=fun b hb=>by
   obtain⟨v,h1,_⟩:=TW.1 hb;exact h (Ba.2 ⟨(k,v),h1,by simp⟩)
  rw[Jc this,At];rfl
theorem Qy{T:Ha}{e:Nat}{Ch:List (Value×AV)}{kx:Value}{K:AV->Prop}(a0 z0:AV)(h1:∀a,(kx,a)∈Ch->a=a0)(hz:(∀a,(kx,a)∉Ch)->a0=z0)(h2:K z0->LD T e K)(k:K a0) :
  (∀a,(kx,a)∈Ch->K a)/\((∀a,(kx,a)∉Ch)->LD T e K):=⟨fun a h=>by rw[h1 a h];exact k,fun hn=>h2 (hz hn▸k)⟩
theorem Ss(m:List (Int×Int))(k:Int):(∀a,(kI k,a)∉m.map ND)->vi (FL m k)=vi 0:=fun Ok=>by
 rw[px fun hk=>by
  obtain⟨p,hp,e⟩:=Ai.1 hk;exact Ok (vi p.2) (TW.2 ⟨p.2,by rw[<-e];exact hp,rfl⟩)]
theorem Sr(hn:(Fz m).Nodup)(k:Int):∀a,(kI k,a)∈m.map ND->a=vi (FL m k):=fun a h=>by
 obtain⟨v,h1,rfl⟩:=TW.1 h;rw[pv hn h1]
theorem JT.bound(h:JT m S)(k:Int):-(S.length:Int)<=FL m k/\FL m k<=S.length:=by
 rw[h.val]
 have:cF S k<=S.length:=List.countP_le_length
 have:cT S k<=S.length:=List.countP_le_length
 omega
theorem dP(l:List Bz):(l.map canon).flatten.length<=l.length*1000000:=by
 induction l with
 |nil=>simp
 |cons s l ih=>
  rw[AJ,BE,Ac,Al]
  have:=I4 (CE s)
  omega
theorem JT.few(h:JT m S):m.length<=1000001:=by
 have:=Jl (m:=(List.range 1000001).map Int.ofNat) h.nd fun k hk=>by
  have:=h.rng k hk
  exact Ai.2 ⟨k.toNat,Gx.2 ch,by show(k.toNat:Int)=k;omega⟩
 unfold Fz at this;rw[Lm,Lm,LI]at this;exact this
theorem XQ(keep:Nat->Bool)(m:List (Int×Int))(B:List Int):∀n,(ET keep m B n).length<=n
 |0=>Am _
 |n+1=>by
  unfold ET
  have:=XQ keep m B n
  rw[Ac];split
  .split<;>simp<;>omega
  .simp;omega
end Go.Eng
namespace Go.Eng
open Go.Proofs
variable {m:List Tm}{α:Type}(u:Tm)(n:Int)(l:List Tm)(p:ByteArray)(x:α)(s:Bz)(q:Rq)(t:Tm)
abbrev plC:Tt:=⟨[],[(12,2)],[(44,1)],[],[],[],[],[],[],[],[8,9,15,23,25,26]⟩
theorem uz(F:AV)(keep:Nat->Bool)(l:List Bz)(hl:B8 l)(hs:∀s∈l,B8 s)(hid:∀h,WP h F=true)(hF:∀h (n:Int),0<=n->n<=l.length->Rt Tryz.prog (str h F) [vi n] (vb (keep n.toNat)))
  (R:Bz) (hR:E5 R) (hRh:∀p,has R p=(M7 p&&keep (lk l p))):PC 341 [F,sl GX l] (sl AE R):=by
 refine Ps plC Tryz.func341 rfl (Nz rfl) (Xi {p:Nat×List (Int×Int) // p.1<=l.length/\JT p.2 ((l.take p.1).map canon).flatten} (Xi (fun p=>⟨[(0,F),(5,.mref 15),(17,sl GX l),(18,vi (l.map GX).length),(19,vi p.1.1)],[(15,.map ZG (p.1.2.map ND))],Ag⟩) (Xi (fun p=>l.length-p.1.1) (Yi (Xi ⟨(0,yr),AB _,qF⟩ ?_) ?_))))
 .have e0:HO.map ZG (E2 (E2 [] (kI 0) (vi 0)) (kI 1000000) (vi 0))=.map ZG (yr.map ND):=by
   have e1:=TZ [] 0 0;have e2:=TZ [(0,0)] 1000000 0;show HO.map ZG (E2 (E2 (List.map ND []) (kI 0) (vi 0)) (kI 1000000) (vi 0))=_;rw[e1];show HO.map ZG (E2 (List.map ND [(0,0)]) (kI 1000000) (vi 0))=_;rw[e2];rfl
  exact⟨⟨⟨rfl,hid _⟩,Zr,Zr,Zr,Zr,Tv⟩,⟨⟨e0,rfl⟩,Tv⟩,Fh,Tv⟩
 intro⟨⟨i,cm⟩,i1,i2⟩;refine Yi ?_ ?_
 .intro h;have h:i<l.length:=by simpa using h
  have hg:l[i]?=some l[i]:=Ge h;refine Xi (GX l[i]) (Yi (Yi (Nn i) (by simp[hg])) (Yi rfl ?_));refine Xi .pure (Xi _ (Yi (YL l[i] (hs _ (Ao h))) (Xi {p:Nat×List (Int×Int) // p.1<=(canon l[i]).length/\JT p.2 (((l.take i).map canon).flatten++(canon l[i]).take p.1)} (Xi (fun p=>⟨[(0,F),(5,.mref 15),(17,sl GX l),(18,vi (l.map GX).length),(19,vi i),(24,sl AE (canon l[i])),(25,vi ((canon l[i]).map AE).length),(26,vi p.1.1)],[(15,.map ZG (p.1.2.map ND))],Ag⟩) (Xi (fun p=>(canon l[i]).length-p.1.1) (Yi (Xi ⟨(0,cm),AB _,by rw[List.take_zero,BQ];exact i2⟩ ?_) ?_))))))
  .exact⟨⟨⟨rfl,hid _⟩,Zr,Zr,Zr,Zr,Zr,Zr,Zr,Tv⟩,Z1,Fh,Tv⟩
  intro⟨⟨j,dm⟩,j1,j2⟩;have j2:JT dm (((l.take i).map canon).flatten++(canon l[i]).take j):=j2;have hS:(((l.take i).map canon).flatten++(canon l[i]).take j).length<=1073741825000000:=by
   have a1:=dP (l.take i);have a2:=I4 (CE l[i]);rw[Ax]at a1;rw[Ac,Ax];omega
  refine Yi ?_ ?_
  .intro hj;have hj:j<(canon l[i]).length:=by simpa using hj
   have hgj:(canon l[i])[j]?=some (canon l[i])[j]:=Ge hj;have tx:=(CE l[i]).low _ (Ao hj);have j3:JT (cN dm (canon l[i])[j]) (((l.take i).map canon).flatten++(canon l[i]).take (j+1)):=by
    have:=kR j2 (x:=(canon l[i])[j]) tx
    rw[BD]at this;rw[Bh,hgj];exact this
   generalize (canon l[i])[j]=x at hgj tx j3;have b1:=j2.bound x.1;have lu:=NC j2.nd x.1 (FL dm x.1+1);refine Xi (AE x) (Yi (Yi (Nn j) (by simp[hgj])) (Yi rfl ?_));refine Yi (Nz rfl) (yN (Xi ⟨[(0,F),(5,.mref 15),(9,.ref 9 0),(17,sl GX l),(18,vi (l.map GX).length),(19,vi i),(24,sl AE (canon l[i])),(25,vi ((canon l[i]).map AE).length),(26,vi j)],[(9,.cells (AE x)),(15,.map ZG (dm.map ND))],Ag⟩ (Yi ⟨⟨⟨rfl,hid _⟩,Zr,Zr,Zr,Zr,Zr,Zr,Zr,Zr,Tv⟩,Z2,Fh,Tv⟩ (Qy (vi (FL dm x.1)) (vi 0) (Sr j2.nd x.1) (Ss dm x.1) (fun q=>q) (Yi (by show Bc (FL dm x.1+1);unfold Bc;omega) ?_)))));have m1:HO.map ZG (E2 (dm.map ND) (kI x.1) (vi (FL dm x.1+1)))=.map ZG ((MG dm x.1 (FL dm x.1+1)).map ND):=by rw[TZ]
   refine Xi ⟨[(0,F),(5,.mref 15),(9,.ref 9 0),(17,sl GX l),(18,vi (l.map GX).length),(19,vi i),(24,sl AE (canon l[i])),(25,vi ((canon l[i]).map AE).length),(26,vi j)],[(9,.cells (AE x)),(15,.map ZG ((MG dm x.1 (FL dm x.1+1)).map ND))],Ag⟩ (Yi ⟨⟨⟨rfl,hid _⟩,Zr,Zr,Zr,Zr,Zr,Zr,Zr,Zr,Tv⟩,⟨Zr,⟨m1,rfl⟩,Tv⟩,Fh,Tv⟩ ?_)
   have b2:-(1073741825000001:Int)<=FL (MG dm x.1 (FL dm x.1+1)) x.2/\FL (MG dm x.1 (FL dm x.1+1)) x.2<=1073741825000001:=by
    have b3:=j2.bound x.2;rw[Rk];split<;>omega
   refine Qy (vi (FL (MG dm x.1 (FL dm x.1+1)) x.2)) (vi 0) (Sr lu x.2) (Ss _ x.2) (fun q=>q) (Yi (by show Bc (FL (MG dm x.1 (FL dm x.1+1)) x.2-1);unfold Bc;omega) ?_);have hcl:=I4 (CE l[i]);refine Yi (Ii j ch) ?_;have m2:HO.map ZG (E2 ((MG dm x.1 (FL dm x.1+1)).map ND) (kI x.2) (vi (FL (MG dm x.1 (FL dm x.1+1)) x.2-1)))=.map ZG ((cN dm x).map ND):=by rw[TZ];rfl
   refine Xi ⟨(j+1,cN dm x),by show j+1<=_;omega,j3⟩ ?_;exact⟨by show(canon l[i]).length-(j+1)<(canon l[i]).length-j;omega,⟨⟨rfl,hid _⟩,Zr,Zr,Zr,Zr,Zr,Zr,Zr,Tv⟩,⟨⟨m2,rfl⟩,Tv⟩,Fh,Tv⟩
  .intro hj;have hj:¬j<(canon l[i]).length:=by simpa using hj
   refine Yi (Ii i ch) ?_;have i3:JT dm ((l.take (i+1)).map canon).flatten:=by
    have e1:(canon l[i]).take j=canon l[i]:=Av ch;rw[e1]at j2;have e2:((l.take (i+1)).map canon).flatten=((l.take i).map canon).flatten++canon l[i]:=by
     rw[Bh,hg,At,Cm];show _++(canon l[i]++[])=_;rw[BQ]
    rw[e2];exact j2
   refine Xi ⟨(i+1,dm),by show i+1<=_;omega,i3⟩ ?_;exact⟨Dl l.length i ch,⟨⟨rfl,hid _⟩,Zr,Zr,Zr,Zr,Tv⟩,Z1,Fh,Tv⟩
 .intro h;have h:¬i<l.length:=by simpa using h
  have i3:JT cm (l.map canon).flatten:=by
   rw[Av ch]at i2;exact i2
  have AhG:=i3.few;have hmk:(0:Int)<=0/\(0:Int)<=((cm.map ND).length:Int)/\((cm.map ND).length:Int)*((8:Nat):Int)<=140737488355328/\((cm.map ND).length:Int)<=9223372036854775807:=by rw[Lm];omega
  refine Yi hmk (Xi {p:List (Value×AV)×List Int×Option (Value×AV) // ((p.2.1.map kI)++p.1.map (·.1)).Perm ((cm.map ND).map (·.1))/\∀kv∈p.1,kv∈cm.map ND} (Xi (fun p=>⟨[(0,F),(5,.mref 15),(10,.msl 44 p.1.2.1.length),(46,.ref 46 0)],[(15,.rom ZG (cm.map ND)),(44,.arr 1 (p.1.2.1.map Hf)),(46,.iter (cm.map ND) p.1.1 p.1.2.2)],Ag⟩) (Xi (fun p=>p.1.1.length) (Yi (Xi ⟨(cm.map ND,[],none),.refl _,fun _ h=>h⟩ ?_) ?_))))
  .exact⟨⟨⟨rfl,hid _⟩,Zr,Zr,Zr,Tv⟩,Z3,Fh,Tv⟩
  intro⟨⟨rem,bs,EJ⟩,r1,r2⟩;have hbl:bs.length<=1000001:=by
   have:=r1.length_eq
   simp only[Ac,Lm]at this;omega
  refine Yi ?_ ?_
  .intro hr;subst hr;rw[E6,BQ,Bq]at r1;have WL:bs.Perm (Fz cm):=by
    have r1:(bs.map kI).Perm ((Fz cm).map kI):=by unfold Fz;rw[Bq];exact r1
    have:=r1.map (fun v:Value=>match v with | .int _ n=>n|_=>0)
    rw[Bq,Bq]at this;have e:((fun v:Value=>match v with | .int _ n=>n|_=>0) ∘ kI)=id:=rfl;rw[e,Gj,Gj]at this;exact this
   have DJ:bs≠[]:=fun e=>by
    subst e
    have:=WL.length_eq
    have h0:=i3.keys.1;rw[AQ this.symm]at h0;cases h0
   refine Xi (.gen [(44,1000)] 0) (Yi rfl ((Ach bs (by unfold B8;omega) DJ).to ?_));intro B yH;have qT:B.length=bs.length:=yH.1.length_eq;have hBn:B.Nodup:=(yH.1.trans WL).nodup_iff.2 i3.nd;have hB:qg B cm:=⟨yH.1.trans WL,by
    rw[AU];intro a b ha hb dW;have h1:=(AU.1 yH.2) a b ha hb dW;have h2:B[a]≠B[b]:=(AU.1 hBn) a b ha hb dW;omega⟩
   have Afy:0<B.length:=by
    rw[qT];exact Hx.2 DJ
   have hNE:bs.length=(B.map Hf).length:=by rw[Lm,qT]
   refine Yi (by show Bc ((bs.length:Int)-1);unfold Bc;omega) (Xi {k:Nat // k<=B.length-1} (Xi (fun k=>⟨[(0,F),(5,.mref 15),(10,.msl 44 bs.length),(12,.slice (.id 12 2) ((ET keep cm B k.1).map AE)),(13,vi (JF cm (B.take k.1))),(59,vi ((bs.length:Int)-1)),(60,vi k.1)],[(12,.tok 2 ((ET keep cm B k.1).map AE).length),(15,.rom ZG (cm.map ND)),(44,.arr 1 (B.map Hf))],Ag⟩) (Xi (fun k=>B.length-k.1) (Yi (Xi ⟨0,AB _⟩ ?_) ?_))))
   .exact⟨⟨⟨rfl,hid _⟩,Zr,Zr,Zr,Zr,Zr,Zr,Tv⟩,Z3,Fh,Tv⟩
   intro⟨k,k1⟩;have xF:=XQ keep cm B k;refine Yi ?_ ?_
   .intro hk;have hk:(k:Int)<(bs.length:Int)-1:=hk;have I7:k+1<B.length:=by omega
    have d4:k<B.length:=by omega
    have ta:(B.map Hf)[k]?=some (Hf B[k]):=Ek (Ge d4);have Ad9:(B.map Hf)[k+1]?=some (Hf B[k+1]):=Ek (Ge I7);have WM:=So cm B k d4;have zD:=pf i3 hB k d4;have Va:ET keep cm B (k+1)=ET keep cm B k++(if keep (JF cm (B.take (k+1))).toNat then [(B[k],B[k+1])]else []):=by
     show _++(match B[k]?,B[k+1]? with|some a,some b=>if keep (JF cm (B.take (k+1))).toNat then [(a,b)]else []|_,_=>[])=_;rw[Ge d4,Ge I7]
    refine Xi ⟨[(0,F),(5,.mref 15),(10,.msl 44 bs.length),(12,.slice (.id 12 2) ((ET keep cm B k).map AE)),(13,vi (JF cm (B.take k))),(14,vi k),(59,vi ((bs.length:Int)-1)),(60,vi k)],[(12,.tok 2 ((ET keep cm B k).map AE).length),(15,.rom ZG (cm.map ND)),(44,.arr 1 (B.map Hf))],Ag⟩ (Yi ⟨⟨⟨rfl,hid _⟩,Zr,Zr,Zr,Zr,Zr,Zr,Zr,Tv⟩,Z3,Fh,Tv⟩ (Yi ⟨by show(0:Int)<=k;omega,by show(k:Int)<bs.length;omega⟩ ?_));refine Yi hNE (Xi (Hf B[k]) (Yi ta (Qy (vi (FL cm B[k])) (vi 0) (Sr i3.nd B[k]) (Ss cm B[k]) (fun q=>q) (Yi (by show Bc (JF cm (B.take k)+FL cm B[k]);rw[<-WM];unfold Bc;omega) ?_))));have Ck:∀h,Rt Tryz.prog (str h F) [vi (JF cm (B.take k)+FL cm B[k])] (vb (keep (JF cm (B.take (k+1))).toNat)):=fun h=>by
     rw[<-WM];exact hF h _ zD.1 zD.2
    refine BX (Bt (keep (JF cm (B.take (k+1))).toNat)) (fun hp=>?_) (fun hp=>?_)
    .rw[hp]at Ck;rw[hp,Ap rfl]at Va;refine Xi .pure (Xi (vb true) (Yi (Ck _) (Xi ⟨[(0,F),(5,.mref 15),(10,.msl 44 bs.length),(12,.slice (.id 12 2) ((ET keep cm B k).map AE)),(13,vi (JF cm (B.take k)+FL cm B[k])),(14,vi k),(59,vi ((bs.length:Int)-1)),(60,vi k)],[(12,.tok 2 ((ET keep cm B k).map AE).length),(15,.rom ZG (cm.map ND)),(44,.arr 1 (B.map Hf))],Ag⟩ (Yi ⟨⟨⟨rfl,hid _⟩,Zr,Zr,Zr,Zr,Zr,Zr,Zr,Tv⟩,Z3,Fh,Tv⟩ ?_))))
     have b1:(0:Int)<=(k:Int)+1/\(k:Int)+1<bs.length:=by omega
     have Ada:(B.map Hf)[((k:Int)+1).toNat]?=some (Hf B[k+1]):=by rw[show((k:Int)+1).toNat=k+1 by omega];exact Ad9
     refine Yi ⟨by show(0:Int)<=k;omega,by show(k:Int)<bs.length;omega⟩ ?_;refine Yi hNE (Xi (Hf B[k]) (Yi ta (Yi (Ii k ch) (Yi b1 (Yi hNE (Xi (Hf B[k+1]) (Yi Ada ?_)))))));have HG:Cr 2 [[vi B[k],vi B[k+1]]]/\((ET keep cm B k).map AE).length=((ET keep cm B k).map AE).length/\(((ET keep cm B k).map AE).length+[[vi B[k],vi B[k+1]]].length)*16<=140737488355328/\((ET keep cm B k).map AE).length+[[vi B[k],vi B[k+1]]].length<=9223372036854775807:=
      ⟨⟨rfl,trivial⟩,rfl,by rw[Lm,Be];omega,by rw[Lm,Be];omega⟩
     refine Yi HG (Yi Wk (Xi ⟨[(0,F),(5,.mref 15),(10,.msl 44 bs.length),(12,.slice (.id 12 2) ((ET keep cm B k).map AE++[[vi B[k],vi B[k+1]]])),(13,vi (JF cm (B.take k)+FL cm B[k])),(59,vi ((bs.length:Int)-1)),(60,vi k)],[(12,.tok 2 (((ET keep cm B k).map AE).length+[[vi B[k],vi B[k+1]]].length)),(15,.rom ZG (cm.map ND)),(44,.arr 1 (B.map Hf))],Ag⟩ (Yi ⟨⟨⟨rfl,hid _⟩,Zr,Zr,Zr,Zr,Zr,Zr,Tv⟩,Z3,Fh,Tv⟩ (Yi (Ii k ch) (Xi ⟨k+1,by omega⟩ ?_)))));have e1:AV.slice (.id 12 2) ((ET keep cm B k).map AE++[[vi B[k],vi B[k+1]]])=.slice (.id 12 2) ((ET keep cm B (k+1)).map AE):=by rw[Va,At];rfl
     have e2:vi (JF cm (B.take k)+FL cm B[k])=vi (JF cm (B.take (k+1))):=by rw[WM]
     have e3:HO.tok 2 (((ET keep cm B k).map AE).length+[[vi B[k],vi B[k+1]]].length)=.tok 2 ((ET keep cm B (k+1)).map AE).length:=by rw[Va,At,Ac];rfl
     exact⟨Dl B.length k ch,⟨⟨rfl,hid _⟩,Zr,Zr,⟨e1,rfl⟩,⟨e2,rfl⟩,Zr,Zr,Tv⟩,⟨⟨e3,rfl⟩,Zr,Zr,Tv⟩,Fh,Tv⟩
    .rw[hp]at Ck;have Va:ET keep cm B (k+1)=ET keep cm B k:=by rw[Va,hp,Aj Fy,BQ]
     refine Xi .pure (Xi (vb false) (Yi (Ck _) (Xi ⟨[(0,F),(5,.mref 15),(10,.msl 44 bs.length),(12,.slice (.id 12 2) ((ET keep cm B k).map AE)),(13,vi (JF cm (B.take k)+FL cm B[k])),(59,vi ((bs.length:Int)-1)),(60,vi k)],[(12,.tok 2 ((ET keep cm B k).map AE).length),(15,.rom ZG (cm.map ND)),(44,.arr 1 (B.map Hf))],Ag⟩ (Yi ⟨⟨⟨rfl,hid _⟩,Zr,Zr,Zr,Zr,Zr,Zr,Tv⟩,Z3,Fh,Tv⟩ (Yi (Ii k ch) (Xi ⟨k+1,by omega⟩ ?_))))));have e1:AV.slice (.id 12 2) ((ET keep cm B k).map AE)=.slice (.id 12 2) ((ET keep cm B (k+1)).map AE):=by rw[Va]
     have e2:vi (JF cm (B.take k)+FL cm B[k])=vi (JF cm (B.take (k+1))):=by rw[WM]
     have e3:HO.tok 2 ((ET keep cm B k).map AE).length=.tok 2 ((ET keep cm B (k+1)).map AE).length:=by rw[Va]
     exact⟨Dl B.length k ch,⟨⟨rfl,hid _⟩,Zr,Zr,⟨e1,rfl⟩,⟨e2,rfl⟩,Zr,Zr,Tv⟩,⟨⟨e3,rfl⟩,Zr,Zr,Tv⟩,Fh,Tv⟩
   .intro hk;have hk:¬(k:Int)<(bs.length:Int)-1:=hk;have I7:k=B.length-1:=by omega
    have Adg:canon (ET keep cm B k)=R:=by
     refine(UB hR fun p=>?_).symm;rw[I7,hRh,nH i3 hB]
    have hc:=YL (ET keep cm B k) (by unfold B8;omega);rw[Adg]at hc;refine Xi .pure (Xi _ (Yi hc ?_));exact .refl _
  .intro kv MH hp;refine CL (Ai.1 (r2 kv (hp.mem_iff.2 (Ab ..)))) (fun q hq=>?_);have hq2:=hq.2;subst hq2;refine Xi ⟨[(0,F),(5,.mref 15),(10,.msl 44 bs.length),(46,.ref 46 0)],[(15,.rom ZG (cm.map ND)),(44,.arr 1 (bs.map Hf)),(46,.iter (cm.map ND) MH (some (ND q)))],Ag⟩ (Yi ⟨⟨⟨rfl,hid _⟩,Zr,Zr,Zr,Tv⟩,Z3,Fh,Tv⟩ ?_)
   have HG:Cr 1 [Hf q.1]/\(bs.map Hf).length=bs.length/\((bs.map Hf).length+[Hf q.1].length)*8<=140737488355328/\(bs.map Hf).length+[Hf q.1].length<=9223372036854775807:=
    ⟨⟨rfl,trivial⟩,by rw[Lm],by rw[Lm,Be];omega,by rw[Lm,Be];omega⟩
   refine Yi HG ?_;have e1:AV.msl 44 ((bs.map Hf).length+[Hf q.1].length)=.msl 44 (bs++[q.1]).length:=by simp
   have e2:HO.arr 1 (bs.map Hf++[Hf q.1])=.arr 1 ((bs++[q.1]).map Hf):=by simp
   refine Xi ⟨(MH,bs++[q.1],some (ND q)),?_,fun kv Rs=>r2 kv (hp.mem_iff.2 (Ah _ Rs))⟩ ?_
   .show(((bs++[q.1]).map kI)++MH.map (·.1)).Perm _;have h1:=hp.map (fun x:Value×AV=>x.1);rw[AJ]at h1;rw[At,BD];exact(IX _ h1.symm).trans r1
   .exact⟨by show MH.length<rem.length;rw[hp.length_eq];simp,⟨⟨rfl,hid _⟩,Zr,⟨e1,rfl⟩,Zr,Tv⟩,⟨Zr,⟨e2,rfl⟩,Zr,Tv⟩,Fh,Tv⟩
theorem Ac9(l:List Bz):PC 377 [vi n,.cptr [sl GX l]] (vb (decide (n=l.length))):=by
 refine Ps Ej Tryz.func377 rfl (Nz rfl) ?_;have e:((l.map GX).length:Int)=l.length:=by rw[Lm]
 refine Yi ?_ ?_
 .intro h;rw[show decide (n=(l.length:Int))=true from Ak (h.trans e)];exact .refl _
 .intro h;rw[show decide (n=(l.length:Int))=false from Ae (fun c=>h (c.trans e.symm))];exact .refl _
theorem Acb:PC 342 [vi n] (vb (decide (n=0))):=by
 refine Ps Ej Tryz.func342 rfl (Nz rfl) (Yi ?_ ?_)
 .intro h;rw[Ak h];exact .refl _
 .intro h;rw[Ae h];exact .refl _
theorem AcB:PC 369 [vi n] (vb (decide (0<n))):=by
 refine Ps Ej Tryz.func369 rfl (Nz rfl) (Yi ?_ ?_)
 .intro h;rw[Ak h];exact .refl _
 .intro h;rw[Ae h];exact .refl _
theorem nF(l:List Bz)(p:Int):decide (lk l p=l.length)=l.all fun s=>has s p:=by
 unfold lk;rw[Ca,AA,List.countP_eq_length,A1]
theorem nG(l:List Bz)(p:Int):decide (0<lk l p)=l.any fun s=>has s p:=by
 unfold lk;rw[Ca,AA,List.countP_pos_iff,Ba]
theorem Ac1(l:List Bz)(hl:B8 l)(hs:∀s∈l,B8 s):PC 367 [sl GX l] (sl AE (RO l)):=by
 have hc:=uz (.clo 377 [.cptr [sl GX l]]) (fun n=>decide (n=l.length)) l hl hs (fun _=>rfl) (fun h n h0 _=>by
  have:=Ac9 n l
  have e:decide (n=(l.length:Int))=decide (n.toNat=l.length):=by rw[decide_eq_decide];omega
  rw[e]at this;exact this) (RO l) (Zl l) fun p=>by rw[U4,nF]
 refine Ps (qc [1]) Tryz.func367 rfl (Nz rfl) (Xi .pure (Xi _ (Yi (hc) ?_)));exact .refl _
theorem uv(hs:B8 s):PC 310 [sl AE s] (sl AE (EX s)):=by
 have hc:=uz (.v (Y2 342)) (fun n=>decide (n=0)) [s] (by unfold B8;simp) (fun t ht=>by rw[Ar.1 ht];exact hs) (fun _=>rfl) (fun h n h0 _=>by
  have:=Acb n
  have e:decide (n=0)=decide (n.toNat=0):=by rw[decide_eq_decide];omega
  rw[e]at this;exact this) (EX s) (Ia s) fun p=>by
   rw[F8]
   have:lk [s] p=if has s p then 1 else 0:=by unfold lk;rw[JJ];simp
   rw[this];cases has s p<;>rfl
 refine Ps Ej Tryz.func310 rfl (Nz rfl) (Xi .pure (Xi _ (Yi (hc) ?_)));exact .refl _
theorem Acy(l:List Bz)(hl:B8 l)(hs:∀s∈l,B8 s):PC 352 [sl GX l] (sl AE (Sp l)):=by
 have hc:=uz (.v (Y2 369)) (fun n=>decide (0<n)) l hl hs (fun _=>rfl) (fun h n h0 _=>by
  have:=AcB n
  have e:decide (0<n)=decide (0<n.toNat):=by rw[decide_eq_decide];omega
  rw[e]at this;exact this) (Sp l) (ZJ l) fun p=>by
   rw[U5,nG];cases h:l.any fun s=>has s p with
   |false=>simp
   |true=>
    obtain⟨s,_,h2⟩:=Ba.1 h
    have:=Ny h2
    simp[M7,this]
 refine Ps Ej Tryz.func352 rfl (Nz rfl) (Xi .pure (Xi _ (Yi (hc) ?_)));exact .refl _
-- terms
theorem c59(ht:B8 t.set):PC 348 [.agg (AO t)] (vb (!t.absent&&(canon t.set).isEmpty)):=by
 refine Ps Ej Tryz.func348 rfl (Nz rfl) (Yi ?_ ?_)
 .intro h;rw[h];exact .refl _
 .intro h;refine Xi .pure (Xi _ (Yi (YL t.set ht) (Yi ?_ ?_)))
  .intro h2;have h2:canon t.set=[]:=AQ (by rw[Lm]at h2;omega);rw[h,h2];exact .refl _
  .intro h2;have h2:(canon t.set).isEmpty=false:=by
    cases hc:canon t.set with
    |nil=>rw[hc]at h2;exact absurd rfl h2
    |cons _ _=>rfl
   rw[h,h2];exact .refl _
theorem c60(ht:B8 t.set):PC 349 [.agg (AO t)] (vb (t.absent&&(EX t.set).isEmpty)):=by
 refine Ps Ej Tryz.func349 rfl (Nz rfl) (Yi ?_ ?_)
 .intro h;refine Xi .pure (Xi _ (Yi (uv t.set ht) (Yi ?_ ?_)))
  .intro h2;have h2:EX t.set=[]:=AQ (by rw[Lm]at h2;omega);rw[h,h2];exact .refl _
  .intro h2;have h2:(EX t.set).isEmpty=false:=by
    cases hc:EX t.set with
    |nil=>rw[hc]at h2;exact absurd rfl h2
    |cons _ _=>rfl
   rw[h,h2];exact .refl _
 .intro h;rw[h];exact .refl _
abbrev KM(l:List Nat):Tt:=⟨[],[],[],[],[],[],[],[],[],[],l⟩
theorem c58(hu:B8 u.set)(ht:B8 t.set):PC 347 [.agg (AO u),.agg (AO t)] (.agg (AO (HF u t))):=by
 have hc:PC 367 [sl GX [u.set,t.set]] (sl AE (QG u.set t.set)):=Ac1 [u.set,t.set] (by unfold B8;simp) (fun s hs=>by
  rcases Ay.1 hs with rfl|hs
  .exact hu
  .rw[Ar.1 hs];exact ht)
 refine Ps (KM []) Tryz.func347 rfl (Nz rfl) (Yi ?_ ?_)
 .intro h;refine Yi ?_ ?_
  .intro h2;have e:[vs u.path,vb true,sl AE (QG u.set t.set)]=AO (HF u t):=by unfold HF;rw[h,h2];rfl
   refine Xi _ (Yi (hc) (Yi (Nz rfl) (Yi Wk (yN ?_))));exact .of_eq (Aa AV.agg e)
  .intro h2;have e:[vs u.path,vb false,sl AE (QG u.set t.set)]=AO (HF u t):=by unfold HF;rw[h,h2];rfl
   refine Xi _ (Yi (hc) (Yi (Nz rfl) (Yi Wk (yN ?_))));exact .of_eq (Aa AV.agg e)
 .intro h;have e:[vs u.path,vb false,sl AE (QG u.set t.set)]=AO (HF u t):=by unfold HF;rw[h];rfl
  refine Xi _ (Yi (hc) (Yi (Nz rfl) (Yi Wk (yN ?_))));exact .of_eq (Aa AV.agg e)
theorem Acs(hu:B8 u.set)(ht:B8 t.set):PC 313 [.agg (AO u),.agg (AO t)] (.agg (AO (DD u t))):=by
 have hc:PC 352 [sl GX [u.set,t.set]] (sl AE (Rj u.set t.set)):=Acy [u.set,t.set] (by unfold B8;simp) (fun s hs=>by
  rcases Ay.1 hs with rfl|hs
  .exact hu
  .rw[Ar.1 hs];exact ht)
 refine Ps (KM []) Tryz.func313 rfl (Nz rfl) (Yi ?_ ?_)
 .intro h;have e:[vs u.path,vb true,sl AE (Rj u.set t.set)]=AO (DD u t):=by unfold DD;rw[h];rfl
  refine Xi _ (Yi (hc) (Yi (Nz rfl) (Yi Wk (yN ?_))));exact .of_eq (Aa AV.agg e)
 .intro h;refine Yi ?_ ?_
  .intro h2;have e:[vs u.path,vb true,sl AE (Rj u.set t.set)]=AO (DD u t):=by unfold DD;rw[h,h2];rfl
   refine Xi _ (Yi (hc) (Yi (Nz rfl) (Yi Wk (yN ?_))));exact .of_eq (Aa AV.agg e)
  .intro h2;have e:[vs u.path,vb false,sl AE (Rj u.set t.set)]=AO (DD u t):=by unfold DD;rw[h,h2];rfl
   refine Xi _ (Yi (hc) (Yi (Nz rfl) (Yi Wk (yN ?_))));exact .of_eq (Aa AV.agg e)
theorem yj(hq:B8 q.set):PC 305 [.agg (AW q)] (.agg (AO (D1 q))):=by
 refine Ps Ej Tryz.func305 rfl (Nz rfl) (Xi _ (Yi (uv q.set hq) (Yi (Nz rfl) (Yi Wk (yN ?_)))));exact .refl _
abbrev Cu:E8:=⟨false,[.str]⟩
abbrev TX:Value×AV:=(.string t.path,.agg (AO t))
abbrev z8(fin cut:List Nat):Tt:=⟨[],[],[],[],fin,[],[],[],[],[],cut⟩
theorem TY{p:ByteArray}{a:AV}:(Value.string p,a)∈m.map TX↔∃t∈m,t.path=p/\a=.agg (AO t):=by
 rw[Ai];constructor
 .rintro⟨t,h1,h2⟩
  simp only[Gk,Value.string.injEq]at h2;exact⟨t,h1,h2.1,h2.2.symm⟩
 .rintro⟨t,h1,rfl,rfl⟩
  exact⟨t,h1,rfl⟩
theorem nR(m:List Tm)(t:Tm):E2 (m.map TX) (.string t.path) (.agg (AO t))=(Zz m t).map TX:=by
 unfold Zz
 by_cases h:(m.any fun u=>decide (u.path=t.path))=true
 .rw[Ap h];obtain⟨u,h1,h2⟩:=Ba.1 h;have h2:=AP h2
  have:(Value.string t.path,AV.agg (AO u))∈m.map TX:=TY.2 ⟨u,h1,h2,rfl⟩
  rw[N7 this,Bq,Bq];apply Bg;intro q _;simp only[Function.comp]
  by_cases e:q.path=t.path
  .simp[e]
  .have:¬Value.string q.path=.string t.path:=fun c=>e (by injection c)
   simp[e]
 .rw[Aj h]
  have:∀b,(Value.string t.path,b)∉m.map TX:=fun b hb=>by
   obtain⟨u,h1,h2,_⟩:=TY.1 hb;exact h (Ba.2 ⟨u,h1,by simp[h2]⟩)
  rw[Jc this,At];rfl
theorem mH(hn:(EU m).Nodup)(p:ByteArray){K:AV->Prop}{Z:Prop}(hy:∀u,DH m p=some u->K (.agg (AO u)))(Ok:DH m p=none->Z) :
  (∀a,(Value.string p,a)∈m.map TX->K a)/\((∀a,(Value.string p,a)∉m.map TX)->Z):=
 ⟨fun a h=>by
  obtain⟨t,h1,h2,rfl⟩:=TY.1 h;subst h2;exact hy t ((Nt hn).1 h1),fun h=>Ok (by
  cases e:DH m p with
  |none=>rfl
  |some u=>exact absurd (TY.2 ⟨u,FD e,HZ e,rfl⟩) (h _))⟩
theorem Qm{t:Tm}(h:E5 t.set):B8 t.set:=by
 unfold B8
 have:=I4 h;omega
theorem c57(hl:B8 l)(hs:∀t∈l,B8 t.set):PC 346 [sl AO l,.v (Y2 347)] (.cmap Cu ((DQ l).map TX)):=by
 refine Ps (z8 [10] []) Tryz.func346 rfl (Nz rfl) (Xi {i:Nat // i<=l.length} (Xi (fun i=>⟨[(0,sl AO l),(1,.v (Y2 347)),(5,.mref 10),(11,sl AO l),(12,vi (l.map AO).length),(13,vi i.1)],[(10,.map Cu ((DQ (l.take i.1)).map TX))],Ag⟩) (Xi (fun i=>l.length-i.1) (Yi (Xi ⟨0,AB _⟩ ?_) ?_))))
 .exact⟨Z6,Z1,Fh,Tv⟩
 intro⟨i,h1⟩;have hn:=IK (l.take i);refine Yi ?_ ?_
 .intro h;have h:i<l.length:=by simpa using h
  have hg:l[i]?=some l[i]:=Ge h;refine Xi (AO l[i]) (Yi (Yi (Nn i) (by simp[hg])) (Yi rfl ?_));refine Yi (Nz rfl) (yN ?_);have FI:=hs l[i] (Ao h);have tail:∀u:Tm,B8 u.set->HF u l[i]=Pt (DH (DQ (l.take i)) l[i].path) l[i]->E2 ((DQ (l.take i)).map TX) (.string l[i].path) (.agg (AO (HF u l[i])))=(DQ (l.take (i+1))).map TX:=fun u hu e=>by
   have hp:(Pt (DH (DQ (l.take i)) l[i].path) l[i]).path=l[i].path:=RZ _ _ fun u h=>HZ h;have e2:=nR (DQ (l.take i)) (HF u l[i]);have e3:(HF u l[i]).path=l[i].path:=by rw[e];exact hp
   rw[e3]at e2;rw[e2,Tb l i h,e];rfl
  refine mH hn l[i].path (fun u hu=>?_) (fun hu=>?_)
  .have LF:B8 u.set:=Qm (QK _ u (FD hu));refine yN ?_;have A3:=tail u LF (by rw[ie,hu];rfl);refine Yi (Nz rfl) (yN (Xi _ (Yi (c58 u l[i] LF FI) (Yi Wk (Yi (Ii i ch) (Xi ⟨i+1,by omega⟩ ?_))))));have e1:HO.map Cu (E2 ((DQ (l.take i)).map TX) (.string l[i].path) (.agg (AO (HF u l[i]))))=.map Cu ((DQ (l.take (i+1))).map TX):=by rw[A3]
   exact⟨Dl l.length i ch,Z6,⟨⟨e1,rfl⟩,Tv⟩,Fh,Tv⟩
  .refine yN (Yi (Nz rfl) (yN ?_));have A3:=tail l[i] FI (by rw[ie,hu];rfl);refine Yi (Nz rfl) (yN (Xi _ (Yi (c58 l[i] l[i] FI FI) (Yi Wk (Yi (Ii i ch) (Xi ⟨i+1,by omega⟩ ?_))))));have e1:HO.map Cu (E2 ((DQ (l.take i)).map TX) (.string l[i].path) (.agg (AO (HF l[i] l[i]))))=.map Cu ((DQ (l.take (i+1))).map TX):=by rw[A3]
   exact⟨Dl l.length i ch,Z6,⟨⟨e1,rfl⟩,Tv⟩,Fh,Tv⟩
 .intro h;have h:¬i<l.length:=by simpa using h
  have e:(DQ (l.take i)).map TX=(DQ l).map TX:=by rw[Av ch]
  exact .of_eq (Aa (AV.cmap Cu) e)
abbrev Hr:AV:=.tup [sl AO (RV l),vb (Dg l).isSome]
abbrev Aea:Tt:=⟨[],[],[(4,3)],[],[],[],[],[],[],[(25,4)],[]⟩
abbrev fS:HO:=.arr 3 (l.map AO)
abbrev GO:List Tm:=l.filter fun t=>!Hd t
theorem rG{l:List Tm}{kv:Value×AV}{MH:List (Value×AV)}(h:(l.map TX).Perm (kv::MH)):∃t r,kv=TX t/\MH=r.map TX/\l.Perm (t::r):=by
 obtain⟨ps,h1,h2⟩:=Lk h l rfl;cases ps with
 |nil=>cases h2
 |cons t r=>
  rw[AJ,Fi]at h2;exact⟨t,r,h2.1.symm,h2.2.symm,h1.symm⟩
theorem ax{l:List Tm}{t:Tm}(h:t∈DQ l)(hn:Jd t=true):Dg l=none:=by
 unfold Dg;rw[Ap (Ba.2 ⟨t,(Kl l t).1 h,hn⟩)]
theorem dA{l done s:List Tm}(h:done.Perm (DQ l))(hn:∀t∈done,Jd t=false)(hp:s.Perm (GO done))(hs:s.Pairwise fun x y=>Ed y.path x.path=false):Dg l=some s:=by
 unfold Dg;rw[Aj]
 .congr 1
  exact(RA _ (hp.trans (h.filter _)) hs).symm
 .intro c;obtain⟨t,h1,h2⟩:=Ba.1 c
  have:=hn t (h.mem_iff.2 ((Kl l t).2 h1))
  rw[h2]at this;cases this
theorem jP:(GO l).length<=l.length:=Bx _ _
theorem c29(hl:B8 l)(hs:∀t∈l,B8 t.set):PC 312 [sl AO l] (Hr l):=by
 have jG:l.length<=1073741824:=hl;have hml:(DQ l).length<=l.length:=by have:=Po l l.length (Am _);rwa [Ce]at this
 refine Ps Aea Tryz.func312 rfl (Nz rfl) (Xi .pure (Xi _ (Yi (c57 l hl hs) (Xi {p:List Tm×List Tm×Option (Value×AV) // (p.1++p.2.1).Perm (DQ l)/\∀t∈p.1,Jd t=false} (Xi (fun p=>⟨[(4,.msl 4 (GO p.1.1).length),(9,.ref 9 0)],[(4,fS (GO p.1.1)),(9,.iter ((DQ l).map TX) (p.1.2.1.map TX) p.1.2.2)],Ag⟩) (Xi (fun p=>p.1.2.1.length) (Yi (Xi ⟨([],DQ l,none),.refl _,fun t ht=>by cases ht⟩ ?_) ?_)))))))
 .exact⟨Z2,Z2,Fh,Tv⟩
 intro⟨⟨done,rem,EJ⟩,r1,r2⟩;have r1:(done++rem).Perm (DQ l):=r1;have hdl:done.length+rem.length<=l.length:=by have:=r1.length_eq;rw[Ac]at this;omega
 have xF:=jP done;refine Yi ?_ ?_
 .intro hr;have hr:rem=[]:=DO.1 hr;subst hr;rw[BQ]at r1;refine Xi (.gen [(4,1000)] 0) (Yi rfl ((c61 (GO done) (by unfold B8;omega)).to ?_));intro s hq;have OF:s.length=(GO done).length:=hq.1.length_eq;have hc:=dA r1 r2 hq.1 hq.2;refine Yi (by rw[Lm,OF]) ?_;have e:AV.tup [sl AO s,vb true]=Hr l:=by unfold Hr RV;rw[hc];rfl
  exact .of_eq e
 .intro kv MH hp;refine CL (rG hp) (fun t hp=>CL hp (fun r hp=>?_));have e1:=hp.1;have e2:=hp.2.1;subst e1;subst e2;have hp:=hp.2.2;have htm:t∈DQ l:=r1.mem_iff.1 (Bo _ (hp.mem_iff.2 (Ab ..)));have htc:=QK l t htm;have htf:=Qm htc;refine Yi (Nz rfl) (yN ?_);have hv:PC 348 [.agg (AO t)] (vb (Jd t)):=nV htc▸c59 t htf;have ha:PC 349 [.agg (AO t)] (vb (Hd t)):=iT htc▸c60 t htf;refine BX (Bt (Jd t)) (fun h=>?_) (fun h=>?_)
  .rw[h]at hv;refine Xi .pure (Xi _ (Yi (hv) ?_));have hc:=ax htm h;have e:AV.tup [.slice .none [],vb false]=Hr l:=by unfold Hr RV;rw[hc];rfl
   have e0:CX (.tup [nzA,vb false]) (.tup [.slice .none [],vb false]):=CX.tup ⟨.nil,.refl _,trivial⟩;exact e0.trans (.of_eq e)
  .rw[h]at hv;refine Xi .pure (Xi _ (Yi (hv) (yN ?_)));have SP:((done++[t])++r).Perm (DQ l):=by
    rw[BD];exact(IX _ hp.symm).trans r1
   have hnv:∀u∈done++[t],Jd u=false:=fun u hu=>by
    rcases AN.1 hu with hu|hu
    .exact r2 u hu
    .rw[Ar.1 hu];exact h
   have hrl:r.length<rem.length:=by rw[hp.length_eq,Al];omega
   refine BX (Bt (Hd t)) (fun h2=>?_) (fun h2=>?_)
   rotate_left
   .rw[h2]at ha;refine Xi .pure (Xi _ (Yi (ha) ?_));have HG:Cr 3 [AO t]/\((GO done).map AO).length=(GO done).length/\(((GO done).map AO).length+[AO t].length)*48<=140737488355328/\((GO done).map AO).length+[AO t].length<=9223372036854775807:=
     ⟨⟨rfl,trivial⟩,by rw[Lm],by rw[Lm,Be];omega,by rw[Lm,Be];omega⟩
    refine yN (Yi HG ?_);have hk:GO (done++[t])=GO done++[t]:=by unfold GO;rw[EL,Dx,Ap (by rw[h2];rfl)];rfl
    have e1:AV.msl 4 (((GO done).map AO).length+[AO t].length)=.msl 4 (GO (done++[t])).length:=by rw[hk];simp
    have e2:HO.arr 3 ((GO done).map AO++[AO t])=fS (GO (done++[t])):=by rw[hk];simp
    refine Xi ⟨(done++[t],r,some (TX t)),SP,hnv⟩ ?_;exact⟨hrl,⟨⟨e1,rfl⟩,Zr,Tv⟩,⟨⟨e2,rfl⟩,Zr,Tv⟩,Fh,Tv⟩
   .rw[h2]at ha;refine Xi .pure (Xi _ (Yi (ha) ?_));have hk:GO (done++[t])=GO done:=by unfold GO;rw[EL,Dx,Aj (by rw[h2];decide)];simp
    have e1:AV.msl 4 (GO done).length=.msl 4 (GO (done++[t])).length:=by rw[hk]
    have e2:fS (GO done)=fS (GO (done++[t])):=by rw[hk]
    refine Xi ⟨(done++[t],r,some (TX t)),SP,hnv⟩ ?_;exact⟨hrl,⟨⟨e1,rfl⟩,Zr,Tv⟩,⟨⟨e2,rfl⟩,Zr,Tv⟩,Fh,Tv⟩
theorem uF(hl:B8 l)(hs:∀t∈l,B8 t.set):PC 304 [sl AO l] (sl AO (RV l)):=by
 refine Ps Ej Tryz.func304 rfl (Nz rfl) (Xi .pure (Xi _ (Yi (c29 l hl hs) ?_)));exact .refl _
theorem RG:B8 (EX s):=by
 unfold B8;have:=I4 (Ia s);omega
theorem uP:B8 [x]:=by unfold B8;simp
theorem AcN(y:α):B8 [x,y]:=by unfold B8;simp
theorem Acl(hq:B8 q.set):PC 256 [.agg (AW q)] (sl AO (KN q)):=by
 have hc:PC 304 [sl AO [D1 q]] (sl AO (KN q)):=uF [D1 q] (uP _) fun t ht=>by rw[Ar.1 ht];exact RG _
 refine Ps Ej Tryz.func256 rfl (Nz rfl) (yN (Xi .pure (Xi _ (Yi (yj q hq) (Xi .pure (Xi _ (Yi (hc) ?_)))))));exact .refl _
theorem Acm(pl:Int)(q:Rq)(hp:Bc (pl+1))(hq:B8 q.set):PC 257 [vs p,vi pl,.agg (AW q)] (sl AO (EH p pl q)):=by
 have hc:PC 304 [sl AO [⟨p,false,[(pl,pl+1)]⟩,D1 q]] (sl AO (EH p pl q)):=uF [⟨p,false,[(pl,pl+1)]⟩,D1 q] (AcN _ _) fun t ht=>by
  rcases Ay.1 ht with rfl|ht
  .exact uP _
  .rw[Ar.1 ht];exact RG _
 refine Ps Ej Tryz.func257 rfl (Nz rfl) (Yi hp (yN (Xi .pure (Xi _ (Yi (yj q hq) (Xi .pure (Xi _ (Yi (hc) ?_))))))));exact .refl _
theorem yg(hs:B8 s):PC 261 [vs p,sl AE s] (sl AO (IP p s)):=by
 have hc:PC 304 [sl AO [⟨p,false,EX s⟩]] (sl AO (IP p s)):=uF [⟨p,false,EX s⟩] (uP _) fun t ht=>by rw[Ar.1 ht];exact RG _
 refine Ps Ej Tryz.func261 rfl (Nz rfl) (Xi .pure (Xi _ (Yi (uv s hs) (Xi .pure (Xi _ (Yi (hc) ?_))))));exact .refl _
end Go.Eng
