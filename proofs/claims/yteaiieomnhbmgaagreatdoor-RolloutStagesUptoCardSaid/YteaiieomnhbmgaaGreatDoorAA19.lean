/- Lemmas 19. -/
import Derived.Test.YteaiieomnhbmgaaGreatDoorAA18
namespace Go.Eng
open Go.Proofs
variable {y:Int×Int}{α:Type}{t:By}(s:By)(l:List (Int×Int))(j:By)(i:Nat)
abbrev pla(l:List (Nat×Nat))(cut:List Nat):Tn:=⟨[],[],l,[],[],[],[],[],[],[],cut⟩
abbrev M3:HO:=.arr 2 (l.map AE)
theorem cZ(l:By)(i:Nat):(D6 (l.take i)).length<=i:=by
 unfold D6
 have:=Bw (fun x:Int×Int=>decide (x.1<x.2)) ((l.take i).map Jh)
 rw[Lm,Au]at this;omega
theorem Xo{l:By}{i:Nat}(h:i<l.length)(h3:(Jh l[i]).1<(Jh l[i]).2):D6 (l.take (i+1))=D6 (l.take i)++[Jh l[i]]:=by
 rw[Bj,Ge h,PS];unfold D6;simp[h3]
theorem aa{l:By}{i:Nat}(h:i<l.length)(h3:¬(Jh l[i]).1<(Jh l[i]).2):D6 (l.take (i+1))=D6 (l.take i):=by
 rw[Bj,Ge h,PS];unfold D6;simp[h3]
abbrev arr2:By:=(BV (s.take i)).reverse++(j++s.drop i)
theorem pR(h:i<s.length)(hj:(BV (s.take i)).length+j.length=i):(arr2 s j i)[i]?=some s[i]:=by
 unfold arr2;rw[A0 (by rw[DM];omega),A0 (by rw[DM];omega),DM,D0];rw[show i+(i-(BV (List.take i s)).length-j.length)=i by omega,Ge h]
theorem ip(e:BV (s.take i)=y::t):(arr2 s j i)[t.length]?=some y:=by
 unfold arr2;rw[e,Su,BA,A0 (by rw[DM];omega),DM,Ff];rfl
theorem li(h:i<=s.length)(hj:(BV (s.take i)).length+j.length=i):(arr2 s j i).length=s.length:=by
 unfold arr2;simp only[Ac,DM,CK];omega
theorem fA(s:List α)(i:Nat)(h:i<s.length):s.drop i=s[i]::s.drop (i+1):=AH h
theorem Xb(h:i<s.length)(e:L0 (BV (s.take i)) s[i]=s[i]::BV (s.take i)) :
  (arr2 s j i).set (BV (s.take i)).length s[i]=arr2 s (j++[s[i]]).tail (i+1):=by
 unfold arr2;rw[G3 s i h,e,Su,List.set_append_right _ _ (by rw[DM];exact Ak _),DM,Ff,BA,fA s i h]
 congr 1
 cases j with
 |nil=>rfl
 |cons a b=>simp
theorem io(h:i<s.length)(e:BV (s.take i)=y::t)(Ij:s[i].1<=y.2) :
  (arr2 s j i).set t.length (y.1,max y.2 s[i].2)=arr2 s (j++[s[i]]) (i+1):=by
 unfold arr2;have e2:L0 (y::t) s[i]=(y.1,max y.2 s[i].2)::t:=by show(if s[i].1<=y.2 then _ else _)=_;rw[Al Ij]
 rw[G3 s i h,e,e2,Su,Su,BA,List.set_append_right _ _ (by rw[DM];exact Ak _),DM,Ff,fA s i h];simp
theorem Eo{enc:α->List AV}{l:List α}{i:Nat}{x:α}(h:l[i]?=some x):(l.map enc)[i]?=some (enc x):=by rw[AG,h];rfl
theorem YB(hl:Cb l):PC 169 [sl AE l] (sl AE (canon l)):=by
 refine Gd (iK (pla [(3,2)] [])) rfl Da hm rfl Tryz.func169 Wk rfl (Nz rfl) Wk (Xi {i:Nat // i<=l.length} (Xi (fun i=>⟨[(0,sl AE l),(3,.msl 3 (D6 (l.take i.1)).length),(9,sl AE l),(10,vi (l.map AE).length),(11,vi i.1)],[(3,M3 (D6 (l.take i.1)))],Ae⟩) (Xi (fun i=>l.length-i.1) (Yi (Xi ⟨0,by simp⟩ ?_) ?_))))
 .exact⟨Z5,Z1,Fh,Tv⟩
 .intro⟨i,h1⟩;have hn:=cZ l i;refine Yi ?_ ?_
  .intro h;have h:i<l.length:=by simpa using h
   have hg:l[i]?=some l[i]:=Ge h;refine Xi (AE l[i]) (Yi (Yi (Nn i) (by simp[hg])) (Yi rfl ?_));refine Yi (Nz rfl) (yN (yN (Yi ?_ ?_)))
   .intro h3;refine yN ?_;have HC:B5 2 [[vi (max l[i].1 0),vi (min l[i].2 1000000)]]/\((D6 (l.take i)).map AE).length=(D6 (l.take i)).length/\(((D6 (l.take i)).map AE).length+[[vi (max l[i].1 0),vi (min l[i].2 1000000)]].length)*16<=140737488355328/\((D6 (l.take i)).map AE).length+[[vi (max l[i].1 0),vi (min l[i].2 1000000)]].length<=9223372036854775807:=
     ⟨⟨rfl,trivial⟩,by rw[Lm],by rw[Lm,Bh];omega,by rw[Lm,Bh];omega⟩
    refine Yi HC (Yi (Ii i ch) (Xi ⟨i+1,by omega⟩ ?_));have e1:AV.msl 3 (((D6 (l.take i)).map AE).length+[[vi (max l[i].1 0),vi (min l[i].2 1000000)]].length)=.msl 3 (D6 (l.take (i+1))).length:=by rw[Xo h h3];simp
    have e2:HO.arr 2 ((D6 (l.take i)).map AE++[[vi (max l[i].1 0),vi (min l[i].2 1000000)]])=M3 (D6 (l.take (i+1))):=by rw[Xo h h3];simp[Jh]
    exact⟨Dl l.length i ch,⟨Zr,⟨e1,rfl⟩,Zr,Zr,Zr,Tv⟩,⟨⟨e2,rfl⟩,Tv⟩,Fh,Tv⟩
   .intro h3;refine Yi (Ii i ch) (Xi ⟨i+1,by omega⟩ ?_);have e1:AV.msl 3 (D6 (l.take i)).length=.msl 3 (D6 (l.take (i+1))).length:=by rw[aa h h3]
    have e2:M3 (D6 (l.take i))=M3 (D6 (l.take (i+1))):=by rw[aa h h3]
    exact⟨Dl l.length i ch,⟨Zr,⟨e1,rfl⟩,Zr,Zr,Zr,Tv⟩,⟨⟨e2,rfl⟩,Tv⟩,Fh,Tv⟩
  .intro h;have h:¬i<l.length:=by simpa using h
   have ei:D6 (l.take i)=D6 l:=by rw[At ch]
   have hN:(D6 (l.take i)).length=(D6 l).length:=by rw[ei]
   refine Xi (.gen [(3,1000)] 0) (Yi rfl ((AbB (D6 (l.take i)) (by unfold Cb;omega) (fun x hx=>by have:=Xn hx;omega)).to ?_));intro s hs;have SN:s.length=(D6 (l.take i)).length:=hs.1.length_eq;have hsN:s.length<=1073741824:=by omega
   have fin:(BV s).reverse=canon l:=Tq (by rw[<-ei];exact hs.1) hs.2;refine Xi {p:Nat×By // p.1<=s.length/\(BV (s.take p.1)).length+p.2.length=p.1} (Xi (fun p=>⟨[(3,.msl 3 (D6 (l.take i)).length),(6,vi (BV (s.take p.1.1)).length),(34,.msl 3 (D6 (l.take i)).length),(35,vi (D6 (l.take i)).length),(36,vi p.1.1)],[(3,M3 (arr2 s p.1.2 p.1.1))],Ae⟩) (Xi (fun p=>s.length-p.1.1) (Yi (Xi ⟨(0,[]),Ax _,rfl⟩ ?_) ?_)))
   .exact⟨Z5,Z1,Fh,Tv⟩
   intro⟨⟨k,j⟩,k1,k2⟩;have k2:(BV (s.take k)).length+j.length=k:=k2;have CQ:=li s j k k1 k2;have U4:(D6 (l.take i)).length=((arr2 s j k).map AE).length:=by rw[Lm,CQ,SN]
   refine Yi ?_ ?_
   .intro h2;have h2:(k:Int)<(D6 (l.take i)).length:=h2;have hk:k<s.length:=by omega
    have sD:=Eo (enc:=AE) (pR s j k hk k2);refine Yi ⟨by show(0:Int)<=k;omega,by show(k:Int)<_;omega⟩ ?_;refine Yi U4 (Xi (AE s[k]) (Yi sD (Yi (Nz rfl) (yN ?_))));have hr:=Vp s k k1;refine Cf (Nat.eq_zero_or_pos k) (fun k0=>?_) (fun k0=>?_)
    .refine Yi ?_ ?_
     .intro h4;have h4:(0:Int)<k:=h4;omega
     .intro _;refine Yi Wk ?_;have KL:L0 (BV (s.take k)) s[k]=s[k]::BV (s.take k):=by subst k0;rfl
      have kP:(BV (s.take k)).length<(arr2 s j k).length:=by omega
      have hz:=Eo (enc:=AE) (Ge kP);refine Yi (Nz rfl) (Yi ⟨by show(0:Int)<=((BV (s.take k)).length:Int);omega,by show((BV (s.take k)).length:Int)<_;omega⟩ ?_);refine Yi U4 (Xi (AE (arr2 s j k)[(BV (s.take k)).length]) (Yi hz (yN (Yi (by show AX (((BV (s.take k)).length:Int)+1);unfold AX;omega) ?_))));refine Yi (Ii k ch) ?_;have hm:=G3 s k hk;have e1:vi (((BV (s.take k)).length:Int)+1)=vi (BV (s.take (k+1))).length:=by rw[hm,KL];simp
      have e2:HO.arr 2 (((arr2 s j k).map AE).set (BV (s.take k)).length [vi s[k].1,vi s[k].2])=M3 (arr2 s (j++[s[k]]).tail (k+1)):=by rw[<-Xb s j k hk KL];simp only[M3,ON]
      refine Xi ⟨(k+1,(j++[s[k]]).tail),by show k+1<=s.length;omega,by show(BV (s.take (k+1))).length+((j++[s[k]]).tail).length=k+1;rw[hm,KL];simp;omega⟩ ?_;exact⟨Dl s.length k ch,⟨Zr,⟨e1,rfl⟩,Zr,Zr,Zr,Tv⟩,⟨⟨e2,rfl⟩,Tv⟩,Fh,Tv⟩
    .refine Yi ?_ ?_
     .intro _;obtain⟨y,t,e⟩:∃y t,BV (s.take k)=y::t:=by
       cases hc:BV (s.take k)with
       |nil=>have:=hr.2 k0;rw[hc]at this;simp at this
       |cons y t=>exact⟨y,t,rfl⟩
      have ht:(((BV (s.take k)).length:Int)-1).toNat=t.length:=by rw[e];simp
      have hy:((arr2 s j k).map AE)[(((BV (s.take k)).length:Int)-1).toNat]?=some (AE y):=by rw[ht];exact Eo (ip s j k e)
      refine Yi (by show AX (((BV (s.take k)).length:Int)-1);unfold AX;omega) ?_;have dH:=hr.2 k0;refine Yi ⟨by show(0:Int)<=((BV (s.take k)).length:Int)-1;omega,by show((BV (s.take k)).length:Int)-1<_;omega⟩ ?_;refine Yi U4 (Xi (AE y) (Yi hy (Yi ?_ ?_)))
      .intro h5;refine Yi Wk (Yi (by show AX (((BV (s.take k)).length:Int)-1);unfold AX;omega) (Yi (by show AX (((BV (s.take k)).length:Int)-1);unfold AX;omega) ?_));refine Yi ⟨by show(0:Int)<=((BV (s.take k)).length:Int)-1;omega,by show((BV (s.take k)).length:Int)-1<_;omega⟩ ?_;refine Yi U4 (Xi (AE y) (Yi hy (Yi ⟨by show(0:Int)<=((BV (s.take k)).length:Int)-1;omega,by show((BV (s.take k)).length:Int)-1<_;omega⟩ ?_)));refine Yi U4 (Xi (AE y) (Yi hy (yN (Yi Wk (Yi (Ii k ch) ?_)))));have hm:=G3 s k hk;have KL:L0 (BV (s.take k)) s[k]=(y.1,max y.2 s[k].2)::t:=by rw[e];show(if s[k].1<=y.2 then _ else _)=_;rw[Al h5]
       have e1:vi (BV (s.take k)).length=vi (BV (s.take (k+1))).length:=by rw[hm,KL,e];simp
       have e2:HO.arr 2 (((arr2 s j k).map AE).set (((BV (s.take k)).length:Int)-1).toNat [vi y.1,vi (max y.2 s[k].2)])=M3 (arr2 s (j++[s[k]]) (k+1)):=by rw[<-io s j k hk e h5,ht];simp only[M3,ON]
       refine Xi ⟨(k+1,j++[s[k]]),by show k+1<=s.length;omega,by show(BV (s.take (k+1))).length+(j++[s[k]]).length=k+1;rw[hm,KL,Ac,Bh];rw[e]at k2;simp only[Ag]at k2⊢;omega⟩ ?_;exact⟨Dl s.length k ch,⟨Zr,⟨e1,rfl⟩,Zr,Zr,Zr,Tv⟩,⟨⟨e2,rfl⟩,Tv⟩,Fh,Tv⟩
      .intro h5;refine Yi Wk ?_;have KL:L0 (BV (s.take k)) s[k]=s[k]::BV (s.take k):=by rw[e];show(if s[k].1<=y.2 then _ else _)=_;rw[Aj h5]
       have kP:(BV (s.take k)).length<(arr2 s j k).length:=by omega
       have hz:=Eo (enc:=AE) (Ge kP);refine Yi (Nz rfl) (Yi ⟨by show(0:Int)<=((BV (s.take k)).length:Int);omega,by show((BV (s.take k)).length:Int)<_;omega⟩ ?_);refine Yi U4 (Xi (AE (arr2 s j k)[(BV (s.take k)).length]) (Yi hz (yN (Yi (by show AX (((BV (s.take k)).length:Int)+1);unfold AX;omega) ?_))));refine Yi (Ii k ch) ?_;have hm:=G3 s k hk;have e1:vi (((BV (s.take k)).length:Int)+1)=vi (BV (s.take (k+1))).length:=by rw[hm,KL];simp
       have e2:HO.arr 2 (((arr2 s j k).map AE).set (BV (s.take k)).length [vi s[k].1,vi s[k].2])=M3 (arr2 s (j++[s[k]]).tail (k+1)):=by rw[<-Xb s j k hk KL];simp only[M3,ON]
       refine Xi ⟨(k+1,(j++[s[k]]).tail),by show k+1<=s.length;omega,by show(BV (s.take (k+1))).length+((j++[s[k]]).tail).length=k+1;rw[hm,KL];simp;omega⟩ ?_;exact⟨Dl s.length k ch,⟨Zr,⟨e1,rfl⟩,Zr,Zr,Zr,Tv⟩,⟨⟨e2,rfl⟩,Tv⟩,Fh,Tv⟩
     .intro h4;have h4:¬(0:Int)<k:=h4;omega
   .intro h2;have h2:¬(k:Int)<(D6 (l.take i)).length:=h2;have hk:k=s.length:=by omega
    have hr:=Vp s k k1;have mL:((((arr2 s j k).map AE).take ((BV (s.take k)).length:Int).toNat).drop 0)=(canon l).map AE:=by
     rw[List.drop_zero,BL,<-Tl,<-fin];unfold arr2
     have:(BV (s.take k)).length=(BV (s.take k)).reverse.length:=by rw[DM]
     rw[this,List.take_left,hk,B7]
    refine Yi ⟨U4,by show(0:Int)<=0;omega,by show(0:Int)<=((BV (s.take k)).length:Int);omega,by show((BV (s.take k)).length:Int)<=(((arr2 s j k).map AE).length:Int);omega,.inr ⟨rfl,by simp⟩⟩ ?_;exact .of_eq (Aa (AV.slice .none) mL)
end Go.Eng
namespace Go.Eng
open Go.Proofs Go.Sort
variable {m:List (Int×Int)}{S:By}(zs:List Int)(z:Int)
abbrev Hf:List AV:=[vi z]
theorem RV{α:Type}[Inhabited α](enc:α->Value)(w:World)(b:Nat)(d:Array α):putRow enc w b 0 d=putRow id w b 0 (d.map enc):=by
 unfold putRow
 congr 1
 funext c
 unfold putCells;apply Py
 .simp
 .intro i h1 h2;simp only[Array.getElem_mapIdx,Array.size_map]
  by_cases h:i<d.size
  .rw[Al ch,Al ch];rw[D2 d (i-0) ch,D2 (d.map enc) (i-0) (by simpa using h)];simp
  .rw[Aj ch,Aj ch]
theorem Xw:(zs.map Hf).flatten=(zs.map fun z=>Value.int .i64 z).map AV.v:=by
 induction zs with
 |nil=>rfl
 |cons z zs ih=>rw[AK,BD,ih];rfl
theorem N8(g:Gh)(w:World)(U:Nat->Prop)(vs:List Value)(h:∀x∈vs,x.oneCell'=true):CY g w U (vs.map .v) vs:=
 ⟨by simp,h,fun i av x q1 q2=>by
  rw[AG,q2]at q1;cases q1;exact .v _ _⟩
theorem Mx{g:Gh}{w:World}{U:Nat->Prop}{vs us:List Value}(h:CY g w U (vs.map .v) us):us=vs:=by
 apply Dx;intro i;have hl:=h.1;rw[Lm]at hl
 by_cases hi:i<vs.length
 .have:=h.2.2 i (.v vs[i]) us[i] (by rw[AG,Ge hi];rfl) (Ge ch)
  rw[Ge hi,Ge ch,this.v_eq]
 .rw[A7 ch,A7 ch]
theorem AbH(hl:Cb zs)(DH:zs≠[]) :
  Ba Tryz.prog 366 [.msl 1000 zs.length] (Ap [(1000,.arr 1 (zs.map Hf))] Ae) fun r h'=>
   r=.tup []/\∃l' : List Int,(l'.Perm zs/\l'.Pairwise fun a b=>a<=b)/\h'=Ap [(1000,.arr 1 (l'.map Hf))] Ae:=by
 have hE:F6 Tryz.prog 366:=au 366 Tryz.func366 Wk rfl;have Ia:=Rn (P:=Tryz.prog) (f:=366) (es:=zs.map Hf) (sz:=1) (rest:=[]) (Q:=fun F5=>∃l' : List Int,(l'.Perm zs/\l'.Pairwise fun a b=>a<=b)/\F5=l'.map Hf) hE ?_ ?_
 .rw[Lm]at Ia;refine⟨hE,fun g w vals q1 q2 q3=>(Ia.2 g w vals q1 q2 q3).mono fun _ _ ⟨v,r,h',g',e1,⟨e2,F5,⟨l',p1,p2⟩,p3⟩,rest⟩=>⟨v,r,h',g',e1,⟨e2,l',p1,by rw[p3,p2]⟩,rest⟩⟩
 .intro e
  have:zs=[]:=by simpa using e
  exact absurd this DH
 .intro g w b cap F hr hF hH hb;have xZ:F.toList=zs.map fun z=>Value.int .i64 z:=Mx (by rw[<-Xw];exact hr);have mq:F=zs.toArray.map fun z=>Value.int .i64 z:=Jv.1 (by rw[xZ];simp);have x5:Holds (Value.int .i64) w b 0 zs.toArray:=fun j hj=>by
   have:=hH j (by rw[mq];simpa using hj)
   refine⟨this.1.trans ?_,this.2⟩;rw[mq,D2 _ j (by simpa using hj),D2 _ j hj];simp
  have hc:=Any.slices_Sort_int Tryz.laySortInts b 0 cap zs w x5 hb ch;rw[Lm];refine hc.mono ?_
  rintro e w' ⟨rfl,n,os,rfl⟩
  have JJ:(zs.mergeSort fun x y=>decide (x<=y)).Perm zs:=Ok _ _;have CQ:=JJ.length_eq;refine⟨rfl,(zs.mergeSort fun x y=>decide (x<=y)).toArray.map fun z=>Value.int .i64 z,(zs.mergeSort fun x y=>decide (x<=y)).map Hf,n,os,?_,⟨_,⟨JJ,?_⟩,rfl⟩,by simp[CQ],fun cs hcs=>?_,fun g w _=>?_,by rw[RV]⟩
  .rw[mq];simp[CQ]
  .have:=KN (le:=fun x y:Int=>decide (x<=y)) (fun a b c h1 h2=>by simp only[AC]at *;omega) (fun a b=>by simp only[CN,AC];omega) zs
   exact this.imp fun h=>AU h
  .obtain⟨x,_,rfl⟩:=Ai.1 hcs;rfl
  .rw[Xw];have e:((zs.mergeSort fun x y=>decide (x<=y)).toArray.map fun z=>Value.int .i64 z).toList=(zs.mergeSort fun x y=>decide (x<=y)).map fun z=>Value.int .i64 z:=by simp
   rw[e];exact N8 _ _ _ _ fun x hx=>by
    obtain⟨z,_,rfl⟩:=Ai.1 hx;rfl
-- maps from numbers to numbers
abbrev Zo:Fg:=⟨false,[.int .i64]⟩
abbrev kI:Value:=.int .i64 z
abbrev Np(p:Int×Int):Value×AV:=(kI p.1,vi p.2)
abbrev GZ(s:By):List AV:=[sl AE s]
theorem TP{k:Int}{a:AV}:(kI k,a)∈m.map Np↔∃v,(k,v)∈m/\a=vi v:=by
 rw[Ai];constructor
 .rintro⟨⟨k',v⟩,h1,h2⟩
  simp only[Gl,Value.int.injEq,true_and]at h2;obtain⟨rfl,rfl⟩:=h2;exact⟨v,h1,rfl⟩
 .rintro⟨v,h1,rfl⟩
  exact⟨(k,v),h1,rfl⟩
theorem TS(m:List (Int×Int))(k v:Int):Fa (m.map Np) (kI k) (vi v)=(Mu m k v).map Np:=by
 unfold Mu
 by_cases h:(m.any fun p=>decide (p.1=k))=true
 .rw[Al h];obtain⟨p,h1,h2⟩:=Be.1 h;have h2:=AU h2
  have:(kI k,vi p.2)∈m.map Np:=TP.2 ⟨p.2,by rw[<-h2];exact h1,rfl⟩
  rw[NY this,Bs,Bs];apply Bi;intro q _;simp only[Function.comp]
  by_cases e:q.1=k
  .simp[e]
  .have:¬kI q.1=kI k:=fun c=>e (by injection c)
   simp[e]
 .rw[Aj h]
  have:∀b,(kI k,b)∉m.map Np:=fun b hb=>by
   obtain⟨v,h1,_⟩:=TP.1 hb;exact h (Be.2 ⟨(k,v),h1,by simp⟩)
  rw[I0 this,As];rfl
theorem Qp{T:Ha}{e:Nat}{Cc:List (Value×AV)}{kx:Value}{K:AV->Prop}(a0 z0:AV)(h1:∀a,(kx,a)∈Cc->a=a0)(hz:(∀a,(kx,a)∉Cc)->a0=z0)(h2:K z0->Ls T e K)(k:K a0) :
  (∀a,(kx,a)∈Cc->K a)/\((∀a,(kx,a)∉Cc)->Ls T e K):=⟨fun a h=>by rw[h1 a h];exact k,fun hn=>h2 (hz hn▸k)⟩
theorem Sn(m:List (Int×Int))(k:Int):(∀a,(kI k,a)∉m.map Np)->vi (FQ m k)=vi 0:=fun Od=>by
 rw[oQ fun hk=>by
  obtain⟨p,hp,e⟩:=Ai.1 hk;exact Od (vi p.2) (TP.2 ⟨p.2,by rw[<-e];exact hp,rfl⟩)]
theorem Sm(hn:(FE m).Nodup)(k:Int):∀a,(kI k,a)∈m.map Np->a=vi (FQ m k):=fun a h=>by
 obtain⟨v,h1,rfl⟩:=TP.1 h;rw[oP hn h1]
theorem JE.bound(h:JE m S)(k:Int):-(S.length:Int)<=FQ m k/\FQ m k<=S.length:=by
 rw[h.val]
 have:cF S k<=S.length:=List.countP_le_length
 have:cT S k<=S.length:=List.countP_le_length
 omega
theorem dj(l:List By):(l.map canon).flatten.length<=l.length*1000000:=by
 induction l with
 |nil=>simp
 |cons s l ih=>
  rw[AK,BD,Ac,Ag]
  have:=IV (Cz s)
  omega
theorem JE.few(h:JE m S):m.length<=1000001:=by
 have:=Ja (m:=(List.range 1000001).map Int.ofNat) h.nd fun k hk=>by
  have:=h.rng k hk
  exact Ai.2 ⟨k.toNat,Gy.2 ch,by show(k.toNat:Int)=k;omega⟩
 unfold FE at this;rw[Lm,Lm,GV]at this;exact this
theorem XF(keep:Nat->Bool)(m:List (Int×Int))(B:List Int):∀n,(E0 keep m B n).length<=n
 |0=>Ak _
 |n+1=>by
  unfold E0
  have:=XF keep m B n
  rw[Ac];split
  .split<;>simp<;>omega
  .simp;omega
end Go.Eng
namespace Go.Eng
open Go.Proofs
variable {m:List Tm}{α:Type}(u:Tm)(n:Int)(l:List Tm)(p:ByteArray)(x:α)(s:By)(q:Rq)(t:Tm)
abbrev plC:Tn:=⟨[],[(12,2)],[(44,1)],[],[],[],[],[],[],[],[8,9,15,23,25,26]⟩
theorem tZ(F:AV)(keep:Nat->Bool)(l:List By)(hl:Cb l)(hs:∀s∈l,Cb s)(hid:∀h,WH h F=true)(hF:∀h (n:Int),0<=n->n<=l.length->Rk Tryz.prog (str h F) [vi n] (vb (keep n.toNat)))
  (R:By) (hR:Fc R) (hRh:∀p,has R p=(MT p&&keep (kG l p))):PC 341 [F,sl GZ l] (sl AE R):=by
 refine Ps plC Tryz.func341 rfl (Nz rfl) (Xi {p:Nat×List (Int×Int) // p.1<=l.length/\JE p.2 ((l.take p.1).map canon).flatten} (Xi (fun p=>⟨[(0,F),(5,.mref 15),(17,sl GZ l),(18,vi (l.map GZ).length),(19,vi p.1.1)],[(15,.map Zo (p.1.2.map Np))],Ae⟩) (Xi (fun p=>l.length-p.1.1) (Yi (Xi ⟨(0,xG),Ax _,qe⟩ ?_) ?_))))
 .have e0:HO.map Zo (Fa (Fa [] (kI 0) (vi 0)) (kI 1000000) (vi 0))=.map Zo (xG.map Np):=by
   have e1:=TS [] 0 0;have e2:=TS [(0,0)] 1000000 0;show HO.map Zo (Fa (Fa (List.map Np []) (kI 0) (vi 0)) (kI 1000000) (vi 0))=_;rw[e1];show HO.map Zo (Fa (List.map Np [(0,0)]) (kI 1000000) (vi 0))=_;rw[e2];rfl
  exact⟨⟨⟨rfl,hid _⟩,Zr,Zr,Zr,Zr,Tv⟩,⟨⟨e0,rfl⟩,Tv⟩,Fh,Tv⟩
 intro⟨⟨i,cm⟩,i1,i2⟩;refine Yi ?_ ?_
 .intro h;have h:i<l.length:=by simpa using h
  have hg:l[i]?=some l[i]:=Ge h;refine Xi (GZ l[i]) (Yi (Yi (Nn i) (by simp[hg])) (Yi rfl ?_));refine Xi .pure (Xi _ (Yi (YB l[i] (hs _ (Aq h))) (Xi {p:Nat×List (Int×Int) // p.1<=(canon l[i]).length/\JE p.2 (((l.take i).map canon).flatten++(canon l[i]).take p.1)} (Xi (fun p=>⟨[(0,F),(5,.mref 15),(17,sl GZ l),(18,vi (l.map GZ).length),(19,vi i),(24,sl AE (canon l[i])),(25,vi ((canon l[i]).map AE).length),(26,vi p.1.1)],[(15,.map Zo (p.1.2.map Np))],Ae⟩) (Xi (fun p=>(canon l[i]).length-p.1.1) (Yi (Xi ⟨(0,cm),Ax _,by rw[List.take_zero,BP];exact i2⟩ ?_) ?_))))))
  .exact⟨⟨⟨rfl,hid _⟩,Zr,Zr,Zr,Zr,Zr,Zr,Zr,Tv⟩,Z1,Fh,Tv⟩
  intro⟨⟨j,dm⟩,j1,j2⟩;have j2:JE dm (((l.take i).map canon).flatten++(canon l[i]).take j):=j2;have hS:(((l.take i).map canon).flatten++(canon l[i]).take j).length<=1073741825000000:=by
   have a1:=dj (l.take i);have a2:=IV (Cz l[i]);rw[Au]at a1;rw[Ac,Au];omega
  refine Yi ?_ ?_
  .intro hj;have hj:j<(canon l[i]).length:=by simpa using hj
   have hgj:(canon l[i])[j]?=some (canon l[i])[j]:=Ge hj;have sW:=(Cz l[i]).low _ (Aq hj);have j3:JE (ca dm (canon l[i])[j]) (((l.take i).map canon).flatten++(canon l[i]).take (j+1)):=by
    have:=kg j2 (x:=(canon l[i])[j]) sW
    rw[BA]at this;rw[Bj,hgj];exact this
   generalize (canon l[i])[j]=x at hgj sW j3;have b1:=j2.bound x.1;have kP:=No j2.nd x.1 (FQ dm x.1+1);refine Xi (AE x) (Yi (Yi (Nn j) (by simp[hgj])) (Yi rfl ?_));refine Yi (Nz rfl) (yN (Xi ⟨[(0,F),(5,.mref 15),(9,.ref 9 0),(17,sl GZ l),(18,vi (l.map GZ).length),(19,vi i),(24,sl AE (canon l[i])),(25,vi ((canon l[i]).map AE).length),(26,vi j)],[(9,.cells (AE x)),(15,.map Zo (dm.map Np))],Ae⟩ (Yi ⟨⟨⟨rfl,hid _⟩,Zr,Zr,Zr,Zr,Zr,Zr,Zr,Zr,Tv⟩,Z2,Fh,Tv⟩ (Qp (vi (FQ dm x.1)) (vi 0) (Sm j2.nd x.1) (Sn dm x.1) (fun q=>q) (Yi (by show AX (FQ dm x.1+1);unfold AX;omega) ?_)))));have m1:HO.map Zo (Fa (dm.map Np) (kI x.1) (vi (FQ dm x.1+1)))=.map Zo ((Mu dm x.1 (FQ dm x.1+1)).map Np):=by rw[TS]
   refine Xi ⟨[(0,F),(5,.mref 15),(9,.ref 9 0),(17,sl GZ l),(18,vi (l.map GZ).length),(19,vi i),(24,sl AE (canon l[i])),(25,vi ((canon l[i]).map AE).length),(26,vi j)],[(9,.cells (AE x)),(15,.map Zo ((Mu dm x.1 (FQ dm x.1+1)).map Np))],Ae⟩ (Yi ⟨⟨⟨rfl,hid _⟩,Zr,Zr,Zr,Zr,Zr,Zr,Zr,Zr,Tv⟩,⟨Zr,⟨m1,rfl⟩,Tv⟩,Fh,Tv⟩ ?_)
   have b2:-(1073741825000001:Int)<=FQ (Mu dm x.1 (FQ dm x.1+1)) x.2/\FQ (Mu dm x.1 (FQ dm x.1+1)) x.2<=1073741825000001:=by
    have b3:=j2.bound x.2;rw[Re];split<;>omega
   refine Qp (vi (FQ (Mu dm x.1 (FQ dm x.1+1)) x.2)) (vi 0) (Sm kP x.2) (Sn _ x.2) (fun q=>q) (Yi (by show AX (FQ (Mu dm x.1 (FQ dm x.1+1)) x.2-1);unfold AX;omega) ?_);have hcl:=IV (Cz l[i]);refine Yi (Ii j ch) ?_;have m2:HO.map Zo (Fa ((Mu dm x.1 (FQ dm x.1+1)).map Np) (kI x.2) (vi (FQ (Mu dm x.1 (FQ dm x.1+1)) x.2-1)))=.map Zo ((ca dm x).map Np):=by rw[TS];rfl
   refine Xi ⟨(j+1,ca dm x),by show j+1<=_;omega,j3⟩ ?_;exact⟨by show(canon l[i]).length-(j+1)<(canon l[i]).length-j;omega,⟨⟨rfl,hid _⟩,Zr,Zr,Zr,Zr,Zr,Zr,Zr,Tv⟩,⟨⟨m2,rfl⟩,Tv⟩,Fh,Tv⟩
  .intro hj;have hj:¬j<(canon l[i]).length:=by simpa using hj
   refine Yi (Ii i ch) ?_;have i3:JE dm ((l.take (i+1)).map canon).flatten:=by
    have e1:(canon l[i]).take j=canon l[i]:=At ch;rw[e1]at j2;have e2:((l.take (i+1)).map canon).flatten=((l.take i).map canon).flatten++canon l[i]:=by
     rw[Bj,hg,As,Ch];show _++(canon l[i]++[])=_;rw[BP]
    rw[e2];exact j2
   refine Xi ⟨(i+1,dm),by show i+1<=_;omega,i3⟩ ?_;exact⟨Dl l.length i ch,⟨⟨rfl,hid _⟩,Zr,Zr,Zr,Zr,Tv⟩,Z1,Fh,Tv⟩
 .intro h;have h:¬i<l.length:=by simpa using h
  have i3:JE cm (l.map canon).flatten:=by
   rw[At ch]at i2;exact i2
  have Ah6:=i3.few;have hmk:(0:Int)<=0/\(0:Int)<=((cm.map Np).length:Int)/\((cm.map Np).length:Int)*((8:Nat):Int)<=140737488355328/\((cm.map Np).length:Int)<=9223372036854775807:=by rw[Lm];omega
  refine Yi hmk (Xi {p:List (Value×AV)×List Int×Option (Value×AV) // ((p.2.1.map kI)++p.1.map (·.1)).Perm ((cm.map Np).map (·.1))/\∀kv∈p.1,kv∈cm.map Np} (Xi (fun p=>⟨[(0,F),(5,.mref 15),(10,.msl 44 p.1.2.1.length),(46,.ref 46 0)],[(15,.rom Zo (cm.map Np)),(44,.arr 1 (p.1.2.1.map Hf)),(46,.iter (cm.map Np) p.1.1 p.1.2.2)],Ae⟩) (Xi (fun p=>p.1.1.length) (Yi (Xi ⟨(cm.map Np,[],none),.refl _,fun _ h=>h⟩ ?_) ?_))))
  .exact⟨⟨⟨rfl,hid _⟩,Zr,Zr,Zr,Tv⟩,Z3,Fh,Tv⟩
  intro⟨⟨rem,bs,EN⟩,r1,r2⟩;have hbl:bs.length<=1000001:=by
   have:=r1.length_eq
   simp only[Ac,Lm]at this;omega
  refine Yi ?_ ?_
  .intro hr;subst hr;rw[Fe,BP,Bs]at r1;have ZD:bs.Perm (FE cm):=by
    have r1:(bs.map kI).Perm ((FE cm).map kI):=by unfold FE;rw[Bs];exact r1
    have:=r1.map (fun v:Value=>match v with | .int _ n=>n | _=>0)
    rw[Bs,Bs]at this;have e:((fun v:Value=>match v with | .int _ n=>n | _=>0) ∘ kI)=id:=rfl;rw[e,Gk,Gk]at this;exact this
   have DH:bs≠[]:=fun e=>by
    subst e
    have:=ZD.length_eq
    have h0:=i3.keys.1;rw[AP this.symm]at h0;cases h0
   refine Xi (.gen [(44,1000)] 0) (Yi rfl ((AbH bs (by unfold Cb;omega) DH).to ?_));intro B xY;have qv:B.length=bs.length:=xY.1.length_eq;have hBn:B.Nodup:=(xY.1.trans ZD).nodup_iff.2 i3.nd;have hB:pK B cm:=⟨xY.1.trans ZD,by
    rw[AY];intro a b ha hb dy;have h1:=(AY.1 xY.2) a b ha hb dy;have h2:B[a]≠B[b]:=(AY.1 hBn) a b ha hb dy;omega⟩
   have AeZ:0<B.length:=by
    rw[qv];exact Hu.2 DH
   have hNE:bs.length=(B.map Hf).length:=by rw[Lm,qv]
   refine Yi (by show AX ((bs.length:Int)-1);unfold AX;omega) (Xi {k:Nat // k<=B.length-1} (Xi (fun k=>⟨[(0,F),(5,.mref 15),(10,.msl 44 bs.length),(12,.slice (.id 12 2) ((E0 keep cm B k.1).map AE)),(13,vi (Js cm (B.take k.1))),(59,vi ((bs.length:Int)-1)),(60,vi k.1)],[(12,.tok 2 ((E0 keep cm B k.1).map AE).length),(15,.rom Zo (cm.map Np)),(44,.arr 1 (B.map Hf))],Ae⟩) (Xi (fun k=>B.length-k.1) (Yi (Xi ⟨0,Ax _⟩ ?_) ?_))))
   .exact⟨⟨⟨rfl,hid _⟩,Zr,Zr,Zr,Zr,Zr,Zr,Tv⟩,Z3,Fh,Tv⟩
   intro⟨k,k1⟩;have wX:=XF keep cm B k;refine Yi ?_ ?_
   .intro hk;have hk:(k:Int)<(bs.length:Int)-1:=hk;have IQ:k+1<B.length:=by omega
    have dD:k<B.length:=by omega
    have sD:(B.map Hf)[k]?=some (Hf B[k]):=Eo (Ge dD);have AcB:(B.map Hf)[k+1]?=some (Hf B[k+1]):=Eo (Ge IQ);have WE:=Sh cm B k dD;have yX:=oD i3 hB k dD;have U3:E0 keep cm B (k+1)=E0 keep cm B k++(if keep (Js cm (B.take (k+1))).toNat then [(B[k],B[k+1])]else []):=by
     show _++(match B[k]?,B[k+1]? with | some a,some b=>if keep (Js cm (B.take (k+1))).toNat then [(a,b)]else [] | _,_=>[])=_;rw[Ge dD,Ge IQ]
    refine Xi ⟨[(0,F),(5,.mref 15),(10,.msl 44 bs.length),(12,.slice (.id 12 2) ((E0 keep cm B k).map AE)),(13,vi (Js cm (B.take k))),(14,vi k),(59,vi ((bs.length:Int)-1)),(60,vi k)],[(12,.tok 2 ((E0 keep cm B k).map AE).length),(15,.rom Zo (cm.map Np)),(44,.arr 1 (B.map Hf))],Ae⟩ (Yi ⟨⟨⟨rfl,hid _⟩,Zr,Zr,Zr,Zr,Zr,Zr,Zr,Tv⟩,Z3,Fh,Tv⟩ (Yi ⟨by show(0:Int)<=k;omega,by show(k:Int)<bs.length;omega⟩ ?_));refine Yi hNE (Xi (Hf B[k]) (Yi sD (Qp (vi (FQ cm B[k])) (vi 0) (Sm i3.nd B[k]) (Sn cm B[k]) (fun q=>q) (Yi (by show AX (Js cm (B.take k)+FQ cm B[k]);rw[<-WE];unfold AX;omega) ?_))));have Cg:∀h,Rk Tryz.prog (str h F) [vi (Js cm (B.take k)+FQ cm B[k])] (vb (keep (Js cm (B.take (k+1))).toNat)):=fun h=>by
     rw[<-WE];exact hF h _ yX.1 yX.2
    refine Cf (Bt (keep (Js cm (B.take (k+1))).toNat)) (fun hp=>?_) (fun hp=>?_)
    .rw[hp]at Cg;rw[hp,Al rfl]at U3;refine Xi .pure (Xi (vb true) (Yi (Cg _) (Xi ⟨[(0,F),(5,.mref 15),(10,.msl 44 bs.length),(12,.slice (.id 12 2) ((E0 keep cm B k).map AE)),(13,vi (Js cm (B.take k)+FQ cm B[k])),(14,vi k),(59,vi ((bs.length:Int)-1)),(60,vi k)],[(12,.tok 2 ((E0 keep cm B k).map AE).length),(15,.rom Zo (cm.map Np)),(44,.arr 1 (B.map Hf))],Ae⟩ (Yi ⟨⟨⟨rfl,hid _⟩,Zr,Zr,Zr,Zr,Zr,Zr,Zr,Tv⟩,Z3,Fh,Tv⟩ ?_))))
     have b1:(0:Int)<=(k:Int)+1/\(k:Int)+1<bs.length:=by omega
     have AcC:(B.map Hf)[((k:Int)+1).toNat]?=some (Hf B[k+1]):=by rw[show((k:Int)+1).toNat=k+1 by omega];exact AcB
     refine Yi ⟨by show(0:Int)<=k;omega,by show(k:Int)<bs.length;omega⟩ ?_;refine Yi hNE (Xi (Hf B[k]) (Yi sD (Yi (Ii k ch) (Yi b1 (Yi hNE (Xi (Hf B[k+1]) (Yi AcC ?_)))))));have HC:B5 2 [[vi B[k],vi B[k+1]]]/\((E0 keep cm B k).map AE).length=((E0 keep cm B k).map AE).length/\(((E0 keep cm B k).map AE).length+[[vi B[k],vi B[k+1]]].length)*16<=140737488355328/\((E0 keep cm B k).map AE).length+[[vi B[k],vi B[k+1]]].length<=9223372036854775807:=
      ⟨⟨rfl,trivial⟩,rfl,by rw[Lm,Bh];omega,by rw[Lm,Bh];omega⟩
     refine Yi HC (Yi Wk (Xi ⟨[(0,F),(5,.mref 15),(10,.msl 44 bs.length),(12,.slice (.id 12 2) ((E0 keep cm B k).map AE++[[vi B[k],vi B[k+1]]])),(13,vi (Js cm (B.take k)+FQ cm B[k])),(59,vi ((bs.length:Int)-1)),(60,vi k)],[(12,.tok 2 (((E0 keep cm B k).map AE).length+[[vi B[k],vi B[k+1]]].length)),(15,.rom Zo (cm.map Np)),(44,.arr 1 (B.map Hf))],Ae⟩ (Yi ⟨⟨⟨rfl,hid _⟩,Zr,Zr,Zr,Zr,Zr,Zr,Tv⟩,Z3,Fh,Tv⟩ (Yi (Ii k ch) (Xi ⟨k+1,by omega⟩ ?_)))));have e1:AV.slice (.id 12 2) ((E0 keep cm B k).map AE++[[vi B[k],vi B[k+1]]])=.slice (.id 12 2) ((E0 keep cm B (k+1)).map AE):=by rw[U3,As];rfl
     have e2:vi (Js cm (B.take k)+FQ cm B[k])=vi (Js cm (B.take (k+1))):=by rw[WE]
     have e3:HO.tok 2 (((E0 keep cm B k).map AE).length+[[vi B[k],vi B[k+1]]].length)=.tok 2 ((E0 keep cm B (k+1)).map AE).length:=by rw[U3,As,Ac];rfl
     exact⟨Dl B.length k ch,⟨⟨rfl,hid _⟩,Zr,Zr,⟨e1,rfl⟩,⟨e2,rfl⟩,Zr,Zr,Tv⟩,⟨⟨e3,rfl⟩,Zr,Zr,Tv⟩,Fh,Tv⟩
    .rw[hp]at Cg;have U3:E0 keep cm B (k+1)=E0 keep cm B k:=by rw[U3,hp,Aj KF,BP]
     refine Xi .pure (Xi (vb false) (Yi (Cg _) (Xi ⟨[(0,F),(5,.mref 15),(10,.msl 44 bs.length),(12,.slice (.id 12 2) ((E0 keep cm B k).map AE)),(13,vi (Js cm (B.take k)+FQ cm B[k])),(59,vi ((bs.length:Int)-1)),(60,vi k)],[(12,.tok 2 ((E0 keep cm B k).map AE).length),(15,.rom Zo (cm.map Np)),(44,.arr 1 (B.map Hf))],Ae⟩ (Yi ⟨⟨⟨rfl,hid _⟩,Zr,Zr,Zr,Zr,Zr,Zr,Tv⟩,Z3,Fh,Tv⟩ (Yi (Ii k ch) (Xi ⟨k+1,by omega⟩ ?_))))));have e1:AV.slice (.id 12 2) ((E0 keep cm B k).map AE)=.slice (.id 12 2) ((E0 keep cm B (k+1)).map AE):=by rw[U3]
     have e2:vi (Js cm (B.take k)+FQ cm B[k])=vi (Js cm (B.take (k+1))):=by rw[WE]
     have e3:HO.tok 2 ((E0 keep cm B k).map AE).length=.tok 2 ((E0 keep cm B (k+1)).map AE).length:=by rw[U3]
     exact⟨Dl B.length k ch,⟨⟨rfl,hid _⟩,Zr,Zr,⟨e1,rfl⟩,⟨e2,rfl⟩,Zr,Zr,Tv⟩,⟨⟨e3,rfl⟩,Zr,Zr,Tv⟩,Fh,Tv⟩
   .intro hk;have hk:¬(k:Int)<(bs.length:Int)-1:=hk;have IQ:k=B.length-1:=by omega
    have AcG:canon (E0 keep cm B k)=R:=by
     refine(Uv hR fun p=>?_).symm;rw[IQ,hRh,m5 i3 hB]
    have hc:=YB (E0 keep cm B k) (by unfold Cb;omega);rw[AcG]at hc;refine Xi .pure (Xi _ (Yi hc ?_));exact .refl _
  .intro kv Mw hp;refine CT (Ai.1 (r2 kv (hp.mem_iff.2 (Ab ..)))) (fun q hq=>?_);have hq2:=hq.2;subst hq2;refine Xi ⟨[(0,F),(5,.mref 15),(10,.msl 44 bs.length),(46,.ref 46 0)],[(15,.rom Zo (cm.map Np)),(44,.arr 1 (bs.map Hf)),(46,.iter (cm.map Np) Mw (some (Np q)))],Ae⟩ (Yi ⟨⟨⟨rfl,hid _⟩,Zr,Zr,Zr,Tv⟩,Z3,Fh,Tv⟩ ?_)
   have HC:B5 1 [Hf q.1]/\(bs.map Hf).length=bs.length/\((bs.map Hf).length+[Hf q.1].length)*8<=140737488355328/\(bs.map Hf).length+[Hf q.1].length<=9223372036854775807:=
    ⟨⟨rfl,trivial⟩,by rw[Lm],by rw[Lm,Bh];omega,by rw[Lm,Bh];omega⟩
   refine Yi HC ?_;have e1:AV.msl 44 ((bs.map Hf).length+[Hf q.1].length)=.msl 44 (bs++[q.1]).length:=by simp
   have e2:HO.arr 1 (bs.map Hf++[Hf q.1])=.arr 1 ((bs++[q.1]).map Hf):=by simp
   refine Xi ⟨(Mw,bs++[q.1],some (Np q)),?_,fun kv Rj=>r2 kv (hp.mem_iff.2 (Ah _ Rj))⟩ ?_
   .show(((bs++[q.1]).map kI)++Mw.map (·.1)).Perm _;have h1:=hp.map (fun x:Value×AV=>x.1);rw[AK]at h1;rw[As,BA];exact(IL _ h1.symm).trans r1
   .exact⟨by show Mw.length<rem.length;rw[hp.length_eq];simp,⟨⟨rfl,hid _⟩,Zr,⟨e1,rfl⟩,Zr,Tv⟩,⟨Zr,⟨e2,rfl⟩,Zr,Tv⟩,Fh,Tv⟩
theorem AbA(l:List By):PC 377 [vi n,.cptr [sl GZ l]] (vb (decide (n=l.length))):=by
 refine Ps El Tryz.func377 rfl (Nz rfl) ?_;have e:((l.map GZ).length:Int)=l.length:=by rw[Lm]
 refine Yi ?_ ?_
 .intro h;rw[show decide (n=(l.length:Int))=true from Ay (h.trans e)];exact .refl _
 .intro h;rw[show decide (n=(l.length:Int))=false from AD (fun c=>h (c.trans e.symm))];exact .refl _
theorem AbC:PC 342 [vi n] (vb (decide (n=0))):=by
 refine Ps El Tryz.func342 rfl (Nz rfl) (Yi ?_ ?_)
 .intro h;rw[Ay h];exact .refl _
 .intro h;rw[AD h];exact .refl _
theorem Ac0:PC 369 [vi n] (vb (decide (0<n))):=by
 refine Ps El Tryz.func369 rfl (Nz rfl) (Yi ?_ ?_)
 .intro h;rw[Ay h];exact .refl _
 .intro h;rw[AD h];exact .refl _
theorem mY(l:List By)(p:Int):decide (kG l p=l.length)=l.all fun s=>has s p:=by
 unfold kG;rw[B3,AC,List.countP_eq_length,Bd]
theorem mZ(l:List By)(p:Int):decide (0<kG l p)=l.any fun s=>has s p:=by
 unfold kG;rw[B3,AC,List.countP_pos_iff,Be]
theorem Abs(l:List By)(hl:Cb l)(hs:∀s∈l,Cb s):PC 367 [sl GZ l] (sl AE (RH l)):=by
 have hc:=tZ (.clo 377 [.cptr [sl GZ l]]) (fun n=>decide (n=l.length)) l hl hs (fun _=>rfl) (fun h n h0 _=>by
  have:=AbA n l
  have e:decide (n=(l.length:Int))=decide (n.toNat=l.length):=by rw[decide_eq_decide];omega
  rw[e]at this;exact this) (RH l) (Y6 l) fun p=>by rw[UW,mY]
 refine Ps (pG [1]) Tryz.func367 rfl (Nz rfl) (Xi .pure (Xi _ (Yi (hc) ?_)));exact .refl _
theorem tV(hs:Cb s):PC 310 [sl AE s] (sl AE (E6 s)):=by
 have hc:=tZ (.v (YQ 342)) (fun n=>decide (n=0)) [s] (by unfold Cb;simp) (fun t ht=>by rw[Ar.1 ht];exact hs) (fun _=>rfl) (fun h n h0 _=>by
  have:=AbC n
  have e:decide (n=0)=decide (n.toNat=0):=by rw[decide_eq_decide];omega
  rw[e]at this;exact this) (E6 s) (H6 s) fun p=>by
   rw[Ga]
   have:kG [s] p=if has s p then 1 else 0:=by unfold kG;rw[Jx];simp
   rw[this];cases has s p<;>rfl
 refine Ps El Tryz.func310 rfl (Nz rfl) (Xi .pure (Xi _ (Yi (hc) ?_)));exact .refl _
theorem AbX(l:List By)(hl:Cb l)(hs:∀s∈l,Cb s):PC 352 [sl GZ l] (sl AE (Si l)):=by
 have hc:=tZ (.v (YQ 369)) (fun n=>decide (0<n)) l hl hs (fun _=>rfl) (fun h n h0 _=>by
  have:=Ac0 n
  have e:decide (0<n)=decide (0<n.toNat):=by rw[decide_eq_decide];omega
  rw[e]at this;exact this) (Si l) (Zt l) fun p=>by
   rw[UX,mZ];cases h:l.any fun s=>has s p with
   |false=>simp
   |true=>
    obtain⟨s,_,h2⟩:=Be.1 h
    have:=Nk h2
    simp[MT,this]
 refine Ps El Tryz.func352 rfl (Nz rfl) (Xi .pure (Xi _ (Yi (hc) ?_)));exact .refl _
-- terms
theorem c59(ht:Cb t.set):PC 348 [.agg (AN t)] (vb (!t.absent&&(canon t.set).isEmpty)):=by
 refine Ps El Tryz.func348 rfl (Nz rfl) (Yi ?_ ?_)
 .intro h;rw[h];exact .refl _
 .intro h;refine Xi .pure (Xi _ (Yi (YB t.set ht) (Yi ?_ ?_)))
  .intro h2;have h2:canon t.set=[]:=AP (by rw[Lm]at h2;omega);rw[h,h2];exact .refl _
  .intro h2;have h2:(canon t.set).isEmpty=false:=by
    cases hc:canon t.set with
    |nil=>rw[hc]at h2;exact absurd rfl h2
    |cons _ _=>rfl
   rw[h,h2];exact .refl _
theorem c60(ht:Cb t.set):PC 349 [.agg (AN t)] (vb (t.absent&&(E6 t.set).isEmpty)):=by
 refine Ps El Tryz.func349 rfl (Nz rfl) (Yi ?_ ?_)
 .intro h;refine Xi .pure (Xi _ (Yi (tV t.set ht) (Yi ?_ ?_)))
  .intro h2;have h2:E6 t.set=[]:=AP (by rw[Lm]at h2;omega);rw[h,h2];exact .refl _
  .intro h2;have h2:(E6 t.set).isEmpty=false:=by
    cases hc:E6 t.set with
    |nil=>rw[hc]at h2;exact absurd rfl h2
    |cons _ _=>rfl
   rw[h,h2];exact .refl _
 .intro h;rw[h];exact .refl _
abbrev Kv(l:List Nat):Tn:=⟨[],[],[],[],[],[],[],[],[],[],l⟩
theorem c58(hu:Cb u.set)(ht:Cb t.set):PC 347 [.agg (AN u),.agg (AN t)] (.agg (AN (HB u t))):=by
 have hc:PC 367 [sl GZ [u.set,t.set]] (sl AE (Qx u.set t.set)):=Abs [u.set,t.set] (by unfold Cb;simp) (fun s hs=>by
  rcases AA.1 hs with rfl | hs
  .exact hu
  .rw[Ar.1 hs];exact ht)
 refine Ps (Kv []) Tryz.func347 rfl (Nz rfl) (Yi ?_ ?_)
 .intro h;refine Yi ?_ ?_
  .intro h2;have e:[vs u.path,vb true,sl AE (Qx u.set t.set)]=AN (HB u t):=by unfold HB;rw[h,h2];rfl
   refine Xi _ (Yi (hc) (Yi (Nz rfl) (Yi Wk (yN ?_))));exact .of_eq (Aa AV.agg e)
  .intro h2;have e:[vs u.path,vb false,sl AE (Qx u.set t.set)]=AN (HB u t):=by unfold HB;rw[h,h2];rfl
   refine Xi _ (Yi (hc) (Yi (Nz rfl) (Yi Wk (yN ?_))));exact .of_eq (Aa AV.agg e)
 .intro h;have e:[vs u.path,vb false,sl AE (Qx u.set t.set)]=AN (HB u t):=by unfold HB;rw[h];rfl
  refine Xi _ (Yi (hc) (Yi (Nz rfl) (Yi Wk (yN ?_))));exact .of_eq (Aa AV.agg e)
theorem AbS(hu:Cb u.set)(ht:Cb t.set):PC 313 [.agg (AN u),.agg (AN t)] (.agg (AN (DD u t))):=by
 have hc:PC 352 [sl GZ [u.set,t.set]] (sl AE (Rd u.set t.set)):=AbX [u.set,t.set] (by unfold Cb;simp) (fun s hs=>by
  rcases AA.1 hs with rfl | hs
  .exact hu
  .rw[Ar.1 hs];exact ht)
 refine Ps (Kv []) Tryz.func313 rfl (Nz rfl) (Yi ?_ ?_)
 .intro h;have e:[vs u.path,vb true,sl AE (Rd u.set t.set)]=AN (DD u t):=by unfold DD;rw[h];rfl
  refine Xi _ (Yi (hc) (Yi (Nz rfl) (Yi Wk (yN ?_))));exact .of_eq (Aa AV.agg e)
 .intro h;refine Yi ?_ ?_
  .intro h2;have e:[vs u.path,vb true,sl AE (Rd u.set t.set)]=AN (DD u t):=by unfold DD;rw[h,h2];rfl
   refine Xi _ (Yi (hc) (Yi (Nz rfl) (Yi Wk (yN ?_))));exact .of_eq (Aa AV.agg e)
  .intro h2;have e:[vs u.path,vb false,sl AE (Rd u.set t.set)]=AN (DD u t):=by unfold DD;rw[h,h2];rfl
   refine Xi _ (Yi (hc) (Yi (Nz rfl) (Yi Wk (yN ?_))));exact .of_eq (Aa AV.agg e)
theorem xC(hq:Cb q.set):PC 305 [.agg (Bb q)] (.agg (AN (D5 q))):=by
 refine Ps El Tryz.func305 rfl (Nz rfl) (Xi _ (Yi (tV q.set hq) (Yi (Nz rfl) (Yi Wk (yN ?_)))));exact .refl _
abbrev Cq:Fg:=⟨false,[.str]⟩
abbrev TQ:Value×AV:=(.string t.path,.agg (AN t))
abbrev zv(fin cut:List Nat):Tn:=⟨[],[],[],[],fin,[],[],[],[],[],cut⟩
theorem TR{p:ByteArray}{a:AV}:(Value.string p,a)∈m.map TQ↔∃t∈m,t.path=p/\a=.agg (AN t):=by
 rw[Ai];constructor
 .rintro⟨t,h1,h2⟩
  simp only[Gl,Value.string.injEq]at h2;exact⟨t,h1,h2.1,h2.2.symm⟩
 .rintro⟨t,h1,rfl,rfl⟩
  exact⟨t,h1,rfl⟩
theorem nk(m:List Tm)(t:Tm):Fa (m.map TQ) (.string t.path) (.agg (AN t))=(Zh m t).map TQ:=by
 unfold Zh
 by_cases h:(m.any fun u=>decide (u.path=t.path))=true
 .rw[Al h];obtain⟨u,h1,h2⟩:=Be.1 h;have h2:=AU h2
  have:(Value.string t.path,AV.agg (AN u))∈m.map TQ:=TR.2 ⟨u,h1,h2,rfl⟩
  rw[NY this,Bs,Bs];apply Bi;intro q _;simp only[Function.comp]
  by_cases e:q.path=t.path
  .simp[e]
  .have:¬Value.string q.path=.string t.path:=fun c=>e (by injection c)
   simp[e]
 .rw[Aj h]
  have:∀b,(Value.string t.path,b)∉m.map TQ:=fun b hb=>by
   obtain⟨u,h1,h2,_⟩:=TR.1 hb;exact h (Be.2 ⟨u,h1,by simp[h2]⟩)
  rw[I0 this,As];rfl
theorem ma(hn:(E2 m).Nodup)(p:ByteArray){K:AV->Prop}{Z:Prop}(hy:∀u,DG m p=some u->K (.agg (AN u)))(Od:DG m p=none->Z) :
  (∀a,(Value.string p,a)∈m.map TQ->K a)/\((∀a,(Value.string p,a)∉m.map TQ)->Z):=
 ⟨fun a h=>by
  obtain⟨t,h1,h2,rfl⟩:=TR.1 h;subst h2;exact hy t ((Nc hn).1 h1),fun h=>Od (by
  cases e:DG m p with
  |none=>rfl
  |some u=>exact absurd (TR.2 ⟨u,FH e,HR e,rfl⟩) (h _))⟩
theorem Qe{t:Tm}(h:Fc t.set):Cb t.set:=by
 unfold Cb
 have:=IV h;omega
theorem c57(hl:Cb l)(hs:∀t∈l,Cb t.set):PC 346 [sl AN l,.v (YQ 347)] (.cmap Cq ((DQ l).map TQ)):=by
 refine Ps (zv [10] []) Tryz.func346 rfl (Nz rfl) (Xi {i:Nat // i<=l.length} (Xi (fun i=>⟨[(0,sl AN l),(1,.v (YQ 347)),(5,.mref 10),(11,sl AN l),(12,vi (l.map AN).length),(13,vi i.1)],[(10,.map Cq ((DQ (l.take i.1)).map TQ))],Ae⟩) (Xi (fun i=>l.length-i.1) (Yi (Xi ⟨0,Ax _⟩ ?_) ?_))))
 .exact⟨Z6,Z1,Fh,Tv⟩
 intro⟨i,h1⟩;have hn:=IA (l.take i);refine Yi ?_ ?_
 .intro h;have h:i<l.length:=by simpa using h
  have hg:l[i]?=some l[i]:=Ge h;refine Xi (AN l[i]) (Yi (Yi (Nn i) (by simp[hg])) (Yi rfl ?_));refine Yi (Nz rfl) (yN ?_);have FN:=hs l[i] (Aq h);have tail:∀u:Tm,Cb u.set->HB u l[i]=Pl (DG (DQ (l.take i)) l[i].path) l[i]->Fa ((DQ (l.take i)).map TQ) (.string l[i].path) (.agg (AN (HB u l[i])))=(DQ (l.take (i+1))).map TQ:=fun u hu e=>by
   have hp:(Pl (DG (DQ (l.take i)) l[i].path) l[i]).path=l[i].path:=RU _ _ fun u h=>HR h;have e2:=nk (DQ (l.take i)) (HB u l[i]);have e3:(HB u l[i]).path=l[i].path:=by rw[e];exact hp
   rw[e3]at e2;rw[e2,S0 l i h,e];rfl
  refine ma hn l[i].path (fun u hu=>?_) (fun hu=>?_)
  .have Lu:Cb u.set:=Qe (QC _ u (FH hu));refine yN ?_;have A1:=tail u Lu (by rw[gG,hu];rfl);refine Yi (Nz rfl) (yN (Xi _ (Yi (c58 u l[i] Lu FN) (Yi Wk (Yi (Ii i ch) (Xi ⟨i+1,by omega⟩ ?_))))));have e1:HO.map Cq (Fa ((DQ (l.take i)).map TQ) (.string l[i].path) (.agg (AN (HB u l[i]))))=.map Cq ((DQ (l.take (i+1))).map TQ):=by rw[A1]
   exact⟨Dl l.length i ch,Z6,⟨⟨e1,rfl⟩,Tv⟩,Fh,Tv⟩
  .refine yN (Yi (Nz rfl) (yN ?_));have A1:=tail l[i] FN (by rw[gG,hu];rfl);refine Yi (Nz rfl) (yN (Xi _ (Yi (c58 l[i] l[i] FN FN) (Yi Wk (Yi (Ii i ch) (Xi ⟨i+1,by omega⟩ ?_))))));have e1:HO.map Cq (Fa ((DQ (l.take i)).map TQ) (.string l[i].path) (.agg (AN (HB l[i] l[i]))))=.map Cq ((DQ (l.take (i+1))).map TQ):=by rw[A1]
   exact⟨Dl l.length i ch,Z6,⟨⟨e1,rfl⟩,Tv⟩,Fh,Tv⟩
 .intro h;have h:¬i<l.length:=by simpa using h
  have e:(DQ (l.take i)).map TQ=(DQ l).map TQ:=by rw[At ch]
  exact .of_eq (Aa (AV.cmap Cq) e)
abbrev Hq:AV:=.tup [sl AN (RQ l),vb (Dh l).isSome]
abbrev AdA:Tn:=⟨[],[],[(4,3)],[],[],[],[],[],[],[(25,4)],[]⟩
abbrev ff:HO:=.arr 3 (l.map AN)
abbrev GP:List Tm:=l.filter fun t=>!Hd t
theorem q8{l:List Tm}{kv:Value×AV}{Mw : List (Value×AV)}(h:(l.map TQ).Perm (kv::Mw)):∃t r,kv=TQ t/\Mw=r.map TQ/\l.Perm (t::r):=by
 obtain⟨ps,h1,h2⟩:=K5 h l rfl;cases ps with
 |nil=>cases h2
 |cons t r=>
  rw[AK,Fo]at h2;exact⟨t,r,h2.1.symm,h2.2.symm,h1.symm⟩
theorem ZX{l:List Tm}{t:Tm}(h:t∈DQ l)(hn:I1 t=true):Dh l=none:=by
 unfold Dh;rw[Al (Be.2 ⟨t,(J7 l t).1 h,hn⟩)]
theorem cS{l done s:List Tm}(h:done.Perm (DQ l))(hn:∀t∈done,I1 t=false)(hp:s.Perm (GP done))(hs:s.Pairwise fun x y=>Ek y.path x.path=false):Dh l=some s:=by
 unfold Dh;rw[Aj]
 .congr 1
  exact(Ru _ (hp.trans (h.filter _)) hs).symm
 .intro c;obtain⟨t,h1,h2⟩:=Be.1 c
  have:=hn t (h.mem_iff.2 ((J7 l t).2 h1))
  rw[h2]at this;cases this
theorem jl:(GP l).length<=l.length:=Bw _ _
theorem c29(hl:Cb l)(hs:∀t∈l,Cb t.set):PC 312 [sl AN l] (Hq l):=by
 have ja:l.length<=1073741824:=hl;have hml:(DQ l).length<=l.length:=by have:=Pg l l.length (Ak _);rwa [B7]at this
 refine Ps AdA Tryz.func312 rfl (Nz rfl) (Xi .pure (Xi _ (Yi (c57 l hl hs) (Xi {p:List Tm×List Tm×Option (Value×AV) // (p.1++p.2.1).Perm (DQ l)/\∀t∈p.1,I1 t=false} (Xi (fun p=>⟨[(4,.msl 4 (GP p.1.1).length),(9,.ref 9 0)],[(4,ff (GP p.1.1)),(9,.iter ((DQ l).map TQ) (p.1.2.1.map TQ) p.1.2.2)],Ae⟩) (Xi (fun p=>p.1.2.1.length) (Yi (Xi ⟨([],DQ l,none),.refl _,fun t ht=>by cases ht⟩ ?_) ?_)))))))
 .exact⟨Z2,Z2,Fh,Tv⟩
 intro⟨⟨done,rem,EN⟩,r1,r2⟩;have r1:(done++rem).Perm (DQ l):=r1;have hdl:done.length+rem.length<=l.length:=by have:=r1.length_eq;rw[Ac]at this;omega
 have wX:=jl done;refine Yi ?_ ?_
 .intro hr;have hr:rem=[]:=DN.1 hr;subst hr;rw[BP]at r1;refine Xi (.gen [(4,1000)] 0) (Yi rfl ((c61 (GP done) (by unfold Cb;omega)).to ?_));intro s hq;have SN:s.length=(GP done).length:=hq.1.length_eq;have hc:=cS r1 r2 hq.1 hq.2;refine Yi (by rw[Lm,SN]) ?_;have e:AV.tup [sl AN s,vb true]=Hq l:=by unfold Hq RQ;rw[hc];rfl
  exact .of_eq e
 .intro kv Mw hp;refine CT (q8 hp) (fun t hp=>CT hp (fun r hp=>?_));have e1:=hp.1;have e2:=hp.2.1;subst e1;subst e2;have hp:=hp.2.2;have htm:t∈DQ l:=r1.mem_iff.1 (Bx _ (hp.mem_iff.2 (Ab ..)));have htc:=QC l t htm;have htf:=Qe htc;refine Yi (Nz rfl) (yN ?_);have hv:PC 348 [.agg (AN t)] (vb (I1 t)):=ns htc▸c59 t htf;have ha:PC 349 [.agg (AN t)] (vb (Hd t)):=ig htc▸c60 t htf;refine Cf (Bt (I1 t)) (fun h=>?_) (fun h=>?_)
  .rw[h]at hv;refine Xi .pure (Xi _ (Yi (hv) ?_));have hc:=ZX htm h;have e:AV.tup [.slice .none [],vb false]=Hq l:=by unfold Hq RQ;rw[hc];rfl
   have e0:CV (.tup [nzA,vb false]) (.tup [.slice .none [],vb false]):=CV.tup ⟨.nil,.refl _,trivial⟩;exact e0.trans (.of_eq e)
  .rw[h]at hv;refine Xi .pure (Xi _ (Yi (hv) (yN ?_)));have SL:((done++[t])++r).Perm (DQ l):=by
    rw[BA];exact(IL _ hp.symm).trans r1
   have hnv:∀u∈done++[t],I1 u=false:=fun u hu=>by
    rcases AO.1 hu with hu | hu
    .exact r2 u hu
    .rw[Ar.1 hu];exact h
   have hrl:r.length<rem.length:=by rw[hp.length_eq,Ag];omega
   refine Cf (Bt (Hd t)) (fun h2=>?_) (fun h2=>?_)
   rotate_left
   .rw[h2]at ha;refine Xi .pure (Xi _ (Yi (ha) ?_));have HC:B5 3 [AN t]/\((GP done).map AN).length=(GP done).length/\(((GP done).map AN).length+[AN t].length)*48<=140737488355328/\((GP done).map AN).length+[AN t].length<=9223372036854775807:=
     ⟨⟨rfl,trivial⟩,by rw[Lm],by rw[Lm,Bh];omega,by rw[Lm,Bh];omega⟩
    refine yN (Yi HC ?_);have hk:GP (done++[t])=GP done++[t]:=by unfold GP;rw[EP,Ep,Al (by rw[h2];rfl)];rfl
    have e1:AV.msl 4 (((GP done).map AN).length+[AN t].length)=.msl 4 (GP (done++[t])).length:=by rw[hk];simp
    have e2:HO.arr 3 ((GP done).map AN++[AN t])=ff (GP (done++[t])):=by rw[hk];simp
    refine Xi ⟨(done++[t],r,some (TQ t)),SL,hnv⟩ ?_;exact⟨hrl,⟨⟨e1,rfl⟩,Zr,Tv⟩,⟨⟨e2,rfl⟩,Zr,Tv⟩,Fh,Tv⟩
   .rw[h2]at ha;refine Xi .pure (Xi _ (Yi (ha) ?_));have hk:GP (done++[t])=GP done:=by unfold GP;rw[EP,Ep,Aj (by rw[h2];decide)];simp
    have e1:AV.msl 4 (GP done).length=.msl 4 (GP (done++[t])).length:=by rw[hk]
    have e2:ff (GP done)=ff (GP (done++[t])):=by rw[hk]
    refine Xi ⟨(done++[t],r,some (TQ t)),SL,hnv⟩ ?_;exact⟨hrl,⟨⟨e1,rfl⟩,Zr,Tv⟩,⟨⟨e2,rfl⟩,Zr,Tv⟩,Fh,Tv⟩
theorem uc(hl:Cb l)(hs:∀t∈l,Cb t.set):PC 304 [sl AN l] (sl AN (RQ l)):=by
 refine Ps El Tryz.func304 rfl (Nz rfl) (Xi .pure (Xi _ (Yi (c29 l hl hs) ?_)));exact .refl _
theorem RB:Cb (E6 s):=by
 unfold Cb;have:=IV (H6 s);omega
theorem um:Cb [x]:=by unfold Cb;simp
theorem Ace(y:α):Cb [x,y]:=by unfold Cb;simp
theorem AbL(hq:Cb q.set):PC 256 [.agg (Bb q)] (sl AN (Kw q)):=by
 have hc:PC 304 [sl AN [D5 q]] (sl AN (Kw q)):=uc [D5 q] (um _) fun t ht=>by rw[Ar.1 ht];exact RB _
 refine Ps El Tryz.func256 rfl (Nz rfl) (yN (Xi .pure (Xi _ (Yi (xC q hq) (Xi .pure (Xi _ (Yi (hc) ?_)))))));exact .refl _
theorem AbM(pl:Int)(q:Rq)(hp:AX (pl+1))(hq:Cb q.set):PC 257 [vs p,vi pl,.agg (Bb q)] (sl AN (EL p pl q)):=by
 have hc:PC 304 [sl AN [⟨p,false,[(pl,pl+1)]⟩,D5 q]] (sl AN (EL p pl q)):=uc [⟨p,false,[(pl,pl+1)]⟩,D5 q] (Ace _ _) fun t ht=>by
  rcases AA.1 ht with rfl | ht
  .exact um _
  .rw[Ar.1 ht];exact RB _
 refine Ps El Tryz.func257 rfl (Nz rfl) (Yi hp (yN (Xi .pure (Xi _ (Yi (xC q hq) (Xi .pure (Xi _ (Yi (hc) ?_))))))));exact .refl _
theorem xz(hs:Cb s):PC 261 [vs p,sl AE s] (sl AN (IR p s)):=by
 have hc:PC 304 [sl AN [⟨p,false,E6 s⟩]] (sl AN (IR p s)):=uc [⟨p,false,E6 s⟩] (um _) fun t ht=>by rw[Ar.1 ht];exact RB _
 refine Ps El Tryz.func261 rfl (Nz rfl) (Xi .pure (Xi _ (Yi (tV s hs) (Xi .pure (Xi _ (Yi (hc) ?_))))));exact .refl _
end Go.Eng
