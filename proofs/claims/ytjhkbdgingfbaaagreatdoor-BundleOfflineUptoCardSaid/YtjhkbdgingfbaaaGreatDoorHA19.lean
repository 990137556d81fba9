/- Lemmas 19. -/
import Derived.Test.YtjhkbdgingfbaaaGreatDoorHA18
import Derived.Test.YtjhkbdgingfbaaaGreatDoorHA02
namespace Go.Eng
open Go.Proofs
variable {h0:Nat->HO}{y:Int×Int}{α:Type}{P:Program}{args:List AV}{f:Nat}{t:Bl}(s:Bl)(l:List (Int×Int))(j:Bl)(i:Nat)
-- the checker,and what reads it
theorem aw:∀(s:List Sl) (i:Nat) (h:i+1<s.length),Lt (some s[i].path) (s.drop (i+1))=(FQ s[i].path s[i+1].path&&Lt (some s[i+1].path) (s.drop (i+2))):=fun s i h=>by
 rw[AY h];rfl
theorem Hy(a b:ByteArray):FQ a b=Op.bytesLess a.toList b.toList:=by
 have:∀x y:List UInt8,KU x y=Op.bytesLess x y:=by
  intro x
  induction x with
  |nil=>intro y;cases y<;>rfl
  |cons a x ih=>
   intro y;cases y with
   |nil=>rfl
   |cons b y=>
    unfold KU Op.bytesLess;rw[ih];rw[BV];simp
 unfold FQ;rw[this,ByteArray.toList_eq,ByteArray.toList_eq]
theorem Bb.imp{Q Q' : AV->(Nat->HO)->Prop}(h:Bb P f args h0 Q)(hq:∀r h',Q r h'->Q' r h'):Bb P f args h0 Q':=h.mono fun r h' q=>⟨r,.refl _,hq r h' q⟩
theorem Bb.to{r0:AV}{p:α->Prop}{H:α->Nat->HO}{Q' : AV->(Nat->HO)->Prop}(h:Bb P f args h0 fun r h'=>r=r0/\∃x,p x/\h'=H x)(k:∀x,p x->Q' r0 (H x)):Bb P f args h0 Q':=
 h.imp fun r h' ⟨e1,x,e2,e3⟩=>by subst e1;subst e3;exact k x e2
theorem sU(n:Nat)(h:n<=1073741824):∃lim:Nat,lim<100/\PC 72 [.v (.int .u64 (IntKind.u64.wrap (n:Int)))] (vi lim):=by
 refine⟨Lib.bitLen n,Nat.lt_of_le_of_lt (Lib.bitLen_le n 62 ch ch) ch,?_⟩;have wr:IntKind.u64.wrap (n:Int)=n:=by simp[IntKind.wrap,IntKind.bits,IntKind.signed];omega
 rw[wr];refine J7 [.int .u64 n] (.int .i64 (Lib.bitLen n:Nat)) (VI 72 Tryz.func72 aa0 rfl) rfl (fun _ _=>.v _ _) fun w _=>?_
 have:=Any.bits_Len Tryz.layBits (n:Int) w ch ch
 rw[BE]at this;exact this
theorem Aas(hl:Cw l)(h:∀x∈l,0<=x.1/\x.1<=1000000) :
  Bb Tryz.prog 245 [.msl 1000 l.length,.v (YY 246)] (Ag [(1000,.arr 2 (l.map AC))] Ad) fun r h'=>
   r=.tup []/\∃l' : List (Int×Int),(l'.Perm l/\l'.Pairwise (fun x y=>x.1<=y.1))/\h'=Ag [(1000,.arr 2 (l'.map AC))] Ad:=by
 obtain⟨lim,ab,hb⟩:=sU l.length hl;refine Cm (MC DU) [(1000,1000)] rfl Cu hm rfl Tryz.func245 aa0 rfl (Nz rfl) aa0 rfl (Xi .pure (Xi _ (Yi (hb) (Xi (.gen [(1000,1000)] 0) (Yi rfl ((Aax l hl h lim ab).imp ?_))))));intro r h' hq;refine BA hq.2 (fun l' QN=>?_);refine Xi (.tup []) (Yi ?_ (Yi rfl (Xi l' (Yi ⟨QN.1,QN.2.1⟩ ?_))))
 .exact .refl _
 .rw[QN.2.2];rfl
theorem c61(l:List Tm)(hl:Cw l) :
  Bb Tryz.prog 312 [.msl 1000 l.length,.v (YY 313)] (Ag [(1000,.arr 3 (l.map AO))] Ad) fun r h'=>
   r=.tup []/\∃l' : List Tm,(l'.Perm l/\l'.Pairwise (fun x y=>FQ y.path x.path=false))/\h'=Ag [(1000,.arr 3 (l'.map AO))] Ad:=by
 obtain⟨lim,ab,hb⟩:=sU l.length hl;refine Cm (MC DU) [(1000,1000)] rfl Cu hm rfl Tryz.func312 aa0 rfl (Nz rfl) aa0 rfl (Xi .pure (Xi _ (Yi (hb) (Xi (.gen [(1000,1000)] 0) (Yi rfl ((Aak l hl lim ab).imp ?_))))));intro r h' hq;refine BA hq.2 (fun l' QN=>?_);refine Xi (.tup []) (Yi ?_ (Yi rfl (Xi l' (Yi ⟨QN.1,QN.2.1⟩ ?_))))
 .exact .refl _
 .rw[QN.2.2];rfl
abbrev pla(l:List (Nat×Nat))(cut:List Nat):Qn:=⟨[],[],l,[],[],[],[],[],[],[],cut⟩
abbrev MO:HO:=.arr 2 (l.map AC)
theorem cl(l:Bl)(i:Nat):(DM (l.take i)).length<=i:=by
 unfold DM
 have:=BC (fun x:Int×Int=>decide (x.1<x.2)) ((l.take i).map I1)
 rw[Lm,AA]at this;omega
theorem Wl{l:Bl}{i:Nat}(h:i<l.length)(h3:(I1 l[i]).1<(I1 l[i]).2):DM (l.take (i+1))=DM (l.take i)++[I1 l[i]]:=by
 rw[AZ,Ge h,Pm];unfold DM;simp[h3]
theorem Zq{l:Bl}{i:Nat}(h:i<l.length)(h3:¬(I1 l[i]).1<(I1 l[i]).2):DM (l.take (i+1))=DM (l.take i):=by
 rw[AZ,Ge h,Pm];unfold DM;simp[h3]
abbrev arr2:Bl:=(BH (s.take i)).reverse++(j++s.drop i)
theorem pf(h:i<s.length)(hj:(BH (s.take i)).length+j.length=i):(arr2 s j i)[i]?=some s[i]:=by
 unfold arr2;rw[A0 (by rw[Dw];omega),A0 (by rw[Dw];omega),Dw,CA];rw[show i+(i-(BH (List.take i s)).length-j.length)=i by omega,Ge h]
theorem gu(e:BH (s.take i)=y::t):(arr2 s j i)[t.length]?=some y:=by
 unfold arr2;rw[e,RO,Bm,A0 (by rw[Dw];omega),Dw,F7];rfl
theorem kJ(h:i<=s.length)(hj:(BH (s.take i)).length+j.length=i):(arr2 s j i).length=s.length:=by
 unfold arr2;simp only[Ac,Dw,DP];omega
theorem d8(s:List α)(i:Nat)(h:i<s.length):s.drop i=s[i]::s.drop (i+1):=AY h
theorem V8(h:i<s.length)(e:LK (BH (s.take i)) s[i]=s[i]::BH (s.take i)) :
  (arr2 s j i).set (BH (s.take i)).length s[i]=arr2 s (j++[s[i]]).tail (i+1):=by
 unfold arr2;rw[GO s i h,e,RO,List.set_append_right _ _ (by rw[Dw];exact Ai _),Dw,F7,Bm,d8 s i h]
 congr 1
 cases j with
 |nil=>rfl
 |cons a b=>simp
theorem gq(h:i<s.length)(e:BH (s.take i)=y::t)(Hp:s[i].1<=y.2) :
  (arr2 s j i).set t.length (y.1,max y.2 s[i].2)=arr2 s (j++[s[i]]) (i+1):=by
 unfold arr2;have e2:LK (y::t) s[i]=(y.1,max y.2 s[i].2)::t:=by show(if s[i].1<=y.2 then _ else _)=_;rw[As Hp]
 rw[GO s i h,e,e2,RO,RO,Bm,List.set_append_right _ _ (by rw[Dw];exact Ai _),Dw,F7,d8 s i h];simp
theorem Ee{enc:α->List AV}{l:List α}{i:Nat}{x:α}(h:l[i]?=some x):(l.map enc)[i]?=some (enc x):=by rw[Aw,h];rfl
theorem Zm(hl:Cw l):PC 191 [sl AC l] (sl AC (canon l)):=by
 refine F2 (dY (pla [(3,2)] [])) rfl Cu hm rfl Tryz.func191 aa0 rfl (Nz rfl) aa0 (Xi {i:Nat // i<=l.length} (Xi (fun i=>⟨[(0,sl AC l),(3,.msl 3 (DM (l.take i.1)).length),(9,sl AC l),(10,vi (l.map AC).length),(11,vi i.1)],[(3,MO (DM (l.take i.1)))],Ad⟩) (Xi (fun i=>l.length-i.1) (Yi (Xi ⟨0,by simp⟩ ?_) ?_))))
 .exact⟨Z5,Z1,Fh,Tv⟩
 .intro⟨i,h1⟩;have hn:=cl l i;refine Yi ?_ ?_
  .intro h;have h:i<l.length:=by simpa using h
   have hg:l[i]?=some l[i]:=Ge h;refine Xi (AC l[i]) (Yi (Yi (Nn i) (by simp[hg])) (Yi rfl ?_));refine Yi (Nz rfl) (yN (yN (Yi ?_ ?_)))
   .intro h3;refine yN ?_;have GA:CR 2 [[vi (max l[i].1 0),vi (min l[i].2 1000000)]]/\((DM (l.take i)).map AC).length=(DM (l.take i)).length/\(((DM (l.take i)).map AC).length+[[vi (max l[i].1 0),vi (min l[i].2 1000000)]].length)*16<=140737488355328/\((DM (l.take i)).map AC).length+[[vi (max l[i].1 0),vi (min l[i].2 1000000)]].length<=9223372036854775807:=
     ⟨⟨rfl,trivial⟩,by rw[Lm],by rw[Lm,AJ];omega,by rw[Lm,AJ];omega⟩
    refine Yi GA (Yi (Ii i ch) (Xi ⟨i+1,by omega⟩ ?_));have e1:AV.msl 3 (((DM (l.take i)).map AC).length+[[vi (max l[i].1 0),vi (min l[i].2 1000000)]].length)=.msl 3 (DM (l.take (i+1))).length:=by rw[Wl h h3];simp
    have e2:HO.arr 2 ((DM (l.take i)).map AC++[[vi (max l[i].1 0),vi (min l[i].2 1000000)]])=MO (DM (l.take (i+1))):=by rw[Wl h h3];simp[I1]
    exact⟨Dl l.length i ch,⟨Zr,⟨e1,rfl⟩,Zr,Zr,Zr,Tv⟩,⟨⟨e2,rfl⟩,Tv⟩,Fh,Tv⟩
   .intro h3;refine Yi (Ii i ch) (Xi ⟨i+1,by omega⟩ ?_);have e1:AV.msl 3 (DM (l.take i)).length=.msl 3 (DM (l.take (i+1))).length:=by rw[Zq h h3]
    have e2:MO (DM (l.take i))=MO (DM (l.take (i+1))):=by rw[Zq h h3]
    exact⟨Dl l.length i ch,⟨Zr,⟨e1,rfl⟩,Zr,Zr,Zr,Tv⟩,⟨⟨e2,rfl⟩,Tv⟩,Fh,Tv⟩
  .intro h;have h:¬i<l.length:=by simpa using h
   have ei:DM (l.take i)=DM l:=by rw[AB ch]
   have hN:(DM (l.take i)).length=(DM l).length:=by rw[ei]
   refine Xi (.gen [(3,1000)] 0) (Yi rfl ((Aas (DM (l.take i)) (by unfold Cw;omega) (fun x hx=>by have:=Wk hx;omega)).to ?_));intro s hs;have Vw:s.length=(DM (l.take i)).length:=hs.1.length_eq;have hsN:s.length<=1073741824:=by omega
   have fin:(BH s).reverse=canon l:=SB (by rw[<-ei];exact hs.1) hs.2;refine Xi {p:Nat×Bl // p.1<=s.length/\(BH (s.take p.1)).length+p.2.length=p.1} (Xi (fun p=>⟨[(3,.msl 3 (DM (l.take i)).length),(6,vi (BH (s.take p.1.1)).length),(34,.msl 3 (DM (l.take i)).length),(35,vi (DM (l.take i)).length),(36,vi p.1.1)],[(3,MO (arr2 s p.1.2 p.1.1))],Ad⟩) (Xi (fun p=>s.length-p.1.1) (Yi (Xi ⟨(0,[]),AE _,rfl⟩ ?_) ?_)))
   .exact⟨Z5,Z1,Fh,Tv⟩
   intro⟨⟨k,j⟩,k1,k2⟩;have k2:(BH (s.take k)).length+j.length=k:=k2;have Ca:=kJ s j k k1 k2;have Uj:(DM (l.take i)).length=((arr2 s j k).map AC).length:=by rw[Lm,Ca,Vw]
   refine Yi ?_ ?_
   .intro h2;have h2:(k:Int)<(DM (l.take i)).length:=h2;have hk:k<s.length:=by omega
    have Vt:=Ee (enc:=AC) (pf s j k hk k2);refine Yi ⟨by show(0:Int)<=k;omega,by show(k:Int)<_;omega⟩ ?_;refine Yi Uj (Xi (AC s[k]) (Yi Vt (Yi (Nz rfl) (yN ?_))));have hr:=UH s k k1;refine BL (Nat.eq_zero_or_pos k) (fun k0=>?_) (fun k0=>?_)
    .refine Yi ?_ ?_
     .intro h4;have h4:(0:Int)<k:=h4;omega
     .intro _;refine Yi aa0 ?_;have Il:LK (BH (s.take k)) s[k]=s[k]::BH (s.take k):=by subst k0;rfl
      have km:(BH (s.take k)).length<(arr2 s j k).length:=by omega
      have hz:=Ee (enc:=AC) (Ge km);refine Yi (Nz rfl) (Yi ⟨by show(0:Int)<=((BH (s.take k)).length:Int);omega,by show((BH (s.take k)).length:Int)<_;omega⟩ ?_);refine Yi Uj (Xi (AC (arr2 s j k)[(BH (s.take k)).length]) (Yi hz (yN (Yi (by show A5 (((BH (s.take k)).length:Int)+1);unfold A5;omega) ?_))));refine Yi (Ii k ch) ?_;have hm:=GO s k hk;have e1:vi (((BH (s.take k)).length:Int)+1)=vi (BH (s.take (k+1))).length:=by rw[hm,Il];simp
      have e2:HO.arr 2 (((arr2 s j k).map AC).set (BH (s.take k)).length [vi s[k].1,vi s[k].2])=MO (arr2 s (j++[s[k]]).tail (k+1)):=by rw[<-V8 s j k hk Il];simp only[MO,K8]
      refine Xi ⟨(k+1,(j++[s[k]]).tail),by show k+1<=s.length;omega,by show(BH (s.take (k+1))).length+((j++[s[k]]).tail).length=k+1;rw[hm,Il];simp;omega⟩ ?_;exact⟨Dl s.length k ch,⟨Zr,⟨e1,rfl⟩,Zr,Zr,Zr,Tv⟩,⟨⟨e2,rfl⟩,Tv⟩,Fh,Tv⟩
    .refine Yi ?_ ?_
     .intro _;obtain⟨y,t,e⟩:∃y t,BH (s.take k)=y::t:=by
       cases hc:BH (s.take k)with
       |nil=>have:=hr.2 k0;rw[hc]at this;simp at this
       |cons y t=>exact⟨y,t,rfl⟩
      have ht:(((BH (s.take k)).length:Int)-1).toNat=t.length:=by rw[e];simp
      have hy:((arr2 s j k).map AC)[(((BH (s.take k)).length:Int)-1).toNat]?=some (AC y):=by rw[ht];exact Ee (gu s j k e)
      refine Yi (by show A5 (((BH (s.take k)).length:Int)-1);unfold A5;omega) ?_;have cM:=hr.2 k0;refine Yi ⟨by show(0:Int)<=((BH (s.take k)).length:Int)-1;omega,by show((BH (s.take k)).length:Int)-1<_;omega⟩ ?_;refine Yi Uj (Xi (AC y) (Yi hy (Yi ?_ ?_)))
      .intro h5;refine Yi aa0 (Yi (by show A5 (((BH (s.take k)).length:Int)-1);unfold A5;omega) (Yi (by show A5 (((BH (s.take k)).length:Int)-1);unfold A5;omega) ?_));refine Yi ⟨by show(0:Int)<=((BH (s.take k)).length:Int)-1;omega,by show((BH (s.take k)).length:Int)-1<_;omega⟩ ?_;refine Yi Uj (Xi (AC y) (Yi hy (Yi ⟨by show(0:Int)<=((BH (s.take k)).length:Int)-1;omega,by show((BH (s.take k)).length:Int)-1<_;omega⟩ ?_)));refine Yi Uj (Xi (AC y) (Yi hy (yN (Yi aa0 (Yi (Ii k ch) ?_)))));have hm:=GO s k hk;have Il:LK (BH (s.take k)) s[k]=(y.1,max y.2 s[k].2)::t:=by rw[e];show(if s[k].1<=y.2 then _ else _)=_;rw[As h5]
       have e1:vi (BH (s.take k)).length=vi (BH (s.take (k+1))).length:=by rw[hm,Il,e];simp
       have e2:HO.arr 2 (((arr2 s j k).map AC).set (((BH (s.take k)).length:Int)-1).toNat [vi y.1,vi (max y.2 s[k].2)])=MO (arr2 s (j++[s[k]]) (k+1)):=by rw[<-gq s j k hk e h5,ht];simp only[MO,K8]
       refine Xi ⟨(k+1,j++[s[k]]),by show k+1<=s.length;omega,by show(BH (s.take (k+1))).length+(j++[s[k]]).length=k+1;rw[hm,Il,Ac,AJ];rw[e]at k2;simp only[Al]at k2⊢;omega⟩ ?_;exact⟨Dl s.length k ch,⟨Zr,⟨e1,rfl⟩,Zr,Zr,Zr,Tv⟩,⟨⟨e2,rfl⟩,Tv⟩,Fh,Tv⟩
      .intro h5;refine Yi aa0 ?_;have Il:LK (BH (s.take k)) s[k]=s[k]::BH (s.take k):=by rw[e];show(if s[k].1<=y.2 then _ else _)=_;rw[Ah h5]
       have km:(BH (s.take k)).length<(arr2 s j k).length:=by omega
       have hz:=Ee (enc:=AC) (Ge km);refine Yi (Nz rfl) (Yi ⟨by show(0:Int)<=((BH (s.take k)).length:Int);omega,by show((BH (s.take k)).length:Int)<_;omega⟩ ?_);refine Yi Uj (Xi (AC (arr2 s j k)[(BH (s.take k)).length]) (Yi hz (yN (Yi (by show A5 (((BH (s.take k)).length:Int)+1);unfold A5;omega) ?_))));refine Yi (Ii k ch) ?_;have hm:=GO s k hk;have e1:vi (((BH (s.take k)).length:Int)+1)=vi (BH (s.take (k+1))).length:=by rw[hm,Il];simp
       have e2:HO.arr 2 (((arr2 s j k).map AC).set (BH (s.take k)).length [vi s[k].1,vi s[k].2])=MO (arr2 s (j++[s[k]]).tail (k+1)):=by rw[<-V8 s j k hk Il];simp only[MO,K8]
       refine Xi ⟨(k+1,(j++[s[k]]).tail),by show k+1<=s.length;omega,by show(BH (s.take (k+1))).length+((j++[s[k]]).tail).length=k+1;rw[hm,Il];simp;omega⟩ ?_;exact⟨Dl s.length k ch,⟨Zr,⟨e1,rfl⟩,Zr,Zr,Zr,Tv⟩,⟨⟨e2,rfl⟩,Tv⟩,Fh,Tv⟩
     .intro h4;have h4:¬(0:Int)<k:=h4;omega
   .intro h2;have h2:¬(k:Int)<(DM (l.take i)).length:=h2;have hk:k=s.length:=by omega
    have hr:=UH s k k1;have aj:((((arr2 s j k).map AC).take ((BH (s.take k)).length:Int).toNat).drop 0)=(canon l).map AC:=by
     rw[List.drop_zero,BE,<-List.map_take,<-fin];unfold arr2
     have:(BH (s.take k)).length=(BH (s.take k)).reverse.length:=by rw[Dw]
     rw[this,List.take_left,hk,CK]
    refine Yi ⟨Uj,by show(0:Int)<=0;omega,by show(0:Int)<=((BH (s.take k)).length:Int);omega,by show((BH (s.take k)).length:Int)<=(((arr2 s j k).map AC).length:Int);omega,.inr ⟨rfl,by simp⟩⟩ ?_;exact .of_eq (Aa (AV.slice .none) aj)
end Go.Eng
namespace Go.Eng
open Go.Proofs Go.Sort
variable {m:List (Int×Int)}{S:Bl}(zs:List Int)(z:Int)
abbrev G0:List AV:=[vi z]
theorem jB{α:Type}[Inhabited α](enc:α->Value)(w:World)(b:Nat)(d:Array α):putRow enc w b 0 d=putRow id w b 0 (d.map enc):=by
 unfold putRow
 congr 1
 funext c
 unfold putCells;apply Tn
 .simp
 .intro i h1 h2;simp only[Array.getElem_mapIdx,Array.size_map]
  by_cases h:i<d.size
  .rw[As ch,As ch];rw[E0 d (i-0) ch,E0 (d.map enc) (i-0) (by simpa using h)];simp
  .rw[Ah ch,Ah ch]
theorem Wr:(zs.map G0).flatten=(zs.map fun z=>Value.int .i64 z).map AV.v:=by
 induction zs with
 |nil=>rfl
 |cons z zs ih=>rw[AK,Bu,ih];rfl
theorem W9(g:Gh)(w:World)(U:Nat->Prop)(vs:List Value)(h:∀x∈vs,x.oneCell'=true):CJ g w U (vs.map .v) vs:=
 ⟨by simp,h,fun i av x q1 q2=>by
  rw[Aw,q2]at q1;cases q1;exact .v _ _⟩
theorem YN{g:Gh}{w:World}{U:Nat->Prop}{vs us:List Value}(h:CJ g w U (vs.map .v) us):us=vs:=by
 apply Cz;intro i;have hl:=h.1;rw[Lm]at hl
 by_cases hi:i<vs.length
 .have:=h.2.2 i (.v vs[i]) us[i] (by rw[Aw,Ge hi];rfl) (Ge ch)
  rw[Ge hi,Ge ch,this.v_eq]
 .rw[AQ ch,AQ ch]
theorem Aaw(hl:Cw zs)(Dv:zs≠[]) :
  Bb Tryz.prog 330 [.msl 1000 zs.length] (Ag [(1000,.arr 1 (zs.map G0))] Ad) fun r h'=>
   r=.tup []/\∃l' : List Int,(l'.Perm zs/\l'.Pairwise fun a b=>a<=b)/\h'=Ag [(1000,.arr 1 (l'.map G0))] Ad:=by
 have hE:GI Tryz.prog 330:=VI 330 Tryz.func330 aa0 rfl;have Kw:=V3 (P:=Tryz.prog) (f:=330) (es:=zs.map G0) (sz:=1) (rest:=[]) (Q:=fun Gm=>∃l' : List Int,(l'.Perm zs/\l'.Pairwise fun a b=>a<=b)/\Gm=l'.map G0) hE ?_ ?_
 .rw[Lm]at Kw;refine⟨hE,fun g w vals q1 q2 q3=>(Kw.2 g w vals q1 q2 q3).mono fun _ _ ⟨v,r,h',g',e1,⟨e2,Gm,⟨l',p1,p2⟩,p3⟩,rest⟩=>⟨v,r,h',g',e1,⟨e2,l',p1,by rw[p3,p2]⟩,rest⟩⟩
 .intro e
  have:zs=[]:=by simpa using e
  exact absurd this Dv
 .intro g w b cap F hr hF hH hb;have hFl:F.toList=zs.map fun z=>Value.int .i64 z:=YN (by rw[<-Wr];exact hr);have hFz:F=zs.toArray.map fun z=>Value.int .i64 z:=Jb.1 (by rw[hFl];simp);have hH2:Holds (Value.int .i64) w b 0 zs.toArray:=fun j hj=>by
   have:=hH j (by rw[hFz];simpa using hj)
   refine⟨this.1.trans ?_,this.2⟩;rw[hFz,E0 _ j (by simpa using hj),E0 _ j hj];simp
  have hc:=Any.slices_Sort_int Tryz.laySortInts b 0 cap zs w hH2 hb ch;rw[Lm];refine hc.mono ?_
  rintro e w' ⟨rfl,n,os,rfl⟩
  have Kx:(zs.mergeSort fun x y=>decide (x<=y)).Perm zs:=List.mergeSort_perm _ _;have Ca:=Kx.length_eq;refine⟨rfl,(zs.mergeSort fun x y=>decide (x<=y)).toArray.map fun z=>Value.int .i64 z,(zs.mergeSort fun x y=>decide (x<=y)).map G0,n,os,?_,⟨_,⟨Kx,?_⟩,rfl⟩,by simp[Ca],fun cs hcs=>?_,fun g w _=>?_,by rw[jB]⟩
  .rw[hFz];simp[Ca]
  .have:=List.pairwise_mergeSort (le:=fun x y:Int=>decide (x<=y)) (fun a b c h1 h2=>by simp only[Au]at *;omega) (fun a b=>by simp only[CD,Au];omega) zs
   exact this.imp fun h=>BO h
  .obtain⟨x,_,rfl⟩:=Ak.1 hcs;rfl
  .rw[Wr];have e:((zs.mergeSort fun x y=>decide (x<=y)).toArray.map fun z=>Value.int .i64 z).toList=(zs.mergeSort fun x y=>decide (x<=y)).map fun z=>Value.int .i64 z:=by simp
   rw[e];exact W9 _ _ _ _ fun x hx=>by
    obtain⟨z,_,rfl⟩:=Ak.1 hx;rfl
-- maps from numbers to numbers
abbrev YQ:EN:=⟨false,[.int .i64]⟩
abbrev kI:Value:=.int .i64 z
abbrev M8(p:Int×Int):Value×AV:=(kI p.1,vi p.2)
abbrev GM(s:Bl):List AV:=[sl AC s]
theorem Tc{k:Int}{a:AV}:(kI k,a)∈m.map M8↔∃v,(k,v)∈m/\a=vi v:=by
 rw[Ak];constructor
 .rintro⟨⟨k',v⟩,h1,h2⟩
  simp only[ES,Value.int.injEq,true_and]at h2;obtain⟨rfl,rfl⟩:=h2;exact⟨v,h1,rfl⟩
 .rintro⟨v,h1,rfl⟩
  exact⟨(k,v),h1,rfl⟩
theorem Tf(m:List (Int×Int))(k v:Int):Ff (m.map M8) (kI k) (vi v)=(Mf m k v).map M8:=by
 unfold Mf
 by_cases h:(m.any fun p=>decide (p.1=k))=true
 .rw[As h];obtain⟨p,h1,h2⟩:=AX.1 h;have h2:=BO h2
  have:(kI k,vi p.2)∈m.map M8:=Tc.2 ⟨p.2,by rw[<-h2];exact h1,rfl⟩
  rw[Rd this,Bw,Bw];apply Ba;intro q _;simp only[Function.comp]
  by_cases e:q.1=k
  .simp[e]
  .have:¬kI q.1=kI k:=fun c=>e (by injection c)
   simp[e]
 .rw[Ah h]
  have:∀b,(kI k,b)∉m.map M8:=fun b hb=>by
   obtain⟨v,h1,_⟩:=Tc.1 hb;exact h (AX.2 ⟨(k,v),h1,by simp⟩)
  rw[NF this,Az];rfl
theorem PE{T:GV}{e:Nat}{B7:List (Value×AV)}{kx:Value}{K:AV->Prop}(a0 z0:AV)(h1:∀a,(kx,a)∈B7->a=a0)(hz:(∀a,(kx,a)∉B7)->a0=z0)(h2:K z0->K3 T e K)(k:K a0) :
  (∀a,(kx,a)∈B7->K a)/\((∀a,(kx,a)∉B7)->K3 T e K):=⟨fun a h=>by rw[h1 a h];exact k,fun hn=>h2 (hz hn▸k)⟩
theorem RE(m:List (Int×Int))(k:Int):(∀a,(kI k,a)∉m.map M8)->vi (FE m k)=vi 0:=fun JH=>by
 rw[ov fun hk=>by
  obtain⟨p,hp,e⟩:=Ak.1 hk;exact JH (vi p.2) (Tc.2 ⟨p.2,by rw[<-e];exact hp,rfl⟩)]
theorem RD(hn:(Fu m).Nodup)(k:Int):∀a,(kI k,a)∈m.map M8->a=vi (FE m k):=fun a h=>by
 obtain⟨v,h1,rfl⟩:=Tc.1 h;rw[ot hn h1]
theorem Jp.bound(h:Jp m S)(k:Int):-(S.length:Int)<=FE m k/\FE m k<=S.length:=by
 rw[h.val]
 have:cF S k<=S.length:=List.countP_le_length
 have:cT S k<=S.length:=List.countP_le_length
 omega
theorem cz(l:List Bl):(l.map canon).flatten.length<=l.length*1000000:=by
 induction l with
 |nil=>simp
 |cons s l ih=>
  rw[AK,Bu,Ac,Al]
  have:=Iy (Cv s)
  omega
theorem Jp.few(h:Jp m S):m.length<=1000001:=by
 have:=IS (m:=(List.range 1000001).map Int.ofNat) h.nd fun k hk=>by
  have:=h.rng k hk
  exact Ak.2 ⟨k.toNat,IW.2 ch,by show(k.toNat:Int)=k;omega⟩
 unfold Fu at this;rw[Lm,Lm,Is]at this;exact this
theorem WD(keep:Nat->Bool)(m:List (Int×Int))(B:List Int):∀n,(EJ keep m B n).length<=n
 |0=>Ai _
 |n+1=>by
  unfold EJ
  have:=WD keep m B n
  rw[Ac];split
  .split<;>simp<;>omega
  .simp;omega
end Go.Eng
namespace Go.Eng
open Go.Proofs
variable {m:List Tm}{α:Type}(u:Tm)(n:Int)(l:List Tm)(p:ByteArray)(x:α)(s:Bl)(q:Rq)(t:Tm)
abbrev plC:Qn:=⟨[],[(12,2)],[(44,1)],[],[],[],[],[],[],[],[8,9,15,23,25,26]⟩
theorem sX(F:AV)(keep:Nat->Bool)(l:List Bl)(hl:Cw l)(hs:∀s∈l,Cw s)(hid:∀h,Un h F=true)(hF:∀h (n:Int),0<=n->n<=l.length->Qr Tryz.prog (str h F) [vi n] (vb (keep n.toNat)))
  (R:Bl) (hR:ET R) (hRh:∀p,has R p=(MF p&&keep (kc l p))):PC 303 [F,sl GM l] (sl AC R):=by
 refine Ps plC Tryz.func303 rfl (Nz rfl) (Xi {p:Nat×List (Int×Int) // p.1<=l.length/\Jp p.2 ((l.take p.1).map canon).flatten} (Xi (fun p=>⟨[(0,F),(5,.mref 15),(17,sl GM l),(18,vi (l.map GM).length),(19,vi p.1.1)],[(15,.map YQ (p.1.2.map M8))],Ad⟩) (Xi (fun p=>l.length-p.1.1) (Yi (Xi ⟨(0,wX),AE _,pD⟩ ?_) ?_))))
 .have e0:HO.map YQ (Ff (Ff [] (kI 0) (vi 0)) (kI 1000000) (vi 0))=.map YQ (wX.map M8):=by
   have e1:=Tf [] 0 0;have e2:=Tf [(0,0)] 1000000 0;show HO.map YQ (Ff (Ff (List.map M8 []) (kI 0) (vi 0)) (kI 1000000) (vi 0))=_;rw[e1];show HO.map YQ (Ff (List.map M8 [(0,0)]) (kI 1000000) (vi 0))=_;rw[e2];rfl
  exact⟨⟨⟨rfl,hid _⟩,Zr,Zr,Zr,Zr,Tv⟩,⟨⟨e0,rfl⟩,Tv⟩,Fh,Tv⟩
 intro⟨⟨i,cm⟩,i1,i2⟩;refine Yi ?_ ?_
 .intro h;have h:i<l.length:=by simpa using h
  have hg:l[i]?=some l[i]:=Ge h;refine Xi (GM l[i]) (Yi (Yi (Nn i) (by simp[hg])) (Yi rfl ?_));refine Xi .pure (Xi _ (Yi (Zm l[i] (hs _ (Aq h))) (Xi {p:Nat×List (Int×Int) // p.1<=(canon l[i]).length/\Jp p.2 (((l.take i).map canon).flatten++(canon l[i]).take p.1)} (Xi (fun p=>⟨[(0,F),(5,.mref 15),(17,sl GM l),(18,vi (l.map GM).length),(19,vi i),(24,sl AC (canon l[i])),(25,vi ((canon l[i]).map AC).length),(26,vi p.1.1)],[(15,.map YQ (p.1.2.map M8))],Ad⟩) (Xi (fun p=>(canon l[i]).length-p.1.1) (Yi (Xi ⟨(0,cm),AE _,by rw[List.take_zero,BZ];exact i2⟩ ?_) ?_))))))
  .exact⟨⟨⟨rfl,hid _⟩,Zr,Zr,Zr,Zr,Zr,Zr,Zr,Tv⟩,Z1,Fh,Tv⟩
  intro⟨⟨j,dm⟩,j1,j2⟩;have j2:Jp dm (((l.take i).map canon).flatten++(canon l[i]).take j):=j2;have hS:(((l.take i).map canon).flatten++(canon l[i]).take j).length<=1073741825000000:=by
   have a1:=cz (l.take i);have a2:=Iy (Cv l[i]);rw[AA]at a1;rw[Ac,AA];omega
  refine Yi ?_ ?_
  .intro hj;have hj:j<(canon l[i]).length:=by simpa using hj
   have hgj:(canon l[i])[j]?=some (canon l[i])[j]:=Ge hj;have r4:=(Cv l[i]).low _ (Aq hj);have j3:Jp (bx dm (canon l[i])[j]) (((l.take i).map canon).flatten++(canon l[i]).take (j+1)):=by
    have:=jP j2 (x:=(canon l[i])[j]) r4
    rw[Bm]at this;rw[AZ,hgj];exact this
   generalize (canon l[i])[j]=x at hgj r4 j3;have b1:=j2.bound x.1;have km:=M7 j2.nd x.1 (FE dm x.1+1);refine Xi (AC x) (Yi (Yi (Nn j) (by simp[hgj])) (Yi rfl ?_));refine Yi (Nz rfl) (yN (Xi ⟨[(0,F),(5,.mref 15),(9,.ref 9 0),(17,sl GM l),(18,vi (l.map GM).length),(19,vi i),(24,sl AC (canon l[i])),(25,vi ((canon l[i]).map AC).length),(26,vi j)],[(9,.cells (AC x)),(15,.map YQ (dm.map M8))],Ad⟩ (Yi ⟨⟨⟨rfl,hid _⟩,Zr,Zr,Zr,Zr,Zr,Zr,Zr,Zr,Tv⟩,Z2,Fh,Tv⟩ (PE (vi (FE dm x.1)) (vi 0) (RD j2.nd x.1) (RE dm x.1) (fun q=>q) (Yi (by show A5 (FE dm x.1+1);unfold A5;omega) ?_)))));have m1:HO.map YQ (Ff (dm.map M8) (kI x.1) (vi (FE dm x.1+1)))=.map YQ ((Mf dm x.1 (FE dm x.1+1)).map M8):=by rw[Tf]
   refine Xi ⟨[(0,F),(5,.mref 15),(9,.ref 9 0),(17,sl GM l),(18,vi (l.map GM).length),(19,vi i),(24,sl AC (canon l[i])),(25,vi ((canon l[i]).map AC).length),(26,vi j)],[(9,.cells (AC x)),(15,.map YQ ((Mf dm x.1 (FE dm x.1+1)).map M8))],Ad⟩ (Yi ⟨⟨⟨rfl,hid _⟩,Zr,Zr,Zr,Zr,Zr,Zr,Zr,Zr,Tv⟩,⟨Zr,⟨m1,rfl⟩,Tv⟩,Fh,Tv⟩ ?_)
   have b2:-(1073741825000001:Int)<=FE (Mf dm x.1 (FE dm x.1+1)) x.2/\FE (Mf dm x.1 (FE dm x.1+1)) x.2<=1073741825000001:=by
    have b3:=j2.bound x.2;rw[Qk];split<;>omega
   refine PE (vi (FE (Mf dm x.1 (FE dm x.1+1)) x.2)) (vi 0) (RD km x.2) (RE _ x.2) (fun q=>q) (Yi (by show A5 (FE (Mf dm x.1 (FE dm x.1+1)) x.2-1);unfold A5;omega) ?_);have hcl:=Iy (Cv l[i]);refine Yi (Ii j ch) ?_;have m2:HO.map YQ (Ff ((Mf dm x.1 (FE dm x.1+1)).map M8) (kI x.2) (vi (FE (Mf dm x.1 (FE dm x.1+1)) x.2-1)))=.map YQ ((bx dm x).map M8):=by rw[Tf];rfl
   refine Xi ⟨(j+1,bx dm x),by show j+1<=_;omega,j3⟩ ?_;exact⟨by show(canon l[i]).length-(j+1)<(canon l[i]).length-j;omega,⟨⟨rfl,hid _⟩,Zr,Zr,Zr,Zr,Zr,Zr,Zr,Tv⟩,⟨⟨m2,rfl⟩,Tv⟩,Fh,Tv⟩
  .intro hj;have hj:¬j<(canon l[i]).length:=by simpa using hj
   refine Yi (Ii i ch) ?_;have i3:Jp dm ((l.take (i+1)).map canon).flatten:=by
    have e1:(canon l[i]).take j=canon l[i]:=AB ch;rw[e1]at j2;have e2:((l.take (i+1)).map canon).flatten=((l.take i).map canon).flatten++canon l[i]:=by
     rw[AZ,hg,Az,Cs];show _++(canon l[i]++[])=_;rw[BZ]
    rw[e2];exact j2
   refine Xi ⟨(i+1,dm),by show i+1<=_;omega,i3⟩ ?_;exact⟨Dl l.length i ch,⟨⟨rfl,hid _⟩,Zr,Zr,Zr,Zr,Tv⟩,Z1,Fh,Tv⟩
 .intro h;have h:¬i<l.length:=by simpa using h
  have i3:Jp cm (l.map canon).flatten:=by
   rw[AB ch]at i2;exact i2
  have xJ:=i3.few;have tV:(0:Int)<=0/\(0:Int)<=((cm.map M8).length:Int)/\((cm.map M8).length:Int)*((8:Nat):Int)<=140737488355328/\((cm.map M8).length:Int)<=9223372036854775807:=by rw[Lm];omega
  refine Yi tV (Xi {p:List (Value×AV)×List Int×Option (Value×AV) // ((p.2.1.map kI)++p.1.map (·.1)).Perm ((cm.map M8).map (·.1))/\∀kv∈p.1,kv∈cm.map M8} (Xi (fun p=>⟨[(0,F),(5,.mref 15),(10,.msl 44 p.1.2.1.length),(46,.ref 46 0)],[(15,.rom YQ (cm.map M8)),(44,.arr 1 (p.1.2.1.map G0)),(46,.iter (cm.map M8) p.1.1 p.1.2.2)],Ad⟩) (Xi (fun p=>p.1.1.length) (Yi (Xi ⟨(cm.map M8,[],none),.refl _,fun _ h=>h⟩ ?_) ?_))))
  .exact⟨⟨⟨rfl,hid _⟩,Zr,Zr,Zr,Tv⟩,Z3,Fh,Tv⟩
  intro⟨⟨rem,bs,Db⟩,r1,r2⟩;have zG:bs.length<=1000001:=by
   have:=r1.length_eq
   simp only[Ac,Lm]at this;omega
  refine Yi ?_ ?_
  .intro hr;subst hr;rw[Eb,BZ,Bw]at r1;have hpk:bs.Perm (Fu cm):=by
    have r1:(bs.map kI).Perm ((Fu cm).map kI):=by unfold Fu;rw[Bw];exact r1
    have:=r1.map (fun v:Value=>match v with | .int _ n=>n | _=>0)
    rw[Bw,Bw]at this;have e:((fun v:Value=>match v with | .int _ n=>n | _=>0) ∘ kI)=id:=rfl;rw[e,MM,MM]at this;exact this
   have Dv:bs≠[]:=fun e=>by
    subst e
    have:=hpk.length_eq
    have h0:=i3.keys.1;rw[AL this.symm]at h0;cases h0
   refine Xi (.gen [(44,1000)] 0) (Yi rfl ((Aaw bs (by unfold Cw;omega) Dv).to ?_));intro B xl;have l7:B.length=bs.length:=xl.1.length_eq;have hBn:B.Nodup:=(xl.1.trans hpk).nodup_iff.2 i3.nd;have hB:o7 B cm:=⟨xl.1.trans hpk,by
    rw[A8];intro a b ha hb oO;have h1:=(A8.1 xl.2) a b ha hb oO;have h2:B[a]≠B[b]:=(A8.1 hBn) a b ha hb oO;omega⟩
   have AdT:0<B.length:=by
    rw[l7];exact Hb.2 Dv
   have hNE:bs.length=(B.map G0).length:=by rw[Lm,l7]
   refine Yi (by show A5 ((bs.length:Int)-1);unfold A5;omega) (Xi {k:Nat // k<=B.length-1} (Xi (fun k=>⟨[(0,F),(5,.mref 15),(10,.msl 44 bs.length),(12,.slice (.id 12 2) ((EJ keep cm B k.1).map AC)),(13,vi (I9 cm (B.take k.1))),(59,vi ((bs.length:Int)-1)),(60,vi k.1)],[(12,.tok 2 ((EJ keep cm B k.1).map AC).length),(15,.rom YQ (cm.map M8)),(44,.arr 1 (B.map G0))],Ad⟩) (Xi (fun k=>B.length-k.1) (Yi (Xi ⟨0,AE _⟩ ?_) ?_))))
   .exact⟨⟨⟨rfl,hid _⟩,Zr,Zr,Zr,Zr,Zr,Zr,Tv⟩,Z3,Fh,Tv⟩
   intro⟨k,k1⟩;have vF:=WD keep cm B k;refine Yi ?_ ?_
   .intro hk;have hk:(k:Int)<(bs.length:Int)-1:=hk;have IA:k+1<B.length:=by omega
    have cI:k<B.length:=by omega
    have Vt:(B.map G0)[k]?=some (G0 B[k]):=Ee (Ge cI);have AbB:(B.map G0)[k+1]?=some (G0 B[k+1]):=Ee (Ge IA);have SI:=RB cm B k cI;have ym:=oa i3 hB k cI;have Ui:EJ keep cm B (k+1)=EJ keep cm B k++(if keep (I9 cm (B.take (k+1))).toNat then [(B[k],B[k+1])]else []):=by
     show _++(match B[k]?,B[k+1]? with | some a,some b=>if keep (I9 cm (B.take (k+1))).toNat then [(a,b)]else [] | _,_=>[])=_;rw[Ge cI,Ge IA]
    refine Xi ⟨[(0,F),(5,.mref 15),(10,.msl 44 bs.length),(12,.slice (.id 12 2) ((EJ keep cm B k).map AC)),(13,vi (I9 cm (B.take k))),(14,vi k),(59,vi ((bs.length:Int)-1)),(60,vi k)],[(12,.tok 2 ((EJ keep cm B k).map AC).length),(15,.rom YQ (cm.map M8)),(44,.arr 1 (B.map G0))],Ad⟩ (Yi ⟨⟨⟨rfl,hid _⟩,Zr,Zr,Zr,Zr,Zr,Zr,Zr,Tv⟩,Z3,Fh,Tv⟩ (Yi ⟨by show(0:Int)<=k;omega,by show(k:Int)<bs.length;omega⟩ ?_));refine Yi hNE (Xi (G0 B[k]) (Yi Vt (PE (vi (FE cm B[k])) (vi 0) (RD i3.nd B[k]) (RE cm B[k]) (fun q=>q) (Yi (by show A5 (I9 cm (B.take k)+FE cm B[k]);rw[<-SI];unfold A5;omega) ?_))));have CQ:∀h,Qr Tryz.prog (str h F) [vi (I9 cm (B.take k)+FE cm B[k])] (vb (keep (I9 cm (B.take (k+1))).toNat)):=fun h=>by
     rw[<-SI];exact hF h _ ym.1 ym.2
    refine BL (Bt (keep (I9 cm (B.take (k+1))).toNat)) (fun hp=>?_) (fun hp=>?_)
    .rw[hp]at CQ;rw[hp,As rfl]at Ui;refine Xi .pure (Xi (vb true) (Yi (CQ _) (Xi ⟨[(0,F),(5,.mref 15),(10,.msl 44 bs.length),(12,.slice (.id 12 2) ((EJ keep cm B k).map AC)),(13,vi (I9 cm (B.take k)+FE cm B[k])),(14,vi k),(59,vi ((bs.length:Int)-1)),(60,vi k)],[(12,.tok 2 ((EJ keep cm B k).map AC).length),(15,.rom YQ (cm.map M8)),(44,.arr 1 (B.map G0))],Ad⟩ (Yi ⟨⟨⟨rfl,hid _⟩,Zr,Zr,Zr,Zr,Zr,Zr,Zr,Tv⟩,Z3,Fh,Tv⟩ ?_))))
     have b1:(0:Int)<=(k:Int)+1/\(k:Int)+1<bs.length:=by omega
     have AbC:(B.map G0)[((k:Int)+1).toNat]?=some (G0 B[k+1]):=by rw[show((k:Int)+1).toNat=k+1 by omega];exact AbB
     refine Yi ⟨by show(0:Int)<=k;omega,by show(k:Int)<bs.length;omega⟩ ?_;refine Yi hNE (Xi (G0 B[k]) (Yi Vt (Yi (Ii k ch) (Yi b1 (Yi hNE (Xi (G0 B[k+1]) (Yi AbC ?_)))))));have GA:CR 2 [[vi B[k],vi B[k+1]]]/\((EJ keep cm B k).map AC).length=((EJ keep cm B k).map AC).length/\(((EJ keep cm B k).map AC).length+[[vi B[k],vi B[k+1]]].length)*16<=140737488355328/\((EJ keep cm B k).map AC).length+[[vi B[k],vi B[k+1]]].length<=9223372036854775807:=
      ⟨⟨rfl,trivial⟩,rfl,by rw[Lm,AJ];omega,by rw[Lm,AJ];omega⟩
     refine Yi GA (Yi aa0 (Xi ⟨[(0,F),(5,.mref 15),(10,.msl 44 bs.length),(12,.slice (.id 12 2) ((EJ keep cm B k).map AC++[[vi B[k],vi B[k+1]]])),(13,vi (I9 cm (B.take k)+FE cm B[k])),(59,vi ((bs.length:Int)-1)),(60,vi k)],[(12,.tok 2 (((EJ keep cm B k).map AC).length+[[vi B[k],vi B[k+1]]].length)),(15,.rom YQ (cm.map M8)),(44,.arr 1 (B.map G0))],Ad⟩ (Yi ⟨⟨⟨rfl,hid _⟩,Zr,Zr,Zr,Zr,Zr,Zr,Tv⟩,Z3,Fh,Tv⟩ (Yi (Ii k ch) (Xi ⟨k+1,by omega⟩ ?_)))));have e1:AV.slice (.id 12 2) ((EJ keep cm B k).map AC++[[vi B[k],vi B[k+1]]])=.slice (.id 12 2) ((EJ keep cm B (k+1)).map AC):=by rw[Ui,Az];rfl
     have e2:vi (I9 cm (B.take k)+FE cm B[k])=vi (I9 cm (B.take (k+1))):=by rw[SI]
     have e3:HO.tok 2 (((EJ keep cm B k).map AC).length+[[vi B[k],vi B[k+1]]].length)=.tok 2 ((EJ keep cm B (k+1)).map AC).length:=by rw[Ui,Az,Ac];rfl
     exact⟨Dl B.length k ch,⟨⟨rfl,hid _⟩,Zr,Zr,⟨e1,rfl⟩,⟨e2,rfl⟩,Zr,Zr,Tv⟩,⟨⟨e3,rfl⟩,Zr,Zr,Tv⟩,Fh,Tv⟩
    .rw[hp]at CQ;have Ui:EJ keep cm B (k+1)=EJ keep cm B k:=by rw[Ui,hp,Ah Bool.false_ne_true,BZ]
     refine Xi .pure (Xi (vb false) (Yi (CQ _) (Xi ⟨[(0,F),(5,.mref 15),(10,.msl 44 bs.length),(12,.slice (.id 12 2) ((EJ keep cm B k).map AC)),(13,vi (I9 cm (B.take k)+FE cm B[k])),(59,vi ((bs.length:Int)-1)),(60,vi k)],[(12,.tok 2 ((EJ keep cm B k).map AC).length),(15,.rom YQ (cm.map M8)),(44,.arr 1 (B.map G0))],Ad⟩ (Yi ⟨⟨⟨rfl,hid _⟩,Zr,Zr,Zr,Zr,Zr,Zr,Tv⟩,Z3,Fh,Tv⟩ (Yi (Ii k ch) (Xi ⟨k+1,by omega⟩ ?_))))));have e1:AV.slice (.id 12 2) ((EJ keep cm B k).map AC)=.slice (.id 12 2) ((EJ keep cm B (k+1)).map AC):=by rw[Ui]
     have e2:vi (I9 cm (B.take k)+FE cm B[k])=vi (I9 cm (B.take (k+1))):=by rw[SI]
     have e3:HO.tok 2 ((EJ keep cm B k).map AC).length=.tok 2 ((EJ keep cm B (k+1)).map AC).length:=by rw[Ui]
     exact⟨Dl B.length k ch,⟨⟨rfl,hid _⟩,Zr,Zr,⟨e1,rfl⟩,⟨e2,rfl⟩,Zr,Zr,Tv⟩,⟨⟨e3,rfl⟩,Zr,Zr,Tv⟩,Fh,Tv⟩
   .intro hk;have hk:¬(k:Int)<(bs.length:Int)-1:=hk;have IA:k=B.length-1:=by omega
    have AbG:canon (EJ keep cm B k)=R:=by
     refine(TK hR fun p=>?_).symm;rw[IA,hRh,mI i3 hB]
    have hc:=Zm (EJ keep cm B k) (by unfold Cw;omega);rw[AbG]at hc;refine Xi .pure (Xi _ (Yi hc ?_));exact .refl _
  .intro kv OM hp;refine BA (Ak.1 (r2 kv (hp.mem_iff.2 (Ab ..)))) (fun q hq=>?_);have hq2:=hq.2;subst hq2;refine Xi ⟨[(0,F),(5,.mref 15),(10,.msl 44 bs.length),(46,.ref 46 0)],[(15,.rom YQ (cm.map M8)),(44,.arr 1 (bs.map G0)),(46,.iter (cm.map M8) OM (some (M8 q)))],Ad⟩ (Yi ⟨⟨⟨rfl,hid _⟩,Zr,Zr,Zr,Tv⟩,Z3,Fh,Tv⟩ ?_)
   have GA:CR 1 [G0 q.1]/\(bs.map G0).length=bs.length/\((bs.map G0).length+[G0 q.1].length)*8<=140737488355328/\(bs.map G0).length+[G0 q.1].length<=9223372036854775807:=
    ⟨⟨rfl,trivial⟩,by rw[Lm],by rw[Lm,AJ];omega,by rw[Lm,AJ];omega⟩
   refine Yi GA ?_;have e1:AV.msl 44 ((bs.map G0).length+[G0 q.1].length)=.msl 44 (bs++[q.1]).length:=by simp
   have e2:HO.arr 1 (bs.map G0++[G0 q.1])=.arr 1 ((bs++[q.1]).map G0):=by simp
   refine Xi ⟨(OM,bs++[q.1],some (M8 q)),?_,fun kv Qp=>r2 kv (hp.mem_iff.2 (Ae _ Qp))⟩ ?_
   .show(((bs++[q.1]).map kI)++OM.map (·.1)).Perm _;have h1:=hp.map (fun x:Value×AV=>x.1);rw[AK]at h1;rw[Az,Bm];exact(List.Perm.append_left _ h1.symm).trans r1
   .exact⟨by show OM.length<rem.length;rw[hp.length_eq];simp,⟨⟨rfl,hid _⟩,Zr,⟨e1,rfl⟩,Zr,Tv⟩,⟨Zr,⟨e2,rfl⟩,Zr,Tv⟩,Fh,Tv⟩
theorem Aar(l:List Bl):PC 339 [vi n,.cptr [sl GM l]] (vb (decide (n=l.length))):=by
 refine Ps DU Tryz.func339 rfl (Nz rfl) ?_;have e:((l.map GM).length:Int)=l.length:=by rw[Lm]
 refine Yi ?_ ?_
 .intro h;rw[show decide (n=(l.length:Int))=true from Ap (h.trans e)];exact .refl _
 .intro h;rw[show decide (n=(l.length:Int))=false from Am (fun c=>h (c.trans e.symm))];exact .refl _
theorem c143:PC 304 [vi n] (vb (decide (n=0))):=by
 refine Ps DU Tryz.func304 rfl (Nz rfl) (Yi ?_ ?_)
 .intro h;rw[Ap h];exact .refl _
 .intro h;rw[Am h];exact .refl _
theorem AaT:PC 333 [vi n] (vb (decide (0<n))):=by
 refine Ps DU Tryz.func333 rfl (Nz rfl) (Yi ?_ ?_)
 .intro h;rw[Ap h];exact .refl _
 .intro h;rw[Am h];exact .refl _
theorem mG(l:List Bl)(p:Int):decide (kc l p=l.length)=l.all fun s=>has s p:=by
 unfold kc;rw[BV,Au,List.countP_eq_length,AP]
theorem mH(l:List Bl)(p:Int):decide (0<kc l p)=l.any fun s=>has s p:=by
 unfold kc;rw[BV,Au,List.countP_pos_iff,AX]
theorem Aaj(l:List Bl)(hl:Cw l)(hs:∀s∈l,Cw s):PC 331 [sl GM l] (sl AC (QS l)):=by
 have hc:=sX (.clo 339 [.cptr [sl GM l]]) (fun n=>decide (n=l.length)) l hl hs (fun _=>rfl) (fun h n h0 _=>by
  have:=Aar n l
  have e:decide (n=(l.length:Int))=decide (n.toNat=l.length):=by rw[TQ];omega
  rw[e]at this;exact this) (QS l) (Yr l) fun p=>by rw[Ue,mG]
 refine Ps (o0 [1]) Tryz.func331 rfl (Nz rfl) (Xi .pure (Xi _ (Yi (hc) ?_)));exact .refl _
theorem sT(hs:Cw s):PC 280 [sl AC s] (sl AC (EC s)):=by
 have hc:=sX (.v (YY 304)) (fun n=>decide (n=0)) [s] (by unfold Cw;simp) (fun t ht=>by rw[Aj.1 ht];exact hs) (fun _=>rfl) (fun h n h0 _=>by
  have:=c143 n
  have e:decide (n=0)=decide (n.toNat=0):=by rw[TQ];omega
  rw[e]at this;exact this) (EC s) (HG s) fun p=>by
   rw[FX]
   have:kc [s] p=if has s p then 1 else 0:=by unfold kc;rw[Je];simp
   rw[this];cases has s p<;>rfl
 refine Ps DU Tryz.func280 rfl (Nz rfl) (Xi .pure (Xi _ (Yi (hc) ?_)));exact .refl _
theorem AaP(l:List Bl)(hl:Cw l)(hs:∀s∈l,Cw s):PC 314 [sl GM l] (sl AC (RC l)):=by
 have hc:=sX (.v (YY 333)) (fun n=>decide (0<n)) l hl hs (fun _=>rfl) (fun h n h0 _=>by
  have:=AaT n
  have e:decide (0<n)=decide (0<n.toNat):=by rw[TQ];omega
  rw[e]at this;exact this) (RC l) (YT l) fun p=>by
   rw[Uf,mH];cases h:l.any fun s=>has s p with
   |false=>simp
   |true=>
    obtain⟨s,_,h2⟩:=AX.1 h
    have:=M2 h2
    simp[MF,this]
 refine Ps DU Tryz.func314 rfl (Nz rfl) (Xi .pure (Xi _ (Yi (hc) ?_)));exact .refl _
-- terms
theorem c59(ht:Cw t.set):PC 310 [.agg (AO t)] (vb (!t.absent&&(canon t.set).isEmpty)):=by
 refine Ps DU Tryz.func310 rfl (Nz rfl) (Yi ?_ ?_)
 .intro h;rw[h];exact .refl _
 .intro h;refine Xi .pure (Xi _ (Yi (Zm t.set ht) (Yi ?_ ?_)))
  .intro h2;have h2:canon t.set=[]:=AL (by rw[Lm]at h2;omega);rw[h,h2];exact .refl _
  .intro h2;have h2:(canon t.set).isEmpty=false:=by
    cases hc:canon t.set with
    |nil=>rw[hc]at h2;exact absurd rfl h2
    |cons _ _=>rfl
   rw[h,h2];exact .refl _
theorem c60(ht:Cw t.set):PC 311 [.agg (AO t)] (vb (t.absent&&(EC t.set).isEmpty)):=by
 refine Ps DU Tryz.func311 rfl (Nz rfl) (Yi ?_ ?_)
 .intro h;refine Xi .pure (Xi _ (Yi (sT t.set ht) (Yi ?_ ?_)))
  .intro h2;have h2:EC t.set=[]:=AL (by rw[Lm]at h2;omega);rw[h,h2];exact .refl _
  .intro h2;have h2:(EC t.set).isEmpty=false:=by
    cases hc:EC t.set with
    |nil=>rw[hc]at h2;exact absurd rfl h2
    |cons _ _=>rfl
   rw[h,h2];exact .refl _
 .intro h;rw[h];exact .refl _
abbrev I8(l:List Nat):Qn:=⟨[],[],[],[],[],[],[],[],[],[],l⟩
theorem c58(hu:Cw u.set)(ht:Cw t.set):PC 309 [.agg (AO u),.agg (AO t)] (.agg (AO (Hj u t))):=by
 have hc:PC 331 [sl GM [u.set,t.set]] (sl AC (Ob u.set t.set)):=Aaj [u.set,t.set] (by unfold Cw;simp) (fun s hs=>by
  rcases Ay.1 hs with rfl | hs
  .exact hu
  .rw[Aj.1 hs];exact ht)
 refine Ps (I8 []) Tryz.func309 rfl (Nz rfl) (Yi ?_ ?_)
 .intro h;refine Yi ?_ ?_
  .intro h2;have e:[vs u.path,vb true,sl AC (Ob u.set t.set)]=AO (Hj u t):=by unfold Hj;rw[h,h2];rfl
   refine Xi _ (Yi (hc) (Yi (Nz rfl) (Yi aa0 (yN ?_))));exact .of_eq (Aa AV.agg e)
  .intro h2;have e:[vs u.path,vb false,sl AC (Ob u.set t.set)]=AO (Hj u t):=by unfold Hj;rw[h,h2];rfl
   refine Xi _ (Yi (hc) (Yi (Nz rfl) (Yi aa0 (yN ?_))));exact .of_eq (Aa AV.agg e)
 .intro h;have e:[vs u.path,vb false,sl AC (Ob u.set t.set)]=AO (Hj u t):=by unfold Hj;rw[h];rfl
  refine Xi _ (Yi (hc) (Yi (Nz rfl) (Yi aa0 (yN ?_))));exact .of_eq (Aa AV.agg e)
theorem AaH(hu:Cw u.set)(ht:Cw t.set):PC 283 [.agg (AO u),.agg (AO t)] (.agg (AO (Do u t))):=by
 have hc:PC 314 [sl GM [u.set,t.set]] (sl AC (Qj u.set t.set)):=AaP [u.set,t.set] (by unfold Cw;simp) (fun s hs=>by
  rcases Ay.1 hs with rfl | hs
  .exact hu
  .rw[Aj.1 hs];exact ht)
 refine Ps (I8 []) Tryz.func283 rfl (Nz rfl) (Yi ?_ ?_)
 .intro h;have e:[vs u.path,vb true,sl AC (Qj u.set t.set)]=AO (Do u t):=by unfold Do;rw[h];rfl
  refine Xi _ (Yi (hc) (Yi (Nz rfl) (Yi aa0 (yN ?_))));exact .of_eq (Aa AV.agg e)
 .intro h;refine Yi ?_ ?_
  .intro h2;have e:[vs u.path,vb true,sl AC (Qj u.set t.set)]=AO (Do u t):=by unfold Do;rw[h,h2];rfl
   refine Xi _ (Yi (hc) (Yi (Nz rfl) (Yi aa0 (yN ?_))));exact .of_eq (Aa AV.agg e)
  .intro h2;have e:[vs u.path,vb false,sl AC (Qj u.set t.set)]=AO (Do u t):=by unfold Do;rw[h,h2];rfl
   refine Xi _ (Yi (hc) (Yi (Nz rfl) (Yi aa0 (yN ?_))));exact .of_eq (Aa AV.agg e)
theorem wS(hq:Cw q.set):PC 275 [.agg (A2 q)] (.agg (AO (DK q))):=by
 refine Ps DU Tryz.func275 rfl (Nz rfl) (Xi _ (Yi (sT q.set hq) (Yi (Nz rfl) (Yi aa0 (yN ?_)))));exact .refl _
abbrev Ek:EN:=⟨false,[.str]⟩
abbrev Td:Value×AV:=(.string t.path,.agg (AO t))
abbrev yH(fin cut:List Nat):Qn:=⟨[],[],[],[],fin,[],[],[],[],[],cut⟩
theorem Te{p:ByteArray}{a:AV}:(Value.string p,a)∈m.map Td↔∃t∈m,t.path=p/\a=.agg (AO t):=by
 rw[Ak];constructor
 .rintro⟨t,h1,h2⟩
  simp only[ES,Value.string.injEq]at h2;exact⟨t,h1,h2.1,h2.2.symm⟩
 .rintro⟨t,h1,rfl,rfl⟩
  exact⟨t,h1,rfl⟩
theorem mW(m:List Tm)(t:Tm):Ff (m.map Td) (.string t.path) (.agg (AO t))=(YJ m t).map Td:=by
 unfold YJ
 by_cases h:(m.any fun u=>decide (u.path=t.path))=true
 .rw[As h];obtain⟨u,h1,h2⟩:=AX.1 h;have h2:=BO h2
  have:(Value.string t.path,AV.agg (AO u))∈m.map Td:=Te.2 ⟨u,h1,h2,rfl⟩
  rw[Rd this,Bw,Bw];apply Ba;intro q _;simp only[Function.comp]
  by_cases e:q.path=t.path
  .simp[e]
  .have:¬Value.string q.path=.string t.path:=fun c=>e (by injection c)
   simp[e]
 .rw[Ah h]
  have:∀b,(Value.string t.path,b)∉m.map Td:=fun b hb=>by
   obtain⟨u,h1,h2,_⟩:=Te.1 hb;exact h (AX.2 ⟨u,h1,by simp[h2]⟩)
  rw[NF this,Az];rfl
theorem lQ(hn:(EK m).Nodup)(p:ByteArray){K:AV->Prop}{Z:Prop}(hy:∀u,Dq m p=some u->K (.agg (AO u)))(JH:Dq m p=none->Z) :
  (∀a,(Value.string p,a)∈m.map Td->K a)/\((∀a,(Value.string p,a)∉m.map Td)->Z):=
 ⟨fun a h=>by
  obtain⟨t,h1,h2,rfl⟩:=Te.1 h;subst h2;exact hy t ((MX hn).1 h1),fun h=>JH (by
  cases e:Dq m p with
  |none=>rfl
  |some u=>exact absurd (Te.2 ⟨u,Fx e,HA e,rfl⟩) (h _))⟩
theorem Pr{t:Tm}(h:ET t.set):Cw t.set:=by
 unfold Cw
 have:=Iy h;omega
theorem c57(hl:Cw l)(hs:∀t∈l,Cw t.set):PC 308 [sl AO l,.v (YY 309)] (.cmap Ek ((Dy l).map Td)):=by
 refine Ps (yH [10] []) Tryz.func308 rfl (Nz rfl) (Xi {i:Nat // i<=l.length} (Xi (fun i=>⟨[(0,sl AO l),(1,.v (YY 309)),(5,.mref 10),(11,sl AO l),(12,vi (l.map AO).length),(13,vi i.1)],[(10,.map Ek ((Dy (l.take i.1)).map Td))],Ad⟩) (Xi (fun i=>l.length-i.1) (Yi (Xi ⟨0,AE _⟩ ?_) ?_))))
 .exact⟨Z6,Z1,Fh,Tv⟩
 intro⟨i,h1⟩;have hn:=Ib (l.take i);refine Yi ?_ ?_
 .intro h;have h:i<l.length:=by simpa using h
  have hg:l[i]?=some l[i]:=Ge h;refine Xi (AO l[i]) (Yi (Yi (Nn i) (by simp[hg])) (Yi rfl ?_));refine Yi (Nz rfl) (yN ?_);have E1:=hs l[i] (Aq h);have tail:∀u:Tm,Cw u.set->Hj u l[i]=OL (Dq (Dy (l.take i)) l[i].path) l[i]->Ff ((Dy (l.take i)).map Td) (.string l[i].path) (.agg (AO (Hj u l[i])))=(Dy (l.take (i+1))).map Td:=fun u hu e=>by
   have hp:(OL (Dq (Dy (l.take i)) l[i].path) l[i]).path=l[i].path:=Rm _ _ fun u h=>HA h;have e2:=mW (Dy (l.take i)) (Hj u l[i]);have e3:(Hj u l[i]).path=l[i].path:=by rw[e];exact hp
   rw[e3]at e2;rw[e2,Sm l i h,e];rfl
  refine lQ hn l[i].path (fun u hu=>?_) (fun hu=>?_)
  .have L9:Cw u.set:=Pr (PP _ u (Fx hu));refine yN ?_;have AR:=tail u L9 (by rw[fD,hu];rfl);refine Yi (Nz rfl) (yN (Xi _ (Yi (c58 u l[i] L9 E1) (Yi aa0 (Yi (Ii i ch) (Xi ⟨i+1,by omega⟩ ?_))))));have e1:HO.map Ek (Ff ((Dy (l.take i)).map Td) (.string l[i].path) (.agg (AO (Hj u l[i]))))=.map Ek ((Dy (l.take (i+1))).map Td):=by rw[AR]
   exact⟨Dl l.length i ch,Z6,⟨⟨e1,rfl⟩,Tv⟩,Fh,Tv⟩
  .refine yN (Yi (Nz rfl) (yN ?_));have AR:=tail l[i] E1 (by rw[fD,hu];rfl);refine Yi (Nz rfl) (yN (Xi _ (Yi (c58 l[i] l[i] E1 E1) (Yi aa0 (Yi (Ii i ch) (Xi ⟨i+1,by omega⟩ ?_))))));have e1:HO.map Ek (Ff ((Dy (l.take i)).map Td) (.string l[i].path) (.agg (AO (Hj l[i] l[i]))))=.map Ek ((Dy (l.take (i+1))).map Td):=by rw[AR]
   exact⟨Dl l.length i ch,Z6,⟨⟨e1,rfl⟩,Tv⟩,Fh,Tv⟩
 .intro h;have h:¬i<l.length:=by simpa using h
  have e:(Dy (l.take i)).map Td=(Dy l).map Td:=by rw[AB ch]
  exact .of_eq (Aa (AV.cmap Ek) e)
abbrev G8:AV:=.tup [sl AO (Rg l),vb (CW l).isSome]
abbrev Acx:Qn:=⟨[],[],[(4,3)],[],[],[],[],[],[],[(25,4)],[]⟩
abbrev dT:HO:=.arr 3 (l.map AO)
abbrev GD:List Tm:=l.filter fun t=>!GY t
theorem qI{l:List Tm}{kv:Value×AV}{OM : List (Value×AV)}(h:(l.map Td).Perm (kv::OM)):∃t r,kv=Td t/\OM=r.map Td/\l.Perm (t::r):=by
 obtain⟨ps,h1,h2⟩:=Ni h l rfl;cases ps with
 |nil=>cases h2
 |cons t r=>
  rw[AK,Eu]at h2;exact⟨t,r,h2.1.symm,h2.2.symm,h1.symm⟩
theorem Zo{l:List Tm}{t:Tm}(h:t∈Dy l)(hn:IE t=true):CW l=none:=by
 unfold CW;rw[As (AX.2 ⟨t,(JK l t).1 h,hn⟩)]
theorem cd{l done s:List Tm}(h:done.Perm (Dy l))(hn:∀t∈done,IE t=false)(hp:s.Perm (GD done))(hs:s.Pairwise fun x y=>FQ y.path x.path=false):CW l=some s:=by
 unfold CW;rw[Ah]
 .congr 1
  exact(QC _ (hp.trans (h.filter _)) hs).symm
 .intro c;obtain⟨t,h1,h2⟩:=AX.1 c
  have:=hn t (h.mem_iff.2 ((JK l t).2 h1))
  rw[h2]at this;cases this
theorem iI:(GD l).length<=l.length:=BC _ _
theorem zv(hl:Cw l)(hs:∀t∈l,Cw t.set):PC 282 [sl AO l] (G8 l):=by
 have Yl:l.length<=1073741824:=hl;have hml:(Dy l).length<=l.length:=by have:=OG l l.length (Ai _);rwa [CK]at this
 refine Ps Acx Tryz.func282 rfl (Nz rfl) (Xi .pure (Xi _ (Yi (c57 l hl hs) (Xi {p:List Tm×List Tm×Option (Value×AV) // (p.1++p.2.1).Perm (Dy l)/\∀t∈p.1,IE t=false} (Xi (fun p=>⟨[(4,.msl 4 (GD p.1.1).length),(9,.ref 9 0)],[(4,dT (GD p.1.1)),(9,.iter ((Dy l).map Td) (p.1.2.1.map Td) p.1.2.2)],Ad⟩) (Xi (fun p=>p.1.2.1.length) (Yi (Xi ⟨([],Dy l,none),.refl _,fun t ht=>by cases ht⟩ ?_) ?_)))))))
 .exact⟨Z2,Z2,Fh,Tv⟩
 intro⟨⟨done,rem,Db⟩,r1,r2⟩;have r1:(done++rem).Perm (Dy l):=r1;have hdl:done.length+rem.length<=l.length:=by have:=r1.length_eq;rw[Ac]at this;omega
 have vF:=iI done;refine Yi ?_ ?_
 .intro hr;have hr:rem=[]:=FS.1 hr;subst hr;rw[BZ]at r1;refine Xi (.gen [(4,1000)] 0) (Yi rfl ((c61 (GD done) (by unfold Cw;omega)).to ?_));intro s hq;have Vw:s.length=(GD done).length:=hq.1.length_eq;have hc:=cd r1 r2 hq.1 hq.2;refine Yi (by rw[Lm,Vw]) ?_;have e:AV.tup [sl AO s,vb true]=G8 l:=by unfold G8 Rg;rw[hc];rfl
  exact .of_eq e
 .intro kv OM hp;refine BA (qI hp) (fun t hp=>BA hp (fun r hp=>?_));have e1:=hp.1;have e2:=hp.2.1;subst e1;subst e2;have hp:=hp.2.2;have vQ:t∈Dy l:=r1.mem_iff.1 (Bg _ (hp.mem_iff.2 (Ab ..)));have htc:=PP l t vQ;have htf:=Pr htc;refine Yi (Nz rfl) (yN ?_);have hv:PC 310 [.agg (AO t)] (vb (IE t)):=mZ htc▸c59 t htf;have ha:PC 311 [.agg (AO t)] (vb (GY t)):=gl htc▸c60 t htf;refine BL (Bt (IE t)) (fun h=>?_) (fun h=>?_)
  .rw[h]at hv;refine Xi .pure (Xi _ (Yi (hv) ?_));have hc:=Zo vQ h;have e:AV.tup [.slice .none [],vb false]=G8 l:=by unfold G8 Rg;rw[hc];rfl
   have e0:EY (.tup [nzA,vb false]) (.tup [.slice .none [],vb false]):=EY.tup ⟨.nil,.refl _,trivial⟩;exact e0.trans (.of_eq e)
  .rw[h]at hv;refine Xi .pure (Xi _ (Yi (hv) (yN ?_)));have Vv:((done++[t])++r).Perm (Dy l):=by
    rw[Bm];exact(List.Perm.append_left _ hp.symm).trans r1
   have hnv:∀u∈done++[t],IE u=false:=fun u hu=>by
    rcases AT.1 hu with hu | hu
    .exact r2 u hu
    .rw[Aj.1 hu];exact h
   have Uk:r.length<rem.length:=by rw[hp.length_eq,Al];omega
   refine BL (Bt (GY t)) (fun h2=>?_) (fun h2=>?_)
   rotate_left
   .rw[h2]at ha;refine Xi .pure (Xi _ (Yi (ha) ?_));have GA:CR 3 [AO t]/\((GD done).map AO).length=(GD done).length/\(((GD done).map AO).length+[AO t].length)*48<=140737488355328/\((GD done).map AO).length+[AO t].length<=9223372036854775807:=
     ⟨⟨rfl,trivial⟩,by rw[Lm],by rw[Lm,AJ];omega,by rw[Lm,AJ];omega⟩
    refine yN (Yi GA ?_);have hk:GD (done++[t])=GD done++[t]:=by unfold GD;rw[ED,DB,As (by rw[h2];rfl)];rfl
    have e1:AV.msl 4 (((GD done).map AO).length+[AO t].length)=.msl 4 (GD (done++[t])).length:=by rw[hk];simp
    have e2:HO.arr 3 ((GD done).map AO++[AO t])=dT (GD (done++[t])):=by rw[hk];simp
    refine Xi ⟨(done++[t],r,some (Td t)),Vv,hnv⟩ ?_;exact⟨Uk,⟨⟨e1,rfl⟩,Zr,Tv⟩,⟨⟨e2,rfl⟩,Zr,Tv⟩,Fh,Tv⟩
   .rw[h2]at ha;refine Xi .pure (Xi _ (Yi (ha) ?_));have hk:GD (done++[t])=GD done:=by unfold GD;rw[ED,DB,Ah (by rw[h2];decide)];simp
    have e1:AV.msl 4 (GD done).length=.msl 4 (GD (done++[t])).length:=by rw[hk]
    have e2:dT (GD done)=dT (GD (done++[t])):=by rw[hk]
    refine Xi ⟨(done++[t],r,some (Td t)),Vv,hnv⟩ ?_;exact⟨Uk,⟨⟨e1,rfl⟩,Zr,Tv⟩,⟨⟨e2,rfl⟩,Zr,Tv⟩,Fh,Tv⟩
theorem s9(hl:Cw l)(hs:∀t∈l,Cw t.set):PC 274 [sl AO l] (sl AO (Rg l)):=by
 refine Ps DU Tryz.func274 rfl (Nz rfl) (Xi .pure (Xi _ (Yi (zv l hl hs) ?_)));exact .refl _
theorem QI:Cw (EC s):=by
 unfold Cw;have:=Iy (HG s);omega
theorem tn:Cw [x]:=by unfold Cw;simp
theorem Abb(y:α):Cw [x,y]:=by unfold Cw;simp
theorem AaA(hq:Cw q.set):PC 228 [.agg (A2 q)] (sl AO (J9 q)):=by
 have hc:PC 274 [sl AO [DK q]] (sl AO (J9 q)):=s9 [DK q] (tn _) fun t ht=>by rw[Aj.1 ht];exact QI _
 refine Ps DU Tryz.func228 rfl (Nz rfl) (yN (Xi .pure (Xi _ (Yi (wS q hq) (Xi .pure (Xi _ (Yi (hc) ?_)))))));exact .refl _
theorem AaB(pl:Int)(q:Rq)(hp:A5 (pl+1))(hq:Cw q.set):PC 229 [vs p,vi pl,.agg (A2 q)] (sl AO (EA p pl q)):=by
 have hc:PC 274 [sl AO [⟨p,false,[(pl,pl+1)]⟩,DK q]] (sl AO (EA p pl q)):=s9 [⟨p,false,[(pl,pl+1)]⟩,DK q] (Abb _ _) fun t ht=>by
  rcases Ay.1 ht with rfl | ht
  .exact tn _
  .rw[Aj.1 ht];exact QI _
 refine Ps DU Tryz.func229 rfl (Nz rfl) (Yi hp (yN (Xi .pure (Xi _ (Yi (wS q hq) (Xi .pure (Xi _ (Yi (hc) ?_))))))));exact .refl _
theorem wP(hs:Cw s):PC 233 [vs p,sl AC s] (sl AO (If p s)):=by
 have hc:PC 274 [sl AO [⟨p,false,EC s⟩]] (sl AO (If p s)):=s9 [⟨p,false,EC s⟩] (tn _) fun t ht=>by rw[Aj.1 ht];exact QI _
 refine Ps DU Tryz.func233 rfl (Nz rfl) (Xi .pure (Xi _ (Yi (sT s hs) (Xi .pure (Xi _ (Yi (hc) ?_))))));exact .refl _
end Go.Eng
