/- Lemmas for the claims of this seat, without a condition: part 19 (CSort2, C15, C16, C17, C18, C19, C20, C21, C22). -/
import Derived.Test.YtddfphmpfnmknaaGreatDoorGA18
import Derived.Test.YtddfphmpfnmknaaGreatDoorGA02
import Derived.Shelf.SlSortCmp.NoneTotal
namespace Go.Eng
open Go.Proofs Go.Shelf Go.RowKit Go.Lib Go.Sort
variable (k:Nat)
theorem d4(x y:SpA):ltOf cfSpA x y=decide (x.1.1<y.1.1):=by
 unfold ltOf cfSpA;rw[B2];simp only[Az];omega
theorem mF:SWO (ltOf cfSpA) where
 irrefl x:=by rw[d4];simp
 trans x y z h1 h2:=by rw[d4]at *;simp at *;omega
 ntrans x y z h1 h2:=by rw[d4]at *;simp at *;omega
theorem UR:∀x y:List UInt8,decide (Lib.compareBytes x y<0)=IY x y
 | [],[]=>rfl
 | [],_::_=>rfl
 |_::_,[]=>rfl
 |a::x,b::y=>by
  unfold Lib.compareBytes IY
  by_cases h:a<b
  ·simp[h]
  ·by_cases h2:b<a
   ·have:¬a=b:=fun e=>by subst e;exact absurd h2 (UInt8.lt_irrefl a)
    simp[h,h2,this]
   ·have e:a=b:=UInt8.le_antisymm (UInt8.not_lt.1 h2) (UInt8.not_lt.1 h);subst e;simp[UInt8.lt_irrefl,UR x y]
theorem d5(x y:TmA):ltOf cfTmA x y=DL x.1 y.1:=UR _ _
theorem mG:SWO (ltOf cfTmA) where
 irrefl x:=by rw[d5];exact CO _
 trans x y z h1 h2:=by rw[d5]at *;exact DQ h1 h2
 ntrans x y z h1 h2:=by
  rw[d5]at *
  rw[AI];intro h;cases ub:DL y.1 x.1 with
  |true=>have:=DQ ub h;rw[h2]at this;cases this
  |false =>
   have e:=G6 h1 ub;rw[e]at h;rw[h2]at h;cases h
abbrev YP:Value:=.func (.func k) #[] #[]
theorem iX {fn : Func}{c : Code}(hf : Tryz.prog.funcs[k]? = some fn)(hn : (fn.name == "runtime.NumGoroutine") = false)(hb : fn.body = some c) : GD Tryz.prog k := fW hf hn hb
theorem zl(l:List (Int×Int))(hl:Cy l)(h:∀x∈l,0≤x.1∧x.1≤1000000)(lim:Nat)(ZM:lim<100) :
  A1 Tryz.prog 205 [.msl 1000 l.length,vi 0,vi l.length,vi lim,.v (YP 169)] (Ak [(1000,.arr 2 (l.map Ag))] Af) fun r h' =>
   r=.tup []∧∃l' : List (Int×Int),l'.Perm l∧l'.Pairwise (fun x y=>x.1≤y.1)∧h'=Ak [(1000,.arr 2 (l'.map Ag))] Af:=by
 have hl:l.length≤1073741824:=hl;have hE:GD Tryz.prog 205:=iX 205 Tryz.func205 Wk rfl;have eg:∀args w,(callFunc 169 args).run Tryz.prog w=.ok (.enter 169 args) w:=enters_of Tryz.func169 Wk rfl;have HT:=Ka (P:=Tryz.prog) (f:=205) (α:=SpA) (rest:=[.int .i64 0,.int .i64 l.length,.int .i64 lim,YP 169]) hE Ag encSpA (k:=2) (fun _=>rfl) (fun _=>rfl) (ltOf cfSpA) (fun x a=>a.1=x) l ch ?_ ?_ ?_
 ·refine⟨hE,fun g w vals q1 q2 q3=>(HT.2 g w vals q1 q2 q3).mono fun _ _ ⟨v,r,h',g',e1,⟨e2,l',p1,⟨al,a1,a2,a3⟩,p2⟩,rest⟩=>⟨v,r,h',g',e1,⟨e2,l',p1,?_,p2⟩,rest⟩⟩;rw[AS]at a3⊢;intro i j hi hj QV
  have:=a3 i j ch ch QV
  rw[d4]at this;have e1:=a2 i _ _ (AE hi) (AE ch);have e2:=a2 j _ _ (AE hj) (AE ch);rw[←e1,←e2]
  have:=of_decide_eq_false this
  omega
 ·intro x hx g w vs hr
  match vs,hr with
  | [a,b],hr =>
   have h1:=(hr.2.2 0 (vi x.1) a rfl rfl).v_eq;have h2:=(hr.2.2 1 (vi x.2) b rfl rfl).v_eq;subst h1;subst h2;exact⟨⟨x,h x hx⟩,rfl,rfl⟩
  | [],hr=>have:=hr.1;simp at this
  | [_],hr=>have:=hr.1;simp at this
  |_::_::_::_,hr=>have:=hr.1;simp at this
 ·intro w b cap d hH hb Ev hdl;have kE:CmpLays Tryz.prog 169 #[] encSpA 2 cfSpA b 0 d.size w:=fun _ _ _ _ x y=>Tryz.closure169 x y _;have hp:=AnyQ.pdqsortCmpFunc_all Tryz.layPdqSpan 2 Tryz.isAgg67 Tryz.sizeOf67 encSpA cfSpA 169 #[] mF b 0 cap d w eg kE ⟨fun _=>rfl,fun x v hv=>by simp[encSpA]at hv;rcases hv with rfl | rfl<;>rfl,hH,hb⟩ (d.size+1) 0 d.size lim d w ch rfl (SWK.start hH) (AA _) (Ao _) Ev ch (Or.inl rfl)
  rw[hdl]at hp⊢;refine hp.mono ?_
  rintro e w' ⟨rfl,n,os,rfl⟩
  have h:=pdq_sorts (ltOf cfSpA) mF d 0 d.size lim true true (AA _) (Ao _) (Or.inl rfl);rw[hdl]at h;exact⟨rfl,_,n,os,h.1,h.2,rfl⟩
 ·intro e w;subst e;exact AnyF.pdqsortCmpFunc_none Tryz.layPdqSpan none 0 lim (YP 169) w
theorem yU(l:List Tm)(hl:Cy l)(lim:Nat)(ZM:lim<100) :
  A1 Tryz.prog 244 [.msl 1000 l.length,vi 0,vi l.length,vi lim,.v (YP 219)] (Ak [(1000,.arr 3 (l.map AO))] Af) fun r h' =>
   r=.tup []∧∃l' : List Tm,l'.Perm l∧l'.Pairwise (fun x y=>DL y.path x.path=false)∧h'=Ak [(1000,.arr 3 (l'.map AO))] Af:=by
 have hl:l.length≤1073741824:=hl;have hE:GD Tryz.prog 244:=iX 244 Tryz.func244 Wk rfl;have eg:∀args w,(callFunc 219 args).run Tryz.prog w=.ok (.enter 219 args) w:=enters_of Tryz.func219 Wk rfl;have HT:=Ka (P:=Tryz.prog) (f:=244) (α:=TmA) (rest:=[.int .i64 0,.int .i64 l.length,.int .i64 lim,YP 219]) hE AO encTmA (k:=3) (fun _=>rfl) (fun _=>rfl) (ltOf cfTmA) (fun x a=>a.1=x.path) l ch ?_ ?_ ?_
 ·refine⟨hE,fun g w vals q1 q2 q3=>(HT.2 g w vals q1 q2 q3).mono fun _ _ ⟨v,r,h',g',e1,⟨e2,l',p1,⟨al,a1,a2,a3⟩,p2⟩,rest⟩=>⟨v,r,h',g',e1,⟨e2,l',p1,?_,p2⟩,rest⟩⟩;rw[AS]at a3⊢;intro i j hi hj QV
  have:=a3 i j ch ch QV
  rw[d5]at this;have e1:=a2 i _ _ (AE hi) (AE ch);have e2:=a2 j _ _ (AE hj) (AE ch);rw[←e1,←e2];exact this
 ·intro x hx g w vs hr
  match vs,hr with
  | [a,b,c],hr =>
   have h1:=(hr.2.2 0 (Go.Eng.vs x.path) a rfl rfl).v_eq;subst h1;exact⟨⟨x.path,⟨b,hr.2.1 b B0⟩,⟨c,hr.2.1 c B0⟩⟩,rfl,rfl⟩
  | [],hr=>have:=hr.1;simp at this
  | [_],hr=>have:=hr.1;simp at this
  | [_,_],hr=>have:=hr.1;simp at this
  |_::_::_::_::_,hr=>have:=hr.1;simp at this
 ·intro w b cap d hH hb Ev hdl;have kE:CmpLays Tryz.prog 219 #[] encTmA 3 cfTmA b 0 d.size w:=fun _ _ _ _ x y=>Tryz.closure219 x y _;have hp:=AnyQ.pdqsortCmpFunc_all Tryz.layPdqTerm 3 Tryz.isAgg198 Tryz.sizeOf198 encTmA cfTmA 219 #[] mG b 0 cap d w eg kE ⟨fun _=>rfl,fun x v hv=>by
    simp only[encTmA,AF,MD,or_false]at hv;rcases hv with rfl | rfl | rfl
    ·rfl
    ·exact x.2.1.2
    ·exact x.2.2.2,hH,hb⟩ (d.size+1) 0 d.size lim d w ch rfl (SWK.start hH) (AA _) (Ao _) Ev ch (Or.inl rfl)
  rw[hdl]at hp⊢;refine hp.mono ?_
  rintro e w' ⟨rfl,n,os,rfl⟩
  have h:=pdq_sorts (ltOf cfTmA) mG d 0 d.size lim true true (AA _) (Ao _) (Or.inl rfl);rw[hdl]at h;exact⟨rfl,_,n,os,h.1,h.2,rfl⟩
 ·intro e w;subst e;exact AnyF.pdqsortCmpFunc_none Tryz.layPdqTerm none 0 lim (YP 219) w
end Go.Eng
namespace Go.Eng
open Go.Proofs
variable {h0:Nat→HO}{y:Int×Int}{α:Type}{P:Program}{args:List AV}{f:Nat}{t:Bb}(s:Bb)(l:List (Int×Int))(j:Bb)(i:Nat)
-- the checker,and what reads it
theorem lc:∀(s:List Sl) (i:Nat) (h:i+1<s.length),M5 (some s[i].path) (s.drop (i+1))=(DL s[i].path s[i+1].path&&M5 (some s[i+1].path) (s.drop (i+2))):=fun s i h=>by
 rw[AP h];rfl
theorem Ed(a b:ByteArray):DL a b=Op.bytesLess a.toList b.toList:=by
 have:∀x y:List UInt8,IY x y=Op.bytesLess x y:=by
  intro x
  induction x with
  |nil=>intro y;cases y<;>rfl
  |cons a x ih =>
   intro y;cases y with
   |nil=>rfl
   |cons b y =>
    unfold IY Op.bytesLess;rw[ih];rw[B2];simp
 unfold DL;rw[this,ByteArray.toList_eq,ByteArray.toList_eq]
theorem A1.imp{Q Q' : AV→(Nat→HO)→Prop}(h:A1 P f args h0 Q)(hq:∀r h',Q r h'→Q' r h'):A1 P f args h0 Q':=h.mono fun r h' q=>⟨r,.refl _,hq r h' q⟩
theorem A1.to{r0:AV}{p:α→Prop}{H:α→Nat→HO}{Q' : AV→(Nat→HO)→Prop}(h:A1 P f args h0 fun r h'=>r=r0∧∃x,p x∧h'=H x)(k:∀x,p x→Q' r0 (H x)):A1 P f args h0 Q' :=
 h.imp fun r h' ⟨e1,x,e2,e3⟩=>by subst e1;subst e3;exact k x e2
theorem nJ(n:Nat)(h:n≤1073741824):∃lim:Nat,lim<100∧PC 98 [.v (.int .u64 (IntKind.u64.wrap (n:Int)))] (vi lim):=by
 refine⟨Lib.bitLen n,Nat.lt_of_le_of_lt (Lib.bitLen_le n 62 ch ch) ch,?_⟩;have wr:IntKind.u64.wrap (n:Int)=n:=by simp[IntKind.wrap,IntKind.bits,IntKind.signed];omega
 rw[wr];refine Mc [.int .u64 n] (.int .i64 (Lib.bitLen n:Nat)) (iX 98 Tryz.func98 Wk rfl) rfl (fun _ _=>.v _ _) fun w _=>?_
 have:=Any.bits_Len Tryz.layBits (n:Int) w ch ch
 rw[A7]at this;exact this
theorem zb(hl:Cy l)(h:∀x∈l,0≤x.1∧x.1≤1000000) :
  A1 Tryz.prog 168 [.msl 1000 l.length,.v (YP 169)] (Ak [(1000,.arr 2 (l.map Ag))] Af) fun r h' =>
   r=.tup []∧∃l' : List (Int×Int),(l'.Perm l∧l'.Pairwise (fun x y=>x.1≤y.1))∧h'=Ak [(1000,.arr 2 (l'.map Ag))] Af:=by
 obtain⟨lim,ZM,hb⟩:=nJ l.length hl;refine BW (KV D3) [(1000,1000)] rfl Co hm rfl Tryz.func168 Wk rfl (Nz rfl) Wk rfl (Xi .pure (Xi _ (Yi (hb) (Xi (.gen [(1000,1000)] 0) (Yi rfl ((zl l hl h lim ZM).imp ?_))))));intro r h' hq;refine Ba hq.2 (fun l' Rs=>?_);refine Xi (.tup []) (Yi ?_ (Yi rfl (Xi l' (Yi ⟨Rs.1,Rs.2.1⟩ ?_))))
 ·exact .refl _
 ·rw[Rs.2.2];rfl
theorem c61(l:List Tm)(hl:Cy l) :
  A1 Tryz.prog 218 [.msl 1000 l.length,.v (YP 219)] (Ak [(1000,.arr 3 (l.map AO))] Af) fun r h' =>
   r=.tup []∧∃l' : List Tm,(l'.Perm l∧l'.Pairwise (fun x y=>DL y.path x.path=false))∧h'=Ak [(1000,.arr 3 (l'.map AO))] Af:=by
 obtain⟨lim,ZM,hb⟩:=nJ l.length hl;refine BW (KV D3) [(1000,1000)] rfl Co hm rfl Tryz.func218 Wk rfl (Nz rfl) Wk rfl (Xi .pure (Xi _ (Yi (hb) (Xi (.gen [(1000,1000)] 0) (Yi rfl ((yU l hl lim ZM).imp ?_))))));intro r h' hq;refine Ba hq.2 (fun l' Rs=>?_);refine Xi (.tup []) (Yi ?_ (Yi rfl (Xi l' (Yi ⟨Rs.1,Rs.2.1⟩ ?_))))
 ·exact .refl _
 ·rw[Rs.2.2];rfl
abbrev pla(l:List (Nat×Nat))(cut:List Nat):Q0:=⟨[],[],l,[],[],[],[],[],[],[],cut⟩
abbrev Hg:HO:=.arr 2 (l.map Ag)
theorem T9(l:Bb)(i:Nat):(DF (l.take i)).length≤i:=by
 unfold DF
 have:=BC (fun x:Int×Int=>decide (x.1<x.2)) ((l.take i).map Et)
 rw[Lm,AB]at this;omega
theorem Ri{l:Bb}{i:Nat}(h:i<l.length)(h3:(Et l[i]).1<(Et l[i]).2):DF (l.take (i+1))=DF (l.take i)++[Et l[i]]:=by
 rw[Be,Ge h,PH];unfold DF;simp[h3]
theorem T8{l:Bb}{i:Nat}(h:i<l.length)(h3:¬(Et l[i]).1<(Et l[i]).2):DF (l.take (i+1))=DF (l.take i):=by
 rw[Be,Ge h,PH];unfold DF;simp[h3]
abbrev arr2:Bb:=(By (s.take i)).reverse++(j++s.drop i)
theorem nB(h:i<s.length)(hj:(By (s.take i)).length+j.length=i):(arr2 s j i)[i]?=some s[i]:=by
 unfold arr2;rw[AR (by rw[Dj];omega),AR (by rw[Dj];omega),Dj,DN];rw[show i+(i-(By (List.take i s)).length-j.length)=i by omega,Ge h]
theorem fH(e:By (s.take i)=y::t):(arr2 s j i)[t.length]?=some y:=by
 unfold arr2;rw[e,E6,Bx,AR (by rw[Dj];omega),Dj,EF];rfl
theorem ju(h:i≤s.length)(hj:(By (s.take i)).length+j.length=i):(arr2 s j i).length=s.length:=by
 unfold arr2;simp only[Ad,Dj,B3];omega
theorem dB(s:List α)(i:Nat)(h:i<s.length):s.drop i=s[i]::s.drop (i+1):=AP h
theorem Wo(h:i<s.length)(e:Ks (By (s.take i)) s[i]=s[i]::By (s.take i)) :
  (arr2 s j i).set (By (s.take i)).length s[i]=arr2 s (j++[s[i]]).tail (i+1):=by
 unfold arr2;rw[FO s i h,e,E6,Mk _ _ (by rw[Dj];exact Ao _),Dj,EF,Bx,dB s i h]
 congr 1
 cases j with
 |nil=>rfl
 |cons a b=>simp
theorem fG(h:i<s.length)(e:By (s.take i)=y::t)(HD:s[i].1≤y.2) :
  (arr2 s j i).set t.length (y.1,max y.2 s[i].2)=arr2 s (j++[s[i]]) (i+1):=by
 unfold arr2;have e2:Ks (y::t) s[i]=(y.1,max y.2 s[i].2)::t:=by show(if s[i].1≤y.2 then _ else _)=_;rw[Al HD]
 rw[FO s i h,e,e2,E6,E6,Bx,Mk _ _ (by rw[Dj];exact Ao _),Dj,EF,dB s i h];simp
theorem CR{enc:α→List AV}{l:List α}{i:Nat}{x:α}(h:l[i]?=some x):(l.map enc)[i]?=some (enc x):=by rw[AL,h];rfl
theorem Y5(hl:Cy l):PC 116 [sl Ag l] (sl Ag (canon l)):=by
 have hl:l.length≤1073741824:=hl;refine GB (iW (pla [(3,2)] [])) rfl Co hm rfl Tryz.func116 Wk rfl (Nz rfl) Wk (Xi {i:Nat // i≤l.length} (Xi (fun i=>⟨[(0,sl Ag l),(3,.msl 3 (DF (l.take i.1)).length),(9,sl Ag l),(10,vi (l.map Ag).length),(11,vi i.1)],[(3,Hg (DF (l.take i.1)))],Af⟩) (Xi (fun i=>l.length-i.1) (Yi (Xi ⟨0,by simp⟩ ?_) ?_))))
 ·exact⟨Z5,Z1,Fh,Tv⟩
 ·intro⟨i,h1⟩;have hn:=T9 l i;refine Yi ?_ ?_
  ·intro h;have h:(i:Int)<(l.map Ag).length:=h;have h:i<l.length:=by simpa using h
   have hg:l[i]?=some l[i]:=Ge h;refine Xi (Ag l[i]) (Yi (Yi (Nn i) (by simp[hg])) (Yi rfl ?_));refine Yi (Nz rfl) (yN (yN (Yi ?_ ?_)))
   ·intro h3;have h3:(Et l[i]).1<(Et l[i]).2:=h3;refine yN ?_;have GQ:Cf 2 [[vi (max l[i].1 0),vi (min l[i].2 1000000)]]∧((DF (l.take i)).map Ag).length=(DF (l.take i)).length∧(((DF (l.take i)).map Ag).length+[[vi (max l[i].1 0),vi (min l[i].2 1000000)]].length)*16≤140737488355328∧((DF (l.take i)).map Ag).length+[[vi (max l[i].1 0),vi (min l[i].2 1000000)]].length≤9223372036854775807 :=
     ⟨⟨rfl,trivial⟩,by rw[Lm],by rw[Lm,AG];omega,by rw[Lm,AG];omega⟩
    refine Yi GQ (Yi (Ii i ch) (Xi ⟨i+1,by omega⟩ ?_));have e1:AV.msl 3 (((DF (l.take i)).map Ag).length+[[vi (max l[i].1 0),vi (min l[i].2 1000000)]].length)=.msl 3 (DF (l.take (i+1))).length:=by rw[Ri h h3];simp
    have e2:HO.arr 2 ((DF (l.take i)).map Ag++[[vi (max l[i].1 0),vi (min l[i].2 1000000)]])=Hg (DF (l.take (i+1))):=by rw[Ri h h3];simp[Et]
    exact⟨Dl l.length i ch,⟨Zr,⟨e1,rfl⟩,Zr,Zr,Zr,Tv⟩,⟨⟨e2,rfl⟩,Tv⟩,Fh,Tv⟩
   ·intro h3;have h3:¬(Et l[i]).1<(Et l[i]).2:=h3;refine Yi (Ii i ch) (Xi ⟨i+1,by omega⟩ ?_);have e1:AV.msl 3 (DF (l.take i)).length=.msl 3 (DF (l.take (i+1))).length:=by rw[T8 h h3]
    have e2:Hg (DF (l.take i))=Hg (DF (l.take (i+1))):=by rw[T8 h h3]
    exact⟨Dl l.length i ch,⟨Zr,⟨e1,rfl⟩,Zr,Zr,Zr,Tv⟩,⟨⟨e2,rfl⟩,Tv⟩,Fh,Tv⟩
  ·intro h;have h:¬(i:Int)<(l.map Ag).length:=h;have h:¬i<l.length:=by simpa using h
   have ei:DF (l.take i)=DF l:=by rw[Au ch]
   have hN:(DF (l.take i)).length=(DF l).length:=by rw[ei]
   refine Xi (.gen [(3,1000)] 0) (Yi rfl ((zb (DF (l.take i)) (by unfold Cy;omega) (fun x hx=>by have:=WC hx;omega)).to ?_));intro s hs;have WR:s.length=(DF (l.take i)).length:=hs.1.length_eq;have hsN:s.length≤1073741824:=by omega
   have fin:(By s).reverse=canon l:=Mo (by rw[←ei];exact hs.1) hs.2;refine Xi {p:Nat×Bb // p.1≤s.length∧(By (s.take p.1)).length+p.2.length=p.1} (Xi (fun p=>⟨[(3,.msl 3 (DF (l.take i)).length),(6,vi (By (s.take p.1.1)).length),(34,.msl 3 (DF (l.take i)).length),(35,vi (DF (l.take i)).length),(36,vi p.1.1)],[(3,Hg (arr2 s p.1.2 p.1.1))],Af⟩) (Xi (fun p=>s.length-p.1.1) (Yi (Xi ⟨(0,[]),AA _,rfl⟩ ?_) ?_)))
   ·exact⟨Z5,Z1,Fh,Tv⟩
   intro⟨⟨k,j⟩,k1,k2⟩;have k1:k≤s.length:=k1;have k2:(By (s.take k)).length+j.length=k:=k2;have CB:=ju s j k k1 k2;have UD:(DF (l.take i)).length=((arr2 s j k).map Ag).length:=by rw[Lm,CB,WR]
   refine Yi ?_ ?_
   ·intro h2;have h2:(k:Int)<(DF (l.take i)).length:=h2;have hk:k<s.length:=by omega
    have S8:=CR (enc:=Ag) (nB s j k hk k2);refine Yi ⟨by show(0:Int)≤k;omega,by show(k:Int)<_;omega⟩ ?_;refine Yi UD (Xi (Ag s[k]) (Yi S8 (Yi (Nz rfl) (yN ?_))));have hr:=OW s k k1;refine BF (Nat.eq_zero_or_pos k) (fun k0=>?_) (fun k0=>?_)
    ·refine Yi ?_ ?_
     ·intro h4;have h4:(0:Int)<k:=h4;omega
     ·intro _;refine Yi Wk ?_;have JU:Ks (By (s.take k)) s[k]=s[k]::By (s.take k):=by subst k0;rfl
      have jb:(By (s.take k)).length<(arr2 s j k).length:=by omega
      have hz:=CR (enc:=Ag) (Ge jb);refine Yi (Nz rfl) (Yi ⟨by show(0:Int)≤((By (s.take k)).length:Int);omega,by show((By (s.take k)).length:Int)<_;omega⟩ ?_);refine Yi UD (Xi (Ag (arr2 s j k)[(By (s.take k)).length]) (Yi hz (yN (Yi (by show Bc (((By (s.take k)).length:Int)+1);unfold Bc;omega) ?_))));refine Yi (Ii k ch) ?_;have hm:=FO s k hk;have e1:vi (((By (s.take k)).length:Int)+1)=vi (By (s.take (k+1))).length:=by rw[hm,JU];simp
      have e2:HO.arr 2 (((arr2 s j k).map Ag).set (By (s.take k)).length [vi s[k].1,vi s[k].2])=Hg (arr2 s (j++[s[k]]).tail (k+1)):=by rw[←Wo s j k hk JU];simp only[Hg,E5]
      refine Xi ⟨(k+1,(j++[s[k]]).tail),by show k+1≤s.length;omega,by show(By (s.take (k+1))).length+((j++[s[k]]).tail).length=k+1;rw[hm,JU];simp;omega⟩ ?_;exact⟨Dl s.length k ch,⟨Zr,⟨e1,rfl⟩,Zr,Zr,Zr,Tv⟩,⟨⟨e2,rfl⟩,Tv⟩,Fh,Tv⟩
    ·refine Yi ?_ ?_
     ·intro _;obtain⟨y,t,e⟩:∃y t,By (s.take k)=y::t:=by
       cases hc:By (s.take k)with
       |nil=>have:=hr.2 k0;rw[hc]at this;simp at this
       |cons y t=>exact⟨y,t,rfl⟩
      have ht:(((By (s.take k)).length:Int)-1).toNat=t.length:=by rw[e];simp
      have hy:((arr2 s j k).map Ag)[(((By (s.take k)).length:Int)-1).toNat]?=some (Ag y):=by rw[ht];exact CR (fH s j k e)
      refine Yi (by show Bc (((By (s.take k)).length:Int)-1);unfold Bc;omega) ?_;have cp:=hr.2 k0;refine Yi ⟨by show(0:Int)≤((By (s.take k)).length:Int)-1;omega,by show((By (s.take k)).length:Int)-1<_;omega⟩ ?_;refine Yi UD (Xi (Ag y) (Yi hy (Yi ?_ ?_)))
      ·intro h5;have h5:s[k].1≤y.2:=h5;refine Yi Wk (Yi (by show Bc (((By (s.take k)).length:Int)-1);unfold Bc;omega) (Yi (by show Bc (((By (s.take k)).length:Int)-1);unfold Bc;omega) ?_));refine Yi ⟨by show(0:Int)≤((By (s.take k)).length:Int)-1;omega,by show((By (s.take k)).length:Int)-1<_;omega⟩ ?_;refine Yi UD (Xi (Ag y) (Yi hy (Yi ⟨by show(0:Int)≤((By (s.take k)).length:Int)-1;omega,by show((By (s.take k)).length:Int)-1<_;omega⟩ ?_)));refine Yi UD (Xi (Ag y) (Yi hy (yN (Yi Wk (Yi (Ii k ch) ?_)))));have hm:=FO s k hk;have JU:Ks (By (s.take k)) s[k]=(y.1,max y.2 s[k].2)::t:=by rw[e];show(if s[k].1≤y.2 then _ else _)=_;rw[Al h5]
       have e1:vi (By (s.take k)).length=vi (By (s.take (k+1))).length:=by rw[hm,JU,e];simp
       have e2:HO.arr 2 (((arr2 s j k).map Ag).set (((By (s.take k)).length:Int)-1).toNat [vi y.1,vi (max y.2 s[k].2)])=Hg (arr2 s (j++[s[k]]) (k+1)):=by rw[←fG s j k hk e h5,ht];simp only[Hg,E5]
       refine Xi ⟨(k+1,j++[s[k]]),by show k+1≤s.length;omega,by show(By (s.take (k+1))).length+(j++[s[k]]).length=k+1;rw[hm,JU,Ad,AG];rw[e]at k2;simp only[Av]at k2⊢;omega⟩ ?_;exact⟨Dl s.length k ch,⟨Zr,⟨e1,rfl⟩,Zr,Zr,Zr,Tv⟩,⟨⟨e2,rfl⟩,Tv⟩,Fh,Tv⟩
      ·intro h5;have h5:¬s[k].1≤y.2:=h5;refine Yi Wk ?_;have JU:Ks (By (s.take k)) s[k]=s[k]::By (s.take k):=by rw[e];show(if s[k].1≤y.2 then _ else _)=_;rw[Ae h5]
       have jb:(By (s.take k)).length<(arr2 s j k).length:=by omega
       have hz:=CR (enc:=Ag) (Ge jb);refine Yi (Nz rfl) (Yi ⟨by show(0:Int)≤((By (s.take k)).length:Int);omega,by show((By (s.take k)).length:Int)<_;omega⟩ ?_);refine Yi UD (Xi (Ag (arr2 s j k)[(By (s.take k)).length]) (Yi hz (yN (Yi (by show Bc (((By (s.take k)).length:Int)+1);unfold Bc;omega) ?_))));refine Yi (Ii k ch) ?_;have hm:=FO s k hk;have e1:vi (((By (s.take k)).length:Int)+1)=vi (By (s.take (k+1))).length:=by rw[hm,JU];simp
       have e2:HO.arr 2 (((arr2 s j k).map Ag).set (By (s.take k)).length [vi s[k].1,vi s[k].2])=Hg (arr2 s (j++[s[k]]).tail (k+1)):=by rw[←Wo s j k hk JU];simp only[Hg,E5]
       refine Xi ⟨(k+1,(j++[s[k]]).tail),by show k+1≤s.length;omega,by show(By (s.take (k+1))).length+((j++[s[k]]).tail).length=k+1;rw[hm,JU];simp;omega⟩ ?_;exact⟨Dl s.length k ch,⟨Zr,⟨e1,rfl⟩,Zr,Zr,Zr,Tv⟩,⟨⟨e2,rfl⟩,Tv⟩,Fh,Tv⟩
     ·intro h4;have h4:¬(0:Int)<k:=h4;omega
   ·intro h2;have h2:¬(k:Int)<(DF (l.take i)).length:=h2;have hk:k=s.length:=by omega
    have hr:=OW s k k1;have sj:((((arr2 s j k).map Ag).take ((By (s.take k)).length:Int).toNat).drop 0)=(canon l).map Ag:=by
     rw[Lg,A7,←SX,←fin];unfold arr2
     have:(By (s.take k)).length=(By (s.take k)).reverse.length:=by rw[Dj]
     rw[this,List.take_left,hk,Dp]
    refine Yi ⟨UD,by show(0:Int)≤0;omega,by show(0:Int)≤((By (s.take k)).length:Int);omega,by show((By (s.take k)).length:Int)≤(((arr2 s j k).map Ag).length:Int);omega,.inr ⟨rfl,by simp⟩⟩ ?_;exact .of_eq (Ab (AV.slice .none) sj)
end Go.Eng
namespace Go.Eng
open Go.Proofs Go.Sort
variable {m:List (Int×Int)}{S:Bb}(zs:List Int)(z:Int)
abbrev G8:List AV:=[vi z]
theorem RM{α:Type}[Inhabited α](enc:α→Value)(w:World)(b:Nat)(d:Array α):putRow enc w b 0 d=putRow id w b 0 (d.map enc):=by
 unfold putRow
 congr 1
 funext c
 unfold putCells;apply Array.ext
 ·simp
 ·intro i h1 h2;simp only[Array.getElem_mapIdx,Array.size_map]
  by_cases h:i<d.size
  ·rw[Al ch,Al ch];rw[DO d (i-0) ch,DO (d.map enc) (i-0) (by simpa using h)];simp
  ·rw[Ae ch,Ae ch]
theorem WI:(zs.map G8).flatten=(zs.map fun z=>Value.int .i64 z).map AV.v:=by
 induction zs with
 |nil=>rfl
 |cons z zs ih=>rw[AJ,Bm,ih];rfl
theorem NT(g:Gh)(w:World)(U:Nat→Prop)(vs:List Value)(h:∀x∈vs,x.oneCell'=true):CU g w U (vs.map .v) vs :=
 ⟨by simp,h,fun i av x q1 q2=>by
  rw[AL,q2]at q1;cases q1;exact .v _ _⟩
theorem Me{g:Gh}{w:World}{U:Nat→Prop}{vs us:List Value}(h:CU g w U (vs.map .v) us):us=vs:=by
 apply Dq;intro i;have hl:=h.1;rw[Lm]at hl
 by_cases hi:i<vs.length
 ·have:=h.2.2 i (.v vs[i]) us[i] (by rw[AL,Ge hi];rfl) (Ge ch)
  rw[Ge hi,Ge ch,this.v_eq]
 ·rw[A6 ch,A6 ch]
theorem zk(hl:Cy zs)(DM:zs≠[]) :
  A1 Tryz.prog 242 [.msl 1000 zs.length] (Ak [(1000,.arr 1 (zs.map G8))] Af) fun r h' =>
   r=.tup []∧∃l' : List Int,(l'.Perm zs∧l'.Pairwise fun a b=>a≤b)∧h'=Ak [(1000,.arr 1 (l'.map G8))] Af:=by
 have hl:zs.length≤1073741824:=hl;have hE:GD Tryz.prog 242:=iX 242 Tryz.func242 Wk rfl;have HT:=Rc (P:=Tryz.prog) (f:=242) (es:=zs.map G8) (sz:=1) (rest:=[]) (Q:=fun F7=>∃l' : List Int,(l'.Perm zs∧l'.Pairwise fun a b=>a≤b)∧F7=l'.map G8) hE ?_ ?_
 ·rw[Lm]at HT;refine⟨hE,fun g w vals q1 q2 q3=>(HT.2 g w vals q1 q2 q3).mono fun _ _ ⟨v,r,h',g',e1,⟨e2,F7,⟨l',p1,p2⟩,p3⟩,rest⟩=>⟨v,r,h',g',e1,⟨e2,l',p1,by rw[p3,p2]⟩,rest⟩⟩
 ·intro e
  have:zs=[]:=by simpa using e
  exact absurd this DM
 ·intro g w b cap F hr hF hH hb;have u7:F.toList=zs.map fun z=>Value.int .i64 z:=Me (by rw[←WI];exact hr);have ky:F=zs.toArray.map fun z=>Value.int .i64 z:=Jt.1 (by rw[u7];simp);have u9:Holds (Value.int .i64) w b 0 zs.toArray:=fun j hj=>by
   have:=hH j (by rw[ky];simpa using hj)
   refine⟨this.1.trans ?_,this.2⟩;rw[ky,DO _ j (by simpa using hj),DO _ j hj];simp
  have hc:=Any.slices_Sort_int Tryz.laySortInts b 0 cap zs w u9 hb ch;rw[Lm];refine hc.mono ?_
  rintro e w' ⟨rfl,n,os,rfl⟩
  have JK:(zs.mergeSort fun x y=>decide (x≤y)).Perm zs:=List.mergeSort_perm _ _;have CB:=JK.length_eq;refine⟨rfl,(zs.mergeSort fun x y=>decide (x≤y)).toArray.map fun z=>Value.int .i64 z,(zs.mergeSort fun x y=>decide (x≤y)).map G8,n,os,?_,⟨_,⟨JK,?_⟩,rfl⟩,by simp[CB],fun cs hcs=>?_,fun g w _=>?_,by rw[RM]⟩
  ·rw[ky];simp[CB]
  ·have:=TP (le:=fun x y:Int=>decide (x≤y)) (fun a b c h1 h2=>by simp only[Az]at *;omega) (fun a b=>by simp only[Cq,Az];omega) zs
   exact this.imp fun h=>A4 h
  ·obtain⟨x,_,rfl⟩:=Am.1 hcs;rfl
  ·rw[WI];have e:((zs.mergeSort fun x y=>decide (x≤y)).toArray.map fun z=>Value.int .i64 z).toList=(zs.mergeSort fun x y=>decide (x≤y)).map fun z=>Value.int .i64 z:=by simp
   rw[e];exact NT _ _ _ _ fun x hx=>by
    obtain⟨z,_,rfl⟩:=Am.1 hx;rfl
-- maps from numbers to numbers
abbrev YE:E7:=⟨false,[.int .i64]⟩
abbrev kI:Value:=.int .i64 z
abbrev MH(p:Int×Int):Value×AV:=(kI p.1,vi p.2)
abbrev FR(s:Bb):List AV:=[sl Ag s]
theorem Tx{k:Int}{a:AV}:(kI k,a)∈m.map MH↔∃v,(k,v)∈m∧a=vi v:=by
 rw[Am];constructor
 ·rintro⟨⟨k',v⟩,h1,h2⟩
  simp only[Gk,Value.int.injEq,true_and]at h2;obtain⟨rfl,rfl⟩:=h2;exact⟨v,h1,rfl⟩
 ·rintro⟨v,h1,rfl⟩
  exact⟨(k,v),h1,rfl⟩
theorem Tz(m:List (Int×Int))(k v:Int):FD (m.map MH) (kI k) (vi v)=(Md m k v).map MH:=by
 unfold Md
 by_cases h:(m.any fun p=>decide (p.1=k))=true
 ·rw[Al h];obtain⟨p,h1,h2⟩:=A5.1 h;have h2:=A4 h2
  have:(kI k,vi p.2)∈m.map MH:=Tx.2 ⟨p.2,by rw[←h2];exact h1,rfl⟩
  rw[RE this,BE,BE];apply Bd;intro q _;simp only[Function.comp]
  by_cases e:q.1=k
  ·simp[e]
  ·have:¬kI q.1=kI k:=fun c=>e (by injection c)
   simp[e]
 ·rw[Ae h]
  have:∀b,(kI k,b)∉m.map MH:=fun b hb=>by
   obtain⟨v,h1,_⟩:=Tx.1 hb;exact h (A5.2 ⟨(k,v),h1,by simp⟩)
  rw[Lx this,As];rfl
theorem Qb{T:G4}{e:Nat}{B8:List (Value×AV)}{kx:Value}{K:AV→Prop}(a0 z0:AV)(h1:∀a,(kx,a)∈B8→a=a0)(hz:(∀a,(kx,a)∉B8)→a0=z0)(h2:K z0→La T e K)(k:K a0) :
  (∀a,(kx,a)∈B8→K a)∧((∀a,(kx,a)∉B8)→La T e K):=⟨fun a h=>by rw[h1 a h];exact k,fun hn=>h2 (hz hn▸k)⟩
theorem Sc(m:List (Int×Int))(k:Int):(∀a,(kI k,a)∉m.map MH)→vi (FP m k)=vi 0:=fun Tb=>by
 rw[mP fun hk=>by
  obtain⟨p,hp,e⟩:=Am.1 hk;exact Tb (vi p.2) (Tx.2 ⟨p.2,by rw[←e];exact hp,rfl⟩)]
theorem Sb(hn:(Fz m).Nodup)(k:Int):∀a,(kI k,a)∈m.map MH→a=vi (FP m k):=fun a h=>by
 obtain⟨v,h1,rfl⟩:=Tx.1 h;rw[mO hn h1]
theorem Jb.bound(h:Jb m S)(k:Int):-(S.length:Int)≤FP m k∧FP m k≤S.length:=by
 rw[h.val]
 have:cF S k≤S.length:=List.countP_le_length
 have:cT S k≤S.length:=List.countP_le_length
 omega
theorem bY(l:List Bb):(l.map canon).flatten.length≤l.length*1000000:=by
 induction l with
 |nil=>simp
 |cons s l ih =>
  rw[AJ,Bm,Ad,Av]
  have:=IT (Cs s)
  omega
theorem Jb.few(h:Jb m S):m.length≤1000001:=by
 have:=I8 (m:=(List.range 1000001).map Int.ofNat) h.nd fun k hk=>by
  have:=h.rng k hk
  exact Am.2 ⟨k.toNat,Pq.2 ch,by show(k.toNat:Int)=k;omega⟩
 unfold Fz at this;rw[Lm,Lm,Si]at this;exact this
theorem WX(keep:Nat→Bool)(m:List (Int×Int))(B:List Int):∀n,(ET keep m B n).length≤n
 |0=>Ao _
 |n+1=>by
  unfold ET
  have:=WX keep m B n
  rw[Ad];split
  ·split<;>simp<;>omega
  ·simp;omega
end Go.Eng
namespace Go.Eng
open Go.Proofs
variable {m:List Tm}(u:Tm)(n:Int)(l:List Bb)(t:Tm)(p:Int)
abbrev plC:Q0:=⟨[],[(12,2)],[(44,1)],[],[],[],[],[],[],[],[8,9,15,23,25,26]⟩
theorem rj(F:AV)(keep:Nat→Bool)(l:List Bb)(hl:Cy l)(hs:∀s∈l,Cy s)(hid:∀h,VY h F=true)(hF:∀h (n:Int),0≤n→n≤l.length→QZ Tryz.prog (str h F) [vi n] (vb (keep n.toNat)))
  (R:Bb) (hR:E2 R) (hRh:∀p,has R p=(MG p&&keep (iV l p))):PC 209 [F,sl FR l] (sl Ag R):=by
 have hl:l.length≤1073741824:=hl;refine Ps plC Tryz.func209 rfl (Nz rfl) (Xi {p:Nat×List (Int×Int) // p.1≤l.length∧Jb p.2 ((l.take p.1).map canon).flatten} (Xi (fun p=>⟨[(0,F),(5,.mref 15),(17,sl FR l),(18,vi (l.map FR).length),(19,vi p.1.1)],[(15,.map YE (p.1.2.map MH))],Af⟩) (Xi (fun p=>l.length-p.1.1) (Yi (Xi ⟨(0,uO),AA _,nQ⟩ ?_) ?_))))
 ·have e0:HO.map YE (FD (FD [] (kI 0) (vi 0)) (kI 1000000) (vi 0))=.map YE (uO.map MH):=by
   have e1:=Tz [] 0 0;have e2:=Tz [(0,0)] 1000000 0;show HO.map YE (FD (FD (List.map MH []) (kI 0) (vi 0)) (kI 1000000) (vi 0))=_;rw[e1];show HO.map YE (FD (List.map MH [(0,0)]) (kI 1000000) (vi 0))=_;rw[e2];rfl
  exact⟨⟨⟨rfl,hid _⟩,Zr,Zr,Zr,Zr,Tv⟩,⟨⟨e0,rfl⟩,Tv⟩,Fh,Tv⟩
 intro⟨⟨i,cm⟩,i1,i2⟩;have i1:i≤l.length:=i1;have i2:Jb cm ((l.take i).map canon).flatten:=i2;refine Yi ?_ ?_
 ·intro h;have h:(i:Int)<(l.map FR).length:=h;have h:i<l.length:=by simpa using h
  have hg:l[i]?=some l[i]:=Ge h;refine Xi (FR l[i]) (Yi (Yi (Nn i) (by simp[hg])) (Yi rfl ?_));refine Xi .pure (Xi _ (Yi (Y5 l[i] (hs _ (Aj h))) (Xi {p:Nat×List (Int×Int) // p.1≤(canon l[i]).length∧Jb p.2 (((l.take i).map canon).flatten++(canon l[i]).take p.1)} (Xi (fun p=>⟨[(0,F),(5,.mref 15),(17,sl FR l),(18,vi (l.map FR).length),(19,vi i),(24,sl Ag (canon l[i])),(25,vi ((canon l[i]).map Ag).length),(26,vi p.1.1)],[(15,.map YE (p.1.2.map MH))],Af⟩) (Xi (fun p=>(canon l[i]).length-p.1.1) (Yi (Xi ⟨(0,cm),AA _,by rw[List.take_zero,BL];exact i2⟩ ?_) ?_))))))
  ·exact⟨⟨⟨rfl,hid _⟩,Zr,Zr,Zr,Zr,Zr,Zr,Zr,Tv⟩,Z1,Fh,Tv⟩
  intro⟨⟨j,dm⟩,j1,j2⟩;have j1:j≤(canon l[i]).length:=j1;have j2:Jb dm (((l.take i).map canon).flatten++(canon l[i]).take j):=j2;have hS:(((l.take i).map canon).flatten++(canon l[i]).take j).length≤1073741825000000:=by
   have a1:=bY (l.take i);have a2:=IT (Cs l[i]);rw[AB]at a1;rw[Ad,AB];omega
  refine Yi ?_ ?_
  ·intro hj;have hj:(j:Int)<((canon l[i]).map Ag).length:=hj;have hj:j<(canon l[i]).length:=by simpa using hj
   have tU:(canon l[i])[j]?=some (canon l[i])[j]:=Ge hj;have qz:=(Cs l[i]).low _ (Aj hj);have j3:Jb (bi dm (canon l[i])[j]) (((l.take i).map canon).flatten++(canon l[i]).take (j+1)):=by
    have:=iK j2 (x:=(canon l[i])[j]) qz
    rw[Bx]at this;rw[Be,tU];exact this
   generalize (canon l[i])[j]=x at tU qz j3;have b1:=j2.bound x.1;have jb:=Na j2.nd x.1 (FP dm x.1+1);refine Xi (Ag x) (Yi (Yi (Nn j) (by simp[tU])) (Yi rfl ?_));refine Yi (Nz rfl) (yN (Xi ⟨[(0,F),(5,.mref 15),(9,.ref 9 0),(17,sl FR l),(18,vi (l.map FR).length),(19,vi i),(24,sl Ag (canon l[i])),(25,vi ((canon l[i]).map Ag).length),(26,vi j)],[(9,.cells (Ag x)),(15,.map YE (dm.map MH))],Af⟩ (Yi ⟨⟨⟨rfl,hid _⟩,Zr,Zr,Zr,Zr,Zr,Zr,Zr,Zr,Tv⟩,Z2,Fh,Tv⟩ (Qb (vi (FP dm x.1)) (vi 0) (Sb j2.nd x.1) (Sc dm x.1) (fun q=>q) (Yi (by show Bc (FP dm x.1+1);unfold Bc;omega) ?_)))));have m1:HO.map YE (FD (dm.map MH) (kI x.1) (vi (FP dm x.1+1)))=.map YE ((Md dm x.1 (FP dm x.1+1)).map MH):=by rw[Tz]
   refine Xi ⟨[(0,F),(5,.mref 15),(9,.ref 9 0),(17,sl FR l),(18,vi (l.map FR).length),(19,vi i),(24,sl Ag (canon l[i])),(25,vi ((canon l[i]).map Ag).length),(26,vi j)],[(9,.cells (Ag x)),(15,.map YE ((Md dm x.1 (FP dm x.1+1)).map MH))],Af⟩ (Yi ⟨⟨⟨rfl,hid _⟩,Zr,Zr,Zr,Zr,Zr,Zr,Zr,Zr,Tv⟩,⟨Zr,⟨m1,rfl⟩,Tv⟩,Fh,Tv⟩ ?_)
   have b2:-(1073741825000001:Int)≤FP (Md dm x.1 (FP dm x.1+1)) x.2∧FP (Md dm x.1 (FP dm x.1+1)) x.2≤1073741825000001:=by
    have b3:=j2.bound x.2;rw[QQ];split<;>omega
   refine Qb (vi (FP (Md dm x.1 (FP dm x.1+1)) x.2)) (vi 0) (Sb jb x.2) (Sc _ x.2) (fun q=>q) (Yi (by show Bc (FP (Md dm x.1 (FP dm x.1+1)) x.2-1);unfold Bc;omega) ?_);have hcl:=IT (Cs l[i]);refine Yi (Ii j ch) ?_;have m2:HO.map YE (FD ((Md dm x.1 (FP dm x.1+1)).map MH) (kI x.2) (vi (FP (Md dm x.1 (FP dm x.1+1)) x.2-1)))=.map YE ((bi dm x).map MH):=by rw[Tz];rfl
   refine Xi ⟨(j+1,bi dm x),by show j+1≤_;omega,j3⟩ ?_;exact⟨by show(canon l[i]).length-(j+1)<(canon l[i]).length-j;omega,⟨⟨rfl,hid _⟩,Zr,Zr,Zr,Zr,Zr,Zr,Zr,Tv⟩,⟨⟨m2,rfl⟩,Tv⟩,Fh,Tv⟩
  ·intro hj;have hj:¬(j:Int)<((canon l[i]).map Ag).length:=hj;have hj:¬j<(canon l[i]).length:=by simpa using hj
   refine Yi (Ii i ch) ?_;have i3:Jb dm ((l.take (i+1)).map canon).flatten:=by
    have e1:(canon l[i]).take j=canon l[i]:=Au ch;rw[e1]at j2;have e2:((l.take (i+1)).map canon).flatten=((l.take i).map canon).flatten++canon l[i]:=by
     rw[Be,hg,As,Cn];show _++(canon l[i]++[])=_;rw[BL]
    rw[e2];exact j2
   refine Xi ⟨(i+1,dm),by show i+1≤_;omega,i3⟩ ?_;exact⟨Dl l.length i ch,⟨⟨rfl,hid _⟩,Zr,Zr,Zr,Zr,Tv⟩,Z1,Fh,Tv⟩
 ·intro h;have h:¬(i:Int)<(l.map FR).length:=h;have h:¬i<l.length:=by simpa using h
  have i3:Jb cm (l.map canon).flatten:=by
   rw[Au ch]at i2;exact i2
  have vI:=i3.few;have vY:(0:Int)≤0∧(0:Int)≤((cm.map MH).length:Int)∧((cm.map MH).length:Int)*((8:Nat):Int)≤140737488355328∧((cm.map MH).length:Int)≤9223372036854775807:=by rw[Lm];omega
  refine Yi vY (Xi {p:List (Value×AV)×List Int×Option (Value×AV) // ((p.2.1.map kI)++p.1.map (·.1)).Perm ((cm.map MH).map (·.1))∧∀kv∈p.1,kv∈cm.map MH} (Xi (fun p=>⟨[(0,F),(5,.mref 15),(10,.msl 44 p.1.2.1.length),(46,.ref 46 0)],[(15,.rom YE (cm.map MH)),(44,.arr 1 (p.1.2.1.map G8)),(46,.iter (cm.map MH) p.1.1 p.1.2.2)],Af⟩) (Xi (fun p=>p.1.1.length) (Yi (Xi ⟨(cm.map MH,[],none),.refl _,fun _ h=>h⟩ ?_) ?_))))
  ·exact⟨⟨⟨rfl,hid _⟩,Zr,Zr,Zr,Tv⟩,Z3,Fh,Tv⟩
  intro⟨⟨rem,bs,F6⟩,r1,r2⟩;have r1:((bs.map kI)++rem.map (·.1)).Perm ((cm.map MH).map (·.1)):=r1;have r2:∀kv∈rem,kv∈cm.map MH:=r2;have hbl:bs.length≤1000001:=by
   have:=r1.length_eq
   simp only[Ad,Lm]at this;omega
  refine Yi ?_ ?_
  ·intro hr;have hr:rem=[]:=hr;subst hr;rw[FA,BL,BE]at r1;have hpk:bs.Perm (Fz cm):=by
    have r1:(bs.map kI).Perm ((Fz cm).map kI):=by unfold Fz;rw[BE];exact r1
    have:=r1.map (fun v:Value=>match v with | .int _ n=>n | _=>0)
    rw[BE,BE]at this;have e:((fun v:Value=>match v with | .int _ n=>n | _=>0) ∘ kI)=id:=rfl;rw[e,HL,HL]at this;exact this
   have DM:bs≠[]:=fun e=>by
    subst e
    have:=hpk.length_eq
    have h0:=i3.keys.1;rw[AK this.symm]at h0;cases h0
   refine Xi (.gen [(44,1000)] 0) (Yi rfl ((zk bs (by unfold Cy;omega) DM).to ?_));intro B u6;have kw:B.length=bs.length:=u6.1.length_eq;have hBn:B.Nodup:=(u6.1.trans hpk).nodup_iff.2 i3.nd;have hB:np B cm:=⟨u6.1.trans hpk,by
    rw[AS];intro a b ha hb m5;have h1:=(AS.1 u6.2) a b ha hb m5;have h2:B[a]≠B[b]:=(AS.1 hBn) a b ha hb m5;omega⟩
   have AcT:0<B.length:=by
    rw[kw];exact Ho.2 DM
   have hNE:bs.length=(B.map G8).length:=by rw[Lm,kw]
   refine Yi (by show Bc ((bs.length:Int)-1);unfold Bc;omega) (Xi {k:Nat // k≤B.length-1} (Xi (fun k=>⟨[(0,F),(5,.mref 15),(10,.msl 44 bs.length),(12,.slice (.id 12 2) ((ET keep cm B k.1).map Ag)),(13,vi (Jr cm (B.take k.1))),(59,vi ((bs.length:Int)-1)),(60,vi k.1)],[(12,.tok 2 ((ET keep cm B k.1).map Ag).length),(15,.rom YE (cm.map MH)),(44,.arr 1 (B.map G8))],Af⟩) (Xi (fun k=>B.length-k.1) (Yi (Xi ⟨0,AA _⟩ ?_) ?_))))
   ·exact⟨⟨⟨rfl,hid _⟩,Zr,Zr,Zr,Zr,Zr,Zr,Tv⟩,Z3,Fh,Tv⟩
   intro⟨k,k1⟩;have tZ:=WX keep cm B k;refine Yi ?_ ?_
   ·intro hk;have hk:(k:Int)<(bs.length:Int)-1:=hk;have H6:k+1<B.length:=by omega
    have WQ:k<B.length:=by omega
    have S8:(B.map G8)[k]?=some (G8 B[k]):=CR (Ge WQ);have Aaf:(B.map G8)[k+1]?=some (G8 B[k+1]):=CR (Ge H6);have Te:=RZ cm B k WQ;have wq:=mD i3 hB k WQ;have UC:ET keep cm B (k+1)=ET keep cm B k++(if keep (Jr cm (B.take (k+1))).toNat then [(B[k],B[k+1])]else []):=by
     show _++(match B[k]?,B[k+1]? with | some a,some b=>if keep (Jr cm (B.take (k+1))).toNat then [(a,b)]else [] | _,_=>[])=_;rw[Ge WQ,Ge H6]
    refine Xi ⟨[(0,F),(5,.mref 15),(10,.msl 44 bs.length),(12,.slice (.id 12 2) ((ET keep cm B k).map Ag)),(13,vi (Jr cm (B.take k))),(14,vi k),(59,vi ((bs.length:Int)-1)),(60,vi k)],[(12,.tok 2 ((ET keep cm B k).map Ag).length),(15,.rom YE (cm.map MH)),(44,.arr 1 (B.map G8))],Af⟩ (Yi ⟨⟨⟨rfl,hid _⟩,Zr,Zr,Zr,Zr,Zr,Zr,Zr,Tv⟩,Z3,Fh,Tv⟩ (Yi ⟨by show(0:Int)≤k;omega,by show(k:Int)<bs.length;omega⟩ ?_));refine Yi hNE (Xi (G8 B[k]) (Yi S8 (Qb (vi (FP cm B[k])) (vi 0) (Sb i3.nd B[k]) (Sc cm B[k]) (fun q=>q) (Yi (by show Bc (Jr cm (B.take k)+FP cm B[k]);rw[←Te];unfold Bc;omega) ?_))));have El:∀h,QZ Tryz.prog (str h F) [vi (Jr cm (B.take k)+FP cm B[k])] (vb (keep (Jr cm (B.take (k+1))).toNat)):=fun h=>by
     rw[←Te];exact hF h _ wq.1 wq.2
    refine BF (Bt (keep (Jr cm (B.take (k+1))).toNat)) (fun hp=>?_) (fun hp=>?_)
    ·rw[hp]at El;rw[hp,Al rfl]at UC;refine Xi .pure (Xi (vb true) (Yi (El _) (Xi ⟨[(0,F),(5,.mref 15),(10,.msl 44 bs.length),(12,.slice (.id 12 2) ((ET keep cm B k).map Ag)),(13,vi (Jr cm (B.take k)+FP cm B[k])),(14,vi k),(59,vi ((bs.length:Int)-1)),(60,vi k)],[(12,.tok 2 ((ET keep cm B k).map Ag).length),(15,.rom YE (cm.map MH)),(44,.arr 1 (B.map G8))],Af⟩ (Yi ⟨⟨⟨rfl,hid _⟩,Zr,Zr,Zr,Zr,Zr,Zr,Zr,Tv⟩,Z3,Fh,Tv⟩ ?_))))
     have b1:(0:Int)≤(k:Int)+1∧(k:Int)+1<bs.length:=by omega
     have Aag:(B.map G8)[((k:Int)+1).toNat]?=some (G8 B[k+1]):=by rw[show((k:Int)+1).toNat=k+1 by omega];exact Aaf
     refine Yi ⟨by show(0:Int)≤k;omega,by show(k:Int)<bs.length;omega⟩ ?_;refine Yi hNE (Xi (G8 B[k]) (Yi S8 (Yi (Ii k ch) (Yi b1 (Yi hNE (Xi (G8 B[k+1]) (Yi Aag ?_)))))));have GQ:Cf 2 [[vi B[k],vi B[k+1]]]∧((ET keep cm B k).map Ag).length=((ET keep cm B k).map Ag).length∧(((ET keep cm B k).map Ag).length+[[vi B[k],vi B[k+1]]].length)*16≤140737488355328∧((ET keep cm B k).map Ag).length+[[vi B[k],vi B[k+1]]].length≤9223372036854775807 :=
      ⟨⟨rfl,trivial⟩,rfl,by rw[Lm,AG];omega,by rw[Lm,AG];omega⟩
     refine Yi GQ (Yi Wk (Xi ⟨[(0,F),(5,.mref 15),(10,.msl 44 bs.length),(12,.slice (.id 12 2) ((ET keep cm B k).map Ag++[[vi B[k],vi B[k+1]]])),(13,vi (Jr cm (B.take k)+FP cm B[k])),(59,vi ((bs.length:Int)-1)),(60,vi k)],[(12,.tok 2 (((ET keep cm B k).map Ag).length+[[vi B[k],vi B[k+1]]].length)),(15,.rom YE (cm.map MH)),(44,.arr 1 (B.map G8))],Af⟩ (Yi ⟨⟨⟨rfl,hid _⟩,Zr,Zr,Zr,Zr,Zr,Zr,Tv⟩,Z3,Fh,Tv⟩ (Yi (Ii k ch) (Xi ⟨k+1,by omega⟩ ?_)))));have e1:AV.slice (.id 12 2) ((ET keep cm B k).map Ag++[[vi B[k],vi B[k+1]]])=.slice (.id 12 2) ((ET keep cm B (k+1)).map Ag):=by rw[UC,As];rfl
     have e2:vi (Jr cm (B.take k)+FP cm B[k])=vi (Jr cm (B.take (k+1))):=by rw[Te]
     have e3:HO.tok 2 (((ET keep cm B k).map Ag).length+[[vi B[k],vi B[k+1]]].length)=.tok 2 ((ET keep cm B (k+1)).map Ag).length:=by rw[UC,As,Ad];rfl
     exact⟨Dl B.length k ch,⟨⟨rfl,hid _⟩,Zr,Zr,⟨e1,rfl⟩,⟨e2,rfl⟩,Zr,Zr,Tv⟩,⟨⟨e3,rfl⟩,Zr,Zr,Tv⟩,Fh,Tv⟩
    ·rw[hp]at El;have UC:ET keep cm B (k+1)=ET keep cm B k:=by rw[UC,hp,Ae Bool.false_ne_true,BL]
     refine Xi .pure (Xi (vb false) (Yi (El _) (Xi ⟨[(0,F),(5,.mref 15),(10,.msl 44 bs.length),(12,.slice (.id 12 2) ((ET keep cm B k).map Ag)),(13,vi (Jr cm (B.take k)+FP cm B[k])),(59,vi ((bs.length:Int)-1)),(60,vi k)],[(12,.tok 2 ((ET keep cm B k).map Ag).length),(15,.rom YE (cm.map MH)),(44,.arr 1 (B.map G8))],Af⟩ (Yi ⟨⟨⟨rfl,hid _⟩,Zr,Zr,Zr,Zr,Zr,Zr,Tv⟩,Z3,Fh,Tv⟩ (Yi (Ii k ch) (Xi ⟨k+1,by omega⟩ ?_))))));have e1:AV.slice (.id 12 2) ((ET keep cm B k).map Ag)=.slice (.id 12 2) ((ET keep cm B (k+1)).map Ag):=by rw[UC]
     have e2:vi (Jr cm (B.take k)+FP cm B[k])=vi (Jr cm (B.take (k+1))):=by rw[Te]
     have e3:HO.tok 2 ((ET keep cm B k).map Ag).length=.tok 2 ((ET keep cm B (k+1)).map Ag).length:=by rw[UC]
     exact⟨Dl B.length k ch,⟨⟨rfl,hid _⟩,Zr,Zr,⟨e1,rfl⟩,⟨e2,rfl⟩,Zr,Zr,Tv⟩,⟨⟨e3,rfl⟩,Zr,Zr,Tv⟩,Fh,Tv⟩
   ·intro hk;have hk:¬(k:Int)<(bs.length:Int)-1:=hk;have H6:k=B.length-1:=by omega
    have Aal:canon (ET keep cm B k)=R:=by
     refine(T4 hR fun p=>?_).symm;rw[H6,hRh,lk i3 hB]
    have hc:=Y5 (ET keep cm B k) (by unfold Cy;omega);rw[Aal]at hc;refine Xi .pure (Xi _ (Yi hc ?_));exact .refl _
  ·intro kv Pc hp;refine Ba (Am.1 (r2 kv (hp.mem_iff.2 (Aa ..)))) (fun q hq=>?_);have hq2:=hq.2;subst hq2;refine Xi ⟨[(0,F),(5,.mref 15),(10,.msl 44 bs.length),(46,.ref 46 0)],[(15,.rom YE (cm.map MH)),(44,.arr 1 (bs.map G8)),(46,.iter (cm.map MH) Pc (some (MH q)))],Af⟩ (Yi ⟨⟨⟨rfl,hid _⟩,Zr,Zr,Zr,Tv⟩,Z3,Fh,Tv⟩ ?_)
   have GQ:Cf 1 [G8 q.1]∧(bs.map G8).length=bs.length∧((bs.map G8).length+[G8 q.1].length)*8≤140737488355328∧(bs.map G8).length+[G8 q.1].length≤9223372036854775807 :=
    ⟨⟨rfl,trivial⟩,by rw[Lm],by rw[Lm,AG];omega,by rw[Lm,AG];omega⟩
   refine Yi GQ ?_;have e1:AV.msl 44 ((bs.map G8).length+[G8 q.1].length)=.msl 44 (bs++[q.1]).length:=by simp
   have e2:HO.arr 1 (bs.map G8++[G8 q.1])=.arr 1 ((bs++[q.1]).map G8):=by simp
   refine Xi ⟨(Pc,bs++[q.1],some (MH q)),?_,fun kv QX=>r2 kv (hp.mem_iff.2 (Ah _ QX))⟩ ?_
   ·show(((bs++[q.1]).map kI)++Pc.map (·.1)).Perm _;have h1:=hp.map (fun x:Value×AV=>x.1);rw[AJ]at h1;rw[As,Bx];exact(List.Perm.append_left _ h1.symm).trans r1
   ·exact⟨by show Pc.length<rem.length;rw[hp.length_eq];simp,⟨⟨rfl,hid _⟩,Zr,⟨e1,rfl⟩,Zr,Tv⟩,⟨Zr,⟨e2,rfl⟩,Zr,Tv⟩,Fh,Tv⟩
theorem za:PC 259 [vi n,.cptr [sl FR l]] (vb (decide (n=l.length))):=by
 refine Ps D3 Tryz.func259 rfl (Nz rfl) ?_;have e:((l.map FR).length:Int)=l.length:=by rw[Lm]
 refine Yi ?_ ?_
 ·intro h;have h:n=((l.map FR).length:Int):=h;rw[show decide (n=(l.length:Int))=true from Aq (h.trans e)];exact .refl _
 ·intro h;have h:¬n=((l.map FR).length:Int):=h;rw[show decide (n=(l.length:Int))=false from Ap (fun c=>h (c.trans e.symm))];exact .refl _
theorem zd:PC 210 [vi n] (vb (decide (n=0))):=by
 refine Ps D3 Tryz.func210 rfl (Nz rfl) (Yi ?_ ?_)
 ·intro h;have h:n=0:=h;rw[Aq h];exact .refl _
 ·intro h;have h:¬n=0:=h;rw[Ap h];exact .refl _
theorem zJ:PC 245 [vi n] (vb (decide (0<n))):=by
 refine Ps D3 Tryz.func245 rfl (Nz rfl) (Yi ?_ ?_)
 ·intro h;have h:0<n:=h;rw[Aq h];exact .refl _
 ·intro h;have h:¬0<n:=h;rw[Ap h];exact .refl _
theorem li:decide (iV l p=l.length)=l.all fun s=>has s p:=by
 unfold iV;rw[B2,Az,List.countP_eq_length,AZ]
theorem lj:decide (0<iV l p)=l.any fun s=>has s p:=by
 unfold iV;rw[B2,Az,List.countP_pos_iff,A5]
theorem yT(hl:Cy l)(hs:∀s∈l,Cy s):PC 243 [sl FR l] (sl Ag (Rw l)):=by
 have hc:=rj (.clo 259 [.cptr [sl FR l]]) (fun n=>decide (n=l.length)) l hl hs (fun _=>rfl) (fun h n h0 _=>by
  have:=za n l
  have e:decide (n=(l.length:Int))=decide (n.toNat=l.length):=by rw[Jz];omega
  rw[e]at this;exact this) (Rw l) (Yn l) fun p=>by rw[Uw,li]
 refine Ps (ne [1]) Tryz.func243 rfl (Nz rfl) (Xi .pure (Xi _ (Yi (hc) ?_)));exact .refl _
theorem rf(s:Bb)(hs:Cy s):PC 181 [sl Ag s] (sl Ag (EJ s)):=by
 have hc:=rj (.v (YP 210)) (fun n=>decide (n=0)) [s] (by unfold Cy;simp) (fun t ht=>by rw[Ar.1 ht];exact hs) (fun _=>rfl) (fun h n h0 _=>by
  have:=zd n
  have e:decide (n=0)=decide (n.toNat=0):=by rw[Jz];omega
  rw[e]at this;exact this) (EJ s) (HP s) fun p=>by
   rw[Ga]
   have:iV [s] p=if has s p then 1 else 0:=by unfold iV;rw[Jw];simp
   rw[this];cases has s p<;>rfl
 refine Ps D3 Tryz.func181 rfl (Nz rfl) (Xi .pure (Xi _ (Yi (hc) ?_)));exact .refl _
theorem zF(hl:Cy l)(hs:∀s∈l,Cy s):PC 220 [sl FR l] (sl Ag (Sa l)):=by
 have hc:=rj (.v (YP 245)) (fun n=>decide (0<n)) l hl hs (fun _=>rfl) (fun h n h0 _=>by
  have:=zJ n
  have e:decide (0<n)=decide (0<n.toNat):=by rw[Jz];omega
  rw[e]at this;exact this) (Sa l) (YH l) fun p=>by
   rw[Ux,lj];cases h:l.any fun s=>has s p with
   |false=>simp
   |true =>
    obtain⟨s,_,h2⟩:=A5.1 h
    have:=M2 h2
    simp[MG,this]
 refine Ps D3 Tryz.func220 rfl (Nz rfl) (Xi .pure (Xi _ (Yi (hc) ?_)));exact .refl _
-- terms
theorem c59(ht:Cy t.set):PC 216 [.agg (AO t)] (vb (!t.absent&&(canon t.set).isEmpty)):=by
 refine Ps D3 Tryz.func216 rfl (Nz rfl) (Yi ?_ ?_)
 ·intro h;have h:t.absent=true:=h;rw[h];exact .refl _
 ·intro h;have h:t.absent=false:=h;refine Xi .pure (Xi _ (Yi (Y5 t.set ht) (Yi ?_ ?_)))
  ·intro h2;have h2:(((canon t.set).map Ag).length:Int)=0:=h2;have h2:canon t.set=[]:=AK (by rw[Lm]at h2;omega);rw[h,h2];exact .refl _
  ·intro h2;have h2:¬(((canon t.set).map Ag).length:Int)=0:=h2;have h2:(canon t.set).isEmpty=false:=by
    cases hc:canon t.set with
    |nil=>rw[hc]at h2;exact absurd rfl h2
    |cons _ _=>rfl
   rw[h,h2];exact .refl _
theorem c60(ht:Cy t.set):PC 217 [.agg (AO t)] (vb (t.absent&&(EJ t.set).isEmpty)):=by
 refine Ps D3 Tryz.func217 rfl (Nz rfl) (Yi ?_ ?_)
 ·intro h;have h:t.absent=true:=h;refine Xi .pure (Xi _ (Yi (rf t.set ht) (Yi ?_ ?_)))
  ·intro h2;have h2:(((EJ t.set).map Ag).length:Int)=0:=h2;have h2:EJ t.set=[]:=AK (by rw[Lm]at h2;omega);rw[h,h2];exact .refl _
  ·intro h2;have h2:¬(((EJ t.set).map Ag).length:Int)=0:=h2;have h2:(EJ t.set).isEmpty=false:=by
    cases hc:EJ t.set with
    |nil=>rw[hc]at h2;exact absurd rfl h2
    |cons _ _=>rfl
   rw[h,h2];exact .refl _
 ·intro h;have h:t.absent=false:=h;rw[h];exact .refl _
abbrev H1(l:List Nat):Q0:=⟨[],[],[],[],[],[],[],[],[],[],l⟩
theorem c58(hu:Cy u.set)(ht:Cy t.set):PC 215 [.agg (AO u),.agg (AO t)] (.agg (AO (Hr u t))):=by
 have hc:PC 243 [sl FR [u.set,t.set]] (sl Ag (Qj u.set t.set)):=yT [u.set,t.set] (by unfold Cy;simp) (fun s hs=>by
  rcases AF.1 hs with rfl | hs
  ·exact hu
  ·rw[Ar.1 hs];exact ht)
 refine Ps (H1 []) Tryz.func215 rfl (Nz rfl) (Yi ?_ ?_)
 ·intro h;have h:u.absent=true:=h;refine Yi ?_ ?_
  ·intro h2;have h2:t.absent=true:=h2;have e:[vs u.path,vb true,sl Ag (Qj u.set t.set)]=AO (Hr u t):=by unfold Hr;rw[h,h2];rfl
   refine Xi _ (Yi (hc) (Yi (Nz rfl) (Yi Wk (yN ?_))));exact .of_eq (Ab AV.agg e)
  ·intro h2;have h2:t.absent=false:=h2;have e:[vs u.path,vb false,sl Ag (Qj u.set t.set)]=AO (Hr u t):=by unfold Hr;rw[h,h2];rfl
   refine Xi _ (Yi (hc) (Yi (Nz rfl) (Yi Wk (yN ?_))));exact .of_eq (Ab AV.agg e)
 ·intro h;have h:u.absent=false:=h;have e:[vs u.path,vb false,sl Ag (Qj u.set t.set)]=AO (Hr u t):=by unfold Hr;rw[h];rfl
  refine Xi _ (Yi (hc) (Yi (Nz rfl) (Yi Wk (yN ?_))));exact .of_eq (Ab AV.agg e)
theorem zx(hu:Cy u.set)(ht:Cy t.set):PC 184 [.agg (AO u),.agg (AO t)] (.agg (AO (Dw u t))):=by
 have hc:PC 220 [sl FR [u.set,t.set]] (sl Ag (QO u.set t.set)):=zF [u.set,t.set] (by unfold Cy;simp) (fun s hs=>by
  rcases AF.1 hs with rfl | hs
  ·exact hu
  ·rw[Ar.1 hs];exact ht)
 refine Ps (H1 []) Tryz.func184 rfl (Nz rfl) (Yi ?_ ?_)
 ·intro h;have h:u.absent=true:=h;have e:[vs u.path,vb true,sl Ag (QO u.set t.set)]=AO (Dw u t):=by unfold Dw;rw[h];rfl
  refine Xi _ (Yi (hc) (Yi (Nz rfl) (Yi Wk (yN ?_))));exact .of_eq (Ab AV.agg e)
 ·intro h;have h:u.absent=false:=h;refine Yi ?_ ?_
  ·intro h2;have h2:t.absent=true:=h2;have e:[vs u.path,vb true,sl Ag (QO u.set t.set)]=AO (Dw u t):=by unfold Dw;rw[h,h2];rfl
   refine Xi _ (Yi (hc) (Yi (Nz rfl) (Yi Wk (yN ?_))));exact .of_eq (Ab AV.agg e)
  ·intro h2;have h2:t.absent=false:=h2;have e:[vs u.path,vb false,sl Ag (QO u.set t.set)]=AO (Dw u t):=by unfold Dw;rw[h,h2];rfl
   refine Xi _ (Yi (hc) (Yi (Nz rfl) (Yi Wk (yN ?_))));exact .of_eq (Ab AV.agg e)
theorem uI(q:Rq)(hq:Cy q.set):PC 175 [.agg (AH q)] (.agg (AO (DS q))):=by
 refine Ps D3 Tryz.func175 rfl (Nz rfl) (Xi _ (Yi (rf q.set hq) (Yi (Nz rfl) (Yi Wk (yN ?_)))));exact .refl _
abbrev Du:E7:=⟨false,[.str]⟩
abbrev Tg:Value×AV:=(.string t.path,.agg (AO t))
abbrev wN(fin cut:List Nat):Q0:=⟨[],[],[],[],fin,[],[],[],[],[],cut⟩
theorem Ty{p:ByteArray}{a:AV}:(Value.string p,a)∈m.map Tg↔∃t∈m,t.path=p∧a=.agg (AO t):=by
 rw[Am];constructor
 ·rintro⟨t,h1,h2⟩
  simp only[Gk,Value.string.injEq]at h2;exact⟨t,h1,h2.1,h2.2.symm⟩
 ·rintro⟨t,h1,rfl,rfl⟩
  exact⟨t,h1,rfl⟩
theorem lA(m:List Tm)(t:Tm):FD (m.map Tg) (.string t.path) (.agg (AO t))=(YA m t).map Tg:=by
 unfold YA
 by_cases h:(m.any fun u=>decide (u.path=t.path))=true
 ·rw[Al h];obtain⟨u,h1,h2⟩:=A5.1 h;have h2:=A4 h2
  have:(Value.string t.path,AV.agg (AO u))∈m.map Tg:=Ty.2 ⟨u,h1,h2,rfl⟩
  rw[RE this,BE,BE];apply Bd;intro q _;simp only[Function.comp]
  by_cases e:q.path=t.path
  ·simp[e]
  ·have:¬Value.string q.path=.string t.path:=fun c=>e (by injection c)
   simp[e]
 ·rw[Ae h]
  have:∀b,(Value.string t.path,b)∉m.map Tg:=fun b hb=>by
   obtain⟨u,h1,h2,_⟩:=Ty.1 hb;exact h (A5.2 ⟨u,h1,by simp[h2]⟩)
  rw[Lx this,As];rfl
theorem kc(hn:(EV m).Nodup)(p:ByteArray){K:AV→Prop}{Z:Prop}(hy:∀u,Dz m p=some u→K (.agg (AO u)))(Tb:Dz m p=none→Z) :
  (∀a,(Value.string p,a)∈m.map Tg→K a)∧((∀a,(Value.string p,a)∉m.map Tg)→Z) :=
 ⟨fun a h=>by
  obtain⟨t,h1,h2,rfl⟩:=Ty.1 h;subst h2;exact hy t ((MX hn).1 h1),fun h=>Tb (by
  cases e:Dz m p with
  |none=>rfl
  |some u=>exact absurd (Ty.2 ⟨u,FG e,HC e,rfl⟩) (h _))⟩
theorem PR{t:Tm}(h:E2 t.set):Cy t.set:=by
 unfold Cy
 have:=IT h;omega
theorem c57(l:List Tm)(hl:Cy l)(hs:∀t∈l,Cy t.set):PC 214 [sl AO l,.v (YP 215)] (.cmap Du ((DH l).map Tg)):=by
 have hl:l.length≤1073741824:=hl;refine Ps (wN [10] []) Tryz.func214 rfl (Nz rfl) (Xi {i:Nat // i≤l.length} (Xi (fun i=>⟨[(0,sl AO l),(1,.v (YP 215)),(5,.mref 10),(11,sl AO l),(12,vi (l.map AO).length),(13,vi i.1)],[(10,.map Du ((DH (l.take i.1)).map Tg))],Af⟩) (Xi (fun i=>l.length-i.1) (Yi (Xi ⟨0,AA _⟩ ?_) ?_))))
 ·exact⟨Z6,Z1,Fh,Tv⟩
 intro⟨i,h1⟩;have hn:=Iu (l.take i);refine Yi ?_ ?_
 ·intro h;have h:(i:Int)<(l.map AO).length:=h;have h:i<l.length:=by simpa using h
  have hg:l[i]?=some l[i]:=Ge h;refine Xi (AO l[i]) (Yi (Yi (Nn i) (by simp[hg])) (Yi rfl ?_));refine Yi (Nz rfl) (yN ?_);have FN:=hs l[i] (Aj h);have tail:∀u:Tm,Cy u.set→Hr u l[i]=Pb (Dz (DH (l.take i)) l[i].path) l[i]→FD ((DH (l.take i)).map Tg) (.string l[i].path) (.agg (AO (Hr u l[i])))=(DH (l.take (i+1))).map Tg:=fun u hu e=>by
   have hp:(Pb (Dz (DH (l.take i)) l[i].path) l[i]).path=l[i].path:=RL _ _ fun u h=>HC h;have e2:=lA (DH (l.take i)) (Hr u l[i]);have e3:(Hr u l[i]).path=l[i].path:=by rw[e];exact hp
   rw[e3]at e2;rw[e2,SH l i h,e];rfl
  refine kc hn l[i].path (fun u hu=>?_) (fun hu=>?_)
  ·have Lb:Cy u.set:=PR (Qq _ u (FG hu));refine yN ?_;have A0:=tail u Lb (by rw[eT,hu];rfl);refine Yi (Nz rfl) (yN (Xi _ (Yi (c58 u l[i] Lb FN) (Yi Wk (Yi (Ii i ch) (Xi ⟨i+1,by omega⟩ ?_))))));have e1:HO.map Du (FD ((DH (l.take i)).map Tg) (.string l[i].path) (.agg (AO (Hr u l[i]))))=.map Du ((DH (l.take (i+1))).map Tg):=by rw[A0]
   exact⟨Dl l.length i ch,Z6,⟨⟨e1,rfl⟩,Tv⟩,Fh,Tv⟩
  ·refine yN (Yi (Nz rfl) (yN ?_));have A0:=tail l[i] FN (by rw[eT,hu];rfl);refine Yi (Nz rfl) (yN (Xi _ (Yi (c58 l[i] l[i] FN FN) (Yi Wk (Yi (Ii i ch) (Xi ⟨i+1,by omega⟩ ?_))))));have e1:HO.map Du (FD ((DH (l.take i)).map Tg) (.string l[i].path) (.agg (AO (Hr l[i] l[i]))))=.map Du ((DH (l.take (i+1))).map Tg):=by rw[A0]
   exact⟨Dl l.length i ch,Z6,⟨⟨e1,rfl⟩,Tv⟩,Fh,Tv⟩
 ·intro h;have h:¬(i:Int)<(l.map AO).length:=h;have h:¬i<l.length:=by simpa using h
  have e:(DH (l.take i)).map Tg=(DH l).map Tg:=by rw[Au ch]
  exact .of_eq (Ab (AV.cmap Du) e)
end Go.Eng
