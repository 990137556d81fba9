/- Lemmas for the claims of this seat, without a condition: part 18 (CSort2, C15, C16, C17, C18, C19, C20, C21). -/
import Derived.Test.YtkmnnpmneamgoaaGreatDoorA17
import Derived.Test.YtkmnnpmneamgoaaGreatDoorA02
import Derived.Shelf.SlSortCmp.NoneTotal
namespace Go.Eng
open Go.Proofs Go.Shelf Go.RowKit Go.Lib Go.Sort
theorem aS(x y:SpA):ltOf cfSpA x y=decide (x.1.1<y.1.1):=by
 unfold ltOf cfSpA;rw[B2];simp only[AE];omega
theorem jg:SWO (ltOf cfSpA) where
 irrefl x:=by rw[aS];simp
 trans x y z h1 h2:=by rw[aS]at *;simp at *;omega
 ntrans x y z h1 h2:=by rw[aS]at *;simp at *;omega
theorem Tj:∀x y:List UInt8,decide (Lib.compareBytes x y<0)=Kf x y
 | [],[]=>rfl
 | [],_::_=>rfl
 |_::_,[]=>rfl
 |a::x,b::y=>by
  unfold Lib.compareBytes Kf
  by_cases h:a<b
  ·simp[h]
  ·by_cases h2:b<a
   ·have:¬a=b:=fun e=>by subst e;exact absurd h2 (UInt8.lt_irrefl a)
    simp[h,h2,this]
   ·have e:a=b:=UInt8.le_antisymm (UInt8.not_lt.1 h2) (UInt8.not_lt.1 h);subst e;simp[UInt8.lt_irrefl,Tj x y]
theorem aT(x y:TmA):ltOf cfTmA x y=EH x.1 y.1:=Tj _ _
theorem jh:SWO (ltOf cfTmA) where
 irrefl x:=by rw[aT];exact DR _
 trans x y z h1 h2:=by rw[aT]at *;exact Ej h1 h2
 ntrans x y z h1 h2:=by
  rw[aT]at *
  rw[AH];intro h;cases pL:EH y.1 x.1 with
  |true=>have:=Ej pL h;rw[h2]at this;cases this
  |false =>
   have e:=IV h1 pL;rw[e]at h;rw[h2]at h;cases h
abbrev Ug(k:Nat):Value:=.func (.func k) #[] #[]
theorem fA (k : Nat) {fn : Func} {c : Code} (hf : Tryz.prog.funcs[k]? = some fn) (hn : (fn.name == "runtime.NumGoroutine") = false) (hb : fn.body = some c) : Gd Tryz.prog k := bT hf hn hb
theorem uA(l:List (Int×Int))(hl:CK l)(h:∀x∈l,0≤x.1∧x.1≤1000000)(lim:Nat)(XF:lim<100) :
  Bo Tryz.prog 216 [.msl 1000 l.length,vi 0,vi l.length,vi lim,.v (Ug 169)] (Af [(1000,.arr 2 (l.map Ae))] Aa) fun r h' =>
   r=.tup []∧∃l' : List (Int×Int),l'.Perm l∧l'.Pairwise (fun x y=>x.1≤y.1)∧h'=Af [(1000,.arr 2 (l'.map Ae))] Aa:=by
 have hl:l.length≤1073741824:=hl;have hE:Gd Tryz.prog 216:=fA 216 Tryz.func216 (by kernel_rfl) rfl;have eg:∀args w,(callFunc 169 args).run Tryz.prog w=.ok (.enter 169 args) w:=enters_of Tryz.func169 (by kernel_rfl) rfl;have Iu:=Jm (P:=Tryz.prog) (f:=216) (α:=SpA) (rest:=[.int .i64 0,.int .i64 l.length,.int .i64 lim,Ug 169]) hE Ae encSpA (k:=2) (fun _=>rfl) (fun _=>rfl) (ltOf cfSpA) (fun x a=>a.1=x) l (by omega) ?_ ?_ ?_
 ·refine⟨hE,fun g w vals q1 q2 q3=>(Iu.2 g w vals q1 q2 q3).mono fun _ _ ⟨v,r,h',g',e1,⟨e2,l',p1,⟨al,a1,a2,a3⟩,p2⟩,rest⟩=>⟨v,r,h',g',e1,⟨e2,l',p1,?_,p2⟩,rest⟩⟩;rw[Bl]at a3⊢;intro i j hi hj Wf
  have:=a3 i j (by omega) (by omega) Wf
  rw[aS]at this;have e1:=a2 i _ _ (AD hi) (AD (by omega));have e2:=a2 j _ _ (AD hj) (AD (by omega));rw[←e1,←e2]
  have:=of_decide_eq_false this
  omega
 ·intro x hx g w vs hr
  match vs,hr with
  | [a,b],hr =>
   have h1:=(hr.2.2 0 (vi x.1) a rfl rfl).v_eq;have h2:=(hr.2.2 1 (vi x.2) b rfl rfl).v_eq;subst h1;subst h2;exact⟨⟨x,h x hx⟩,rfl,rfl⟩
  | [],hr=>have:=hr.1;simp at this
  | [_],hr=>have:=hr.1;simp at this
  |_::_::_::_,hr=>have:=hr.1;simp at this
 ·intro w b cap d hH hb Ed hdl;have gj:CmpLays Tryz.prog 169 #[] encSpA 2 cfSpA b 0 d.size w:=fun _ _ _ _ x y=>Tryz.closure169 x y _;have hp:=AnyQ.pdqsortCmpFunc_all Tryz.layPdqSpan 2 Tryz.isAgg65 Tryz.sizeOf65 encSpA cfSpA 169 #[] jg b 0 cap d w eg gj ⟨fun _=>rfl,fun x v hv=>by simp[encSpA]at hv;rcases hv with rfl | rfl<;>rfl,hH,hb⟩ (d.size+1) 0 d.size lim d w (by omega) rfl (SWK.start hH) (AL _) (Ao _) Ed (by omega) (Or.inl rfl)
  rw[hdl]at hp⊢;refine hp.mono ?_
  rintro e w' ⟨rfl,n,os,rfl⟩
  have h:=pdq_sorts (ltOf cfSpA) jg d 0 d.size lim true true (AL _) (Ao _) (Or.inl rfl);rw[hdl]at h;exact⟨rfl,_,n,os,h.1,h.2,rfl⟩
 ·intro e w;subst e;exact AnyF.pdqsortCmpFunc_none Tryz.layPdqSpan none 0 lim (Ug 169) w
theorem uc(l:List Tm)(hl:CK l)(lim:Nat)(XF:lim<100) :
  Bo Tryz.prog 263 [.msl 1000 l.length,vi 0,vi l.length,vi lim,.v (Ug 232)] (Af [(1000,.arr 3 (l.map AG))] Aa) fun r h' =>
   r=.tup []∧∃l' : List Tm,l'.Perm l∧l'.Pairwise (fun x y=>EH y.path x.path=false)∧h'=Af [(1000,.arr 3 (l'.map AG))] Aa:=by
 have hl:l.length≤1073741824:=hl;have hE:Gd Tryz.prog 263:=fA 263 Tryz.func263 (by kernel_rfl) rfl;have eg:∀args w,(callFunc 232 args).run Tryz.prog w=.ok (.enter 232 args) w:=enters_of Tryz.func232 (by kernel_rfl) rfl;have Iu:=Jm (P:=Tryz.prog) (f:=263) (α:=TmA) (rest:=[.int .i64 0,.int .i64 l.length,.int .i64 lim,Ug 232]) hE AG encTmA (k:=3) (fun _=>rfl) (fun _=>rfl) (ltOf cfTmA) (fun x a=>a.1=x.path) l (by omega) ?_ ?_ ?_
 ·refine⟨hE,fun g w vals q1 q2 q3=>(Iu.2 g w vals q1 q2 q3).mono fun _ _ ⟨v,r,h',g',e1,⟨e2,l',p1,⟨al,a1,a2,a3⟩,p2⟩,rest⟩=>⟨v,r,h',g',e1,⟨e2,l',p1,?_,p2⟩,rest⟩⟩;rw[Bl]at a3⊢;intro i j hi hj Wf
  have:=a3 i j (by omega) (by omega) Wf
  rw[aT]at this;have e1:=a2 i _ _ (AD hi) (AD (by omega));have e2:=a2 j _ _ (AD hj) (AD (by omega));rw[←e1,←e2];exact this
 ·intro x hx g w vs hr
  match vs,hr with
  | [a,b,c],hr =>
   have h1:=(hr.2.2 0 (Go.Eng.vs x.path) a rfl rfl).v_eq;subst h1;exact⟨⟨x.path,⟨b,hr.2.1 b (by simp)⟩,⟨c,hr.2.1 c (by simp)⟩⟩,rfl,rfl⟩
  | [],hr=>have:=hr.1;simp at this
  | [_],hr=>have:=hr.1;simp at this
  | [_,_],hr=>have:=hr.1;simp at this
  |_::_::_::_::_,hr=>have:=hr.1;simp at this
 ·intro w b cap d hH hb Ed hdl;have gj:CmpLays Tryz.prog 232 #[] encTmA 3 cfTmA b 0 d.size w:=fun _ _ _ _ x y=>Tryz.closure232 x y _;have hp:=AnyQ.pdqsortCmpFunc_all Tryz.layPdqTerm 3 Tryz.isAgg208 Tryz.sizeOf208 encTmA cfTmA 232 #[] jh b 0 cap d w eg gj ⟨fun _=>rfl,fun x v hv=>by
    simp only[encTmA,AF,LN,or_false]at hv;rcases hv with rfl | rfl | rfl
    ·rfl
    ·exact x.2.1.2
    ·exact x.2.2.2,hH,hb⟩ (d.size+1) 0 d.size lim d w (by omega) rfl (SWK.start hH) (AL _) (Ao _) Ed (by omega) (Or.inl rfl)
  rw[hdl]at hp⊢;refine hp.mono ?_
  rintro e w' ⟨rfl,n,os,rfl⟩
  have h:=pdq_sorts (ltOf cfTmA) jh d 0 d.size lim true true (AL _) (Ao _) (Or.inl rfl);rw[hdl]at h;exact⟨rfl,_,n,os,h.1,h.2,rfl⟩
 ·intro e w;subst e;exact AnyF.pdqsortCmpFunc_none Tryz.layPdqTerm none 0 lim (Ug 232) w
end Go.Eng

namespace Go.Eng
open Go.Proofs
-- the checker,and what reads it
theorem Fi(a b:ByteArray):EH a b=Op.bytesLess a.toList b.toList:=by
 have:∀x y:List UInt8,Kf x y=Op.bytesLess x y:=by
  intro x
  induction x with
  |nil=>intro y;cases y<;>rfl
  |cons a x ih =>
   intro y;cases y with
   |nil=>rfl
   |cons b y =>
    unfold Kf Op.bytesLess;rw[ih];rw[B2];simp
 unfold EH;rw[this,ByteArray.toList_eq,ByteArray.toList_eq]
end Go.Eng

namespace Go.Eng
open Go.Proofs
theorem Bo.imp{P:Program}{f:Nat}{args:List AV}{h0:Nat→HO}{Q Q' : AV→(Nat→HO)→Prop}(h:Bo P f args h0 Q)(hq:∀r h',Q r h'→Q' r h'):Bo P f args h0 Q':=h.mono fun r h' q=>⟨r,.refl _,hq r h' q⟩
theorem Bo.to{P:Program}{f:Nat}{args:List AV}{h0:Nat→HO}{α:Type}{r0:AV}{p:α→Prop}{H:α→Nat→HO}{Q' : AV→(Nat→HO)→Prop}(h:Bo P f args h0 fun r h'=>r=r0∧∃x,p x∧h'=H x)(k:∀x,p x→Q' r0 (H x)):Bo P f args h0 Q' :=
 h.imp fun r h' ⟨e1,x,e2,e3⟩=>by subst e1;subst e3;exact k x e2
theorem m6(n:Nat)(h:n≤1073741824):∃lim:Nat,lim<100∧PC 93 [.v (.int .u64 (IntKind.u64.wrap (n:Int)))] (vi lim):=by
 refine⟨Lib.bitLen n,Nat.lt_of_le_of_lt (Lib.bitLen_le n 62 (by omega) (by omega)) (by omega),?_⟩;have wr:IntKind.u64.wrap (n:Int)=n:=by simp[IntKind.wrap,IntKind.bits,IntKind.signed];omega
 rw[wr];refine Lq [.int .u64 n] (.int .i64 (Lib.bitLen n:Nat)) (fA 93 Tryz.func93 (by kernel_rfl) rfl) rfl (fun _ _=>.v _ _) fun w _=>?_
 have:=Any.bits_Len Tryz.layBits (n:Int) w (by omega) (by omega)
 rw[A6]at this;exact this
theorem uo(l:List (Int×Int))(hl:CK l)(h:∀x∈l,0≤x.1∧x.1≤1000000) :
  Bo Tryz.prog 168 [.msl 1000 l.length,.v (Ug 169)] (Af [(1000,.arr 2 (l.map Ae))] Aa) fun r h' =>
   r=.tup []∧∃l' : List (Int×Int),(l'.Perm l∧l'.Pairwise (fun x y=>x.1≤y.1))∧h'=Af [(1000,.arr 2 (l'.map Ae))] Aa:=by
 obtain⟨lim,XF,hb⟩:=m6 l.length hl;refine CF (MG EI) [(1000,1000)] rfl CG hm rfl Tryz.func168 (by kernel_rfl) rfl (Nz rfl) (by kernel_rfl) rfl ?_;refine Xi .pure (Xi _ (Yi (hb) ?_));refine Xi (.gen [(1000,1000)] 0) (Yi rfl ((uA l hl h lim XF).imp ?_));intro r h' hq;refine A8 hq.2 (fun l' PK=>?_);refine Xi (.tup []) (Yi ?_ (Yi rfl (Xi l' (Yi ⟨PK.1,PK.2.1⟩ ?_))))
 ·exact .refl _
 ·rw[PK.2.2];rfl
theorem c61(l:List Tm)(hl:CK l) :
  Bo Tryz.prog 231 [.msl 1000 l.length,.v (Ug 232)] (Af [(1000,.arr 3 (l.map AG))] Aa) fun r h' =>
   r=.tup []∧∃l' : List Tm,(l'.Perm l∧l'.Pairwise (fun x y=>EH y.path x.path=false))∧h'=Af [(1000,.arr 3 (l'.map AG))] Aa:=by
 obtain⟨lim,XF,hb⟩:=m6 l.length hl;refine CF (MG EI) [(1000,1000)] rfl CG hm rfl Tryz.func231 (by kernel_rfl) rfl (Nz rfl) (by kernel_rfl) rfl ?_;refine Xi .pure (Xi _ (Yi (hb) ?_));refine Xi (.gen [(1000,1000)] 0) (Yi rfl ((uc l hl lim XF).imp ?_));intro r h' hq;refine A8 hq.2 (fun l' PK=>?_);refine Xi (.tup []) (Yi ?_ (Yi rfl (Xi l' (Yi ⟨PK.1,PK.2.1⟩ ?_))))
 ·exact .refl _
 ·rw[PK.2.2];rfl
end Go.Eng

namespace Go.Eng
open Go.Proofs
abbrev zz(l:List (Nat×Nat))(cut:List Nat):QA:=⟨[],[],l,[],[],[],[],[],[],[],cut⟩
abbrev FK(l:List (Int×Int)):HO:=.arr 2 (l.map Ae)
theorem So(l:A9)(i:Nat):(CJ (l.take i)).length≤i:=by
 unfold CJ
 have:=By (fun x:Int×Int=>decide (x.1<x.2)) ((l.take i).map D6)
 rw[Lm,AK]at this;omega
theorem PA{l:A9}{i:Nat}(h:i<l.length)(h3:(D6 l[i]).1<(D6 l[i]).2):CJ (l.take (i+1))=CJ (l.take i)++[D6 l[i]]:=by
 rw[Bb,Ge h,Ot];unfold CJ;simp[h3]
theorem Sn{l:A9}{i:Nat}(h:i<l.length)(h3:¬(D6 l[i]).1<(D6 l[i]).2):CJ (l.take (i+1))=CJ (l.take i):=by
 rw[Bb,Ge h,Ot];unfold CJ;simp[h3]
abbrev arr2(s j:A9)(i:Nat):A9:=(Bv (s.take i)).reverse++(j++s.drop i)
theorem jS(s j:A9)(i:Nat)(h:i<s.length)(hj:(Bv (s.take i)).length+j.length=i):(arr2 s j i)[i]?=some s[i]:=by
 unfold arr2;rw[AR (by rw[Dg];omega),AR (by rw[Dg];omega),Dg,DE];rw[show i+(i-(Bv (List.take i s)).length-j.length)=i by omega,Ge h]
theorem bI(s j:A9)(i:Nat){y:Int×Int}{t:A9}(e:Bv (s.take i)=y::t):(arr2 s j i)[t.length]?=some y:=by
 unfold arr2;rw[e,EK,BU,AR (by rw[Dg];omega),Dg,Ff];rfl
theorem eK(s j:A9)(i:Nat)(h:i≤s.length)(hj:(Bv (s.take i)).length+j.length=i):(arr2 s j i).length=s.length:=by
 unfold arr2;simp only[Ad,Dg,B6];omega
theorem ay{α:Type}(s:List α)(i:Nat)(h:i<s.length):s.drop i=s[i]::s.drop (i+1):=Bk h
theorem UG(s j:A9)(i:Nat)(h:i<s.length)(e:JE (Bv (s.take i)) s[i]=s[i]::Bv (s.take i)) :
  (arr2 s j i).set (Bv (s.take i)).length s[i]=arr2 s (j++[s[i]]).tail (i+1):=by
 unfold arr2;rw[Ft s i h,e,EK,List.set_append_right _ _ (by rw[Dg];exact Ao _),Dg,Ff,BU,ay s i h]
 congr 1
 cases j with
 |nil=>rfl
 |cons a b=>simp
theorem bH(s j:A9)(i:Nat)(h:i<s.length){y:Int×Int}{t:A9}(e:Bv (s.take i)=y::t)(Hs:s[i].1≤y.2) :
  (arr2 s j i).set t.length (y.1,max y.2 s[i].2)=arr2 s (j++[s[i]]) (i+1):=by
 unfold arr2;have e2:JE (y::t) s[i]=(y.1,max y.2 s[i].2)::t:=by show(if s[i].1≤y.2 then _ else _)=_;rw[AB Hs]
 rw[Ft s i h,e,e2,EK,EK,BU,List.set_append_right _ _ (by rw[Dg];exact Ao _),Dg,Ff,ay s i h];simp
theorem B5{α:Type}{enc:α→List AV}{l:List α}{i:Nat}{x:α}(h:l[i]?=some x):(l.map enc)[i]?=some (enc x):=by rw[AI,h];rfl
theorem W5(l:List (Int×Int))(hl:CK l):PC 116 [sl Ae l] (sl Ae (canon l)):=by
 have hl:l.length≤1073741824:=hl;refine GM (dW (zz [(3,2)] [5,14,15,16])) rfl CG hm rfl Tryz.func116 (by kernel_rfl) rfl (Nz rfl) (by kernel_rfl) ?_;refine Xi {i:Nat // i≤l.length} (Xi (fun i=>⟨[(0,sl Ae l),(3,.msl 3 (CJ (l.take i.1)).length),(9,sl Ae l),(10,vi (l.map Ae).length),(11,vi i.1)],[(3,FK (CJ (l.take i.1)))],Aa⟩) (Xi (fun i=>l.length-i.1) (Yi (Xi ⟨0,by simp⟩ ?_) ?_)))
 ·exact⟨Z5,Z1,Fh,Tv⟩
 ·intro⟨i,h1⟩;have hn:=So l i;refine Yi ?_ ?_
  ·intro h;have h:(i:Int)<(l.map Ae).length:=h;have h:i<l.length:=by simpa using h
   have hg:l[i]?=some l[i]:=Ge h;refine Xi (Ae l[i]) (Yi (Yi (Nn i) (by simp[hg])) (Yi rfl ?_));refine Yi (Nz rfl) (Yi (Nz rfl) ?_);refine Xi ⟨[(0,sl Ae l),(3,.msl 3 (CJ (l.take i)).length),(5,.ref 5 0),(9,sl Ae l),(10,vi (l.map Ae).length),(11,vi i)],[(3,FK (CJ (l.take i))),(5,.cells (Ae l[i]))],Aa⟩ (Yi ⟨Z6,Z2,Fh,Tv⟩ ?_)
   refine Yi (Nz rfl) ?_;refine Yi ?_ ?_
   ·intro h3;have h3:(D6 l[i]).1<(D6 l[i]).2:=h3;refine Yi (Nz rfl) ?_;have GI:B1 2 [[vi (max l[i].1 0),vi (min l[i].2 1000000)]]∧((CJ (l.take i)).map Ae).length=(CJ (l.take i)).length∧(((CJ (l.take i)).map Ae).length+[[vi (max l[i].1 0),vi (min l[i].2 1000000)]].length)*16≤140737488355328∧((CJ (l.take i)).map Ae).length+[[vi (max l[i].1 0),vi (min l[i].2 1000000)]].length≤9223372036854775807 :=
     ⟨⟨rfl,trivial⟩,by rw[Lm],by rw[Lm,AC];omega,by rw[Lm,AC];omega⟩
    refine Yi GI ?_;refine Yi (Ii i (by omega)) ?_;refine Xi ⟨i+1,by omega⟩ ?_;have e1:AV.msl 3 (((CJ (l.take i)).map Ae).length+[[vi (max l[i].1 0),vi (min l[i].2 1000000)]].length)=.msl 3 (CJ (l.take (i+1))).length:=by rw[PA h h3];simp
    have e2:HO.arr 2 ((CJ (l.take i)).map Ae++[[vi (max l[i].1 0),vi (min l[i].2 1000000)]])=FK (CJ (l.take (i+1))):=by rw[PA h h3];simp[D6]
    exact⟨Dl l.length i (by omega),⟨Zr,⟨e1,rfl⟩,Zr,Zr,Zr,Tv⟩,⟨⟨e2,rfl⟩,Tv⟩,Fh,Tv⟩
   ·intro h3;have h3:¬(D6 l[i]).1<(D6 l[i]).2:=h3;refine Yi (Ii i (by omega)) ?_;refine Xi ⟨i+1,by omega⟩ ?_;have e1:AV.msl 3 (CJ (l.take i)).length=.msl 3 (CJ (l.take (i+1))).length:=by rw[Sn h h3]
    have e2:FK (CJ (l.take i))=FK (CJ (l.take (i+1))):=by rw[Sn h h3]
    exact⟨Dl l.length i (by omega),⟨Zr,⟨e1,rfl⟩,Zr,Zr,Zr,Tv⟩,⟨⟨e2,rfl⟩,Tv⟩,Fh,Tv⟩
  ·intro h;have h:¬(i:Int)<(l.map Ae).length:=h;have h:¬i<l.length:=by simpa using h
   have ei:CJ (l.take i)=CJ l:=by rw[Az (by omega)]
   have hN:(CJ (l.take i)).length=(CJ l).length:=by rw[ei]
   refine Xi (.gen [(3,1000)] 0) (Yi rfl ((uo (CJ (l.take i)) (by unfold CK;omega) (fun x hx=>by have:=UP hx;omega)).to ?_));intro s hs;have T5:s.length=(CJ (l.take i)).length:=hs.1.length_eq;have hsN:s.length≤1073741824:=by omega
   have fin:(Bv s).reverse=canon l:=LD (by rw[←ei];exact hs.1) hs.2;refine Xi {p:Nat×A9 // p.1≤s.length∧(Bv (s.take p.1)).length+p.2.length=p.1} (Xi (fun p=>⟨[(3,.msl 3 (CJ (l.take i)).length),(6,vi (Bv (s.take p.1.1)).length),(34,.msl 3 (CJ (l.take i)).length),(35,vi (CJ (l.take i)).length),(36,vi p.1.1)],[(3,FK (arr2 s p.1.2 p.1.1))],Aa⟩) (Xi (fun p=>s.length-p.1.1) (Yi (Xi ⟨(0,[]),AL _,rfl⟩ ?_) ?_)))
   ·exact⟨Z5,Z1,Fh,Tv⟩
   intro⟨⟨k,j⟩,k1,k2⟩;have k1:k≤s.length:=k1;have k2:(Bv (s.take k)).length+j.length=k:=k2;have CW:=eK s j k k1 k2;have SU:(CJ (l.take i)).length=((arr2 s j k).map Ae).length:=by rw[Lm,CW,T5]
   refine Yi ?_ ?_
   ·intro h2;have h2:(k:Int)<(CJ (l.take i)).length:=h2;have hk:k<s.length:=by omega
    have Rj:=B5 (enc:=Ae) (jS s j k hk k2);refine Yi ⟨by show(0:Int)≤k;omega,by show(k:Int)<_;omega⟩ ?_;refine Yi SU (Xi (Ae s[k]) (Yi Rj (Yi (Nz rfl) (Yi (Nz rfl) ?_))));refine Xi ⟨[(3,.msl 3 (CJ (l.take i)).length),(6,vi (Bv (s.take k)).length),(7,vi k),(8,.ref 8 0),(34,.msl 3 (CJ (l.take i)).length),(35,vi (CJ (l.take i)).length),(36,vi k)],[(3,FK (arr2 s j k)),(8,.cells (Ae s[k]))],Aa⟩ (Yi ⟨Z7,Z2,Fh,Tv⟩ ?_)
    have hr:=NR s k k1;refine BG (Nat.eq_zero_or_pos k) (fun k0=>?_) (fun k0=>?_)
    ·refine Yi ?_ ?_
     ·intro h4;have h4:(0:Int)<k:=h4;omega
     ·intro _;refine Yi (by kernel_rfl) ?_;have Gy:JE (Bv (s.take k)) s[k]=s[k]::Bv (s.take k):=by subst k0;rfl
      have d6:(Bv (s.take k)).length<(arr2 s j k).length:=by omega
      have hz:=B5 (enc:=Ae) (Ge d6);refine Xi ⟨[(3,.msl 3 (CJ (l.take i)).length),(6,vi (Bv (s.take k)).length),(8,.ref 8 0),(34,.msl 3 (CJ (l.take i)).length),(35,vi (CJ (l.take i)).length),(36,vi k)],[(3,FK (arr2 s j k)),(8,.cells (Ae s[k]))],Aa⟩ (Yi ⟨⟨⟨rfl,rfl⟩,⟨rfl,rfl⟩,⟨rfl,rfl⟩,⟨rfl,rfl⟩,⟨rfl,rfl⟩,⟨rfl,rfl⟩,Tv⟩,⟨⟨rfl,rfl⟩,⟨rfl,rfl⟩,Tv⟩,Fh,Tv⟩ ?_);refine Yi (Nz rfl) (Yi ⟨by show(0:Int)≤((Bv (s.take k)).length:Int);omega,by show((Bv (s.take k)).length:Int)<_;omega⟩ ?_);refine Yi SU (Xi (Ae (arr2 s j k)[(Bv (s.take k)).length]) (Yi hz (Yi (Nz rfl) ?_)));refine Yi (by show Bf (((Bv (s.take k)).length:Int)+1);unfold Bf;omega) ?_;refine Yi (Ii k (by omega)) ?_;have hm:=Ft s k hk;have e1:vi (((Bv (s.take k)).length:Int)+1)=vi (Bv (s.take (k+1))).length:=by rw[hm,Gy];simp
      have e2:HO.arr 2 (((arr2 s j k).map Ae).set (Bv (s.take k)).length [vi s[k].1,vi s[k].2])=FK (arr2 s (j++[s[k]]).tail (k+1)):=by rw[←UG s j k hk Gy];simp only[FK,Ny]
      refine Xi ⟨(k+1,(j++[s[k]]).tail),by show k+1≤s.length;omega,by show(Bv (s.take (k+1))).length+((j++[s[k]]).tail).length=k+1;rw[hm,Gy];simp;omega⟩ ?_;exact⟨Dl s.length k (by omega),⟨Zr,⟨e1,rfl⟩,Zr,Zr,Zr,Tv⟩,⟨⟨e2,rfl⟩,Tv⟩,Fh,Tv⟩
    ·refine Yi ?_ ?_
     ·intro _;obtain⟨y,t,e⟩:∃y t,Bv (s.take k)=y::t:=by
       cases hc:Bv (s.take k)with
       |nil=>have:=hr.2 k0;rw[hc]at this;simp at this
       |cons y t=>exact⟨y,t,rfl⟩
      have ht:(((Bv (s.take k)).length:Int)-1).toNat=t.length:=by rw[e];simp
      have hy:((arr2 s j k).map Ae)[(((Bv (s.take k)).length:Int)-1).toNat]?=some (Ae y):=by rw[ht];exact B5 (bI s j k e)
      refine Yi (by show Bf (((Bv (s.take k)).length:Int)-1);unfold Bf;omega) ?_;have Zq:=hr.2 k0;refine Yi ⟨by show(0:Int)≤((Bv (s.take k)).length:Int)-1;omega,by show((Bv (s.take k)).length:Int)-1<_;omega⟩ ?_;refine Yi SU (Xi (Ae y) (Yi hy ?_));refine Yi ?_ ?_
      ·intro h5;have h5:s[k].1≤y.2:=h5;refine Yi (by kernel_rfl) ?_;refine Xi ⟨[(3,.msl 3 (CJ (l.take i)).length),(6,vi (Bv (s.take k)).length),(8,.ref 8 0),(34,.msl 3 (CJ (l.take i)).length),(35,vi (CJ (l.take i)).length),(36,vi k)],[(3,FK (arr2 s j k)),(8,.cells (Ae s[k]))],Aa⟩ (Yi ⟨⟨⟨rfl,rfl⟩,⟨rfl,rfl⟩,⟨rfl,rfl⟩,⟨rfl,rfl⟩,⟨rfl,rfl⟩,⟨rfl,rfl⟩,Tv⟩,⟨⟨rfl,rfl⟩,⟨rfl,rfl⟩,Tv⟩,Fh,Tv⟩ ?_);refine Yi (by show Bf (((Bv (s.take k)).length:Int)-1);unfold Bf;omega) (Yi (by show Bf (((Bv (s.take k)).length:Int)-1);unfold Bf;omega) ?_);refine Yi ⟨by show(0:Int)≤((Bv (s.take k)).length:Int)-1;omega,by show((Bv (s.take k)).length:Int)-1<_;omega⟩ ?_;refine Yi SU (Xi (Ae y) (Yi hy ?_));refine Yi ⟨by show(0:Int)≤((Bv (s.take k)).length:Int)-1;omega,by show((Bv (s.take k)).length:Int)-1<_;omega⟩ ?_;refine Yi SU (Xi (Ae y) (Yi hy (Yi (Nz rfl) ?_)));refine Yi (by kernel_rfl) ?_;refine Yi (Ii k (by omega)) ?_;have hm:=Ft s k hk;have Gy:JE (Bv (s.take k)) s[k]=(y.1,max y.2 s[k].2)::t:=by rw[e];show(if s[k].1≤y.2 then _ else _)=_;rw[AB h5]
       have e1:vi (Bv (s.take k)).length=vi (Bv (s.take (k+1))).length:=by rw[hm,Gy,e];simp
       have e2:HO.arr 2 (((arr2 s j k).map Ae).set (((Bv (s.take k)).length:Int)-1).toNat [vi y.1,vi (max y.2 s[k].2)])=FK (arr2 s (j++[s[k]]) (k+1)):=by rw[←bH s j k hk e h5,ht];simp only[FK,Ny]
       refine Xi ⟨(k+1,j++[s[k]]),by show k+1≤s.length;omega,by show(Bv (s.take (k+1))).length+(j++[s[k]]).length=k+1;rw[hm,Gy,Ad,AC];rw[e]at k2;simp only[Ak]at k2⊢;omega⟩ ?_;exact⟨Dl s.length k (by omega),⟨Zr,⟨e1,rfl⟩,Zr,Zr,Zr,Tv⟩,⟨⟨e2,rfl⟩,Tv⟩,Fh,Tv⟩
      ·intro h5;have h5:¬s[k].1≤y.2:=h5;refine Yi (by kernel_rfl) ?_;have Gy:JE (Bv (s.take k)) s[k]=s[k]::Bv (s.take k):=by rw[e];show(if s[k].1≤y.2 then _ else _)=_;rw[Ar h5]
       have d6:(Bv (s.take k)).length<(arr2 s j k).length:=by omega
       have hz:=B5 (enc:=Ae) (Ge d6);refine Xi ⟨[(3,.msl 3 (CJ (l.take i)).length),(6,vi (Bv (s.take k)).length),(8,.ref 8 0),(34,.msl 3 (CJ (l.take i)).length),(35,vi (CJ (l.take i)).length),(36,vi k)],[(3,FK (arr2 s j k)),(8,.cells (Ae s[k]))],Aa⟩ (Yi ⟨⟨⟨rfl,rfl⟩,⟨rfl,rfl⟩,⟨rfl,rfl⟩,⟨rfl,rfl⟩,⟨rfl,rfl⟩,⟨rfl,rfl⟩,Tv⟩,⟨⟨rfl,rfl⟩,⟨rfl,rfl⟩,Tv⟩,Fh,Tv⟩ ?_);refine Yi (Nz rfl) (Yi ⟨by show(0:Int)≤((Bv (s.take k)).length:Int);omega,by show((Bv (s.take k)).length:Int)<_;omega⟩ ?_);refine Yi SU (Xi (Ae (arr2 s j k)[(Bv (s.take k)).length]) (Yi hz (Yi (Nz rfl) ?_)));refine Yi (by show Bf (((Bv (s.take k)).length:Int)+1);unfold Bf;omega) ?_;refine Yi (Ii k (by omega)) ?_;have hm:=Ft s k hk;have e1:vi (((Bv (s.take k)).length:Int)+1)=vi (Bv (s.take (k+1))).length:=by rw[hm,Gy];simp
       have e2:HO.arr 2 (((arr2 s j k).map Ae).set (Bv (s.take k)).length [vi s[k].1,vi s[k].2])=FK (arr2 s (j++[s[k]]).tail (k+1)):=by rw[←UG s j k hk Gy];simp only[FK,Ny]
       refine Xi ⟨(k+1,(j++[s[k]]).tail),by show k+1≤s.length;omega,by show(Bv (s.take (k+1))).length+((j++[s[k]]).tail).length=k+1;rw[hm,Gy];simp;omega⟩ ?_;exact⟨Dl s.length k (by omega),⟨Zr,⟨e1,rfl⟩,Zr,Zr,Zr,Tv⟩,⟨⟨e2,rfl⟩,Tv⟩,Fh,Tv⟩
     ·intro h4;have h4:¬(0:Int)<k:=h4;omega
   ·intro h2;have h2:¬(k:Int)<(CJ (l.take i)).length:=h2;have hk:k=s.length:=by omega
    have hr:=NR s k k1;have cq:((((arr2 s j k).map Ae).take ((Bv (s.take k)).length:Int).toNat).drop 0)=(canon l).map Ae:=by
     rw[Ko,A6,←Rg,←fin];unfold arr2
     have:(Bv (s.take k)).length=(Bv (s.take k)).reverse.length:=by rw[Dg]
     rw[this,List.take_left,hk,Do]
    refine Yi ⟨SU,by show(0:Int)≤0;omega,by show(0:Int)≤((Bv (s.take k)).length:Int);omega,by show((Bv (s.take k)).length:Int)≤(((arr2 s j k).map Ae).length:Int);omega,.inr ⟨rfl,by simp⟩⟩ ?_;exact .of_eq (Ac (AV.slice .none) cq)
end Go.Eng

namespace Go.Eng
open Go.Proofs Go.Sort
abbrev Cr(z:Int):List AV:=[vi z]
theorem Vq{α:Type}[Inhabited α](enc:α→Value)(w:World)(b:Nat)(d:Array α):putRow enc w b 0 d=putRow id w b 0 (d.map enc):=by
 unfold putRow
 congr 1
 funext c
 unfold putCells;apply RP
 ·simp
 ·intro i h1 h2;simp only[Array.getElem_mapIdx,Array.size_map]
  by_cases h:i<d.size
  ·rw[AB (by omega),AB (by omega)];rw[DN d (i-0) (by omega),DN (d.map enc) (i-0) (by simpa using h)];simp
  ·rw[Ar (by omega),Ar (by omega)]
theorem MI(zs:List Int):(zs.map Cr).flatten=(zs.map fun z=>Value.int .i64 z).map AV.v:=by
 induction zs with
 |nil=>rfl
 |cons z zs ih=>rw[AN,Bq,ih];rfl
theorem Qf(g:Gh)(w:World)(U:Nat→Prop)(vs:List Value)(h:∀x∈vs,x.oneCell'=true):CT g w U (vs.map .v) vs :=
 ⟨by simp,h,fun i av x q1 q2=>by
  rw[AI,q2]at q1;cases q1;exact .v _ _⟩
theorem O8{g:Gh}{w:World}{U:Nat→Prop}{vs us:List Value}(h:CT g w U (vs.map .v) us):us=vs:=by
 apply Dq;intro i;have hl:=h.1;rw[Lm]at hl
 by_cases hi:i<vs.length
 ·have:=h.2.2 i (.v vs[i]) us[i] (by rw[AI,Ge hi];rfl) (Ge (by omega))
  rw[Ge hi,Ge (by omega),this.v_eq]
 ·rw[A4 (by omega),A4 (by omega)]
theorem uz(zs:List Int)(hl:CK zs)(Dy:zs≠[]) :
  Bo Tryz.prog 261 [.msl 1000 zs.length] (Af [(1000,.arr 1 (zs.map Cr))] Aa) fun r h' =>
   r=.tup []∧∃l' : List Int,(l'.Perm zs∧l'.Pairwise fun a b=>a≤b)∧h'=Af [(1000,.arr 1 (l'.map Cr))] Aa:=by
 have hl:zs.length≤1073741824:=hl;have hE:Gd Tryz.prog 261:=fA 261 Tryz.func261 (by kernel_rfl) rfl;have Iu:=UC (P:=Tryz.prog) (f:=261) (es:=zs.map Cr) (sz:=1) (rest:=[]) (Q:=fun EM=>∃l' : List Int,(l'.Perm zs∧l'.Pairwise fun a b=>a≤b)∧EM=l'.map Cr) hE ?_ ?_
 ·rw[Lm]at Iu;refine⟨hE,fun g w vals q1 q2 q3=>(Iu.2 g w vals q1 q2 q3).mono fun _ _ ⟨v,r,h',g',e1,⟨e2,EM,⟨l',p1,p2⟩,p3⟩,rest⟩=>⟨v,r,h',g',e1,⟨e2,l',p1,by rw[p3,p2]⟩,rest⟩⟩
 ·intro e
  have:zs=[]:=by simpa using e
  exact absurd this Dy
 ·intro g w b cap F hr hF hH hb;have vE:F.toList=zs.map fun z=>Value.int .i64 z:=O8 (by rw[←MI];exact hr);have nG:F=zs.toArray.map fun z=>Value.int .i64 z:=LK.1 (by rw[vE];simp);have vG:Holds (Value.int .i64) w b 0 zs.toArray:=fun j hj=>by
   have:=hH j (by rw[nG];simpa using hj)
   refine⟨this.1.trans ?_,this.2⟩;rw[nG,DN _ j (by simpa using hj),DN _ j hj];simp
  have hc:=Any.slices_Sort_int Tryz.laySortInts b 0 cap zs w vG hb (by omega);rw[Lm];refine hc.mono ?_
  rintro e w' ⟨rfl,n,os,rfl⟩
  have JU:(zs.mergeSort fun x y=>decide (x≤y)).Perm zs:=List.mergeSort_perm _ _;have CW:=JU.length_eq;refine⟨rfl,(zs.mergeSort fun x y=>decide (x≤y)).toArray.map fun z=>Value.int .i64 z,(zs.mergeSort fun x y=>decide (x≤y)).map Cr,n,os,?_,⟨_,⟨JU,?_⟩,rfl⟩,by simp[CW],fun cs hcs=>?_,fun g w _=>?_,by rw[Vq]⟩
  ·rw[nG];simp[CW]
  ·have:=List.pairwise_mergeSort (le:=fun x y:Int=>decide (x≤y)) (fun a b c h1 h2=>by simp only[AE]at *;omega) (fun a b=>by simp only[CQ,AE];omega) zs
   exact this.imp fun h=>Cm h
  ·obtain⟨x,_,rfl⟩:=Aq.1 hcs;rfl
  ·rw[MI];have e:((zs.mergeSort fun x y=>decide (x≤y)).toArray.map fun z=>Value.int .i64 z).toList=(zs.mergeSort fun x y=>decide (x≤y)).map fun z=>Value.int .i64 z:=by simp
   rw[e];exact Qf _ _ _ _ fun x hx=>by
    obtain⟨z,_,rfl⟩:=Aq.1 hx;rfl

-- maps from numbers to numbers
abbrev WG:EL:=⟨false,[.int .i64]⟩
abbrev kI(z:Int):Value:=.int .i64 z
abbrev LU(p:Int×Int):Value×AV:=(kI p.1,vi p.2)
abbrev Fy(s:A9):List AV:=[sl Ae s]
theorem RD{m:List (Int×Int)}{k:Int}{a:AV}:(kI k,a)∈m.map LU↔∃v,(k,v)∈m∧a=vi v:=by
 rw[Aq];constructor
 ·rintro⟨⟨k',v⟩,h1,h2⟩
  simp only[FV,Value.int.injEq,true_and]at h2;obtain⟨rfl,rfl⟩:=h2;exact⟨v,h1,rfl⟩
 ·rintro⟨v,h1,rfl⟩
  exact⟨(k,v),h1,rfl⟩
theorem RF(m:List (Int×Int))(k v:Int):Fa (m.map LU) (kI k) (vi v)=(Lr m k v).map LU:=by
 unfold Lr
 by_cases h:(m.any fun p=>decide (p.1=k))=true
 ·rw[AB h];obtain⟨p,h1,h2⟩:=A3.1 h;have h2:=Cm h2
  have:(kI k,vi p.2)∈m.map LU:=RD.2 ⟨p.2,by rw[←h2];exact h1,rfl⟩
  rw[PX this,BX,BX];apply Ba;intro q _;simp only[Function.comp]
  by_cases e:q.1=k
  ·simp[e]
  ·have:¬kI q.1=kI k:=fun c=>e (by injection c)
   simp[e]
 ·rw[Ar h]
  have:∀b,(kI k,b)∉m.map LU:=fun b hb=>by
   obtain⟨v,h1,_⟩:=RD.1 hb;exact h (A3.2 ⟨(k,v),h1,by simp⟩)
  rw[PW this,AA];rfl
theorem OJ{T:GQ}{e:Nat}{Cb:List (Value×AV)}{kx:Value}{K:AV→Prop}(a0 z0:AV)(h1:∀a,(kx,a)∈Cb→a=a0)(hz:(∀a,(kx,a)∉Cb)→a0=z0)(h2:K z0→Kl T e K)(k:K a0) :
  (∀a,(kx,a)∈Cb→K a)∧((∀a,(kx,a)∉Cb)→Kl T e K):=⟨fun a h=>by rw[h1 a h];exact k,fun hn=>h2 (hz hn▸k)⟩
theorem Qs(m:List (Int×Int))(k:Int):(∀a,(kI k,a)∉m.map LU)→vi (Fw m k)=vi 0:=fun NK=>by
 rw[jr fun hk=>by
  obtain⟨p,hp,e⟩:=Aq.1 hk;exact NK (vi p.2) (RD.2 ⟨p.2,by rw[←e];exact hp,rfl⟩)]
theorem Qr{m:List (Int×Int)}(hn:(Fd m).Nodup)(k:Int):∀a,(kI k,a)∈m.map LU→a=vi (Fw m k):=fun a h=>by
 obtain⟨v,h1,rfl⟩:=RD.1 h;rw[jq hn h1]
theorem Il.bound{m:List (Int×Int)}{S:A9}(h:Il m S)(k:Int):-(S.length:Int)≤Fw m k∧Fw m k≤S.length:=by
 rw[h.val]
 have:cF S k≤S.length:=List.countP_le_length
 have:cT S k≤S.length:=List.countP_le_length
 omega
theorem Zb(l:List A9):(l.map canon).flatten.length≤l.length*1000000:=by
 induction l with
 |nil=>simp
 |cons s l ih =>
  rw[AN,Bq,Ad,Ak]
  have:=H8 (Cq s)
  omega
theorem Il.few{m:List (Int×Int)}{S:A9}(h:Il m S):m.length≤1000001:=by
 have:=Ij (m:=(List.range 1000001).map Int.ofNat) h.nd fun k hk=>by
  have:=h.rng k hk
  exact Aq.2 ⟨k.toNat,Oc.2 (by omega),by show(k.toNat:Int)=k;omega⟩
 unfold Fd at this;rw[Lm,Lm,List.length_range]at this;exact this
theorem U8(keep:Nat→Bool)(m:List (Int×Int))(B:List Int):∀n,(EA keep m B n).length≤n
 |0=>Ao _
 |n+1=>by
  unfold EA
  have:=U8 keep m B n
  rw[Ad];split
  ·split<;>simp<;>omega
  ·simp;omega
end Go.Eng

namespace Go.Eng
open Go.Proofs
abbrev plC:QA:=⟨[],[(12,2)],[(44,1)],[],[],[],[],[],[],[],[8,9,15,23,25,26]⟩
theorem na(F:AV)(keep:Nat→Bool)(l:List A9)(hl:CK l)(hs:∀s∈l,CK s)(hid:∀h,Wm h F=true)(hF:∀h (n:Int),0≤n→n≤l.length→Pq Tryz.prog (str h F) [vi n] (vb (keep n.toNat)))
  (R:A9) (hR:EJ R) (hRh:∀p,has R p=(LT p&&keep (dV l p))):PC 222 [F,sl Fy l] (sl Ae R):=by
 have hl:l.length≤1073741824:=hl;refine Ps plC Tryz.func222 rfl (Nz rfl) ?_;refine Xi {p:Nat×List (Int×Int) // p.1≤l.length∧Il p.2 ((l.take p.1).map canon).flatten} (Xi (fun p=>⟨[(0,F),(5,.mref 15),(17,sl Fy l),(18,vi (l.map Fy).length),(19,vi p.1.1)],[(15,.map WG (p.1.2.map LU))],Aa⟩) (Xi (fun p=>l.length-p.1.1) (Yi (Xi ⟨(0,qy),AL _,ka⟩ ?_) ?_)))
 ·have e0:HO.map WG (Fa (Fa [] (kI 0) (vi 0)) (kI 1000000) (vi 0))=.map WG (qy.map LU):=by
   have e1:=RF [] 0 0;have e2:=RF [(0,0)] 1000000 0;show HO.map WG (Fa (Fa (List.map LU []) (kI 0) (vi 0)) (kI 1000000) (vi 0))=_;rw[e1];show HO.map WG (Fa (List.map LU [(0,0)]) (kI 1000000) (vi 0))=_;rw[e2];rfl
  exact⟨⟨⟨rfl,hid _⟩,Zr,Zr,Zr,Zr,Tv⟩,⟨⟨e0,rfl⟩,Tv⟩,Fh,Tv⟩
 intro⟨⟨i,cm⟩,i1,i2⟩;have i1:i≤l.length:=i1;have i2:Il cm ((l.take i).map canon).flatten:=i2;refine Yi ?_ ?_
 ·intro h;have h:(i:Int)<(l.map Fy).length:=h;have h:i<l.length:=by simpa using h
  have hg:l[i]?=some l[i]:=Ge h;refine Xi (Fy l[i]) (Yi (Yi (Nn i) (by simp[hg])) (Yi rfl ?_));refine Xi .pure (Xi _ (Yi (W5 l[i] (hs _ (Aj h))) ?_));refine Xi {p:Nat×List (Int×Int) // p.1≤(canon l[i]).length∧Il p.2 (((l.take i).map canon).flatten++(canon l[i]).take p.1)} (Xi (fun p=>⟨[(0,F),(5,.mref 15),(17,sl Fy l),(18,vi (l.map Fy).length),(19,vi i),(24,sl Ae (canon l[i])),(25,vi ((canon l[i]).map Ae).length),(26,vi p.1.1)],[(15,.map WG (p.1.2.map LU))],Aa⟩) (Xi (fun p=>(canon l[i]).length-p.1.1) (Yi (Xi ⟨(0,cm),AL _,by rw[List.take_zero,CY];exact i2⟩ ?_) ?_)))
  ·exact⟨⟨⟨rfl,hid _⟩,Zr,Zr,Zr,Zr,Zr,Zr,Zr,Tv⟩,Z1,Fh,Tv⟩
  intro⟨⟨j,dm⟩,j1,j2⟩;have j1:j≤(canon l[i]).length:=j1;have j2:Il dm (((l.take i).map canon).flatten++(canon l[i]).take j):=j2;have hS:(((l.take i).map canon).flatten++(canon l[i]).take j).length≤1073741825000000:=by
   have a1:=Zb (l.take i);have a2:=H8 (Cq l[i]);rw[AK]at a1;rw[Ad,AK];omega
  refine Yi ?_ ?_
  ·intro hj;have hj:(j:Int)<((canon l[i]).map Ae).length:=hj;have hj:j<(canon l[i]).length:=by simpa using hj
   have pz:(canon l[i])[j]?=some (canon l[i])[j]:=Ge hj;have my:=(Cq l[i]).low _ (Aj hj);have j3:Il (Yy dm (canon l[i])[j]) (((l.take i).map canon).flatten++(canon l[i]).take (j+1)):=by
    have:=dK j2 (x:=(canon l[i])[j]) my
    rw[BU]at this;rw[Bb,pz];exact this
   generalize (canon l[i])[j]=x at pz my j3;have b1:=j2.bound x.1;have d6:=Mn j2.nd x.1 (Fw dm x.1+1);refine Xi (Ae x) (Yi (Yi (Nn j) (by simp[pz])) (Yi rfl ?_));refine Yi (Nz rfl) (Yi (Nz rfl) ?_);refine Xi ⟨[(0,F),(5,.mref 15),(9,.ref 9 0),(17,sl Fy l),(18,vi (l.map Fy).length),(19,vi i),(24,sl Ae (canon l[i])),(25,vi ((canon l[i]).map Ae).length),(26,vi j)],[(9,.cells (Ae x)),(15,.map WG (dm.map LU))],Aa⟩ (Yi ⟨⟨⟨rfl,hid _⟩,Zr,Zr,Zr,Zr,Zr,Zr,Zr,Zr,Tv⟩,Z2,Fh,Tv⟩ ?_)
   refine OJ (vi (Fw dm x.1)) (vi 0) (Qr j2.nd x.1) (Qs dm x.1) (fun q=>q) ?_;refine Yi (by show Bf (Fw dm x.1+1);unfold Bf;omega) ?_;have m1:HO.map WG (Fa (dm.map LU) (kI x.1) (vi (Fw dm x.1+1)))=.map WG ((Lr dm x.1 (Fw dm x.1+1)).map LU):=by rw[RF]
   refine Xi ⟨[(0,F),(5,.mref 15),(9,.ref 9 0),(17,sl Fy l),(18,vi (l.map Fy).length),(19,vi i),(24,sl Ae (canon l[i])),(25,vi ((canon l[i]).map Ae).length),(26,vi j)],[(9,.cells (Ae x)),(15,.map WG ((Lr dm x.1 (Fw dm x.1+1)).map LU))],Aa⟩ (Yi ⟨⟨⟨rfl,hid _⟩,Zr,Zr,Zr,Zr,Zr,Zr,Zr,Zr,Tv⟩,⟨Zr,⟨m1,rfl⟩,Tv⟩,Fh,Tv⟩ ?_)
   have b2:-(1073741825000001:Int)≤Fw (Lr dm x.1 (Fw dm x.1+1)) x.2∧Fw (Lr dm x.1 (Fw dm x.1+1)) x.2≤1073741825000001:=by
    have b3:=j2.bound x.2;rw[Pj];split<;>omega
   refine OJ (vi (Fw (Lr dm x.1 (Fw dm x.1+1)) x.2)) (vi 0) (Qr d6 x.2) (Qs _ x.2) (fun q=>q) ?_;refine Yi (by show Bf (Fw (Lr dm x.1 (Fw dm x.1+1)) x.2-1);unfold Bf;omega) ?_;have hcl:=H8 (Cq l[i]);refine Yi (Ii j (by omega)) ?_;have m2:HO.map WG (Fa ((Lr dm x.1 (Fw dm x.1+1)).map LU) (kI x.2) (vi (Fw (Lr dm x.1 (Fw dm x.1+1)) x.2-1)))=.map WG ((Yy dm x).map LU):=by rw[RF];rfl
   refine Xi ⟨(j+1,Yy dm x),by show j+1≤_;omega,j3⟩ ?_;exact⟨by show(canon l[i]).length-(j+1)<(canon l[i]).length-j;omega,⟨⟨rfl,hid _⟩,Zr,Zr,Zr,Zr,Zr,Zr,Zr,Tv⟩,⟨⟨m2,rfl⟩,Tv⟩,Fh,Tv⟩
  ·intro hj;have hj:¬(j:Int)<((canon l[i]).map Ae).length:=hj;have hj:¬j<(canon l[i]).length:=by simpa using hj
   refine Yi (Ii i (by omega)) ?_;have i3:Il dm ((l.take (i+1)).map canon).flatten:=by
    have e1:(canon l[i]).take j=canon l[i]:=Az (by omega);rw[e1]at j2;have e2:((l.take (i+1)).map canon).flatten=((l.take i).map canon).flatten++canon l[i]:=by
     rw[Bb,hg,AA,Cc];show _++(canon l[i]++[])=_;rw[CY]
    rw[e2];exact j2
   refine Xi ⟨(i+1,dm),by show i+1≤_;omega,i3⟩ ?_;exact⟨Dl l.length i (by omega),⟨⟨rfl,hid _⟩,Zr,Zr,Zr,Zr,Tv⟩,Z1,Fh,Tv⟩
 ·intro h;have h:¬(i:Int)<(l.map Fy).length:=h;have h:¬i<l.length:=by simpa using h
  have i3:Il cm (l.map canon).flatten:=by
   rw[Az (by omega)]at i2;exact i2
  have rp:=i3.few;have rI:(0:Int)≤0∧(0:Int)≤((cm.map LU).length:Int)∧((cm.map LU).length:Int)*((8:Nat):Int)≤140737488355328∧((cm.map LU).length:Int)≤9223372036854775807:=by rw[Lm];omega
  refine Yi rI ?_;refine Xi {p:List (Value×AV)×List Int×Option (Value×AV) // ((p.2.1.map kI)++p.1.map (·.1)).Perm ((cm.map LU).map (·.1))∧∀kv∈p.1,kv∈cm.map LU} (Xi (fun p=>⟨[(0,F),(5,.mref 15),(10,.msl 44 p.1.2.1.length),(46,.ref 46 0)],[(15,.rom WG (cm.map LU)),(44,.arr 1 (p.1.2.1.map Cr)),(46,.iter (cm.map LU) p.1.1 p.1.2.2)],Aa⟩) (Xi (fun p=>p.1.1.length) (Yi (Xi ⟨(cm.map LU,[],none),.refl _,fun _ h=>h⟩ ?_) ?_)))
  ·exact⟨⟨⟨rfl,hid _⟩,Zr,Zr,Zr,Tv⟩,Z3,Fh,Tv⟩
  intro⟨⟨rem,bs,F6⟩,r1,r2⟩;have r1:((bs.map kI)++rem.map (·.1)).Perm ((cm.map LU).map (·.1)):=r1;have r2:∀kv∈rem,kv∈cm.map LU:=r2;have hbl:bs.length≤1000001:=by
   have:=r1.length_eq
   simp only[Ad,Lm]at this;omega
  refine Yi ?_ ?_
  ·intro hr;have hr:rem=[]:=hr;subst hr;rw[Fe,CY,BX]at r1;have wM:bs.Perm (Fd cm):=by
    have r1:(bs.map kI).Perm ((Fd cm).map kI):=by unfold Fd;rw[BX];exact r1
    have:=r1.map (fun v:Value=>match v with | .int _ n=>n | _=>0)
    rw[BX,BX]at this;have e:((fun v:Value=>match v with | .int _ n=>n | _=>0) ∘ kI)=id:=rfl;rw[e,LZ,LZ]at this;exact this
   have Dy:bs≠[]:=fun e=>by
    subst e
    have:=wM.length_eq
    have h0:=i3.keys.1;rw[AJ this.symm]at h0;cases h0
   refine Xi (.gen [(44,1000)] 0) (Yi rfl ((uz bs (by unfold CK;omega) Dy).to ?_));intro B qI;have fY:B.length=bs.length:=qI.1.length_eq;have hBn:B.Nodup:=(qI.1.trans wM).nodup_iff.2 i3.nd;have hB:jL B cm:=⟨qI.1.trans wM,by
    rw[Bl];intro a b ha hb mf;have h1:=(Bl.1 qI.2) a b ha hb mf;have h2:B[a]≠B[b]:=(Bl.1 hBn) a b ha hb mf;omega⟩
   have yO:0<B.length:=by
    rw[fY];exact GT.2 Dy
   have vK:bs.length=(B.map Cr).length:=by rw[Lm,fY]
   refine Yi (by show Bf ((bs.length:Int)-1);unfold Bf;omega) ?_;refine Xi {k:Nat // k≤B.length-1} (Xi (fun k=>⟨[(0,F),(5,.mref 15),(10,.msl 44 bs.length),(12,.slice (.id 12 2) ((EA keep cm B k.1).map Ae)),(13,vi (Iy cm (B.take k.1))),(59,vi ((bs.length:Int)-1)),(60,vi k.1)],[(12,.tok 2 ((EA keep cm B k.1).map Ae).length),(15,.rom WG (cm.map LU)),(44,.arr 1 (B.map Cr))],Aa⟩) (Xi (fun k=>B.length-k.1) (Yi (Xi ⟨0,AL _⟩ ?_) ?_)))
   ·exact⟨⟨⟨rfl,hid _⟩,Zr,Zr,Zr,Zr,Zr,Zr,Tv⟩,Z3,Fh,Tv⟩
   intro⟨k,k1⟩;have mj:=U8 keep cm B k;refine Yi ?_ ?_
   ·intro hk;have hk:(k:Int)<(bs.length:Int)-1:=hk;have Ia:k+1<B.length:=by omega
    have Zm:k<B.length:=by omega
    have Rj:(B.map Cr)[k]?=some (Cr B[k]):=B5 (Ge Zm);have vX:(B.map Cr)[k+1]?=some (Cr B[k+1]):=B5 (Ge Ia);have cw:=Qp cm B k Zm;have rT:=je i3 hB k Zm;have SQ:EA keep cm B (k+1)=EA keep cm B k++(if keep (Iy cm (B.take (k+1))).toNat then [(B[k],B[k+1])]else []):=by
     show _++(match B[k]?,B[k+1]? with | some a,some b=>if keep (Iy cm (B.take (k+1))).toNat then [(a,b)]else [] | _,_=>[])=_;rw[Ge Zm,Ge Ia]
    refine Xi ⟨[(0,F),(5,.mref 15),(10,.msl 44 bs.length),(12,.slice (.id 12 2) ((EA keep cm B k).map Ae)),(13,vi (Iy cm (B.take k))),(14,vi k),(59,vi ((bs.length:Int)-1)),(60,vi k)],[(12,.tok 2 ((EA keep cm B k).map Ae).length),(15,.rom WG (cm.map LU)),(44,.arr 1 (B.map Cr))],Aa⟩ (Yi ⟨⟨⟨rfl,hid _⟩,Zr,Zr,Zr,Zr,Zr,Zr,Zr,Tv⟩,Z3,Fh,Tv⟩ ?_)
    refine Yi ⟨by show(0:Int)≤k;omega,by show(k:Int)<bs.length;omega⟩ ?_;refine Yi vK (Xi (Cr B[k]) (Yi Rj ?_));refine OJ (vi (Fw cm B[k])) (vi 0) (Qr i3.nd B[k]) (Qs cm B[k]) (fun q=>q) ?_;refine Yi (by show Bf (Iy cm (B.take k)+Fw cm B[k]);rw[←cw];unfold Bf;omega) ?_;have DU:∀h,Pq Tryz.prog (str h F) [vi (Iy cm (B.take k)+Fw cm B[k])] (vb (keep (Iy cm (B.take (k+1))).toNat)):=fun h=>by
     rw[←cw];exact hF h _ rT.1 rT.2
    refine BG (Bt (keep (Iy cm (B.take (k+1))).toNat)) (fun hp=>?_) (fun hp=>?_)
    ·rw[hp]at DU;rw[hp,AB rfl]at SQ;refine Xi .pure (Xi (vb true) (Yi (DU _) ?_));refine Xi ⟨[(0,F),(5,.mref 15),(10,.msl 44 bs.length),(12,.slice (.id 12 2) ((EA keep cm B k).map Ae)),(13,vi (Iy cm (B.take k)+Fw cm B[k])),(14,vi k),(59,vi ((bs.length:Int)-1)),(60,vi k)],[(12,.tok 2 ((EA keep cm B k).map Ae).length),(15,.rom WG (cm.map LU)),(44,.arr 1 (B.map Cr))],Aa⟩ (Yi ⟨⟨⟨rfl,hid _⟩,Zr,Zr,Zr,Zr,Zr,Zr,Zr,Tv⟩,Z3,Fh,Tv⟩ ?_)
     have b1:(0:Int)≤(k:Int)+1∧(k:Int)+1<bs.length:=by omega
     have vY:(B.map Cr)[((k:Int)+1).toNat]?=some (Cr B[k+1]):=by rw[show((k:Int)+1).toNat=k+1 by omega];exact vX
     refine Yi ⟨by show(0:Int)≤k;omega,by show(k:Int)<bs.length;omega⟩ ?_;refine Yi vK (Xi (Cr B[k]) (Yi Rj ?_));refine Yi (Ii k (by omega)) ?_;refine Yi b1 ?_;refine Yi vK (Xi (Cr B[k+1]) (Yi vY ?_));have GI:B1 2 [[vi B[k],vi B[k+1]]]∧((EA keep cm B k).map Ae).length=((EA keep cm B k).map Ae).length∧(((EA keep cm B k).map Ae).length+[[vi B[k],vi B[k+1]]].length)*16≤140737488355328∧((EA keep cm B k).map Ae).length+[[vi B[k],vi B[k+1]]].length≤9223372036854775807 :=
      ⟨⟨rfl,trivial⟩,rfl,by rw[Lm,AC];omega,by rw[Lm,AC];omega⟩
     refine Yi GI ?_;refine Yi (by kernel_rfl) ?_;refine Xi ⟨[(0,F),(5,.mref 15),(10,.msl 44 bs.length),(12,.slice (.id 12 2) ((EA keep cm B k).map Ae++[[vi B[k],vi B[k+1]]])),(13,vi (Iy cm (B.take k)+Fw cm B[k])),(59,vi ((bs.length:Int)-1)),(60,vi k)],[(12,.tok 2 (((EA keep cm B k).map Ae).length+[[vi B[k],vi B[k+1]]].length)),(15,.rom WG (cm.map LU)),(44,.arr 1 (B.map Cr))],Aa⟩ (Yi ⟨⟨⟨rfl,hid _⟩,Zr,Zr,Zr,Zr,Zr,Zr,Tv⟩,Z3,Fh,Tv⟩ ?_)
     refine Yi (Ii k (by omega)) ?_;refine Xi ⟨k+1,by omega⟩ ?_;have e1:AV.slice (.id 12 2) ((EA keep cm B k).map Ae++[[vi B[k],vi B[k+1]]])=.slice (.id 12 2) ((EA keep cm B (k+1)).map Ae):=by rw[SQ,AA];rfl
     have e2:vi (Iy cm (B.take k)+Fw cm B[k])=vi (Iy cm (B.take (k+1))):=by rw[cw]
     have e3:HO.tok 2 (((EA keep cm B k).map Ae).length+[[vi B[k],vi B[k+1]]].length)=.tok 2 ((EA keep cm B (k+1)).map Ae).length:=by rw[SQ,AA,Ad];rfl
     exact⟨Dl B.length k (by omega),⟨⟨rfl,hid _⟩,Zr,Zr,⟨e1,rfl⟩,⟨e2,rfl⟩,Zr,Zr,Tv⟩,⟨⟨e3,rfl⟩,Zr,Zr,Tv⟩,Fh,Tv⟩
    ·rw[hp]at DU;have SQ:EA keep cm B (k+1)=EA keep cm B k:=by rw[SQ,hp,Ar Bool.false_ne_true,CY]
     refine Xi .pure (Xi (vb false) (Yi (DU _) ?_));refine Xi ⟨[(0,F),(5,.mref 15),(10,.msl 44 bs.length),(12,.slice (.id 12 2) ((EA keep cm B k).map Ae)),(13,vi (Iy cm (B.take k)+Fw cm B[k])),(59,vi ((bs.length:Int)-1)),(60,vi k)],[(12,.tok 2 ((EA keep cm B k).map Ae).length),(15,.rom WG (cm.map LU)),(44,.arr 1 (B.map Cr))],Aa⟩ (Yi ⟨⟨⟨rfl,hid _⟩,Zr,Zr,Zr,Zr,Zr,Zr,Tv⟩,Z3,Fh,Tv⟩ ?_)
     refine Yi (Ii k (by omega)) ?_;refine Xi ⟨k+1,by omega⟩ ?_;have e1:AV.slice (.id 12 2) ((EA keep cm B k).map Ae)=.slice (.id 12 2) ((EA keep cm B (k+1)).map Ae):=by rw[SQ]
     have e2:vi (Iy cm (B.take k)+Fw cm B[k])=vi (Iy cm (B.take (k+1))):=by rw[cw]
     have e3:HO.tok 2 ((EA keep cm B k).map Ae).length=.tok 2 ((EA keep cm B (k+1)).map Ae).length:=by rw[SQ]
     exact⟨Dl B.length k (by omega),⟨⟨rfl,hid _⟩,Zr,Zr,⟨e1,rfl⟩,⟨e2,rfl⟩,Zr,Zr,Tv⟩,⟨⟨e3,rfl⟩,Zr,Zr,Tv⟩,Fh,Tv⟩
   ·intro hk;have hk:¬(k:Int)<(bs.length:Int)-1:=hk;have Ia:k=B.length-1:=by omega
    have we:canon (EA keep cm B k)=R:=by
     refine(Si hR fun p=>?_).symm;rw[Ia,hRh,gS i3 hB]
    have hc:=W5 (EA keep cm B k) (by unfold CK;omega);rw[we]at hc;refine Xi .pure (Xi _ (Yi hc ?_));exact .refl _
  ·intro kv NY hp;refine A8 (Aq.1 (r2 kv (hp.mem_iff.2 (Ab ..)))) (fun q hq=>?_);have hq2:=hq.2;subst hq2;refine Xi ⟨[(0,F),(5,.mref 15),(10,.msl 44 bs.length),(46,.ref 46 0)],[(15,.rom WG (cm.map LU)),(44,.arr 1 (bs.map Cr)),(46,.iter (cm.map LU) NY (some (LU q)))],Aa⟩ (Yi ⟨⟨⟨rfl,hid _⟩,Zr,Zr,Zr,Tv⟩,Z3,Fh,Tv⟩ ?_)
   have GI:B1 1 [Cr q.1]∧(bs.map Cr).length=bs.length∧((bs.map Cr).length+[Cr q.1].length)*8≤140737488355328∧(bs.map Cr).length+[Cr q.1].length≤9223372036854775807 :=
    ⟨⟨rfl,trivial⟩,by rw[Lm],by rw[Lm,AC];omega,by rw[Lm,AC];omega⟩
   refine Yi GI ?_;have e1:AV.msl 44 ((bs.map Cr).length+[Cr q.1].length)=.msl 44 (bs++[q.1]).length:=by simp
   have e2:HO.arr 1 (bs.map Cr++[Cr q.1])=.arr 1 ((bs++[q.1]).map Cr):=by simp
   refine Xi ⟨(NY,bs++[q.1],some (LU q)),?_,fun kv Pn=>r2 kv (hp.mem_iff.2 (Ai _ Pn))⟩ ?_
   ·show(((bs++[q.1]).map kI)++NY.map (·.1)).Perm _;have h1:=hp.map (fun x:Value×AV=>x.1);rw[AN]at h1;rw[AA,BU];exact(List.Perm.append_left _ h1.symm).trans r1
   ·exact⟨by show NY.length<rem.length;rw[hp.length_eq];simp,⟨⟨rfl,hid _⟩,Zr,⟨e1,rfl⟩,Zr,Tv⟩,⟨Zr,⟨e2,rfl⟩,Zr,Tv⟩,Fh,Tv⟩
end Go.Eng

namespace Go.Eng
open Go.Proofs
theorem un(n:Int)(l:List A9):PC 278 [vi n,.cptr [sl Fy l]] (vb (decide (n=l.length))):=by
 refine Ps EI Tryz.func278 rfl (Nz rfl) ?_;have e:((l.map Fy).length:Int)=l.length:=by rw[Lm]
 refine Yi ?_ ?_
 ·intro h;have h:n=((l.map Fy).length:Int):=h;rw[show decide (n=(l.length:Int))=true from Av (h.trans e)];exact .refl _
 ·intro h;have h:¬n=((l.map Fy).length:Int):=h;rw[show decide (n=(l.length:Int))=false from At (fun c=>h (c.trans e.symm))];exact .refl _
theorem uq(n:Int):PC 223 [vi n] (vb (decide (n=0))):=by
 refine Ps EI Tryz.func223 rfl (Nz rfl) ?_;refine Yi ?_ ?_
 ·intro h;have h:n=0:=h;rw[Av h];exact .refl _
 ·intro h;have h:¬n=0:=h;rw[At h];exact .refl _
theorem u5(n:Int):PC 264 [vi n] (vb (decide (0<n))):=by
 refine Ps EI Tryz.func264 rfl (Nz rfl) ?_;refine Yi ?_ ?_
 ·intro h;have h:0<n:=h;rw[Av h];exact .refl _
 ·intro h;have h:¬0<n:=h;rw[At h];exact .refl _
theorem gQ(l:List A9)(p:Int):decide (dV l p=l.length)=l.all fun s=>has s p:=by
 unfold dV;rw[B2,AE,List.countP_eq_length,AX]
theorem gR(l:List A9)(p:Int):decide (0<dV l p)=l.any fun s=>has s p:=by
 unfold dV;rw[B2,AE,List.countP_pos_iff,A3]
theorem ub(l:List A9)(hl:CK l)(hs:∀s∈l,CK s):PC 262 [sl Fy l] (sl Ae (PO l)):=by
 have hc:=na (.clo 278 [.cptr [sl Fy l]]) (fun n=>decide (n=l.length)) l hl hs (fun _=>rfl) (fun h n h0 _=>by
  have:=un n l
  have e:decide (n=(l.length:Int))=decide (n.toNat=l.length):=by rw[IE];omega
  rw[e]at this;exact this) (PO l) (Wp l) fun p=>by rw[SN,gQ]
 refine Ps (jF [1]) Tryz.func262 rfl (Nz rfl) ?_;refine Xi .pure (Xi _ (Yi (hc) ?_));exact .refl _
theorem m5(s:A9)(hs:CK s):PC 190 [sl Ae s] (sl Ae (En s)):=by
 have hc:=na (.v (Ug 223)) (fun n=>decide (n=0)) [s] (by unfold CK;simp) (fun t ht=>by rw[Au.1 ht];exact hs) (fun _=>rfl) (fun h n h0 _=>by
  have:=uq n
  have e:decide (n=0)=decide (n.toNat=0):=by rw[IE];omega
  rw[e]at this;exact this) (En s) (Hf s) fun p=>by
   rw[FN]
   have:dV [s] p=if has s p then 1 else 0:=by unfold dV;rw[IC];simp
   rw[this];cases has s p<;>rfl
 refine Ps EI Tryz.func190 rfl (Nz rfl) ?_;refine Xi .pure (Xi _ (Yi (hc) ?_));exact .refl _
theorem uW(l:List A9)(hl:CK l)(hs:∀s∈l,CK s):PC 233 [sl Fy l] (sl Ae (Qq l)):=by
 have hc:=na (.v (Ug 264)) (fun n=>decide (0<n)) l hl hs (fun _=>rfl) (fun h n h0 _=>by
  have:=u5 n
  have e:decide (0<n)=decide (0<n.toNat):=by rw[IE];omega
  rw[e]at this;exact this) (Qq l) (WI l) fun p=>by
   rw[SO,gR];cases h:l.any fun s=>has s p with
   |false=>simp
   |true =>
    obtain⟨s,_,h2⟩:=A3.1 h
    have:=Mh h2
    simp[LT,this]
 refine Ps EI Tryz.func233 rfl (Nz rfl) ?_;refine Xi .pure (Xi _ (Yi (hc) ?_));exact .refl _
-- terms
theorem c59(t:Tm)(ht:CK t.set):PC 229 [.agg (AG t)] (vb (!t.absent&&(canon t.set).isEmpty)):=by
 refine Ps EI Tryz.func229 rfl (Nz rfl) ?_;refine Yi ?_ ?_
 ·intro h;have h:t.absent=true:=h;rw[h];exact .refl _
 ·intro h;have h:t.absent=false:=h;refine Xi .pure (Xi _ (Yi (W5 t.set ht) ?_));refine Yi ?_ ?_
  ·intro h2;have h2:(((canon t.set).map Ae).length:Int)=0:=h2;have h2:canon t.set=[]:=AJ (by rw[Lm]at h2;omega);rw[h,h2];exact .refl _
  ·intro h2;have h2:¬(((canon t.set).map Ae).length:Int)=0:=h2;have h2:(canon t.set).isEmpty=false:=by
    cases hc:canon t.set with
    |nil=>rw[hc]at h2;exact absurd rfl h2
    |cons _ _=>rfl
   rw[h,h2];exact .refl _
theorem c60(t:Tm)(ht:CK t.set):PC 230 [.agg (AG t)] (vb (t.absent&&(En t.set).isEmpty)):=by
 refine Ps EI Tryz.func230 rfl (Nz rfl) ?_;refine Yi ?_ ?_
 ·intro h;have h:t.absent=true:=h;refine Xi .pure (Xi _ (Yi (m5 t.set ht) ?_));refine Yi ?_ ?_
  ·intro h2;have h2:(((En t.set).map Ae).length:Int)=0:=h2;have h2:En t.set=[]:=AJ (by rw[Lm]at h2;omega);rw[h,h2];exact .refl _
  ·intro h2;have h2:¬(((En t.set).map Ae).length:Int)=0:=h2;have h2:(En t.set).isEmpty=false:=by
    cases hc:En t.set with
    |nil=>rw[hc]at h2;exact absurd rfl h2
    |cons _ _=>rfl
   rw[h,h2];exact .refl _
 ·intro h;have h:t.absent=false:=h;rw[h];exact .refl _
end Go.Eng

namespace Go.Eng
open Go.Proofs
abbrev H2(l:List Nat):QA:=⟨[],[],[],[],[],[],[],[],[],[],l⟩
theorem yz(u t:Tm)(hu:CK u.set)(ht:CK t.set):PC 228 [.agg (AG u),.agg (AG t)] (.agg (AG (GZ u t))):=by
 have hc:PC 262 [sl Fy [u.set,t.set]] (sl Ae (OQ u.set t.set)):=ub [u.set,t.set] (by unfold CK;simp) (fun s hs=>by
  rcases AF.1 hs with rfl | hs
  ·exact hu
  ·rw[Au.1 hs];exact ht)
 refine Ps (H2 [1]) Tryz.func228 rfl (Nz rfl) ?_;refine Xi ⟨[(2,.ref 2 0),(3,.ref 3 0),(4,.ref 4 0)],[(2,.cells (AG u)),(3,.cells (AG t)),(4,.cells [vs ⟨#[]⟩,vb false,.v (.slice none 0 0)])],Aa⟩ (Yi ⟨Z3,Z3,Fh,Tv⟩ ?_)
 refine Yi ?_ ?_
 ·intro h;have h:u.absent=true:=h;refine Yi ?_ ?_
  ·intro h2;have h2:t.absent=true:=h2;have e:[vs u.path,vb true,sl Ae (OQ u.set t.set)]=AG (GZ u t):=by unfold GZ;rw[h,h2];rfl
   refine Xi _ (Yi (hc) ?_);refine Yi (Nz rfl) (Yi (by kernel_rfl) (Yi (Nz rfl) ?_));exact .of_eq (Ac AV.agg e)
  ·intro h2;have h2:t.absent=false:=h2;have e:[vs u.path,vb false,sl Ae (OQ u.set t.set)]=AG (GZ u t):=by unfold GZ;rw[h,h2];rfl
   refine Xi _ (Yi (hc) ?_);refine Yi (Nz rfl) (Yi (by kernel_rfl) (Yi (Nz rfl) ?_));exact .of_eq (Ac AV.agg e)
 ·intro h;have h:u.absent=false:=h;have e:[vs u.path,vb false,sl Ae (OQ u.set t.set)]=AG (GZ u t):=by unfold GZ;rw[h];rfl
  refine Xi _ (Yi (hc) ?_);refine Yi (Nz rfl) (Yi (by kernel_rfl) (Yi (Nz rfl) ?_));exact .of_eq (Ac AV.agg e)
theorem uO(u t:Tm)(hu:CK u.set)(ht:CK t.set):PC 193 [.agg (AG u),.agg (AG t)] (.agg (AG (Ds u t))):=by
 have hc:PC 233 [sl Fy [u.set,t.set]] (sl Ae (Ph u.set t.set)):=uW [u.set,t.set] (by unfold CK;simp) (fun s hs=>by
  rcases AF.1 hs with rfl | hs
  ·exact hu
  ·rw[Au.1 hs];exact ht)
 refine Ps (H2 [1]) Tryz.func193 rfl (Nz rfl) ?_;refine Xi ⟨[(2,.ref 2 0),(3,.ref 3 0),(4,.ref 4 0)],[(2,.cells (AG u)),(3,.cells (AG t)),(4,.cells [vs ⟨#[]⟩,vb false,.v (.slice none 0 0)])],Aa⟩ (Yi ⟨Z3,Z3,Fh,Tv⟩ ?_)
 refine Yi ?_ ?_
 ·intro h;have h:u.absent=true:=h;have e:[vs u.path,vb true,sl Ae (Ph u.set t.set)]=AG (Ds u t):=by unfold Ds;rw[h];rfl
  refine Xi _ (Yi (hc) ?_);refine Yi (Nz rfl) (Yi (by kernel_rfl) (Yi (Nz rfl) ?_));exact .of_eq (Ac AV.agg e)
 ·intro h;have h:u.absent=false:=h;refine Yi ?_ ?_
  ·intro h2;have h2:t.absent=true:=h2;have e:[vs u.path,vb true,sl Ae (Ph u.set t.set)]=AG (Ds u t):=by unfold Ds;rw[h,h2];rfl
   refine Xi _ (Yi (hc) ?_);refine Yi (Nz rfl) (Yi (by kernel_rfl) (Yi (Nz rfl) ?_));exact .of_eq (Ac AV.agg e)
  ·intro h2;have h2:t.absent=false:=h2;have e:[vs u.path,vb false,sl Ae (Ph u.set t.set)]=AG (Ds u t):=by unfold Ds;rw[h,h2];rfl
   refine Xi _ (Yi (hc) ?_);refine Yi (Nz rfl) (Yi (by kernel_rfl) (Yi (Nz rfl) ?_));exact .of_eq (Ac AV.agg e)
theorem qt(q:Rq)(hq:CK q.set):PC 188 [.agg (Ap q)] (.agg (AG (DG q))):=by
 refine Ps EI Tryz.func188 rfl (Nz rfl) ?_;refine Xi _ (Yi (m5 q.set hq) ?_);refine Yi (Nz rfl) (Yi (by kernel_rfl) (Yi (Nz rfl) ?_));exact .refl _
end Go.Eng
