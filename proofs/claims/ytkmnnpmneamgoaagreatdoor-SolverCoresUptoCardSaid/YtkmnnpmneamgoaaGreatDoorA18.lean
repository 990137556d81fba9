/- Lemmas for the claims of this seat, without a condition: part 18 (CSort2, C15, C16, C17, C18, C19, C20, C21). -/
import Derived.Test.YtkmnnpmneamgoaaGreatDoorA17
import Derived.Test.YtkmnnpmneamgoaaGreatDoorA02
import Derived.Shelf.SlSortCmp.NoneTotal
namespace Go.Eng
open Go.Proofs Go.Shelf Go.RowKit Go.Lib Go.Sort
theorem bz(x y:SpA):ltOf cfSpA x y=decide (x.1.1<y.1.1):=by
 unfold ltOf cfSpA;rw[B3];simp only[AD];omega
theorem jB:SWO (ltOf cfSpA) where
 irrefl x:=by rw[bz];simp
 trans x y z h1 h2:=by rw[bz]at *;simp at *;omega
 ntrans x y z h1 h2:=by rw[bz]at *;simp at *;omega
theorem TE:∀x y:List UInt8,decide (Lib.compareBytes x y<0)=Kl x y
 | [],[]=>rfl
 | [],_::_=>rfl
 |_::_,[]=>rfl
 |a::x,b::y=>by
  unfold Lib.compareBytes Kl
  by_cases h:a<b
  ·simp[h]
  ·by_cases h2:b<a
   ·have:¬a=b:=fun e=>by subst e;exact absurd h2 (UInt8.lt_irrefl a)
    simp[h,h2,this]
   ·have e:a=b:=UInt8.le_antisymm (UInt8.not_lt.1 h2) (UInt8.not_lt.1 h);subst e;simp[UInt8.lt_irrefl,TE x y]
theorem bA(x y:TmA):ltOf cfTmA x y=EN x.1 y.1:=TE _ _
theorem jC:SWO (ltOf cfTmA) where
 irrefl x:=by rw[bA];exact DY _
 trans x y z h1 h2:=by rw[bA]at *;exact Ep h1 h2
 ntrans x y z h1 h2:=by
  rw[bA]at *
  rw[AI];intro h;cases qq:EN y.1 x.1 with
  |true=>have:=Ep qq h;rw[h2]at this;cases this
  |false =>
   have e:=I7 h1 qq;rw[e]at h;rw[h2]at h;cases h
abbrev Uw(k:Nat):Value:=.func (.func k) #[] #[]
theorem fY (k : Nat) {fn : Func} {c : Code} (hf : Tryz.prog.funcs[k]? = some fn) (hn : (fn.name == "runtime.NumGoroutine") = false) (hb : fn.body = some c) : Gi Tryz.prog k := cB hf hn hb
theorem vg(l:List (Int×Int))(hl:CL l)(h:∀x∈l,0≤x.1∧x.1≤1000000)(lim:Nat)(X5:lim<100) :
  Bo Tryz.prog 216 [.msl 1000 l.length,vi 0,vi l.length,vi lim,.v (Uw 169)] (Ag [(1000,.arr 2 (l.map Ae))] Aa) fun r h' =>
   r=.tup []∧∃l' : List (Int×Int),l'.Perm l∧l'.Pairwise (fun x y=>x.1≤y.1)∧h'=Ag [(1000,.arr 2 (l'.map Ae))] Aa:=by
 have hl:l.length≤1073741824:=hl;have hE:Gi Tryz.prog 216:=fY 216 Tryz.func216 (by kernel_rfl) rfl;have eg:∀args w,(callFunc 169 args).run Tryz.prog w=.ok (.enter 169 args) w:=enters_of Tryz.func169 (by kernel_rfl) rfl;have IE:=Jt (P:=Tryz.prog) (f:=216) (α:=SpA) (rest:=[.int .i64 0,.int .i64 l.length,.int .i64 lim,Uw 169]) hE Ae encSpA (k:=2) (fun _=>rfl) (fun _=>rfl) (ltOf cfSpA) (fun x a=>a.1=x) l (by omega) ?_ ?_ ?_
 ·refine⟨hE,fun g w vals q1 q2 q3=>(IE.2 g w vals q1 q2 q3).mono fun _ _ ⟨v,r,h',g',e1,⟨e2,l',p1,⟨al,a1,a2,a3⟩,p2⟩,rest⟩=>⟨v,r,h',g',e1,⟨e2,l',p1,?_,p2⟩,rest⟩⟩;rw[Bm]at a3⊢;intro i j hi hj Wy
  have:=a3 i j (by omega) (by omega) Wy
  rw[bz]at this;have e1:=a2 i _ _ (AE hi) (AE (by omega));have e2:=a2 j _ _ (AE hj) (AE (by omega));rw[←e1,←e2]
  have:=of_decide_eq_false this
  omega
 ·intro x hx g w vs hr
  match vs,hr with
  | [a,b],hr =>
   have h1:=(hr.2.2 0 (vi x.1) a rfl rfl).v_eq;have h2:=(hr.2.2 1 (vi x.2) b rfl rfl).v_eq;subst h1;subst h2;exact⟨⟨x,h x hx⟩,rfl,rfl⟩
  | [],hr=>have:=hr.1;simp at this
  | [_],hr=>have:=hr.1;simp at this
  |_::_::_::_,hr=>have:=hr.1;simp at this
 ·intro w b cap d hH hb En hdl;have gK:CmpLays Tryz.prog 169 #[] encSpA 2 cfSpA b 0 d.size w:=fun _ _ _ _ x y=>Tryz.closure169 x y _;have hp:=AnyQ.pdqsortCmpFunc_all Tryz.layPdqSpan 2 Tryz.isAgg65 Tryz.sizeOf65 encSpA cfSpA 169 #[] jB b 0 cap d w eg gK ⟨fun _=>rfl,fun x v hv=>by simp[encSpA]at hv;rcases hv with rfl | rfl<;>rfl,hH,hb⟩ (d.size+1) 0 d.size lim d w (by omega) rfl (SWK.start hH) (AL _) (Ao _) En (by omega) (Or.inl rfl)
  rw[hdl]at hp⊢;refine hp.mono ?_
  rintro e w' ⟨rfl,n,os,rfl⟩
  have h:=pdq_sorts (ltOf cfSpA) jB d 0 d.size lim true true (AL _) (Ao _) (Or.inl rfl);rw[hdl]at h;exact⟨rfl,_,n,os,h.1,h.2,rfl⟩
 ·intro e w;subst e;exact AnyF.pdqsortCmpFunc_none Tryz.layPdqSpan none 0 lim (Uw 169) w
theorem uL(l:List Tm)(hl:CL l)(lim:Nat)(X5:lim<100) :
  Bo Tryz.prog 263 [.msl 1000 l.length,vi 0,vi l.length,vi lim,.v (Uw 232)] (Ag [(1000,.arr 3 (l.map AH))] Aa) fun r h' =>
   r=.tup []∧∃l' : List Tm,l'.Perm l∧l'.Pairwise (fun x y=>EN y.path x.path=false)∧h'=Ag [(1000,.arr 3 (l'.map AH))] Aa:=by
 have hl:l.length≤1073741824:=hl;have hE:Gi Tryz.prog 263:=fY 263 Tryz.func263 (by kernel_rfl) rfl;have eg:∀args w,(callFunc 232 args).run Tryz.prog w=.ok (.enter 232 args) w:=enters_of Tryz.func232 (by kernel_rfl) rfl;have IE:=Jt (P:=Tryz.prog) (f:=263) (α:=TmA) (rest:=[.int .i64 0,.int .i64 l.length,.int .i64 lim,Uw 232]) hE AH encTmA (k:=3) (fun _=>rfl) (fun _=>rfl) (ltOf cfTmA) (fun x a=>a.1=x.path) l (by omega) ?_ ?_ ?_
 ·refine⟨hE,fun g w vals q1 q2 q3=>(IE.2 g w vals q1 q2 q3).mono fun _ _ ⟨v,r,h',g',e1,⟨e2,l',p1,⟨al,a1,a2,a3⟩,p2⟩,rest⟩=>⟨v,r,h',g',e1,⟨e2,l',p1,?_,p2⟩,rest⟩⟩;rw[Bm]at a3⊢;intro i j hi hj Wy
  have:=a3 i j (by omega) (by omega) Wy
  rw[bA]at this;have e1:=a2 i _ _ (AE hi) (AE (by omega));have e2:=a2 j _ _ (AE hj) (AE (by omega));rw[←e1,←e2];exact this
 ·intro x hx g w vs hr
  match vs,hr with
  | [a,b,c],hr =>
   have h1:=(hr.2.2 0 (Go.Eng.vs x.path) a rfl rfl).v_eq;subst h1;exact⟨⟨x.path,⟨b,hr.2.1 b (by simp)⟩,⟨c,hr.2.1 c (by simp)⟩⟩,rfl,rfl⟩
  | [],hr=>have:=hr.1;simp at this
  | [_],hr=>have:=hr.1;simp at this
  | [_,_],hr=>have:=hr.1;simp at this
  |_::_::_::_::_,hr=>have:=hr.1;simp at this
 ·intro w b cap d hH hb En hdl;have gK:CmpLays Tryz.prog 232 #[] encTmA 3 cfTmA b 0 d.size w:=fun _ _ _ _ x y=>Tryz.closure232 x y _;have hp:=AnyQ.pdqsortCmpFunc_all Tryz.layPdqTerm 3 Tryz.isAgg208 Tryz.sizeOf208 encTmA cfTmA 232 #[] jC b 0 cap d w eg gK ⟨fun _=>rfl,fun x v hv=>by
    simp only[encTmA,AF,LW,or_false]at hv;rcases hv with rfl | rfl | rfl
    ·rfl
    ·exact x.2.1.2
    ·exact x.2.2.2,hH,hb⟩ (d.size+1) 0 d.size lim d w (by omega) rfl (SWK.start hH) (AL _) (Ao _) En (by omega) (Or.inl rfl)
  rw[hdl]at hp⊢;refine hp.mono ?_
  rintro e w' ⟨rfl,n,os,rfl⟩
  have h:=pdq_sorts (ltOf cfTmA) jC d 0 d.size lim true true (AL _) (Ao _) (Or.inl rfl);rw[hdl]at h;exact⟨rfl,_,n,os,h.1,h.2,rfl⟩
 ·intro e w;subst e;exact AnyF.pdqsortCmpFunc_none Tryz.layPdqTerm none 0 lim (Uw 232) w
end Go.Eng

namespace Go.Eng
open Go.Proofs
-- the checker,and what reads it
theorem Fm(a b:ByteArray):EN a b=Op.bytesLess a.toList b.toList:=by
 have:∀x y:List UInt8,Kl x y=Op.bytesLess x y:=by
  intro x
  induction x with
  |nil=>intro y;cases y<;>rfl
  |cons a x ih =>
   intro y;cases y with
   |nil=>rfl
   |cons b y =>
    unfold Kl Op.bytesLess;rw[ih];rw[B3];simp
 unfold EN;rw[this,ByteArray.toList_eq,ByteArray.toList_eq]
end Go.Eng

namespace Go.Eng
open Go.Proofs
theorem Bo.imp{P:Program}{f:Nat}{args:List AV}{h0:Nat→HO}{Q Q' : AV→(Nat→HO)→Prop}(h:Bo P f args h0 Q)(hq:∀r h',Q r h'→Q' r h'):Bo P f args h0 Q':=h.mono fun r h' q=>⟨r,.refl _,hq r h' q⟩
theorem Bo.to{P:Program}{f:Nat}{args:List AV}{h0:Nat→HO}{α:Type}{r0:AV}{p:α→Prop}{H:α→Nat→HO}{Q' : AV→(Nat→HO)→Prop}(h:Bo P f args h0 fun r h'=>r=r0∧∃x,p x∧h'=H x)(k:∀x,p x→Q' r0 (H x)):Bo P f args h0 Q' :=
 h.imp fun r h' ⟨e1,x,e2,e3⟩=>by subst e1;subst e3;exact k x e2
theorem nQ(n:Nat)(h:n≤1073741824):∃lim:Nat,lim<100∧PC 93 [.v (.int .u64 (IntKind.u64.wrap (n:Int)))] (vi lim):=by
 refine⟨Lib.bitLen n,Nat.lt_of_le_of_lt (Lib.bitLen_le n 62 (by omega) (by omega)) (by omega),?_⟩;have wr:IntKind.u64.wrap (n:Int)=n:=by simp[IntKind.wrap,IntKind.bits,IntKind.signed];omega
 rw[wr];refine Lx [.int .u64 n] (.int .i64 (Lib.bitLen n:Nat)) (fY 93 Tryz.func93 (by kernel_rfl) rfl) rfl (fun _ _=>.v _ _) fun w _=>?_
 have:=Any.bits_Len Tryz.layBits (n:Int) w (by omega) (by omega)
 rw[AX]at this;exact this
theorem uX(l:List (Int×Int))(hl:CL l)(h:∀x∈l,0≤x.1∧x.1≤1000000) :
  Bo Tryz.prog 168 [.msl 1000 l.length,.v (Uw 169)] (Ag [(1000,.arr 2 (l.map Ae))] Aa) fun r h' =>
   r=.tup []∧∃l' : List (Int×Int),(l'.Perm l∧l'.Pairwise (fun x y=>x.1≤y.1))∧h'=Ag [(1000,.arr 2 (l'.map Ae))] Aa:=by
 obtain⟨lim,X5,hb⟩:=nQ l.length hl;refine CH (MN EP) [(1000,1000)] rfl CI hm rfl Tryz.func168 (by kernel_rfl) rfl (Nz rfl) (by kernel_rfl) rfl ?_;refine Xi .pure (Xi _ (Yi (hb) ?_));refine Xi (.gen [(1000,1000)] 0) (Yi rfl ((vg l hl h lim X5).imp ?_));intro r h' hq;refine Bb hq.2 (fun l' PV=>?_);refine Xi (.tup []) (Yi ?_ (Yi rfl (Xi l' (Yi ⟨PV.1,PV.2.1⟩ ?_))))
 ·exact .refl _
 ·rw[PV.2.2];rfl
theorem c61(l:List Tm)(hl:CL l) :
  Bo Tryz.prog 231 [.msl 1000 l.length,.v (Uw 232)] (Ag [(1000,.arr 3 (l.map AH))] Aa) fun r h' =>
   r=.tup []∧∃l' : List Tm,(l'.Perm l∧l'.Pairwise (fun x y=>EN y.path x.path=false))∧h'=Ag [(1000,.arr 3 (l'.map AH))] Aa:=by
 obtain⟨lim,X5,hb⟩:=nQ l.length hl;refine CH (MN EP) [(1000,1000)] rfl CI hm rfl Tryz.func231 (by kernel_rfl) rfl (Nz rfl) (by kernel_rfl) rfl ?_;refine Xi .pure (Xi _ (Yi (hb) ?_));refine Xi (.gen [(1000,1000)] 0) (Yi rfl ((uL l hl lim X5).imp ?_));intro r h' hq;refine Bb hq.2 (fun l' PV=>?_);refine Xi (.tup []) (Yi ?_ (Yi rfl (Xi l' (Yi ⟨PV.1,PV.2.1⟩ ?_))))
 ·exact .refl _
 ·rw[PV.2.2];rfl
end Go.Eng

namespace Go.Eng
open Go.Proofs
abbrev pla(l:List (Nat×Nat))(cut:List Nat):QO:=⟨[],[],l,[],[],[],[],[],[],[],cut⟩
abbrev FP(l:List (Int×Int)):HO:=.arr 2 (l.map Ae)
theorem SH(l:Bc)(i:Nat):(CK (l.take i)).length≤i:=by
 unfold CK
 have:=Bp (fun x:Int×Int=>decide (x.1<x.2)) ((l.take i).map Ee)
 rw[Lm,AG]at this;omega
theorem PL{l:Bc}{i:Nat}(h:i<l.length)(h3:(Ee l[i]).1<(Ee l[i]).2):CK (l.take (i+1))=CK (l.take i)++[Ee l[i]]:=by
 rw[Bd,Ge h,OE];unfold CK;simp[h3]
theorem SG{l:Bc}{i:Nat}(h:i<l.length)(h3:¬(Ee l[i]).1<(Ee l[i]).2):CK (l.take (i+1))=CK (l.take i):=by
 rw[Bd,Ge h,OE];unfold CK;simp[h3]
abbrev arr2(s j:Bc)(i:Nat):Bc:=(Bx (s.take i)).reverse++(j++s.drop i)
theorem ko(s j:Bc)(i:Nat)(h:i<s.length)(hj:(Bx (s.take i)).length+j.length=i):(arr2 s j i)[i]?=some s[i]:=by
 unfold arr2;rw[AR (by rw[Di];omega),AR (by rw[Di];omega),Di,DI];rw[show i+(i-(Bx (List.take i s)).length-j.length)=i by omega,Ge h]
theorem cj(s j:Bc)(i:Nat){y:Int×Int}{t:Bc}(e:Bx (s.take i)=y::t):(arr2 s j i)[t.length]?=some y:=by
 unfold arr2;rw[e,ER,BH,AR (by rw[Di];omega),Di,Fk];rfl
theorem fw(s j:Bc)(i:Nat)(h:i≤s.length)(hj:(Bx (s.take i)).length+j.length=i):(arr2 s j i).length=s.length:=by
 unfold arr2;simp only[Ad,Di,B4];omega
theorem aW{α:Type}(s:List α)(i:Nat)(h:i<s.length):s.drop i=s[i]::s.drop (i+1):=Bl h
theorem UY(s j:Bc)(i:Nat)(h:i<s.length)(e:JN (Bx (s.take i)) s[i]=s[i]::Bx (s.take i)) :
  (arr2 s j i).set (Bx (s.take i)).length s[i]=arr2 s (j++[s[i]]).tail (i+1):=by
 unfold arr2;rw[Fz s i h,e,ER,List.set_append_right _ _ (by rw[Di];exact Ao _),Di,Fk,BH,aW s i h]
 congr 1
 cases j with
 |nil=>rfl
 |cons a b=>simp
theorem ci(s j:Bc)(i:Nat)(h:i<s.length){y:Int×Int}{t:Bc}(e:Bx (s.take i)=y::t)(HN:s[i].1≤y.2) :
  (arr2 s j i).set t.length (y.1,max y.2 s[i].2)=arr2 s (j++[s[i]]) (i+1):=by
 unfold arr2;have e2:JN (y::t) s[i]=(y.1,max y.2 s[i].2)::t:=by show(if s[i].1≤y.2 then _ else _)=_;rw[Ax HN]
 rw[Fz s i h,e,e2,ER,ER,BH,List.set_append_right _ _ (by rw[Di];exact Ao _),Di,Fk,aW s i h];simp
theorem Cg{α:Type}{enc:α→List AV}{l:List α}{i:Nat}{x:α}(h:l[i]?=some x):(l.map enc)[i]?=some (enc x):=by rw[AJ,h];rfl
theorem Xs(l:List (Int×Int))(hl:CL l):PC 116 [sl Ae l] (sl Ae (canon l)):=by
 have hl:l.length≤1073741824:=hl;refine GP (eU (pla [(3,2)] [5,14,15,16])) rfl CI hm rfl Tryz.func116 (by kernel_rfl) rfl (Nz rfl) (by kernel_rfl) ?_;refine Xi {i:Nat // i≤l.length} (Xi (fun i=>⟨[(0,sl Ae l),(3,.msl 3 (CK (l.take i.1)).length),(9,sl Ae l),(10,vi (l.map Ae).length),(11,vi i.1)],[(3,FP (CK (l.take i.1)))],Aa⟩) (Xi (fun i=>l.length-i.1) (Yi (Xi ⟨0,by simp⟩ ?_) ?_)))
 ·exact⟨Z5,Z1,Fh,Tv⟩
 ·intro⟨i,h1⟩;have hn:=SH l i;refine Yi ?_ ?_
  ·intro h;have h:(i:Int)<(l.map Ae).length:=h;have h:i<l.length:=by simpa using h
   have hg:l[i]?=some l[i]:=Ge h;refine Xi (Ae l[i]) (Yi (Yi (Nn i) (by simp[hg])) (Yi rfl ?_));refine Yi (Nz rfl) (Yi (Nz rfl) ?_);refine Xi ⟨[(0,sl Ae l),(3,.msl 3 (CK (l.take i)).length),(5,.ref 5 0),(9,sl Ae l),(10,vi (l.map Ae).length),(11,vi i)],[(3,FP (CK (l.take i))),(5,.cells (Ae l[i]))],Aa⟩ (Yi ⟨Z6,Z2,Fh,Tv⟩ ?_)
   refine Yi (Nz rfl) ?_;refine Yi ?_ ?_
   ·intro h3;have h3:(Ee l[i]).1<(Ee l[i]).2:=h3;refine Yi (Nz rfl) ?_;have GL:BW 2 [[vi (max l[i].1 0),vi (min l[i].2 1000000)]]∧((CK (l.take i)).map Ae).length=(CK (l.take i)).length∧(((CK (l.take i)).map Ae).length+[[vi (max l[i].1 0),vi (min l[i].2 1000000)]].length)*16≤140737488355328∧((CK (l.take i)).map Ae).length+[[vi (max l[i].1 0),vi (min l[i].2 1000000)]].length≤9223372036854775807 :=
     ⟨⟨rfl,trivial⟩,by rw[Lm],by rw[Lm,AB];omega,by rw[Lm,AB];omega⟩
    refine Yi GL ?_;refine Yi (Ii i (by omega)) ?_;refine Xi ⟨i+1,by omega⟩ ?_;have e1:AV.msl 3 (((CK (l.take i)).map Ae).length+[[vi (max l[i].1 0),vi (min l[i].2 1000000)]].length)=.msl 3 (CK (l.take (i+1))).length:=by rw[PL h h3];simp
    have e2:HO.arr 2 ((CK (l.take i)).map Ae++[[vi (max l[i].1 0),vi (min l[i].2 1000000)]])=FP (CK (l.take (i+1))):=by rw[PL h h3];simp[Ee]
    exact⟨Dl l.length i (by omega),⟨Zr,⟨e1,rfl⟩,Zr,Zr,Zr,Tv⟩,⟨⟨e2,rfl⟩,Tv⟩,Fh,Tv⟩
   ·intro h3;have h3:¬(Ee l[i]).1<(Ee l[i]).2:=h3;refine Yi (Ii i (by omega)) ?_;refine Xi ⟨i+1,by omega⟩ ?_;have e1:AV.msl 3 (CK (l.take i)).length=.msl 3 (CK (l.take (i+1))).length:=by rw[SG h h3]
    have e2:FP (CK (l.take i))=FP (CK (l.take (i+1))):=by rw[SG h h3]
    exact⟨Dl l.length i (by omega),⟨Zr,⟨e1,rfl⟩,Zr,Zr,Zr,Tv⟩,⟨⟨e2,rfl⟩,Tv⟩,Fh,Tv⟩
  ·intro h;have h:¬(i:Int)<(l.map Ae).length:=h;have h:¬i<l.length:=by simpa using h
   have ei:CK (l.take i)=CK l:=by rw[AC (by omega)]
   have hN:(CK (l.take i)).length=(CK l).length:=by rw[ei]
   refine Xi (.gen [(3,1000)] 0) (Yi rfl ((uX (CK (l.take i)) (by unfold CL;omega) (fun x hx=>by have:=U8 hx;omega)).to ?_));intro s hs;have Um:s.length=(CK (l.take i)).length:=hs.1.length_eq;have hsN:s.length≤1073741824:=by omega
   have fin:(Bx s).reverse=canon l:=LJ (by rw[←ei];exact hs.1) hs.2;refine Xi {p:Nat×Bc // p.1≤s.length∧(Bx (s.take p.1)).length+p.2.length=p.1} (Xi (fun p=>⟨[(3,.msl 3 (CK (l.take i)).length),(6,vi (Bx (s.take p.1.1)).length),(34,.msl 3 (CK (l.take i)).length),(35,vi (CK (l.take i)).length),(36,vi p.1.1)],[(3,FP (arr2 s p.1.2 p.1.1))],Aa⟩) (Xi (fun p=>s.length-p.1.1) (Yi (Xi ⟨(0,[]),AL _,rfl⟩ ?_) ?_)))
   ·exact⟨Z5,Z1,Fh,Tv⟩
   intro⟨⟨k,j⟩,k1,k2⟩;have k1:k≤s.length:=k1;have k2:(Bx (s.take k)).length+j.length=k:=k2;have CW:=fw s j k k1 k2;have Tn:(CK (l.take i)).length=((arr2 s j k).map Ae).length:=by rw[Lm,CW,Um]
   refine Yi ?_ ?_
   ·intro h2;have h2:(k:Int)<(CK (l.take i)).length:=h2;have hk:k<s.length:=by omega
    have RA:=Cg (enc:=Ae) (ko s j k hk k2);refine Yi ⟨by show(0:Int)≤k;omega,by show(k:Int)<_;omega⟩ ?_;refine Yi Tn (Xi (Ae s[k]) (Yi RA (Yi (Nz rfl) (Yi (Nz rfl) ?_))));refine Xi ⟨[(3,.msl 3 (CK (l.take i)).length),(6,vi (Bx (s.take k)).length),(7,vi k),(8,.ref 8 0),(34,.msl 3 (CK (l.take i)).length),(35,vi (CK (l.take i)).length),(36,vi k)],[(3,FP (arr2 s j k)),(8,.cells (Ae s[k]))],Aa⟩ (Yi ⟨Z7,Z2,Fh,Tv⟩ ?_)
    have hr:=N3 s k k1;refine BO (Nat.eq_zero_or_pos k) (fun k0=>?_) (fun k0=>?_)
    ·refine Yi ?_ ?_
     ·intro h4;have h4:(0:Int)<k:=h4;omega
     ·intro _;refine Yi (by kernel_rfl) ?_;have GD:JN (Bx (s.take k)) s[k]=s[k]::Bx (s.take k):=by subst k0;rfl
      have fb:(Bx (s.take k)).length<(arr2 s j k).length:=by omega
      have hz:=Cg (enc:=Ae) (Ge fb);refine Xi ⟨[(3,.msl 3 (CK (l.take i)).length),(6,vi (Bx (s.take k)).length),(8,.ref 8 0),(34,.msl 3 (CK (l.take i)).length),(35,vi (CK (l.take i)).length),(36,vi k)],[(3,FP (arr2 s j k)),(8,.cells (Ae s[k]))],Aa⟩ (Yi ⟨⟨⟨rfl,rfl⟩,⟨rfl,rfl⟩,⟨rfl,rfl⟩,⟨rfl,rfl⟩,⟨rfl,rfl⟩,⟨rfl,rfl⟩,Tv⟩,⟨⟨rfl,rfl⟩,⟨rfl,rfl⟩,Tv⟩,Fh,Tv⟩ ?_);refine Yi (Nz rfl) (Yi ⟨by show(0:Int)≤((Bx (s.take k)).length:Int);omega,by show((Bx (s.take k)).length:Int)<_;omega⟩ ?_);refine Yi Tn (Xi (Ae (arr2 s j k)[(Bx (s.take k)).length]) (Yi hz (Yi (Nz rfl) ?_)));refine Yi (by show A9 (((Bx (s.take k)).length:Int)+1);unfold A9;omega) ?_;refine Yi (Ii k (by omega)) ?_;have hm:=Fz s k hk;have e1:vi (((Bx (s.take k)).length:Int)+1)=vi (Bx (s.take (k+1))).length:=by rw[hm,GD];simp
      have e2:HO.arr 2 (((arr2 s j k).map Ae).set (Bx (s.take k)).length [vi s[k].1,vi s[k].2])=FP (arr2 s (j++[s[k]]).tail (k+1)):=by rw[←UY s j k hk GD];simp only[FP,NL]
      refine Xi ⟨(k+1,(j++[s[k]]).tail),by show k+1≤s.length;omega,by show(Bx (s.take (k+1))).length+((j++[s[k]]).tail).length=k+1;rw[hm,GD];simp;omega⟩ ?_;exact⟨Dl s.length k (by omega),⟨Zr,⟨e1,rfl⟩,Zr,Zr,Zr,Tv⟩,⟨⟨e2,rfl⟩,Tv⟩,Fh,Tv⟩
    ·refine Yi ?_ ?_
     ·intro _;obtain⟨y,t,e⟩:∃y t,Bx (s.take k)=y::t:=by
       cases hc:Bx (s.take k)with
       |nil=>have:=hr.2 k0;rw[hc]at this;simp at this
       |cons y t=>exact⟨y,t,rfl⟩
      have ht:(((Bx (s.take k)).length:Int)-1).toNat=t.length:=by rw[e];simp
      have hy:((arr2 s j k).map Ae)[(((Bx (s.take k)).length:Int)-1).toNat]?=some (Ae y):=by rw[ht];exact Cg (cj s j k e)
      refine Yi (by show A9 (((Bx (s.take k)).length:Int)-1);unfold A9;omega) ?_;have ZP:=hr.2 k0;refine Yi ⟨by show(0:Int)≤((Bx (s.take k)).length:Int)-1;omega,by show((Bx (s.take k)).length:Int)-1<_;omega⟩ ?_;refine Yi Tn (Xi (Ae y) (Yi hy ?_));refine Yi ?_ ?_
      ·intro h5;have h5:s[k].1≤y.2:=h5;refine Yi (by kernel_rfl) ?_;refine Xi ⟨[(3,.msl 3 (CK (l.take i)).length),(6,vi (Bx (s.take k)).length),(8,.ref 8 0),(34,.msl 3 (CK (l.take i)).length),(35,vi (CK (l.take i)).length),(36,vi k)],[(3,FP (arr2 s j k)),(8,.cells (Ae s[k]))],Aa⟩ (Yi ⟨⟨⟨rfl,rfl⟩,⟨rfl,rfl⟩,⟨rfl,rfl⟩,⟨rfl,rfl⟩,⟨rfl,rfl⟩,⟨rfl,rfl⟩,Tv⟩,⟨⟨rfl,rfl⟩,⟨rfl,rfl⟩,Tv⟩,Fh,Tv⟩ ?_);refine Yi (by show A9 (((Bx (s.take k)).length:Int)-1);unfold A9;omega) (Yi (by show A9 (((Bx (s.take k)).length:Int)-1);unfold A9;omega) ?_);refine Yi ⟨by show(0:Int)≤((Bx (s.take k)).length:Int)-1;omega,by show((Bx (s.take k)).length:Int)-1<_;omega⟩ ?_;refine Yi Tn (Xi (Ae y) (Yi hy ?_));refine Yi ⟨by show(0:Int)≤((Bx (s.take k)).length:Int)-1;omega,by show((Bx (s.take k)).length:Int)-1<_;omega⟩ ?_;refine Yi Tn (Xi (Ae y) (Yi hy (Yi (Nz rfl) ?_)));refine Yi (by kernel_rfl) ?_;refine Yi (Ii k (by omega)) ?_;have hm:=Fz s k hk;have GD:JN (Bx (s.take k)) s[k]=(y.1,max y.2 s[k].2)::t:=by rw[e];show(if s[k].1≤y.2 then _ else _)=_;rw[Ax h5]
       have e1:vi (Bx (s.take k)).length=vi (Bx (s.take (k+1))).length:=by rw[hm,GD,e];simp
       have e2:HO.arr 2 (((arr2 s j k).map Ae).set (((Bx (s.take k)).length:Int)-1).toNat [vi y.1,vi (max y.2 s[k].2)])=FP (arr2 s (j++[s[k]]) (k+1)):=by rw[←ci s j k hk e h5,ht];simp only[FP,NL]
       refine Xi ⟨(k+1,j++[s[k]]),by show k+1≤s.length;omega,by show(Bx (s.take (k+1))).length+(j++[s[k]]).length=k+1;rw[hm,GD,Ad,AB];rw[e]at k2;simp only[Aj]at k2⊢;omega⟩ ?_;exact⟨Dl s.length k (by omega),⟨Zr,⟨e1,rfl⟩,Zr,Zr,Zr,Tv⟩,⟨⟨e2,rfl⟩,Tv⟩,Fh,Tv⟩
      ·intro h5;have h5:¬s[k].1≤y.2:=h5;refine Yi (by kernel_rfl) ?_;have GD:JN (Bx (s.take k)) s[k]=s[k]::Bx (s.take k):=by rw[e];show(if s[k].1≤y.2 then _ else _)=_;rw[Aq h5]
       have fb:(Bx (s.take k)).length<(arr2 s j k).length:=by omega
       have hz:=Cg (enc:=Ae) (Ge fb);refine Xi ⟨[(3,.msl 3 (CK (l.take i)).length),(6,vi (Bx (s.take k)).length),(8,.ref 8 0),(34,.msl 3 (CK (l.take i)).length),(35,vi (CK (l.take i)).length),(36,vi k)],[(3,FP (arr2 s j k)),(8,.cells (Ae s[k]))],Aa⟩ (Yi ⟨⟨⟨rfl,rfl⟩,⟨rfl,rfl⟩,⟨rfl,rfl⟩,⟨rfl,rfl⟩,⟨rfl,rfl⟩,⟨rfl,rfl⟩,Tv⟩,⟨⟨rfl,rfl⟩,⟨rfl,rfl⟩,Tv⟩,Fh,Tv⟩ ?_);refine Yi (Nz rfl) (Yi ⟨by show(0:Int)≤((Bx (s.take k)).length:Int);omega,by show((Bx (s.take k)).length:Int)<_;omega⟩ ?_);refine Yi Tn (Xi (Ae (arr2 s j k)[(Bx (s.take k)).length]) (Yi hz (Yi (Nz rfl) ?_)));refine Yi (by show A9 (((Bx (s.take k)).length:Int)+1);unfold A9;omega) ?_;refine Yi (Ii k (by omega)) ?_;have hm:=Fz s k hk;have e1:vi (((Bx (s.take k)).length:Int)+1)=vi (Bx (s.take (k+1))).length:=by rw[hm,GD];simp
       have e2:HO.arr 2 (((arr2 s j k).map Ae).set (Bx (s.take k)).length [vi s[k].1,vi s[k].2])=FP (arr2 s (j++[s[k]]).tail (k+1)):=by rw[←UY s j k hk GD];simp only[FP,NL]
       refine Xi ⟨(k+1,(j++[s[k]]).tail),by show k+1≤s.length;omega,by show(Bx (s.take (k+1))).length+((j++[s[k]]).tail).length=k+1;rw[hm,GD];simp;omega⟩ ?_;exact⟨Dl s.length k (by omega),⟨Zr,⟨e1,rfl⟩,Zr,Zr,Zr,Tv⟩,⟨⟨e2,rfl⟩,Tv⟩,Fh,Tv⟩
     ·intro h4;have h4:¬(0:Int)<k:=h4;omega
   ·intro h2;have h2:¬(k:Int)<(CK (l.take i)).length:=h2;have hk:k=s.length:=by omega
    have hr:=N3 s k k1;have cX:((((arr2 s j k).map Ae).take ((Bx (s.take k)).length:Int).toNat).drop 0)=(canon l).map Ae:=by
     rw[Kx,AX,←Rx,←fin];unfold arr2
     have:(Bx (s.take k)).length=(Bx (s.take k)).reverse.length:=by rw[Di]
     rw[this,List.take_left,hk,CN]
    refine Yi ⟨Tn,by show(0:Int)≤0;omega,by show(0:Int)≤((Bx (s.take k)).length:Int);omega,by show((Bx (s.take k)).length:Int)≤(((arr2 s j k).map Ae).length:Int);omega,.inr ⟨rfl,by simp⟩⟩ ?_;exact .of_eq (Ac (AV.slice .none) cX)
end Go.Eng

namespace Go.Eng
open Go.Proofs Go.Sort
abbrev B8(z:Int):List AV:=[vi z]
theorem VK{α:Type}[Inhabited α](enc:α→Value)(w:World)(b:Nat)(d:Array α):putRow enc w b 0 d=putRow id w b 0 (d.map enc):=by
 unfold putRow
 congr 1
 funext c
 unfold putCells;apply Sf
 ·simp
 ·intro i h1 h2;simp only[Array.getElem_mapIdx,Array.size_map]
  by_cases h:i<d.size
  ·rw[Ax (by omega),Ax (by omega)];rw[DV d (i-0) (by omega),DV (d.map enc) (i-0) (by simpa using h)];simp
  ·rw[Aq (by omega),Aq (by omega)]
theorem MO(zs:List Int):(zs.map B8).flatten=(zs.map fun z=>Value.int .i64 z).map AV.v:=by
 induction zs with
 |nil=>rfl
 |cons z zs ih=>rw[AN,Bu,ih];rfl
theorem Qs(g:Gh)(w:World)(U:Nat→Prop)(vs:List Value)(h:∀x∈vs,x.oneCell'=true):CY g w U (vs.map .v) vs :=
 ⟨by simp,h,fun i av x q1 q2=>by
  rw[AJ,q2]at q1;cases q1;exact .v _ _⟩
theorem Pj{g:Gh}{w:World}{U:Nat→Prop}{vs us:List Value}(h:CY g w U (vs.map .v) us):us=vs:=by
 apply Dr;intro i;have hl:=h.1;rw[Lm]at hl
 by_cases hi:i<vs.length
 ·have:=h.2.2 i (.v vs[i]) us[i] (by rw[AJ,Ge hi];rfl) (Ge (by omega))
  rw[Ge hi,Ge (by omega),this.v_eq]
 ·rw[A6 (by omega),A6 (by omega)]
theorem vf(zs:List Int)(hl:CL zs)(DB:zs≠[]) :
  Bo Tryz.prog 261 [.msl 1000 zs.length] (Ag [(1000,.arr 1 (zs.map B8))] Aa) fun r h' =>
   r=.tup []∧∃l' : List Int,(l'.Perm zs∧l'.Pairwise fun a b=>a≤b)∧h'=Ag [(1000,.arr 1 (l'.map B8))] Aa:=by
 have hl:zs.length≤1073741824:=hl;have hE:Gi Tryz.prog 261:=fY 261 Tryz.func261 (by kernel_rfl) rfl;have IE:=UU (P:=Tryz.prog) (f:=261) (es:=zs.map B8) (sz:=1) (rest:=[]) (Q:=fun ET=>∃l' : List Int,(l'.Perm zs∧l'.Pairwise fun a b=>a≤b)∧ET=l'.map B8) hE ?_ ?_
 ·rw[Lm]at IE;refine⟨hE,fun g w vals q1 q2 q3=>(IE.2 g w vals q1 q2 q3).mono fun _ _ ⟨v,r,h',g',e1,⟨e2,ET,⟨l',p1,p2⟩,p3⟩,rest⟩=>⟨v,r,h',g',e1,⟨e2,l',p1,by rw[p3,p2]⟩,rest⟩⟩
 ·intro e
  have:zs=[]:=by simpa using e
  exact absurd this DB
 ·intro g w b cap F hr hF hH hb;have wu:F.toList=zs.map fun z=>Value.int .i64 z:=Pj (by rw[←MO];exact hr);have oz:F=zs.toArray.map fun z=>Value.int .i64 z:=LT.1 (by rw[wu];simp);have ww:Holds (Value.int .i64) w b 0 zs.toArray:=fun j hj=>by
   have:=hH j (by rw[oz];simpa using hj)
   refine⟨this.1.trans ?_,this.2⟩;rw[oz,DV _ j (by simpa using hj),DV _ j hj];simp
  have hc:=Any.slices_Sort_int Tryz.laySortInts b 0 cap zs w ww hb (by omega);rw[Lm];refine hc.mono ?_
  rintro e w' ⟨rfl,n,os,rfl⟩
  have J4:(zs.mergeSort fun x y=>decide (x≤y)).Perm zs:=List.mergeSort_perm _ _;have CW:=J4.length_eq;refine⟨rfl,(zs.mergeSort fun x y=>decide (x≤y)).toArray.map fun z=>Value.int .i64 z,(zs.mergeSort fun x y=>decide (x≤y)).map B8,n,os,?_,⟨_,⟨J4,?_⟩,rfl⟩,by simp[CW],fun cs hcs=>?_,fun g w _=>?_,by rw[VK]⟩
  ·rw[oz];simp[CW]
  ·have:=List.pairwise_mergeSort (le:=fun x y:Int=>decide (x≤y)) (fun a b c h1 h2=>by simp only[AD]at *;omega) (fun a b=>by simp only[CU,AD];omega) zs
   exact this.imp fun h=>Cq h
  ·obtain⟨x,_,rfl⟩:=Ar.1 hcs;rfl
  ·rw[MO];have e:((zs.mergeSort fun x y=>decide (x≤y)).toArray.map fun z=>Value.int .i64 z).toList=(zs.mergeSort fun x y=>decide (x≤y)).map fun z=>Value.int .i64 z:=by simp
   rw[e];exact Qs _ _ _ _ fun x hx=>by
    obtain⟨z,_,rfl⟩:=Ar.1 hx;rfl

-- maps from numbers to numbers
abbrev W3:ES:=⟨false,[.int .i64]⟩
abbrev kI(z:Int):Value:=.int .i64 z
abbrev L1(p:Int×Int):Value×AV:=(kI p.1,vi p.2)
abbrev FE(s:Bc):List AV:=[sl Ae s]
theorem RV{m:List (Int×Int)}{k:Int}{a:AV}:(kI k,a)∈m.map L1↔∃v,(k,v)∈m∧a=vi v:=by
 rw[Ar];constructor
 ·rintro⟨⟨k',v⟩,h1,h2⟩
  simp only[FZ,Value.int.injEq,true_and]at h2;obtain⟨rfl,rfl⟩:=h2;exact⟨v,h1,rfl⟩
 ·rintro⟨v,h1,rfl⟩
  exact⟨(k,v),h1,rfl⟩
theorem RX(m:List (Int×Int))(k v:Int):Fg (m.map L1) (kI k) (vi v)=(Ly m k v).map L1:=by
 unfold Ly
 by_cases h:(m.any fun p=>decide (p.1=k))=true
 ·rw[Ax h];obtain⟨p,h1,h2⟩:=A5.1 h;have h2:=Cq h2
  have:(kI k,vi p.2)∈m.map L1:=RV.2 ⟨p.2,by rw[←h2];exact h1,rfl⟩
  rw[Qi this,BY,BY];apply A8;intro q _;simp only[Function.comp]
  by_cases e:q.1=k
  ·simp[e]
  ·have:¬kI q.1=kI k:=fun c=>e (by injection c)
   simp[e]
 ·rw[Aq h]
  have:∀b,(kI k,b)∉m.map L1:=fun b hb=>by
   obtain⟨v,h1,_⟩:=RV.1 hb;exact h (A5.2 ⟨(k,v),h1,by simp⟩)
  rw[Qh this,Az];rfl
theorem OU{T:GT}{e:Nat}{Cb:List (Value×AV)}{kx:Value}{K:AV→Prop}(a0 z0:AV)(h1:∀a,(kx,a)∈Cb→a=a0)(hz:(∀a,(kx,a)∉Cb)→a0=z0)(h2:K z0→Kt T e K)(k:K a0) :
  (∀a,(kx,a)∈Cb→K a)∧((∀a,(kx,a)∉Cb)→Kt T e K):=⟨fun a h=>by rw[h1 a h];exact k,fun hn=>h2 (hz hn▸k)⟩
theorem QH(m:List (Int×Int))(k:Int):(∀a,(kI k,a)∉m.map L1)→vi (FC m k)=vi 0:=fun LN=>by
 rw[jN fun hk=>by
  obtain⟨p,hp,e⟩:=Ar.1 hk;exact LN (vi p.2) (RV.2 ⟨p.2,by rw[←e];exact hp,rfl⟩)]
theorem QG{m:List (Int×Int)}(hn:(Fi m).Nodup)(k:Int):∀a,(kI k,a)∈m.map L1→a=vi (FC m k):=fun a h=>by
 obtain⟨v,h1,rfl⟩:=RV.1 h;rw[jM hn h1]
theorem It.bound{m:List (Int×Int)}{S:Bc}(h:It m S)(k:Int):-(S.length:Int)≤FC m k∧FC m k≤S.length:=by
 rw[h.val]
 have:cF S k≤S.length:=List.countP_le_length
 have:cT S k≤S.length:=List.countP_le_length
 omega
theorem ZC(l:List Bc):(l.map canon).flatten.length≤l.length*1000000:=by
 induction l with
 |nil=>simp
 |cons s l ih =>
  rw[AN,Bu,Ad,Aj]
  have:=Ig (Cs s)
  omega
theorem It.few{m:List (Int×Int)}{S:Bc}(h:It m S):m.length≤1000001:=by
 have:=Ir (m:=(List.range 1000001).map Int.ofNat) h.nd fun k hk=>by
  have:=h.rng k hk
  exact Ar.2 ⟨k.toNat,Iw.2 (by omega),by show(k.toNat:Int)=k;omega⟩
 unfold Fi at this;rw[Lm,Lm,List.length_range]at this;exact this
theorem Vr(keep:Nat→Bool)(m:List (Int×Int))(B:List Int):∀n,(EG keep m B n).length≤n
 |0=>Ao _
 |n+1=>by
  unfold EG
  have:=Vr keep m B n
  rw[Ad];split
  ·split<;>simp<;>omega
  ·simp;omega
end Go.Eng

namespace Go.Eng
open Go.Proofs
abbrev plC:QO:=⟨[],[(12,2)],[(44,1)],[],[],[],[],[],[],[],[8,9,15,23,25,26]⟩
theorem nU(F:AV)(keep:Nat→Bool)(l:List Bc)(hl:CL l)(hs:∀s∈l,CL s)(hid:∀h,WF h F=true)(hF:∀h (n:Int),0≤n→n≤l.length→PB Tryz.prog (str h F) [vi n] (vb (keep n.toNat)))
  (R:Bc) (hR:EQ R) (hRh:∀p,has R p=(L0 p&&keep (eT l p))):PC 222 [F,sl FE l] (sl Ae R):=by
 have hl:l.length≤1073741824:=hl;refine Ps plC Tryz.func222 rfl (Nz rfl) ?_;refine Xi {p:Nat×List (Int×Int) // p.1≤l.length∧It p.2 ((l.take p.1).map canon).flatten} (Xi (fun p=>⟨[(0,F),(5,.mref 15),(17,sl FE l),(18,vi (l.map FE).length),(19,vi p.1.1)],[(15,.map W3 (p.1.2.map L1))],Aa⟩) (Xi (fun p=>l.length-p.1.1) (Yi (Xi ⟨(0,re),AL _,kE⟩ ?_) ?_)))
 ·have e0:HO.map W3 (Fg (Fg [] (kI 0) (vi 0)) (kI 1000000) (vi 0))=.map W3 (re.map L1):=by
   have e1:=RX [] 0 0;have e2:=RX [(0,0)] 1000000 0;show HO.map W3 (Fg (Fg (List.map L1 []) (kI 0) (vi 0)) (kI 1000000) (vi 0))=_;rw[e1];show HO.map W3 (Fg (List.map L1 [(0,0)]) (kI 1000000) (vi 0))=_;rw[e2];rfl
  exact⟨⟨⟨rfl,hid _⟩,Zr,Zr,Zr,Zr,Tv⟩,⟨⟨e0,rfl⟩,Tv⟩,Fh,Tv⟩
 intro⟨⟨i,cm⟩,i1,i2⟩;have i1:i≤l.length:=i1;have i2:It cm ((l.take i).map canon).flatten:=i2;refine Yi ?_ ?_
 ·intro h;have h:(i:Int)<(l.map FE).length:=h;have h:i<l.length:=by simpa using h
  have hg:l[i]?=some l[i]:=Ge h;refine Xi (FE l[i]) (Yi (Yi (Nn i) (by simp[hg])) (Yi rfl ?_));refine Xi .pure (Xi _ (Yi (Xs l[i] (hs _ (Am h))) ?_));refine Xi {p:Nat×List (Int×Int) // p.1≤(canon l[i]).length∧It p.2 (((l.take i).map canon).flatten++(canon l[i]).take p.1)} (Xi (fun p=>⟨[(0,F),(5,.mref 15),(17,sl FE l),(18,vi (l.map FE).length),(19,vi i),(24,sl Ae (canon l[i])),(25,vi ((canon l[i]).map Ae).length),(26,vi p.1.1)],[(15,.map W3 (p.1.2.map L1))],Aa⟩) (Xi (fun p=>(canon l[i]).length-p.1.1) (Yi (Xi ⟨(0,cm),AL _,by rw[List.take_zero,CV];exact i2⟩ ?_) ?_)))
  ·exact⟨⟨⟨rfl,hid _⟩,Zr,Zr,Zr,Zr,Zr,Zr,Zr,Tv⟩,Z1,Fh,Tv⟩
  intro⟨⟨j,dm⟩,j1,j2⟩;have j1:j≤(canon l[i]).length:=j1;have j2:It dm (((l.take i).map canon).flatten++(canon l[i]).take j):=j2;have hS:(((l.take i).map canon).flatten++(canon l[i]).take j).length≤1073741825000000:=by
   have a1:=ZC (l.take i);have a2:=Ig (Cs l[i]);rw[AG]at a1;rw[Ad,AG];omega
  refine Yi ?_ ?_
  ·intro hj;have hj:(j:Int)<((canon l[i]).map Ae).length:=hj;have hj:j<(canon l[i]).length:=by simpa using hj
   have qc:(canon l[i])[j]?=some (canon l[i])[j]:=Ge hj;have nh:=(Cs l[i]).low _ (Am hj);have j3:It (YX dm (canon l[i])[j]) (((l.take i).map canon).flatten++(canon l[i]).take (j+1)):=by
    have:=eu j2 (x:=(canon l[i])[j]) nh
    rw[BH]at this;rw[Bd,qc];exact this
   generalize (canon l[i])[j]=x at qc nh j3;have b1:=j2.bound x.1;have fb:=Mv j2.nd x.1 (FC dm x.1+1);refine Xi (Ae x) (Yi (Yi (Nn j) (by simp[qc])) (Yi rfl ?_));refine Yi (Nz rfl) (Yi (Nz rfl) ?_);refine Xi ⟨[(0,F),(5,.mref 15),(9,.ref 9 0),(17,sl FE l),(18,vi (l.map FE).length),(19,vi i),(24,sl Ae (canon l[i])),(25,vi ((canon l[i]).map Ae).length),(26,vi j)],[(9,.cells (Ae x)),(15,.map W3 (dm.map L1))],Aa⟩ (Yi ⟨⟨⟨rfl,hid _⟩,Zr,Zr,Zr,Zr,Zr,Zr,Zr,Zr,Tv⟩,Z2,Fh,Tv⟩ ?_)
   refine OU (vi (FC dm x.1)) (vi 0) (QG j2.nd x.1) (QH dm x.1) (fun q=>q) ?_;refine Yi (by show A9 (FC dm x.1+1);unfold A9;omega) ?_;have m1:HO.map W3 (Fg (dm.map L1) (kI x.1) (vi (FC dm x.1+1)))=.map W3 ((Ly dm x.1 (FC dm x.1+1)).map L1):=by rw[RX]
   refine Xi ⟨[(0,F),(5,.mref 15),(9,.ref 9 0),(17,sl FE l),(18,vi (l.map FE).length),(19,vi i),(24,sl Ae (canon l[i])),(25,vi ((canon l[i]).map Ae).length),(26,vi j)],[(9,.cells (Ae x)),(15,.map W3 ((Ly dm x.1 (FC dm x.1+1)).map L1))],Aa⟩ (Yi ⟨⟨⟨rfl,hid _⟩,Zr,Zr,Zr,Zr,Zr,Zr,Zr,Zr,Tv⟩,⟨Zr,⟨m1,rfl⟩,Tv⟩,Fh,Tv⟩ ?_)
   have b2:-(1073741825000001:Int)≤FC (Ly dm x.1 (FC dm x.1+1)) x.2∧FC (Ly dm x.1 (FC dm x.1+1)) x.2≤1073741825000001:=by
    have b3:=j2.bound x.2;rw[Pu];split<;>omega
   refine OU (vi (FC (Ly dm x.1 (FC dm x.1+1)) x.2)) (vi 0) (QG fb x.2) (QH _ x.2) (fun q=>q) ?_;refine Yi (by show A9 (FC (Ly dm x.1 (FC dm x.1+1)) x.2-1);unfold A9;omega) ?_;have hcl:=Ig (Cs l[i]);refine Yi (Ii j (by omega)) ?_;have m2:HO.map W3 (Fg ((Ly dm x.1 (FC dm x.1+1)).map L1) (kI x.2) (vi (FC (Ly dm x.1 (FC dm x.1+1)) x.2-1)))=.map W3 ((YX dm x).map L1):=by rw[RX];rfl
   refine Xi ⟨(j+1,YX dm x),by show j+1≤_;omega,j3⟩ ?_;exact⟨by show(canon l[i]).length-(j+1)<(canon l[i]).length-j;omega,⟨⟨rfl,hid _⟩,Zr,Zr,Zr,Zr,Zr,Zr,Zr,Tv⟩,⟨⟨m2,rfl⟩,Tv⟩,Fh,Tv⟩
  ·intro hj;have hj:¬(j:Int)<((canon l[i]).map Ae).length:=hj;have hj:¬j<(canon l[i]).length:=by simpa using hj
   refine Yi (Ii i (by omega)) ?_;have i3:It dm ((l.take (i+1)).map canon).flatten:=by
    have e1:(canon l[i]).take j=canon l[i]:=AC (by omega);rw[e1]at j2;have e2:((l.take (i+1)).map canon).flatten=((l.take i).map canon).flatten++canon l[i]:=by
     rw[Bd,hg,Az,Cc];show _++(canon l[i]++[])=_;rw[CV]
    rw[e2];exact j2
   refine Xi ⟨(i+1,dm),by show i+1≤_;omega,i3⟩ ?_;exact⟨Dl l.length i (by omega),⟨⟨rfl,hid _⟩,Zr,Zr,Zr,Zr,Tv⟩,Z1,Fh,Tv⟩
 ·intro h;have h:¬(i:Int)<(l.map FE).length:=h;have h:¬i<l.length:=by simpa using h
  have i3:It cm (l.map canon).flatten:=by
   rw[AC (by omega)]at i2;exact i2
  have rY:=i3.few;have sf:(0:Int)≤0∧(0:Int)≤((cm.map L1).length:Int)∧((cm.map L1).length:Int)*((8:Nat):Int)≤140737488355328∧((cm.map L1).length:Int)≤9223372036854775807:=by rw[Lm];omega
  refine Yi sf ?_;refine Xi {p:List (Value×AV)×List Int×Option (Value×AV) // ((p.2.1.map kI)++p.1.map (·.1)).Perm ((cm.map L1).map (·.1))∧∀kv∈p.1,kv∈cm.map L1} (Xi (fun p=>⟨[(0,F),(5,.mref 15),(10,.msl 44 p.1.2.1.length),(46,.ref 46 0)],[(15,.rom W3 (cm.map L1)),(44,.arr 1 (p.1.2.1.map B8)),(46,.iter (cm.map L1) p.1.1 p.1.2.2)],Aa⟩) (Xi (fun p=>p.1.1.length) (Yi (Xi ⟨(cm.map L1,[],none),.refl _,fun _ h=>h⟩ ?_) ?_)))
  ·exact⟨⟨⟨rfl,hid _⟩,Zr,Zr,Zr,Tv⟩,Z3,Fh,Tv⟩
  intro⟨⟨rem,bs,F9⟩,r1,r2⟩;have r1:((bs.map kI)++rem.map (·.1)).Perm ((cm.map L1).map (·.1)):=r1;have r2:∀kv∈rem,kv∈cm.map L1:=r2;have hbl:bs.length≤1000001:=by
   have:=r1.length_eq
   simp only[Ad,Lm]at this;omega
  refine Yi ?_ ?_
  ·intro hr;have hr:rem=[]:=hr;subst hr;rw[Fj,CV,BY]at r1;have xp:bs.Perm (Fi cm):=by
    have r1:(bs.map kI).Perm ((Fi cm).map kI):=by unfold Fi;rw[BY];exact r1
    have:=r1.map (fun v:Value=>match v with | .int _ n=>n | _=>0)
    rw[BY,BY]at this;have e:((fun v:Value=>match v with | .int _ n=>n | _=>0) ∘ kI)=id:=rfl;rw[e,L8,L8]at this;exact this
   have DB:bs≠[]:=fun e=>by
    subst e
    have:=xp.length_eq
    have h0:=i3.keys.1;rw[AK this.symm]at h0;cases h0
   refine Xi (.gen [(44,1000)] 0) (Yi rfl ((vf bs (by unfold CL;omega) DB).to ?_));intro B rp;have gz:B.length=bs.length:=rp.1.length_eq;have hBn:B.Nodup:=(rp.1.trans xp).nodup_iff.2 i3.nd;have hB:kg B cm:=⟨rp.1.trans xp,by
    rw[Bm];intro a b ha hb mW;have h1:=(Bm.1 rp.2) a b ha hb mW;have h2:B[a]≠B[b]:=(Bm.1 hBn) a b ha hb mW;omega⟩
   have zv:0<B.length:=by
    rw[gz];exact GX.2 DB
   have wB:bs.length=(B.map B8).length:=by rw[Lm,gz]
   refine Yi (by show A9 ((bs.length:Int)-1);unfold A9;omega) ?_;refine Xi {k:Nat // k≤B.length-1} (Xi (fun k=>⟨[(0,F),(5,.mref 15),(10,.msl 44 bs.length),(12,.slice (.id 12 2) ((EG keep cm B k.1).map Ae)),(13,vi (IJ cm (B.take k.1))),(59,vi ((bs.length:Int)-1)),(60,vi k.1)],[(12,.tok 2 ((EG keep cm B k.1).map Ae).length),(15,.rom W3 (cm.map L1)),(44,.arr 1 (B.map B8))],Aa⟩) (Xi (fun k=>B.length-k.1) (Yi (Xi ⟨0,AL _⟩ ?_) ?_)))
   ·exact⟨⟨⟨rfl,hid _⟩,Zr,Zr,Zr,Zr,Zr,Zr,Tv⟩,Z3,Fh,Tv⟩
   intro⟨k,k1⟩;have m0:=Vr keep cm B k;refine Yi ?_ ?_
   ·intro hk;have hk:(k:Int)<(bs.length:Int)-1:=hk;have Ik:k+1<B.length:=by omega
    have ZM:k<B.length:=by omega
    have RA:(B.map B8)[k]?=some (B8 B[k]):=Cg (Ge ZM);have wO:(B.map B8)[k+1]?=some (B8 B[k+1]):=Cg (Ge Ik);have c9:=QE cm B k ZM;have sw:=jz i3 hB k ZM;have Tj:EG keep cm B (k+1)=EG keep cm B k++(if keep (IJ cm (B.take (k+1))).toNat then [(B[k],B[k+1])]else []):=by
     show _++(match B[k]?,B[k+1]? with | some a,some b=>if keep (IJ cm (B.take (k+1))).toNat then [(a,b)]else [] | _,_=>[])=_;rw[Ge ZM,Ge Ik]
    refine Xi ⟨[(0,F),(5,.mref 15),(10,.msl 44 bs.length),(12,.slice (.id 12 2) ((EG keep cm B k).map Ae)),(13,vi (IJ cm (B.take k))),(14,vi k),(59,vi ((bs.length:Int)-1)),(60,vi k)],[(12,.tok 2 ((EG keep cm B k).map Ae).length),(15,.rom W3 (cm.map L1)),(44,.arr 1 (B.map B8))],Aa⟩ (Yi ⟨⟨⟨rfl,hid _⟩,Zr,Zr,Zr,Zr,Zr,Zr,Zr,Tv⟩,Z3,Fh,Tv⟩ ?_)
    refine Yi ⟨by show(0:Int)≤k;omega,by show(k:Int)<bs.length;omega⟩ ?_;refine Yi wB (Xi (B8 B[k]) (Yi RA ?_));refine OU (vi (FC cm B[k])) (vi 0) (QG i3.nd B[k]) (QH cm B[k]) (fun q=>q) ?_;refine Yi (by show A9 (IJ cm (B.take k)+FC cm B[k]);rw[←c9];unfold A9;omega) ?_;have D2:∀h,PB Tryz.prog (str h F) [vi (IJ cm (B.take k)+FC cm B[k])] (vb (keep (IJ cm (B.take (k+1))).toNat)):=fun h=>by
     rw[←c9];exact hF h _ sw.1 sw.2
    refine BO (Bt (keep (IJ cm (B.take (k+1))).toNat)) (fun hp=>?_) (fun hp=>?_)
    ·rw[hp]at D2;rw[hp,Ax rfl]at Tj;refine Xi .pure (Xi (vb true) (Yi (D2 _) ?_));refine Xi ⟨[(0,F),(5,.mref 15),(10,.msl 44 bs.length),(12,.slice (.id 12 2) ((EG keep cm B k).map Ae)),(13,vi (IJ cm (B.take k)+FC cm B[k])),(14,vi k),(59,vi ((bs.length:Int)-1)),(60,vi k)],[(12,.tok 2 ((EG keep cm B k).map Ae).length),(15,.rom W3 (cm.map L1)),(44,.arr 1 (B.map B8))],Aa⟩ (Yi ⟨⟨⟨rfl,hid _⟩,Zr,Zr,Zr,Zr,Zr,Zr,Zr,Tv⟩,Z3,Fh,Tv⟩ ?_)
     have b1:(0:Int)≤(k:Int)+1∧(k:Int)+1<bs.length:=by omega
     have wP:(B.map B8)[((k:Int)+1).toNat]?=some (B8 B[k+1]):=by rw[show((k:Int)+1).toNat=k+1 by omega];exact wO
     refine Yi ⟨by show(0:Int)≤k;omega,by show(k:Int)<bs.length;omega⟩ ?_;refine Yi wB (Xi (B8 B[k]) (Yi RA ?_));refine Yi (Ii k (by omega)) ?_;refine Yi b1 ?_;refine Yi wB (Xi (B8 B[k+1]) (Yi wP ?_));have GL:BW 2 [[vi B[k],vi B[k+1]]]∧((EG keep cm B k).map Ae).length=((EG keep cm B k).map Ae).length∧(((EG keep cm B k).map Ae).length+[[vi B[k],vi B[k+1]]].length)*16≤140737488355328∧((EG keep cm B k).map Ae).length+[[vi B[k],vi B[k+1]]].length≤9223372036854775807 :=
      ⟨⟨rfl,trivial⟩,rfl,by rw[Lm,AB];omega,by rw[Lm,AB];omega⟩
     refine Yi GL ?_;refine Yi (by kernel_rfl) ?_;refine Xi ⟨[(0,F),(5,.mref 15),(10,.msl 44 bs.length),(12,.slice (.id 12 2) ((EG keep cm B k).map Ae++[[vi B[k],vi B[k+1]]])),(13,vi (IJ cm (B.take k)+FC cm B[k])),(59,vi ((bs.length:Int)-1)),(60,vi k)],[(12,.tok 2 (((EG keep cm B k).map Ae).length+[[vi B[k],vi B[k+1]]].length)),(15,.rom W3 (cm.map L1)),(44,.arr 1 (B.map B8))],Aa⟩ (Yi ⟨⟨⟨rfl,hid _⟩,Zr,Zr,Zr,Zr,Zr,Zr,Tv⟩,Z3,Fh,Tv⟩ ?_)
     refine Yi (Ii k (by omega)) ?_;refine Xi ⟨k+1,by omega⟩ ?_;have e1:AV.slice (.id 12 2) ((EG keep cm B k).map Ae++[[vi B[k],vi B[k+1]]])=.slice (.id 12 2) ((EG keep cm B (k+1)).map Ae):=by rw[Tj,Az];rfl
     have e2:vi (IJ cm (B.take k)+FC cm B[k])=vi (IJ cm (B.take (k+1))):=by rw[c9]
     have e3:HO.tok 2 (((EG keep cm B k).map Ae).length+[[vi B[k],vi B[k+1]]].length)=.tok 2 ((EG keep cm B (k+1)).map Ae).length:=by rw[Tj,Az,Ad];rfl
     exact⟨Dl B.length k (by omega),⟨⟨rfl,hid _⟩,Zr,Zr,⟨e1,rfl⟩,⟨e2,rfl⟩,Zr,Zr,Tv⟩,⟨⟨e3,rfl⟩,Zr,Zr,Tv⟩,Fh,Tv⟩
    ·rw[hp]at D2;have Tj:EG keep cm B (k+1)=EG keep cm B k:=by rw[Tj,hp,Aq Bool.false_ne_true,CV]
     refine Xi .pure (Xi (vb false) (Yi (D2 _) ?_));refine Xi ⟨[(0,F),(5,.mref 15),(10,.msl 44 bs.length),(12,.slice (.id 12 2) ((EG keep cm B k).map Ae)),(13,vi (IJ cm (B.take k)+FC cm B[k])),(59,vi ((bs.length:Int)-1)),(60,vi k)],[(12,.tok 2 ((EG keep cm B k).map Ae).length),(15,.rom W3 (cm.map L1)),(44,.arr 1 (B.map B8))],Aa⟩ (Yi ⟨⟨⟨rfl,hid _⟩,Zr,Zr,Zr,Zr,Zr,Zr,Tv⟩,Z3,Fh,Tv⟩ ?_)
     refine Yi (Ii k (by omega)) ?_;refine Xi ⟨k+1,by omega⟩ ?_;have e1:AV.slice (.id 12 2) ((EG keep cm B k).map Ae)=.slice (.id 12 2) ((EG keep cm B (k+1)).map Ae):=by rw[Tj]
     have e2:vi (IJ cm (B.take k)+FC cm B[k])=vi (IJ cm (B.take (k+1))):=by rw[c9]
     have e3:HO.tok 2 ((EG keep cm B k).map Ae).length=.tok 2 ((EG keep cm B (k+1)).map Ae).length:=by rw[Tj]
     exact⟨Dl B.length k (by omega),⟨⟨rfl,hid _⟩,Zr,Zr,⟨e1,rfl⟩,⟨e2,rfl⟩,Zr,Zr,Tv⟩,⟨⟨e3,rfl⟩,Zr,Zr,Tv⟩,Fh,Tv⟩
   ·intro hk;have hk:¬(k:Int)<(bs.length:Int)-1:=hk;have Ik:k=B.length-1:=by omega
    have wU:canon (EG keep cm B k)=R:=by
     refine(SD hR fun p=>?_).symm;rw[Ik,hRh,ip i3 hB]
    have hc:=Xs (EG keep cm B k) (by unfold CL;omega);rw[wU]at hc;refine Xi .pure (Xi _ (Yi hc ?_));exact .refl _
  ·intro kv Oa hp;refine Bb (Ar.1 (r2 kv (hp.mem_iff.2 (Ab ..)))) (fun q hq=>?_);have hq2:=hq.2;subst hq2;refine Xi ⟨[(0,F),(5,.mref 15),(10,.msl 44 bs.length),(46,.ref 46 0)],[(15,.rom W3 (cm.map L1)),(44,.arr 1 (bs.map B8)),(46,.iter (cm.map L1) Oa (some (L1 q)))],Aa⟩ (Yi ⟨⟨⟨rfl,hid _⟩,Zr,Zr,Zr,Tv⟩,Z3,Fh,Tv⟩ ?_)
   have GL:BW 1 [B8 q.1]∧(bs.map B8).length=bs.length∧((bs.map B8).length+[B8 q.1].length)*8≤140737488355328∧(bs.map B8).length+[B8 q.1].length≤9223372036854775807 :=
    ⟨⟨rfl,trivial⟩,by rw[Lm],by rw[Lm,AB];omega,by rw[Lm,AB];omega⟩
   refine Yi GL ?_;have e1:AV.msl 44 ((bs.map B8).length+[B8 q.1].length)=.msl 44 (bs++[q.1]).length:=by simp
   have e2:HO.arr 1 (bs.map B8++[B8 q.1])=.arr 1 ((bs++[q.1]).map B8):=by simp
   refine Xi ⟨(Oa,bs++[q.1],some (L1 q)),?_,fun kv Px=>r2 kv (hp.mem_iff.2 (Ai _ Px))⟩ ?_
   ·show(((bs++[q.1]).map kI)++Oa.map (·.1)).Perm _;have h1:=hp.map (fun x:Value×AV=>x.1);rw[AN]at h1;rw[Az,BH];exact(List.Perm.append_left _ h1.symm).trans r1
   ·exact⟨by show Oa.length<rem.length;rw[hp.length_eq];simp,⟨⟨rfl,hid _⟩,Zr,⟨e1,rfl⟩,Zr,Tv⟩,⟨Zr,⟨e2,rfl⟩,Zr,Tv⟩,Fh,Tv⟩
end Go.Eng

namespace Go.Eng
open Go.Proofs
theorem uW(n:Int)(l:List Bc):PC 278 [vi n,.cptr [sl FE l]] (vb (decide (n=l.length))):=by
 refine Ps EP Tryz.func278 rfl (Nz rfl) ?_;have e:((l.map FE).length:Int)=l.length:=by rw[Lm]
 refine Yi ?_ ?_
 ·intro h;have h:n=((l.map FE).length:Int):=h;rw[show decide (n=(l.length:Int))=true from Av (h.trans e)];exact .refl _
 ·intro h;have h:¬n=((l.map FE).length:Int):=h;rw[show decide (n=(l.length:Int))=false from Au (fun c=>h (c.trans e.symm))];exact .refl _
theorem uY(n:Int):PC 223 [vi n] (vb (decide (n=0))):=by
 refine Ps EP Tryz.func223 rfl (Nz rfl) ?_;refine Yi ?_ ?_
 ·intro h;have h:n=0:=h;rw[Av h];exact .refl _
 ·intro h;have h:¬n=0:=h;rw[Au h];exact .refl _
theorem vP(n:Int):PC 264 [vi n] (vb (decide (0<n))):=by
 refine Ps EP Tryz.func264 rfl (Nz rfl) ?_;refine Yi ?_ ?_
 ·intro h;have h:0<n:=h;rw[Av h];exact .refl _
 ·intro h;have h:¬0<n:=h;rw[Au h];exact .refl _
theorem il(l:List Bc)(p:Int):decide (eT l p=l.length)=l.all fun s=>has s p:=by
 unfold eT;rw[B3,AD,List.countP_eq_length,AW]
theorem im(l:List Bc)(p:Int):decide (0<eT l p)=l.any fun s=>has s p:=by
 unfold eT;rw[B3,AD,List.countP_pos_iff,A5]
theorem uK(l:List Bc)(hl:CL l)(hs:∀s∈l,CL s):PC 262 [sl FE l] (sl Ae (P0 l)):=by
 have hc:=nU (.clo 278 [.cptr [sl FE l]]) (fun n=>decide (n=l.length)) l hl hs (fun _=>rfl) (fun h n h0 _=>by
  have:=uW n l
  have e:decide (n=(l.length:Int))=decide (n.toNat=l.length):=by rw[IQ];omega
  rw[e]at this;exact this) (P0 l) (WI l) fun p=>by rw[Tg,il]
 refine Ps (j9 [1]) Tryz.func262 rfl (Nz rfl) ?_;refine Xi .pure (Xi _ (Yi (hc) ?_));exact .refl _
theorem nP(s:Bc)(hs:CL s):PC 190 [sl Ae s] (sl Ae (Eu s)):=by
 have hc:=nU (.v (Uw 223)) (fun n=>decide (n=0)) [s] (by unfold CL;simp) (fun t ht=>by rw[As.1 ht];exact hs) (fun _=>rfl) (fun h n h0 _=>by
  have:=uY n
  have e:decide (n=0)=decide (n.toNat=0):=by rw[IQ];omega
  rw[e]at this;exact this) (Eu s) (Hm s) fun p=>by
   rw[FU]
   have:eT [s] p=if has s p then 1 else 0:=by unfold eT;rw[IN];simp
   rw[this];cases has s p<;>rfl
 refine Ps EP Tryz.func190 rfl (Nz rfl) ?_;refine Xi .pure (Xi _ (Yi (hc) ?_));exact .refl _
theorem vL(l:List Bc)(hl:CL l)(hs:∀s∈l,CL s):PC 233 [sl FE l] (sl Ae (QF l)):=by
 have hc:=nU (.v (Uw 264)) (fun n=>decide (0<n)) l hl hs (fun _=>rfl) (fun h n h0 _=>by
  have:=vP n
  have e:decide (0<n)=decide (0<n.toNat):=by rw[IQ];omega
  rw[e]at this;exact this) (QF l) (W4 l) fun p=>by
   rw[Th,im];cases h:l.any fun s=>has s p with
   |false=>simp
   |true =>
    obtain⟨s,_,h2⟩:=A5.1 h
    have:=Mp h2
    simp[L0,this]
 refine Ps EP Tryz.func233 rfl (Nz rfl) ?_;refine Xi .pure (Xi _ (Yi (hc) ?_));exact .refl _
-- terms
theorem c59(t:Tm)(ht:CL t.set):PC 229 [.agg (AH t)] (vb (!t.absent&&(canon t.set).isEmpty)):=by
 refine Ps EP Tryz.func229 rfl (Nz rfl) ?_;refine Yi ?_ ?_
 ·intro h;have h:t.absent=true:=h;rw[h];exact .refl _
 ·intro h;have h:t.absent=false:=h;refine Xi .pure (Xi _ (Yi (Xs t.set ht) ?_));refine Yi ?_ ?_
  ·intro h2;have h2:(((canon t.set).map Ae).length:Int)=0:=h2;have h2:canon t.set=[]:=AK (by rw[Lm]at h2;omega);rw[h,h2];exact .refl _
  ·intro h2;have h2:¬(((canon t.set).map Ae).length:Int)=0:=h2;have h2:(canon t.set).isEmpty=false:=by
    cases hc:canon t.set with
    |nil=>rw[hc]at h2;exact absurd rfl h2
    |cons _ _=>rfl
   rw[h,h2];exact .refl _
theorem c60(t:Tm)(ht:CL t.set):PC 230 [.agg (AH t)] (vb (t.absent&&(Eu t.set).isEmpty)):=by
 refine Ps EP Tryz.func230 rfl (Nz rfl) ?_;refine Yi ?_ ?_
 ·intro h;have h:t.absent=true:=h;refine Xi .pure (Xi _ (Yi (nP t.set ht) ?_));refine Yi ?_ ?_
  ·intro h2;have h2:(((Eu t.set).map Ae).length:Int)=0:=h2;have h2:Eu t.set=[]:=AK (by rw[Lm]at h2;omega);rw[h,h2];exact .refl _
  ·intro h2;have h2:¬(((Eu t.set).map Ae).length:Int)=0:=h2;have h2:(Eu t.set).isEmpty=false:=by
    cases hc:Eu t.set with
    |nil=>rw[hc]at h2;exact absurd rfl h2
    |cons _ _=>rfl
   rw[h,h2];exact .refl _
 ·intro h;have h:t.absent=false:=h;rw[h];exact .refl _
end Go.Eng

namespace Go.Eng
open Go.Proofs
abbrev Ia(l:List Nat):QO:=⟨[],[],[],[],[],[],[],[],[],[],l⟩
theorem ze(u t:Tm)(hu:CL u.set)(ht:CL t.set):PC 228 [.agg (AH u),.agg (AH t)] (.agg (AH (G4 u t))):=by
 have hc:PC 262 [sl FE [u.set,t.set]] (sl Ae (O1 u.set t.set)):=uK [u.set,t.set] (by unfold CL;simp) (fun s hs=>by
  rcases AF.1 hs with rfl | hs
  ·exact hu
  ·rw[As.1 hs];exact ht)
 refine Ps (Ia [1]) Tryz.func228 rfl (Nz rfl) ?_;refine Xi ⟨[(2,.ref 2 0),(3,.ref 3 0),(4,.ref 4 0)],[(2,.cells (AH u)),(3,.cells (AH t)),(4,.cells [vs ⟨#[]⟩,vb false,.v (.slice none 0 0)])],Aa⟩ (Yi ⟨Z3,Z3,Fh,Tv⟩ ?_)
 refine Yi ?_ ?_
 ·intro h;have h:u.absent=true:=h;refine Yi ?_ ?_
  ·intro h2;have h2:t.absent=true:=h2;have e:[vs u.path,vb true,sl Ae (O1 u.set t.set)]=AH (G4 u t):=by unfold G4;rw[h,h2];rfl
   refine Xi _ (Yi (hc) ?_);refine Yi (Nz rfl) (Yi (by kernel_rfl) (Yi (Nz rfl) ?_));exact .of_eq (Ac AV.agg e)
  ·intro h2;have h2:t.absent=false:=h2;have e:[vs u.path,vb false,sl Ae (O1 u.set t.set)]=AH (G4 u t):=by unfold G4;rw[h,h2];rfl
   refine Xi _ (Yi (hc) ?_);refine Yi (Nz rfl) (Yi (by kernel_rfl) (Yi (Nz rfl) ?_));exact .of_eq (Ac AV.agg e)
 ·intro h;have h:u.absent=false:=h;have e:[vs u.path,vb false,sl Ae (O1 u.set t.set)]=AH (G4 u t):=by unfold G4;rw[h];rfl
  refine Xi _ (Yi (hc) ?_);refine Yi (Nz rfl) (Yi (by kernel_rfl) (Yi (Nz rfl) ?_));exact .of_eq (Ac AV.agg e)
theorem vC(u t:Tm)(hu:CL u.set)(ht:CL t.set):PC 193 [.agg (AH u),.agg (AH t)] (.agg (AH (Dv u t))):=by
 have hc:PC 233 [sl FE [u.set,t.set]] (sl Ae (Pr u.set t.set)):=vL [u.set,t.set] (by unfold CL;simp) (fun s hs=>by
  rcases AF.1 hs with rfl | hs
  ·exact hu
  ·rw[As.1 hs];exact ht)
 refine Ps (Ia [1]) Tryz.func193 rfl (Nz rfl) ?_;refine Xi ⟨[(2,.ref 2 0),(3,.ref 3 0),(4,.ref 4 0)],[(2,.cells (AH u)),(3,.cells (AH t)),(4,.cells [vs ⟨#[]⟩,vb false,.v (.slice none 0 0)])],Aa⟩ (Yi ⟨Z3,Z3,Fh,Tv⟩ ?_)
 refine Yi ?_ ?_
 ·intro h;have h:u.absent=true:=h;have e:[vs u.path,vb true,sl Ae (Pr u.set t.set)]=AH (Dv u t):=by unfold Dv;rw[h];rfl
  refine Xi _ (Yi (hc) ?_);refine Yi (Nz rfl) (Yi (by kernel_rfl) (Yi (Nz rfl) ?_));exact .of_eq (Ac AV.agg e)
 ·intro h;have h:u.absent=false:=h;refine Yi ?_ ?_
  ·intro h2;have h2:t.absent=true:=h2;have e:[vs u.path,vb true,sl Ae (Pr u.set t.set)]=AH (Dv u t):=by unfold Dv;rw[h,h2];rfl
   refine Xi _ (Yi (hc) ?_);refine Yi (Nz rfl) (Yi (by kernel_rfl) (Yi (Nz rfl) ?_));exact .of_eq (Ac AV.agg e)
  ·intro h2;have h2:t.absent=false:=h2;have e:[vs u.path,vb false,sl Ae (Pr u.set t.set)]=AH (Dv u t):=by unfold Dv;rw[h,h2];rfl
   refine Xi _ (Yi (hc) ?_);refine Yi (Nz rfl) (Yi (by kernel_rfl) (Yi (Nz rfl) ?_));exact .of_eq (Ac AV.agg e)
theorem qZ(q:Rq)(hq:CL q.set):PC 188 [.agg (Al q)] (.agg (AH (DK q))):=by
 refine Ps EP Tryz.func188 rfl (Nz rfl) ?_;refine Xi _ (Yi (nP q.set hq) ?_);refine Yi (Nz rfl) (Yi (by kernel_rfl) (Yi (Nz rfl) ?_));exact .refl _
end Go.Eng
