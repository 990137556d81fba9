/- Lemmas for the claims of this seat, without a condition: part 22 (S15, S17, S1, S2, S3, S4). -/
import Derived.Test.YtkmnnpmneamgoaaGreatDoorA03
import Derived.Test.YtkmnnpmneamgoaaGreatDoorA21
namespace Go.Proofs
open Go.Shelf Go.RowKit Go.Lib Go.Sort
abbrev OneC:Type:={v:Value // v.oneCell'=true}
def SlA:Type:=ByteArray×OneC×OneC×OneC
instance:Inhabited SlA:=⟨⟨ByteArray.empty,⟨.bool false,rfl⟩,⟨.bool false,rfl⟩,⟨.bool false,rfl⟩⟩⟩
def encSlA(x:SlA):List Value:=[.string x.1,x.2.1.1,x.2.2.1.1,x.2.2.2.1]
def cfSlA(x y:SlA):Int:=Lib.compareBytes x.1.data.toList y.1.data.toList
abbrev CmpSlA(k:Nat):Prop:=∀(x y:SlA) (W:World),Calls Tryz.prog k #[.agg #[.string x.1,x.2.1.1,x.2.2.1.1,x.2.2.2.1],.agg #[.string y.1,y.2.1.1,y.2.2.1.1,y.2.2.2.1]] W fun e w'=>e=.returned (.int .i64 (cfSlA x y))∧∃q os',w'=grow (W.drewN q) os'
set_option maxHeartbeats 1000000 in
theorem Tryz.closure48:CmpSlA 48:=fun x y W=>by
 have hcon:=fun W'=>Any.strings_Compare Tryz.layCompare x.1 y.1 W';obtain⟨a,⟨b,hb⟩,⟨c,hc⟩,⟨d,hd⟩⟩:=x;obtain⟨a',⟨b',jS⟩,⟨c',oG⟩,⟨d',jT⟩⟩:=y;dsimp only at hcon
 change ∀W',Calls Tryz.prog 49 _ _ _ at hcon
 unfold cfSlA;dsimp only;generalize Lib.compareBytes a.data.toList a'.data.toList=r at hcon⊢
 go_enter Tryz.func48,Tryz.ntmps48
 go_wp2_with (go_at_call 49;refine(hcon _).mono ?_;rintro e w' ⟨rfl,rfl⟩)
 go_ret
 exact⟨rfl,0,_,by rw[alloc_eq_grow,alloc_eq_grow,grow_grow];rfl⟩
set_option maxHeartbeats 1000000 in
theorem Tryz.closure65:CmpSlA 65:=fun x y W=>by
 have hcon:=fun W'=>Any.strings_Compare Tryz.layCompare x.1 y.1 W';obtain⟨a,⟨b,hb⟩,⟨c,hc⟩,⟨d,hd⟩⟩:=x;obtain⟨a',⟨b',jS⟩,⟨c',oG⟩,⟨d',jT⟩⟩:=y;dsimp only at hcon
 change ∀W',Calls Tryz.prog 49 _ _ _ at hcon
 unfold cfSlA;dsimp only;generalize Lib.compareBytes a.data.toList a'.data.toList=r at hcon⊢
 go_enter Tryz.func65,Tryz.ntmps65
 go_wp2_with (go_at_call 49;refine(hcon _).mono ?_;rintro e w' ⟨rfl,rfl⟩)
 go_ret
 exact⟨rfl,0,_,by rw[alloc_eq_grow,alloc_eq_grow,grow_grow];rfl⟩
end Go.Proofs
namespace Go.Eng
open Go.Proofs Go.Shelf Go.RowKit Go.Lib Go.Sort
theorem bx(x y:SlA):ltOf cfSlA x y=EN x.1 y.1:=TE _ _
theorem jA:SWO (ltOf cfSlA) where
 irrefl x:=by rw[bx];exact DY _
 trans x y z h1 h2:=by rw[bx]at *;exact Ep h1 h2
 ntrans x y z h1 h2:=by
  rw[bx]at *
  rw[AI];intro h;cases qq:EN y.1 x.1 with
  |true=>have:=Ep qq h;rw[h2]at this;cases this
  |false =>
   have e:=I7 h1 qq;rw[e]at h;rw[h2]at h;cases h
theorem s92(k:Nat)(hc:CmpSlA k)(eg:∀args w,(callFunc k args).run Tryz.prog w=.ok (.enter k args) w)(l:List Sl)(hl:CL l)(lim:Nat)(X5:lim<100) :
  Bo Tryz.prog 92 [.msl 1000 l.length,vi 0,vi l.length,vi lim,.v (Uw k)] (Ag [(1000,.arr 4 (l.map Ak))] Aa) fun r h' =>
   r=.tup []∧∃l' : List Sl,l'.Perm l∧l'.Pairwise (fun x y=>EN y.path x.path=false)∧h'=Ag [(1000,.arr 4 (l'.map Ak))] Aa:=by
 have hl:l.length≤1073741824:=hl;have hE:Gi Tryz.prog 92:=fY 92 Tryz.func92 (by kernel_rfl) rfl;have IE:=Jt (P:=Tryz.prog) (f:=92) (α:=SlA) (rest:=[.int .i64 0,.int .i64 l.length,.int .i64 lim,Uw k]) hE Ak encSlA (k:=4) (fun _=>rfl) (fun _=>rfl) (ltOf cfSlA) (fun x a=>a.1=x.path) l (by omega) ?_ ?_ ?_
 ·refine⟨hE,fun g w vals q1 q2 q3=>(IE.2 g w vals q1 q2 q3).mono fun _ _ ⟨v,r,h',g',e1,⟨e2,l',p1,⟨al,a1,a2,a3⟩,p2⟩,rest⟩=>⟨v,r,h',g',e1,⟨e2,l',p1,?_,p2⟩,rest⟩⟩;rw[Bm]at a3⊢;intro i j hi hj Wy
  have:=a3 i j (by omega) (by omega) Wy
  rw[bx]at this;have e1:=a2 i _ _ (Ge hi) (Ge (by omega));have e2:=a2 j _ _ (Ge hj) (Ge (by omega));rw[←e1,←e2];exact this
 ·intro x hx g w vs hr
  match vs,hr with
  | [a,b,c,d],hr =>
   have h1:=(hr.2.2 0 (Go.Eng.vs x.path) a rfl rfl).v_eq;subst h1;exact⟨⟨x.path,⟨b,hr.2.1 b (by simp)⟩,⟨c,hr.2.1 c (by simp)⟩,⟨d,hr.2.1 d (by simp)⟩⟩,rfl,rfl⟩
  | [],hr=>have:=hr.1;simp at this
  | [_],hr=>have:=hr.1;simp at this
  | [_,_],hr=>have:=hr.1;simp at this
  | [_,_,_],hr=>have:=hr.1;simp at this
  |_::_::_::_::_::_,hr=>have:=hr.1;simp at this
 ·intro w b cap d hH hb En hdl;have gK:CmpLays Tryz.prog k #[] encSlA 4 cfSlA b 0 d.size w:=fun _ _ _ _ x y=>hc x y _;have hp:=AnyQ.pdqsortCmpFunc_all Tryz.layPdqSel 4 Tryz.isAgg51 Tryz.sizeOf51 encSlA cfSlA k #[] jA b 0 cap d w eg gK ⟨fun _=>rfl,fun x v hv=>by
    simp only[encSlA,AF,LW,or_false]at hv;rcases hv with rfl | rfl | rfl | rfl
    ·rfl
    ·exact x.2.1.2
    ·exact x.2.2.1.2
    ·exact x.2.2.2.2,hH,hb⟩ (d.size+1) 0 d.size lim d w (by omega) rfl (SWK.start hH) (AL _) (Ao _) En (by omega) (Or.inl rfl)
  rw[hdl]at hp⊢;refine hp.mono ?_
  rintro e w' ⟨rfl,n,os,rfl⟩
  have h:=pdq_sorts (ltOf cfSlA) jA d 0 d.size lim true true (AL _) (Ao _) (Or.inl rfl);rw[hdl]at h;exact⟨rfl,_,n,os,h.1,h.2,rfl⟩
 ·intro e w;subst e;exact AnyF.pdqsortCmpFunc_none Tryz.layPdqSel none 0 lim (Uw k) w
theorem NK{l l' : List Sl}(h1:Pz l)(h2:Pz l')(hm:∀y,y∈l↔y∈l'):l=l':=by
 induction l generalizing l' with
 |nil =>
  cases l' with
  |nil=>rfl
  |cons y l'=>have:=(hm y).2 (Ab ..);cases this
 |cons x l ih =>
  cases l' with
  |nil=>have:=(hm x).1 (Ab ..);cases this
  |cons y l' =>
   obtain⟨a1,a2⟩:=Dg.1 h1;obtain⟨b1,b2⟩:=Dg.1 h2;have e:x=y:=by
    rcases AF.1 ((hm x).1 (Ab ..))with e | e
    ·exact e
    ·rcases AF.1 ((hm y).2 (Ab ..))with e2 | e2
     ·exact e2.symm
     ·have c1:=b1 x e;have c2:=a1 y e2
      have:=Ep c1 c2
      rw[DY]at this;cases this
   subst e
   congr 1
   refine ih a2 b2 fun z=>⟨fun hz=>?_,fun hz=>?_⟩
   ·rcases AF.1 ((hm z).1 (Ai _ hz))with e | e
    ·subst e
     have:=a1 z hz
     rw[DY]at this;cases this
    ·exact e
   ·rcases AF.1 ((hm z).2 (Ai _ hz))with e | e
    ·subst e
     have:=b1 z hz
     rw[DY]at this;cases this
    ·exact e
theorem jw{l l' : List Sl}(hn:(l.map (·.path)).Nodup)(hp:l'.Perm l)(hs:l'.Pairwise fun x y=>EN y.path x.path=false):l'=Dp l:=by
 refine NK ?_ (M5 hn) fun y=>by rw[hp.mem_iff,Ht]
 have X7 : (l'.map (·.path)).Nodup:=(hp.map (·.path)).nodup_iff.2 hn;show l'.Pairwise _;rw[Bm]at hs⊢;intro i j hi hj Wy;cases hb:EN l'[i].path l'[j].path with
 |true=>rfl
 |false =>
  have e:=I7 hb (hs i j hi hj Wy)
  have:=(Bm.1 X7) i j (by simpa using hi) (by simpa using hj) Wy
  simp at this;exact absurd e this
theorem s47(k:Nat)(hc:CmpSlA k)(eg:∀args w,(callFunc k args).run Tryz.prog w=.ok (.enter k args) w)(l:List Sl)(hl:CL l)(hn:(l.map (·.path)).Nodup) :
  Bo Tryz.prog 47 [.msl 1000 l.length,.v (Uw k)] (Ag [(1000,.arr 4 (l.map Ak))] Aa) fun r h' =>
   r=.tup []∧h'=Ag [(1000,.arr 4 ((Dp l).map Ak))] Aa:=by
 obtain⟨lim,X5,hb⟩:=nQ l.length hl;refine CH (MN EP) [(1000,1000)] rfl CI hm rfl Tryz.func47 (by kernel_rfl) rfl (Nz rfl) (by kernel_rfl) rfl ?_;refine Xi .pure (Xi _ (Yi (hb) ?_));refine Xi (.gen [(1000,1000)] 0) (Yi rfl ((s92 k hc eg l hl lim X5).imp ?_));intro r h' hq;refine Bb hq.2 (fun l' PV=>?_);have e:=jw hn PV.1 PV.2.1;refine Xi (.tup []) (Yi ?_ (Yi rfl ?_))
 ·exact .refl _
 ·rw[PV.2.2,e];rfl
end Go.Eng

namespace Go.Eng
open Go.Proofs
abbrev s5(n:Nat):QO:=⟨[],[],[(2,n),(5,n)],[],[],[],[5],[],[],[],[2,3]⟩
theorem tK(l:List Sl)(hl:CL l):Bo Tryz.prog 46 [sl Ak l] (Ag [] Aa) fun r h'=>r=.msl 2000 l.length∧h'=Ag [(2000,.arr 4 (l.map Ak))] Aa:=by
 refine CH (MN (s5 4)) [(2,2000)] rfl CI hm rfl Tryz.func46 (by kernel_rfl) rfl (Nz rfl) (by kernel_rfl) rfl ?_;have GL:BW 4 (l.map Ak)∧([]:List (List AV)).length=0∧(([]:List (List AV)).length+(l.map Ak).length)*40≤140737488355328∧([]:List (List AV)).length+(l.map Ak).length≤9223372036854775807:=by
  refine⟨Du (enc:=Ak) (n:=4) (fun _=>rfl) l,rfl,?_,?_⟩<;>simp only[Ah,Lm]<;>unfold CL at hl<;>omega
 have e1:AV.msl 2000 (([]:List (List AV)).length+(l.map Ak).length)=.msl 2000 l.length:=by simp
 refine Xi 0 ?_;refine Xi 0 ?_;refine Yi ?_ ?_
 ·intro _;refine Xi ⟨[(0,sl Ak l)],[],Aa⟩ (Yi ⟨Z1,Tv,Fh,At (by kernel_rfl)⟩ ?_)
  refine Xi 2 ?_;refine Yi GL ?_;exact Xi _ (Yi (.refl _) (Yi e1 rfl))
 ·intro h;have h:l.map Ak=[]:=h;refine Yi ?_ ?_
  ·refine Xi ⟨[],[],Aa⟩ (Yi ⟨trivial,trivial,fun _=>.inl rfl,At (by kernel_rfl)⟩ ?_)
   refine Xi 2 ?_;exact Xi _ (Yi (.refl _) (Yi (show AV.msl 2000 0=_ by rw[EW.1 h];rfl) (show Ag [(2000,HO.arr 4 [])] Aa=_ by rw[h])))
  ·refine Xi ⟨[(0,sl Ak l)],[],Aa⟩ (Yi ⟨Z1,Tv,Fh,At (by kernel_rfl)⟩ ?_)
   refine Xi 2 ?_;refine Yi GL ?_;exact Xi _ (Yi (.refl _) (Yi e1 rfl))
end Go.Eng

namespace Go.Eng
open Go.Proofs
abbrev Ay(c:Cd):List AV:=vi c.place::AY c.rel
abbrev AT(n:Nd):List AV:=[vs n.rq.path,sl Ae n.rq.set,vs n.path,vi n.place,vi n.number]
abbrev AS(l:List Sk):List AV:=[sl BE l]
abbrev BG(i:Nat):List AV:=[vi (i:Nat)]
def DA:ES:=⟨true,[.int .i64,.str,.int .i64,.int .i64,.int .i64,.int .i64]⟩
def JC(i:Nf):Value:=.agg [.int .i64 i.kind,.string i.path,.int .i64 i.place,.int .i64 i.number,.int .i64 i.left,.int .i64 i.right].toArray
def D5:Nat→List Nf→List (Value×AV)
 |_,[]=>[]
 |k,i::l=>(JC i,vi (k:Nat))::D5 (k+1) l
abbrev Py(roots:List Rq)(C A:List (Value×AV))(s:SS)(dec:List Cd)(n:Nat):List AV :=
 [sl Al roots,.cmap DQ C,.cmap DQ A,.slice (.id 1001 6) (s.infs.map BQ),.slice (.id 1002 1) (s.drv.map B5),.mref 1003,vb s.full,sl Ay dec,sl Ak (Ap dec),.msl 1004 n]
abbrev srM(roots:List Rq)(C A:List (Value×AV))(s:SS)(dec:List Cd)(k n:Nat):List AV :=
 [sl Al roots,.cmap DQ C,.cmap DQ A,.slice (.id 1001 6) (s.infs.map BQ),.slice (.id 1002 1) (s.drv.map B5),.mref 1003,vb s.full,sl Ay dec,sl Ak (Ap dec),.msl k n]
abbrev H7(roots:List Rq)(C A:List (Value×AV))(s:SS)(dec:List Cd)(st:List (List Sk)):List (Nat×HO) :=
 [(1000,.cells (Py roots C A s dec st.length)),(1001,.tok 6 s.infs.length),(1002,.tok 1 s.drv.length),(1003,.map DA (D5 0 s.infs)),(1004,.arr 1 (st.map AS))]
theorem yK{fF:Nat}{caps:List AV}(hs:E6 caps)(l:List (Cd))(p:Cd→Bool)(hF:∀x∈l,PC fF ([.agg (Ay x)]++caps) (vb (p x)))(hl:l.length<9223372036854775807) :
  PC 217 [sl Ay l,.clo fF caps] (vi (Ki p l 0)):=by
 refine Ps EP Tryz.func217 rfl (Nz rfl) ?_;refine Xi {i:Nat // i≤l.length∧∀j (hj:j<l.length),j<i→p l[j]=false} (Xi (fun i=>⟨[(0,sl Ay l),(1,.clo fF caps),(7,vi (l.map Ay).length),(8,vi i.1)],[],Aa⟩) (Xi (fun i=>l.length-i.1) (Yi (Xi ⟨0,by simp⟩ ?_) ?_)))
 ·exact⟨⟨Zr,⟨rfl,hs.ids _⟩,Zr,Zr,Tv⟩,Tv,Fh,Tv⟩
 ·intro⟨i,h1,h2⟩;refine Yi ?_ ?_
  ·intro h;have h:(i:Int)<(l.map Ay).length:=h;have h:i<l.length:=by simpa using h
   have hg:l[i]?=some l[i]:=Ge h;refine Xi (Ay l[i]) (Yi (Yi (Nn i) (by simp[hg])) (Yi rfl (Yi (Nz rfl) ?_)));have D2:∀h,PC fF ([.agg (Ay l[i])]++caps.map (str0 h)) (vb (p l[i])):=fun h=>by rw[hs.map];exact hF l[i] (Am _)
   cases hp:p l[i]with
   |true =>
    rw[hp]at D2;refine Xi .pure (Xi (vb true) (Yi (D2 _) ?_));rw[PZ h (fun j hj IL=>h2 j hj IL) hp,Kv];exact .refl _
   |false =>
    rw[hp]at D2;refine Xi .pure (Xi (vb false) (Yi (D2 _) ?_));refine Yi (Ii i (by omega)) ?_;refine Xi ⟨i+1,by omega,fun j hj IL=>?_⟩ ?_
    ·by_cases e:j=i
     ·subst e;exact hp
     ·exact h2 j hj (by omega)
    ·exact⟨Dl l.length i (by omega),⟨Zr,⟨rfl,hs.ids _⟩,Zr,Zr,Tv⟩,Tv,Fh,Tv⟩
  ·intro h;have h:¬(i:Int)<(l.map Ay).length:=h;have h:¬i<l.length:=by simpa using h
   rw[KO fun j hj=>h2 j hj (by omega)];exact .refl _
theorem s86{fF:Nat}{caps:List AV}(hs:E6 caps)(l:List (Nd))(p:Nd→Bool)(hF:∀x∈l,PC fF ([.agg (AT x)]++caps) (vb (p x)))(hl:l.length<9223372036854775807) :
  PC 86 [sl AT l,.clo fF caps] (vi (Ki p l 0)):=by
 refine Ps EP Tryz.func86 rfl (Nz rfl) ?_;refine Xi {i:Nat // i≤l.length∧∀j (hj:j<l.length),j<i→p l[j]=false} (Xi (fun i=>⟨[(0,sl AT l),(1,.clo fF caps),(7,vi (l.map AT).length),(8,vi i.1)],[],Aa⟩) (Xi (fun i=>l.length-i.1) (Yi (Xi ⟨0,by simp⟩ ?_) ?_)))
 ·exact⟨⟨Zr,⟨rfl,hs.ids _⟩,Zr,Zr,Tv⟩,Tv,Fh,Tv⟩
 ·intro⟨i,h1,h2⟩;refine Yi ?_ ?_
  ·intro h;have h:(i:Int)<(l.map AT).length:=h;have h:i<l.length:=by simpa using h
   have hg:l[i]?=some l[i]:=Ge h;refine Xi (AT l[i]) (Yi (Yi (Nn i) (by simp[hg])) (Yi rfl (Yi (Nz rfl) ?_)));have D2:∀h,PC fF ([.agg (AT l[i])]++caps.map (str0 h)) (vb (p l[i])):=fun h=>by rw[hs.map];exact hF l[i] (Am _)
   cases hp:p l[i]with
   |true =>
    rw[hp]at D2;refine Xi .pure (Xi (vb true) (Yi (D2 _) ?_));rw[PZ h (fun j hj IL=>h2 j hj IL) hp,Kv];exact .refl _
   |false =>
    rw[hp]at D2;refine Xi .pure (Xi (vb false) (Yi (D2 _) ?_));refine Yi (Ii i (by omega)) ?_;refine Xi ⟨i+1,by omega,fun j hj IL=>?_⟩ ?_
    ·by_cases e:j=i
     ·subst e;exact hp
     ·exact h2 j hj (by omega)
    ·exact⟨Dl l.length i (by omega),⟨Zr,⟨rfl,hs.ids _⟩,Zr,Zr,Tv⟩,Tv,Fh,Tv⟩
  ·intro h;have h:¬(i:Int)<(l.map AT).length:=h;have h:¬i<l.length:=by simpa using h
   rw[KO fun j hj=>h2 j hj (by omega)];exact .refl _
theorem tB{fF:Nat}{caps:List AV}(hs:E6 caps)(l:List (Cd))(p:Cd→Bool)(hF:∀x∈l,PC fF ([.agg (Ay x)]++caps) (vb (p x)))(hl:CL l) :
  PC 171 [sl Ay l,.clo fF caps] (vb (l.any p)):=by
 refine Ps EP Tryz.func171 rfl (Nz rfl) ?_;have hi:=yK hs l p hF (by unfold CL at hl;omega);have D2:∀h,PC 217 [sl Ay l,.clo fF (caps.map (str0 h))] (vi (Ki p l 0)):=fun h=>by rw[hs.map];exact hi
 refine Xi .pure (Xi _ (Yi (D2 _) ?_));have ha:=MQ (p:=p) l 0 (BF 0);refine Yi ?_ ?_
 ·intro h;have h:(0:Int)≤Ki p l 0:=h;rw[←ha,Av h];exact .refl _
 ·intro h;have h:¬(0:Int)≤Ki p l 0:=h;rw[←ha,Au h];exact .refl _
theorem s66{fF:Nat}{caps:List AV}(hs:E6 caps)(l:List (Nd))(p:Nd→Bool)(hF:∀x∈l,PC fF ([.agg (AT x)]++caps) (vb (p x)))(hl:CL l) :
  PC 66 [sl AT l,.clo fF caps] (vb (l.any p)):=by
 refine Ps EP Tryz.func66 rfl (Nz rfl) ?_;have hi:=s86 hs l p hF (by unfold CL at hl;omega);have D2:∀h,PC 86 [sl AT l,.clo fF (caps.map (str0 h))] (vi (Ki p l 0)):=fun h=>by rw[hs.map];exact hi
 refine Xi .pure (Xi _ (Yi (D2 _) ?_));have ha:=MQ (p:=p) l 0 (BF 0);refine Yi ?_ ?_
 ·intro h;have h:(0:Int)≤Ki p l 0:=h;rw[←ha,Av h];exact .refl _
 ·intro h;have h:¬(0:Int)≤Ki p l 0:=h;rw[←ha,Au h];exact .refl _
theorem pL(l:List Cd)(hl:CL l):Bo Tryz.prog 70 [sl Ay l] (Ag [] Aa) fun r h'=>r=.slice (.id 2000 10) (l.map Ay)∧h'=Ag [(2000,.tok 10 (l.map Ay).length)] Aa:=by
 refine CH (MN (sZ 10)) [(2,2000)] rfl CI hm rfl Tryz.func70 (by kernel_rfl) rfl (Nz rfl) (by kernel_rfl) rfl ?_;have GL:BW 10 (l.map Ay)∧([]:List (List AV)).length=0∧(([]:List (List AV)).length+(l.map Ay).length)*128≤140737488355328∧([]:List (List AV)).length+(l.map Ay).length≤9223372036854775807:=by
  refine⟨Du (enc:=Ay) (n:=10) (fun _=>rfl) l,rfl,?_,?_⟩<;>simp only[Ah,Lm]<;>unfold CL at hl<;>omega
 have e2:HO.tok 10 (([]:List (List AV)).length+(l.map Ay).length)=.tok 10 (l.map Ay).length:=by rw[Ah,Be]
 have e3:AV.slice (.id 2000 10) ([]++l.map Ay)=.slice (.id 2000 10) (l.map Ay):=rfl;have full:∀st:St,(∃s:LS,St.le (MN (sZ 10)) st s∧True)→True:=fun _ _=>trivial;refine Xi 0 ?_;refine Xi 0 ?_;refine Yi ?_ ?_
 ·intro _;refine Xi ⟨[(0,sl Ay l)],[],Aa⟩ (Yi ⟨Z1,Tv,Fh,At (by kernel_rfl)⟩ ?_)
  refine Xi 2 ?_;refine Yi GL ?_;exact Xi _ (Yi (.refl _) (Yi e3 (Ac (fun o=>Ag [(2000,o)] Aa) e2)))
 ·intro h;have h:l.map Ay=[]:=h;refine Yi ?_ ?_
  ·refine Xi ⟨[],[],Aa⟩ (Yi ⟨trivial,trivial,fun _=>.inl rfl,At (by kernel_rfl)⟩ ?_)
   refine Xi 0 ?_;exact Xi _ (Yi (.refl _) (Yi (show AV.slice (.id 2000 10) []=_ by rw[h]) (show Ag [(2000,HO.tok 10 0)] Aa=_ by rw[h];rfl)))
  ·refine Xi ⟨[(0,sl Ay l)],[],Aa⟩ (Yi ⟨Z1,Tv,Fh,At (by kernel_rfl)⟩ ?_)
   refine Xi 2 ?_;refine Yi GL ?_;exact Xi _ (Yi (.refl _) (Yi e3 (Ac (fun o=>Ag [(2000,o)] Aa) e2)))
end Go.Eng

namespace Go.Eng
open Go.Proofs
theorem RT:∀{l:List Nf} {k:Nat} {kx:Value} {a:AV},(kx,a)∈D5 k l↔∃j i,l[j]?=some i∧kx=JC i∧a=vi ((k+j:Nat):Int)
 | [],k,kx,a=>by simp[D5]
 |y::l,k,kx,a=>by
  unfold D5;rw[AF,RT];constructor
  ·rintro(h | ⟨j,i,h1,h2,h3⟩)
   ·cases h;exact⟨0,y,rfl,rfl,rfl⟩
   ·exact⟨j+1,i,h1,h2,by rw[h3,show k+1+j=k+(j+1) by omega]⟩
  ·rintro⟨j,i,h1,h2,h3⟩
   cases j with
   |zero=>cases h1;exact .inl (by rw[h2,h3];rfl)
   |succ j=>exact .inr ⟨j,i,h1,h2,by rw[h3,show k+1+j=k+(j+1) by omega]⟩
theorem Vs{a b:Nf}(h:JC a=JC b):a=b:=by
 obtain⟨a1,a2,a3,a4,a5,a6⟩:=a;obtain⟨b1,b2,b3,b4,b5,b6⟩:=b;unfold JC at h;simp at h;obtain⟨rfl,rfl,rfl,rfl,rfl,rfl⟩:=h
 rfl
theorem sN{l:List Nf}{i:Nf}{k:Nat}(h:L3 i 0 l=some k):(JC i,vi (k:Nat))∈D5 0 l:=by
 obtain⟨j,e,hj⟩:=M3 h;exact RT.2 ⟨j,i,hj,rfl,by rw[e]⟩
theorem lG{l:List Nf}(hn:l.Nodup){i:Nf}{k:Nat}(h:L3 i 0 l=some k):∀b,(JC i,b)∈D5 0 l→b=vi (k:Nat):=fun b hb=>by
 obtain⟨j,e,hj⟩:=M3 h;obtain⟨j',i',h1,h2,h3⟩:=RT.1 hb
 have:=Vs h2
 subst this;obtain⟨a1,a2⟩:=Aw.1 hj;obtain⟨b1,b2⟩:=Aw.1 h1
 have:j'=j:=(List.getElem_inj hn).1 (b2.trans a2.symm)
 subst this;rw[h3,e]
theorem nk{l:List Nf}{i:Nf}(h:L3 i 0 l=none):∀a,(JC i,a)∉D5 0 l:=fun a ha=>by
 obtain⟨j,i',h1,h2,_⟩:=RT.1 ha
 have:=Vs h2
 subst this;exact Qn h (AA h1)
theorem bw:∀(l:List Nf) (k:Nat) (i:Nf),D5 k (l++[i])=D5 k l++[(JC i,vi ((k+l.length:Nat):Int))]
 | [],k,i=>by simp[D5]
 |y::l,k,i=>by
  show(JC y,_)::D5 (k+1) (l++[i])=_;rw[bw l (k+1) i];simp[D5,show k+1+l.length=k+(l.length+1) by omega]
theorem pe{l:List Nf}{i:Nf}(h:L3 i 0 l=none):Fg (D5 0 l) (JC i) (vi ((l.map BQ).length:Int))=D5 0 (l++[i]):=by
 rw[Mx (nk h),bw,Lm,Be]
theorem Xm{s:SS}{i:Nf}{l:List Tm}{k:Nat}(h:L3 i 0 s.infs=some k):DU s i l=(k,s):=by unfold DU;rw[h]
theorem UV{s:SS}{i:Nf}{l:List Tm}(h:L3 i 0 s.infs=none)(hf:65536≤s.infs.length):DU s i l=(s.infs.length-1,⟨s.infs,s.drv,true⟩):=by unfold DU;rw[h];exact Ax hf
theorem Xk{s:SS}{i:Nf}{l:List Tm}(h:L3 i 0 s.infs=none)(hf:¬65536≤s.infs.length):DU s i l=(s.infs.length,⟨s.infs++[i],s.drv++[l],s.full⟩):=by unfold DU;rw[h];exact Aq hf
section
variable {roots:List Rq}{C A:List (Value×AV)}{s s' : SS}{dec:List Cd}{st:List (List Sk)}{i:Nf}{l:List Tm}
theorem fj{k:Nat}{z:Int}(e:DU s i l=(k,s'))(hz:z=k):vi z=vi ((DU s i l).1:Nat)∧Ag (H7 roots C A s' dec st) Aa=Ag (H7 roots C A (DU s i l).2 dec st) Aa:=by rw[e,hz];exact Zr
theorem qE(h:L3 i 0 s.infs=none):Ag [(1000,.cells [sl Al roots,.cmap DQ C,.cmap DQ A,.slice (.id 1001 6) (s.infs.map BQ++[BQ i]),.slice (.id 1002 1) (s.drv.map B5++[B5 l]),.mref 1003,vb s.full,sl Ay dec,sl Ak (Ap dec),.msl 1004 st.length]),
      (1001,.tok 6 ((s.infs.map BQ).length+[BQ i].length)),(1002,.tok 1 ((s.drv.map B5).length+[B5 l].length)),(1003,.map DA (Fg (D5 0 s.infs) (JC i) (vi ((s.infs.map BQ).length:Int)))),(1004,.arr 1 (st.map AS))] Aa=Ag (H7 roots C A ⟨s.infs++[i],s.drv++[l],s.full⟩ dec st) Aa:=by
  have e1:s.infs.map BQ++[BQ i]=(s.infs++[i]).map BQ:=by simp
  have e2:s.drv.map B5++[B5 l]=(s.drv++[l]).map B5:=by simp
  have e3:(s.infs.map BQ).length+[BQ i].length=(s.infs++[i]).length:=by simp
  have e4:(s.drv.map B5).length+[B5 l].length=(s.drv++[l]).length:=by simp
  rw[e1,e2,e3,e4,pe h]
end
theorem tC(c:Cd)(p:ByteArray):PC 172 [.agg (Ay c),.cptr [vs p]] (vb (decide (c.rel.path=p))):=by
 refine Ps ⟨[2],[],[],[],[],[],[],[],[],[],[]⟩ Tryz.func172 rfl (Nz rfl) ?_;refine Yi (fun h1=>?_) (fun h1=>?_)
 ·have h1:(c.rel.path:ByteArray)=p:=h1;exact .of_eq (show vb true=vb (decide (c.rel.path=p)) by rw[Av h1])
 have h1:¬(c.rel.path:ByteArray)=p:=h1;exact .of_eq (show vb false=vb (decide (c.rel.path=p)) by rw[Au h1])
theorem tA(t:Tm)(p:ByteArray):PC 136 [.agg (AH t),.cptr [vs p]] (vb (decide (t.path=p))):=by
 refine Ps ⟨[2],[],[],[],[],[],[],[],[],[],[]⟩ Tryz.func136 rfl (Nz rfl) ?_;refine Yi (fun h1=>?_) (fun h1=>?_)
 ·have h1:(t.path:ByteArray)=p:=h1;exact .of_eq (show vb true=vb (decide (t.path=p)) by rw[Av h1])
 have h1:¬(t.path:ByteArray)=p:=h1;exact .of_eq (show vb false=vb (decide (t.path=p)) by rw[Au h1])
theorem ka(l:List Tm)(p:ByteArray)(hl:CL l):PC 90 [sl AH l,vs p] (vb (CA l p)):=by
 refine Ps ⟨[3],[],[],[],[],[],[],[],[],[],[]⟩ Tryz.func90 rfl (Nz rfl) ?_;refine BO (Bt (CA l p)) (fun h1=>?_) (fun h1=>?_)
 ·have h1:(CA l p)=true:=h1;have PT:=(show PC 135 [sl AH l,.clo 136 [.cptr [vs p]]] (vb (CA l p))from nS (fF:=136) (caps:=[.cptr [vs p]]) (fun c hc=>by obtain rfl:=As.1 hc;intro h;rfl) l (fun t=>decide (t.path=p)) (fun t _=>tA t p) hl);rw[show(CA l p)=true from h1]at PT;refine Xi .pure (Xi _ (Yi PT ?_));exact .of_eq (show vb true=vb (CA l p) by rw[h1])
 have h1:(CA l p)=false:=h1;have XU:=(show PC 135 [sl AH l,.clo 136 [.cptr [vs p]]] (vb (CA l p))from nS (fF:=136) (caps:=[.cptr [vs p]]) (fun c hc=>by obtain rfl:=As.1 hc;intro h;rfl) l (fun t=>decide (t.path=p)) (fun t _=>tA t p) hl);rw[show(CA l p)=false from h1]at XU;refine Xi .pure (Xi _ (Yi XU ?_));exact .of_eq (show vb false=vb (CA l p) by rw[h1])
theorem tx(roots:List Rq)(C A:List (Value×AV))(s:SS)(dec:List Cd)(st:List (List Sk))(p:ByteArray)(hl:CL dec):Bo Tryz.prog 118 [.ref 1000 0,vs p] (Ag (H7 roots C A s dec st) Aa) fun r h'=>r=vb (CR dec p)∧h'=Ag (H7 roots C A s dec st) Aa:=by
 refine CH (MN ⟨[3],[],[],[],[],[],[],[],[],[],[]⟩) [(1000,1000),(1001,1001),(1002,1002),(1003,1003),(1004,1004)] rfl CI hm rfl Tryz.func118 (by kernel_rfl) rfl (Nz rfl) (by kernel_rfl) rfl ?_;refine BO (Bt (CR dec p)) (fun h1=>?_) (fun h1=>?_)
 ·have h1:(CR dec p)=true:=h1;have PT:=(show PC 171 [sl Ay dec,.clo 172 [.cptr [vs p]]] (vb (CR dec p))from tB (fF:=172) (caps:=[.cptr [vs p]]) (fun c hc=>by obtain rfl:=As.1 hc;intro h;rfl) dec (fun c=>decide (c.rel.path=p)) (fun c _=>tC c p) hl);rw[show(CR dec p)=true from h1]at PT;refine Xi .pure (Xi _ (Yi PT ?_));exact Xi _ (Yi (.refl _) (Yi (show vb true=vb (CR dec p) by rw[h1]) rfl))
 have h1:(CR dec p)=false:=h1;have XU:=(show PC 171 [sl Ay dec,.clo 172 [.cptr [vs p]]] (vb (CR dec p))from tB (fF:=172) (caps:=[.cptr [vs p]]) (fun c hc=>by obtain rfl:=As.1 hc;intro h;rfl) dec (fun c=>decide (c.rel.path=p)) (fun c _=>tC c p) hl);rw[show(CR dec p)=false from h1]at XU;refine Xi .pure (Xi _ (Yi XU ?_));exact Xi _ (Yi (.refl _) (Yi (show vb false=vb (CR dec p) by rw[h1]) rfl))
set_option maxHeartbeats 4000000 in
theorem mv(roots:List Rq)(C A:List (Value×AV))(s:SS)(dec:List Cd)(st:List (List Sk))(i:Nf)(l:List Tm)(k:Nat)(hk:L3 i 0 s.infs=some k)(MP:s.infs.Nodup):Bo Tryz.prog 132 [.ref 1000 0,.agg (BQ i),sl AH l] (Ag (H7 roots C A s dec st) Aa) fun r h'=>r=vi ((DU s i l).1:Nat)∧h'=Ag (H7 roots C A (DU s i l).2 dec st) Aa:=by
 refine CH (MN ⟨[4],[],[],[],[],[],[],[],[],[],[2,5,7,8,9,10,11]⟩) [(1000,1000),(1001,1001),(1002,1002),(1003,1003),(1004,1004)] rfl CI hm rfl Tryz.func132 (by kernel_rfl) rfl (Nz rfl) (by kernel_rfl) rfl ?_;refine Yi (Nz rfl) ?_;refine Or.inl (Xi (vi (k:Nat)) (Yi (Yi (sN hk) (lG MP hk)) ?_));refine Yi (by kernel_rfl) ?_;refine Xi ⟨[(0,.ref 1000 0),(2,sl AH l),(4,.ref 4 0),(7,vi (k:Nat)),(8,vb true)],[(4,.ro (BQ i)),(1000,.cells (srM roots C A s dec 1004 st.length)),(1001,.tok 6 s.infs.length),(1002,.tok 1 s.drv.length),(1003,.map DA (D5 0 s.infs)),(1004,.arr 1 (st.map AS))],Aa⟩ (Yi ⟨Z5,Z6,Fh,At (by kernel_rfl)⟩ ?_)
 exact Xi _ (Yi (.refl _) (fj (Xm hk) rfl))
set_option maxHeartbeats 4000000 in
theorem mu(roots:List Rq)(C A:List (Value×AV))(s:SS)(dec:List Cd)(st:List (List Sk))(i:Nf)(l:List Tm)(hk:L3 i 0 s.infs=none)(hn:s.infs.length≤65536)(hdl:s.drv.length=s.infs.length):Bo Tryz.prog 132 [.ref 1000 0,.agg (BQ i),sl AH l] (Ag (H7 roots C A s dec st) Aa) fun r h'=>r=vi ((DU s i l).1:Nat)∧h'=Ag (H7 roots C A (DU s i l).2 dec st) Aa:=by
 have hdn:s.drv.length≤65536:=by omega
 have ub:(s.infs.map BQ).length=s.infs.length:=Lm _;refine CH (MN ⟨[4],[],[],[],[],[],[],[],[],[],[2,5,7,8,9,10,11]⟩) [(1000,1000),(1001,1001),(1002,1002),(1003,1003),(1004,1004)] rfl CI hm rfl Tryz.func132 (by kernel_rfl) rfl (Nz rfl) (by kernel_rfl) rfl ?_;refine Yi (Nz rfl) ?_;refine Or.inr (Yi (nk hk) ?_);refine Yi (by kernel_rfl) ?_;refine Xi ⟨[(0,.ref 1000 0),(2,sl AH l),(4,.ref 4 0),(7,vi 0),(8,vb false)],[(4,.ro (BQ i)),(1000,.cells (srM roots C A s dec 1004 st.length)),(1001,.tok 6 s.infs.length),(1002,.tok 1 s.drv.length),(1003,.map DA (D5 0 s.infs)),(1004,.arr 1 (st.map AS))],Aa⟩ (Yi ⟨Z5,Z6,Fh,At (by kernel_rfl)⟩ ?_)
 refine Yi (fun h1=>?_) (fun h1=>?_)
 ·have h1:(65536:Int)≤((s.infs.map BQ).length:Int):=h1;refine Xi ⟨[(0,.ref 1000 0)],[(1000,.cells (srM roots C A s dec 1004 st.length)),(1001,.tok 6 s.infs.length),(1002,.tok 1 s.drv.length),(1003,.map DA (D5 0 s.infs)),(1004,.arr 1 (st.map AS))],Aa⟩ (Yi ⟨Z1,Z5,Fh,At (by kernel_rfl)⟩ ?_)
  refine Yi (Nz rfl) ?_;refine Yi (by show A9 (((s.infs.map BQ).length:Int)-(1:Int));unfold A9;omega) ?_;exact Xi _ (Yi (.refl _) (fj (UV hk (by have q:=h1;rw[Lm]at q;omega)) (by have q:=h1;rw[Lm]at q⊢;omega)))
 have h1:¬((65536:Int)≤((s.infs.map BQ).length:Int)):=h1;refine Xi ⟨[(0,.ref 1000 0),(2,sl AH l),(4,.ref 4 0)],[(4,.ro (BQ i)),(1000,.cells (srM roots C A s dec 1004 st.length)),(1001,.tok 6 s.infs.length),(1002,.tok 1 s.drv.length),(1003,.map DA (D5 0 s.infs)),(1004,.arr 1 (st.map AS))],Aa⟩ (Yi ⟨Z3,Z6,Fh,At (by kernel_rfl)⟩ ?_)
 refine Xi ⟨[(0,.ref 1000 0),(2,sl AH l),(4,.ref 4 0),(9,vi (s.infs.map BQ).length)],[(4,.ro (BQ i)),(1000,.cells (srM roots C A s dec 1004 st.length)),(1001,.tok 6 s.infs.length),(1002,.tok 1 s.drv.length),(1003,.map DA (D5 0 s.infs)),(1004,.arr 1 (st.map AS))],Aa⟩ (Yi ⟨Z4,Z6,Fh,At (by kernel_rfl)⟩ ?_)
 refine Yi (Nz rfl) ?_;refine Yi (by kernel_rfl) ?_;refine Xi ⟨[(0,.ref 1000 0),(2,sl AH l),(4,.ref 4 0),(9,vi (s.infs.map BQ).length)],[(4,.ro (BQ i)),(1000,.cells (srM roots C A s dec 1004 st.length)),(1001,.tok 6 s.infs.length),(1002,.tok 1 s.drv.length),(1003,.map DA (Fg (D5 0 s.infs) (JC i) (vi (s.infs.map BQ).length))),(1004,.arr 1 (st.map AS))],Aa⟩ (Yi ⟨Z4,Z6,Fh,At (by kernel_rfl)⟩ ?_)
 refine Yi (Nz rfl) ?_;have b3:BW 6 [(BQ i)]∧(s.infs.map BQ).length=s.infs.length∧((s.infs.map BQ).length+([(BQ i)]:List (List AV)).length)*56≤140737488355328∧(s.infs.map BQ).length+([(BQ i)]:List (List AV)).length≤9223372036854775807:=⟨⟨rfl,trivial⟩,(by rw[Lm]),(by simp only[Lm,Aj,Ah];omega),(by simp only[Lm,Aj,Ah];omega)⟩;refine Yi b3 ?_;refine Yi (Nz rfl) ?_;refine Yi (by kernel_rfl) ?_;refine Xi ⟨[(0,.ref 1000 0),(2,sl AH l),(9,vi (s.infs.map BQ).length)],[(1000,.cells [sl Al roots,.cmap DQ C,.cmap DQ A,.slice (.id 1001 6) ((s.infs.map BQ)++[(BQ i)]),.slice (.id 1002 1) (s.drv.map B5),.mref 1003,vb s.full,sl Ay dec,sl Ak (Ap dec),.msl 1004 st.length]),(1001,.tok 6 ((s.infs.map BQ).length+([(BQ i)]:List (List AV)).length)),(1002,.tok 1 s.drv.length),(1003,.map DA (Fg (D5 0 s.infs) (JC i) (vi (s.infs.map BQ).length))),(1004,.arr 1 (st.map AS))],Aa⟩ (Yi ⟨Z3,Z5,Fh,At (by kernel_rfl)⟩ ?_)
 have b4:BW 1 [[sl AH l]]∧(s.drv.map B5).length=s.drv.length∧((s.drv.map B5).length+([[sl AH l]]:List (List AV)).length)*24≤140737488355328∧(s.drv.map B5).length+([[sl AH l]]:List (List AV)).length≤9223372036854775807:=⟨⟨rfl,trivial⟩,(by rw[Lm]),(by simp only[Lm,Aj,Ah];omega),(by simp only[Lm,Aj,Ah];omega)⟩;refine Yi b4 ?_;refine Yi (Nz rfl) ?_;refine Xi ⟨[(9,vi (s.infs.map BQ).length)],[(1000,.cells [sl Al roots,.cmap DQ C,.cmap DQ A,.slice (.id 1001 6) ((s.infs.map BQ)++[(BQ i)]),.slice (.id 1002 1) ((s.drv.map B5)++[[sl AH l]]),.mref 1003,vb s.full,sl Ay dec,sl Ak (Ap dec),.msl 1004 st.length]),(1001,.tok 6 ((s.infs.map BQ).length+([(BQ i)]:List (List AV)).length)),(1002,.tok 1 ((s.drv.map B5).length+([[sl AH l]]:List (List AV)).length)),(1003,.map DA (Fg (D5 0 s.infs) (JC i) (vi (s.infs.map BQ).length))),(1004,.arr 1 (st.map AS))],Aa⟩ (Yi ⟨Z1,Z5,Fh,At (by kernel_rfl)⟩ ?_)
 have hq:=fj (roots:=roots) (C:=C) (A:=A) (dec:=dec) (st:=st) (z:=((s.infs.map BQ).length:Int)) (Xk (l:=l) hk (by have q:=h1;rw[Lm]at q;omega)) (by rw[Lm]);exact Xi _ (Yi (.refl _) (Yi hq.1 ((qE hk).trans hq.2)))
structure JT(x:List Rl)(roots:List Rq)(s:SS):Prop where
 der:FI x roots s
 nodup:s.infs.Nodup
abbrev nw(roots:List Rq)(C A:List (Value×AV))(dec:List Cd)(st:List (List Sk))(o:Nat×SS)(r:AV)(h' : Nat→HO):Prop:=r=vi (o.1:Nat)∧h'=Ag (H7 roots C A o.2 dec st) Aa
theorem mr(roots:List Rq)(C A:List (Value×AV))(s:SS)(dec:List Cd)(st:List (List Sk))(i:Nf)(l:List Tm)(hn:s.infs.length≤65536)(hdl:s.drv.length=s.infs.length)(MP:s.infs.Nodup) :
  Bo Tryz.prog 132 [.ref 1000 0,.agg (BQ i),sl AH l] (Ag (H7 roots C A s dec st) Aa) (nw roots C A dec st (DU s i l)):=by
 cases hk:L3 i 0 s.infs with
 |some k=>exact mv roots C A s dec st i l k hk MP
 |none=>exact mu roots C A s dec st i l hk hn hdl
end Go.Eng

namespace Go.Eng
open Go.Proofs
abbrev UP:Hy:=[(1000,1000),(1001,1001),(1002,1002),(1003,1003),(1004,1004)]
theorem rj{h2:Nat→HO}{cs:List AV}{o1 o2 o3 o4:HO}(e0:h2 1000=.cells cs)(e1:h2 1001=o1)(e2:h2 1002=o2)(e3:h2 1003=o3)(e4:h2 1004=o4) :
  Fo UP h2=Ag [(1000,.cells (cs.map (ren1 (Cr UP) h2))),(1001,o1.ren (Cr UP) h2),(1002,o2.ren (Cr UP) h2),(1003,o3.ren (Cr UP) h2),(1004,o4.ren (Cr UP) h2)] Aa:=by
 unfold Fo;simp only[WX];rw[e0,e1,e2,e3,e4];rfl
theorem dg{s:SS}{n:Nd}(h:n.path=mt):DU s ⟨0,mt,0,n.number,0,0⟩ (JK n.rq)=Bf s n:=by unfold Bf Nc HP;rw[Ax h,Ax h]
theorem ik{s:SS}{n:Nd}(h:¬n.path=mt):DU s ⟨1,n.path,n.place,n.number,0,0⟩ (Es n.path n.place n.rq)=Bf s n:=by unfold Bf Nc HP;rw[Aq h,Aq h]
abbrev Wl(d:List (List Tm))(S:List Sl):AV:=.tup [vi (((NR d S).getD 0:Nat):Int),vb (NR d S).isSome]
theorem XC{S:List Sl}:∀{l:List (List Tm)} {b i:Nat} {t:List Tm},l[i]?=some t→CB t S=true→(∀j u,j<i→l[j]?=some u→CB u S=false)→OI S b l=some (b+i)
 | [],_,_,_,h,_,_=>by simp at h
 |u::l,b,0,t,h,he,_=>by cases h;unfold OI;rw[Ax he];rfl
 |u::l,b,i+1,t,h,he,hn=>by
  unfold OI;rw[Aq (by rw[hn 0 u (by omega) rfl];decide),XC (i:=i) (by simpa using h) he (fun j v hj hv=>hn (j+1) v (by omega) (by simpa using hv))]
  congr 1;omega
theorem XD{S:List Sl}:∀{l:List (List Tm)} {b:Nat},(∀t∈l,CB t S=false)→OI S b l=none
 | [],_,_=>rfl
 |u::l,b,h=>by
  unfold OI;rw[Aq (by rw[h u (Ab ..)];decide)];exact XD fun t ht=>h t (Ai _ ht)
set_option maxHeartbeats 4000000 in
theorem y0(roots:List Rq)(C A:List (Value×AV))(s:SS)(dec:List Cd)(st:List (List Sk))(n:Nd)(hn:s.infs.length≤65536)(hdl:s.drv.length=s.infs.length)(MP:s.infs.Nodup)(hq:CL n.rq.set)(hp:A9 (n.place+1)):Bo Tryz.prog 88 [.ref 1000 0,.agg (AT n)] (Ag (H7 roots C A s dec st) Aa) fun r h'=>nw roots C A dec st (Bf s n) r h':=by
 refine CH (MN ⟨[3],[],[],[],[],[],[],[],[(15,5),(31,5)],[],[2,3]⟩) [(1000,1000),(1001,1001),(1002,1002),(1003,1003),(1004,1004)] rfl CI hm rfl Tryz.func88 (by kernel_rfl) rfl (Nz rfl) (by kernel_rfl) rfl ?_;refine Yi (fun h1=>?_) (fun h1=>?_)
 ·have h1:(n.path:ByteArray)=⟨#[]⟩:=h1;refine Xi ⟨[(0,.ref 1000 0),(3,.ref 3 0)],[(3,.ro (AT n)),(1000,.cells (srM roots C A s dec 1004 st.length)),(1001,.tok 6 s.infs.length),(1002,.tok 1 s.drv.length),(1003,.map DA (D5 0 s.infs)),(1004,.arr 1 (st.map AS))],Aa⟩ (Yi ⟨Z2,Z6,Fh,At (by kernel_rfl)⟩ ?_)
  refine Yi (Nz rfl) ?_;refine Xi _ (Yi (vo n.rq hq) ?_);refine Xi UP (Xi [(1000,.cells (srM roots C A s dec 1004 st.length)),(1001,.tok 6 s.infs.length),(1002,.tok 1 s.drv.length),(1003,.map DA (D5 0 s.infs)),(1004,.arr 1 (st.map AS))] (Xi (H7 roots C A (DU s ⟨0,mt,0,n.number,0,0⟩ (JK n.rq)).2 dec st) (Xi [.ref 1000 0,.agg [vi 0,vs ⟨#[]⟩,vi 0,vi n.number,vi 0,vi 0],sl AH (JK n.rq)] (Xi (vi (((DU s ⟨0,mt,0,n.number,0,0⟩ (JK n.rq)).1:Nat):Int):AV) (Yi (fun h2 hh=>Yi ((rj (show h2 1000=.cells (srM roots C A s dec 1004 st.length)from hh 1000 (by decide)) (show h2 1001=.tok 6 s.infs.length from hh 1001 (by decide)) (show h2 1002=.tok 1 s.drv.length from hh 1002 (by decide)) (show h2 1003=.map DA (D5 0 s.infs)from hh 1003 (by decide)) (show h2 1004=.arr 1 (st.map AS)from hh 1004 (by decide))).trans rfl) rfl) (Yi (by kernel_rfl) (Yi (mr roots C A s dec st ⟨0,mt,0,n.number,0,0⟩ (JK n.rq) hn hdl MP) ?_)))))));refine Yi (by kernel_rfl) ?_;have ei:=dg (s:=s) h1;exact Xi _ (Yi (.refl _) (Yi (show vi (((DU s ⟨0,mt,0,n.number,0,0⟩ (JK n.rq)).1:Nat):Int)=vi (((Bf s n).1:Nat):Int) by rw[ei]) (show Ag (H7 roots C A (DU s ⟨0,mt,0,n.number,0,0⟩ (JK n.rq)).2 dec st) Aa=Ag (H7 roots C A (Bf s n).2 dec st) Aa by rw[ei])))
 have h1:¬(n.path:ByteArray)=⟨#[]⟩:=h1;refine Xi ⟨[(0,.ref 1000 0),(3,.ref 3 0)],[(3,.ro (AT n)),(1000,.cells (srM roots C A s dec 1004 st.length)),(1001,.tok 6 s.infs.length),(1002,.tok 1 s.drv.length),(1003,.map DA (D5 0 s.infs)),(1004,.arr 1 (st.map AS))],Aa⟩ (Yi ⟨Z2,Z6,Fh,At (by kernel_rfl)⟩ ?_)
 refine Yi (Nz rfl) ?_;refine Xi _ (Yi (vq n.path n.place n.rq hp hq) ?_);refine Xi UP (Xi [(1000,.cells (srM roots C A s dec 1004 st.length)),(1001,.tok 6 s.infs.length),(1002,.tok 1 s.drv.length),(1003,.map DA (D5 0 s.infs)),(1004,.arr 1 (st.map AS))] (Xi (H7 roots C A (DU s ⟨1,n.path,n.place,n.number,0,0⟩ (Es n.path n.place n.rq)).2 dec st) (Xi [.ref 1000 0,.agg [vi 1,vs n.path,vi n.place,vi n.number,vi 0,vi 0],sl AH (Es n.path n.place n.rq)] (Xi (vi (((DU s ⟨1,n.path,n.place,n.number,0,0⟩ (Es n.path n.place n.rq)).1:Nat):Int):AV) (Yi (fun h2 hh=>Yi ((rj (show h2 1000=.cells (srM roots C A s dec 1004 st.length)from hh 1000 (by decide)) (show h2 1001=.tok 6 s.infs.length from hh 1001 (by decide)) (show h2 1002=.tok 1 s.drv.length from hh 1002 (by decide)) (show h2 1003=.map DA (D5 0 s.infs)from hh 1003 (by decide)) (show h2 1004=.arr 1 (st.map AS)from hh 1004 (by decide))).trans rfl) rfl) (Yi (by kernel_rfl) (Yi (mr roots C A s dec st ⟨1,n.path,n.place,n.number,0,0⟩ (Es n.path n.place n.rq) hn hdl MP) ?_)))))));refine Yi (by kernel_rfl) ?_;have ei:=ik (s:=s) h1;exact Xi _ (Yi (.refl _) (Yi (show vi (((DU s ⟨1,n.path,n.place,n.number,0,0⟩ (Es n.path n.place n.rq)).1:Nat):Int)=vi (((Bf s n).1:Nat):Int) by rw[ei]) (show Ag (H7 roots C A (DU s ⟨1,n.path,n.place,n.number,0,0⟩ (Es n.path n.place n.rq)).2 dec st) Aa=Ag (H7 roots C A (Bf s n).2 dec st) Aa by rw[ei])))
set_option maxHeartbeats 4000000 in
theorem s89(roots:List Rq)(C A:List (Value×AV))(s:SS)(dec:List Cd)(st:List (List Sk))(S:List Sl)(hd:s.drv.length≤65536)(ht:∀t∈s.drv,ff t)(hS:CL S):Bo Tryz.prog 89 [.ref 1000 0,sl Ak S] (Ag (H7 roots C A s dec st) Aa) fun r h'=>r=Wl s.drv S∧h'=Ag (H7 roots C A s dec st) Aa:=by
 refine CH (MN ⟨[],[],[],[],[],[],[],[],[],[],[4,6]⟩) [(1000,1000),(1001,1001),(1002,1002),(1003,1003),(1004,1004)] rfl CI hm rfl Tryz.func89 (by kernel_rfl) rfl (Nz rfl) (by kernel_rfl) rfl ?_;refine Xi {i:Nat // i≤s.drv.length∧∀j u,j<i→s.drv[j]?=some u→CB u S=false} (Xi (fun q=>⟨[(1,sl Ak S),(11,.slice (.id 1002 1) (s.drv.map B5)),(12,vi (s.drv.map B5).length),(13,vi q.1)],[(1000,.cells (srM roots C A s dec 1004 st.length)),(1001,.tok 6 s.infs.length),(1002,.tok 1 s.drv.length),(1003,.map DA (D5 0 s.infs)),(1004,.arr 1 (st.map AS))],Aa⟩) (Xi (fun q=>s.drv.length-q.1) (Yi (Xi ⟨0,AL _,fun j u h=>absurd h (M9 j)⟩ ?_) ?_)))
 ·exact⟨Z4,Z5,Fh,At (by kernel_rfl)⟩
 intro⟨i,i1,i2⟩;have i1:i≤s.drv.length:=i1;have i2:∀j u,j<i→s.drv[j]?=some u→CB u S=false:=i2;refine Yi (fun h1=>?_) (fun h1=>?_)
 ·have h1:(i:Int)<((s.drv.map B5).length:Int):=h1;have n1:i<s.drv.length:=by have q:=h1;rw[Lm]at q;omega
  have g1:s.drv[i]?=some s.drv[i]:=Ge n1;refine Xi (B5 s.drv[i]) (Yi (Yi (Nn i) (Cg g1)) (Yi rfl ?_));refine Xi ⟨[(1,sl Ak S),(6,vi i),(7,sl AH s.drv[i]),(11,.slice (.id 1002 1) (s.drv.map B5)),(12,vi (s.drv.map B5).length),(13,vi i)],[(1000,.cells (srM roots C A s dec 1004 st.length)),(1001,.tok 6 s.infs.length),(1002,.tok 1 s.drv.length),(1003,.map DA (D5 0 s.infs)),(1004,.arr 1 (st.map AS))],Aa⟩ (Yi ⟨Z6,Z5,Fh,At (by kernel_rfl)⟩ ?_)
  refine BO (Bt (CB s.drv[i] S)) (fun h2=>?_) (fun h2=>?_)
  ·have h2:(CB s.drv[i] S)=true:=h2;have gG:=(zl s.drv[i] S (ht _ (Am _)) hS);rw[show(CB s.drv[i] S)=true from h2]at gG;refine Xi .pure (Xi _ (Yi gG ?_));have eE:NR s.drv S=some i:=by unfold NR;rw[XC (Ge n1) h2 i2,Be]
   exact Xi _ (Yi (.refl _) (Yi (show AV.tup [vi (i:Int),vb true]=Wl s.drv S by unfold Wl;rw[eE];rfl) rfl))
  have h2:(CB s.drv[i] S)=false:=h2;have gI:=(zl s.drv[i] S (ht _ (Am _)) hS);rw[show(CB s.drv[i] S)=false from h2]at gI;refine Xi .pure (Xi _ (Yi gI ?_));refine Xi ⟨[(1,sl Ak S),(11,.slice (.id 1002 1) (s.drv.map B5)),(12,vi (s.drv.map B5).length),(13,vi i)],[(1000,.cells (srM roots C A s dec 1004 st.length)),(1001,.tok 6 s.infs.length),(1002,.tok 1 s.drv.length),(1003,.map DA (D5 0 s.infs)),(1004,.arr 1 (st.map AS))],Aa⟩ (Yi ⟨Z4,Z5,Fh,At (by kernel_rfl)⟩ ?_)
  refine Yi (Ii i (by omega)) ?_;refine Xi ⟨i+1,by omega,fun j u hj hu=>by
    by_cases e:j=i
    ·subst e;rw[Ge n1]at hu;cases hu;exact h2
    ·exact i2 j u (by omega) hu⟩ ?_
  exact⟨Dl s.drv.length i (by omega),Z4,Z5,Fh,At (by kernel_rfl)⟩
 have h1:¬((i:Int)<((s.drv.map B5).length:Int)):=h1;have n1:¬i<s.drv.length:=by have q:=h1;rw[Lm]at q;omega
 have eE:NR s.drv S=none:=XD fun t ht=>by
  obtain⟨j,hj⟩:=Cj.1 ht
  have:=(Aw.1 hj).1
  exact i2 j t (by have q:=h1;rw[Lm]at q;omega) hj
 exact Xi _ (Yi (.refl _) (Yi (show AV.tup [vi 0,vb false]=Wl s.drv S by unfold Wl;rw[eE];rfl) rfl))
end Go.Eng

namespace Go.Eng
open Go.Proofs
def TL(l:List Cd)(q:Rq):Bool:=l.any fun d=>decide (d.rel.path=q.path)&&!has q.set d.place
theorem Vd{f:Rq→Nat→Nd}{P:Nd→Bool}:∀{l:List Rq} {b i:Nat} {q:Rq},l[i]?=some q→P (f q (b+i))=true→(∀k u,k<i→l[k]?=some u→P (f u (b+k))=false)→(Lv f b l).find? P=some (f q (b+i))
 | [],_,_,_,h,_,_=>by simp at h
 |u::l,b,0,q,h,he,_=>by
  cases h
  unfold Lv;rw[E0,show P (f u b)=true from he];rfl
 |u::l,b,i+1,q,h,he,hn=>by
  unfold Lv;have h0:P (f u b)=false:=hn 0 u (by omega) rfl;rw[E0,h0]
  have:=Vd (f:=f) (P:=P) (l:=l) (b:=b+1) (i:=i) (q:=q) (by simpa using h) (by rw[show b+1+i=b+(i+1) by omega];exact he) (fun k v hk hv=>by
   rw[show b+1+k=b+(k+1) by omega];exact hn (k+1) v (by omega) (by simpa using hv))
  rw[show b+1+i=b+(i+1) by omega]at this;exact this
theorem OO{f:Rq→Nat→Nd}{P:Nd→Bool}:∀{l:List Rq} {b:Nat},(∀k u,l[k]?=some u→P (f u (b+k))=false)→(Lv f b l).find? P=none
 | [],_,_=>rfl
 |u::l,b,h=>by
  unfold Lv;have h0:P (f u b)=false:=h 0 u rfl;rw[E0,h0];exact OO fun k v hv=>by rw[show b+1+k=b+(k+1) by omega];exact h (k+1) v (by simpa using hv)
def zNd:AV:=.agg [vs ⟨#[]⟩,.v (.slice none 0 0),vs ⟨#[]⟩,vi 0,vi 0]
def kF(o:Option Nd):AV:=match o with | some n=>.tup [.agg (AT n),vb true] | none=>.tup [zNd,vb false]
section
variable {dec:List Cd}{c:Cd}{i:Nat}
theorem fM(hi:i<c.rel.reqs.length)(hn:∀k q,k<i→c.rel.reqs[k]?=some q→TL (dec++[c]) q=false){j:Nat}(hj:j<(dec++[c]).length)(h1:(dec++[c])[j].rel.path=c.rel.reqs[i].path)(h2:has c.rel.reqs[i].set (dec++[c])[j].place=false) :
  Co dec c=some ⟨c.rel.reqs[i],c.rel.path,c.place,(i:Nat)⟩:=by
 have:=Vd (f:=fun q i=>⟨q,c.rel.path,c.place,(i:Nat)⟩) (P:=TK (dec++[c])) (l:=c.rel.reqs) (b:=0) (i:=i) (q:=c.rel.reqs[i]) (Ge hi)
  (A5.2 ⟨_,Am hj,by rw[Av h1,h2];rfl⟩) (fun k u hk hu=>hn k u hk hu)
 unfold Co Pg;rw[this,Be]
theorem fN(hn:∀(k:Nat) (q:Rq),c.rel.reqs[k]?=some q→TL (dec++[c]) q=false):Co dec c=none:=by
 unfold Co Pg;exact OO fun k u hu=>hn k u hu
theorem iD{q:Rq}(h:∀(m:Nat) (d:Cd),(dec++[c])[m]?=some d→(decide (d.rel.path=q.path)&&!has q.set d.place)=false):TL (dec++[c]) q=false:=by
 unfold TL;rw[CM];intro d hd;obtain⟨m,hm⟩:=Cj.1 hd;rw[h m d hm];decide
end
theorem s87(n:Nd)(c:Cd)(hq:CL n.rq.set):PC 87 [.agg (AT n),.cptr (Ay c)] (vb (!has n.rq.set c.place)):=by
 refine Ps ⟨[2],[],[],[],[],[],[],[],[],[],[]⟩ Tryz.func87 rfl (Nz rfl) ?_;refine BO (Bt (has n.rq.set c.place)) (fun h1=>?_) (fun h1=>?_)
 ·have h1:(has n.rq.set c.place)=true:=h1;have PT:=(od n.rq.set c.place hq);rw[show(has n.rq.set c.place)=true from h1]at PT;refine Xi .pure (Xi _ (Yi PT ?_));exact .of_eq (show vb false=vb (!has n.rq.set c.place) by rw[h1];rfl)
 have h1:(has n.rq.set c.place)=false:=h1;have XU:=(od n.rq.set c.place hq);rw[show(has n.rq.set c.place)=false from h1]at XU;refine Xi .pure (Xi _ (Yi XU ?_));exact .of_eq (show vb true=vb (!has n.rq.set c.place) by rw[h1];rfl)
set_option maxHeartbeats 4000000 in
theorem yY(roots:List Rq)(C A:List (Value×AV))(s:SS)(dec:List Cd)(st:List (List Sk))(c:Cd)(hd:dec.length≤1073741823)(hr:c.rel.reqs.length≤1073741824)(hq:∀q∈c.rel.reqs,CL q.set):Bo Tryz.prog 69 [.ref 1000 0,.agg (Ay c)] (Ag (H7 roots C A s dec st) Aa) fun r h'=>r=kF (Co dec c)∧h'=Ag (H7 roots C A s dec st) Aa:=by
 have hd:dec.length≤1073741823:=hd;have hdl:(dec++[c]).length=dec.length+1:=by simp
 refine CH (MN ⟨[3],[],[],[],[],[],[],[],[(23,3)],[],[4,8,9]⟩) [(1000,1000),(1001,1001),(1002,1002),(1003,1003),(1004,1004)] rfl CI hm rfl Tryz.func69 (by kernel_rfl) rfl (Nz rfl) (by kernel_rfl) rfl ?_;refine Xi {i:Nat // i≤c.rel.reqs.length∧∀k q,k<i→c.rel.reqs[k]?=some q→TL (dec++[c]) q=false} (Xi (fun q=>⟨[(0,.ref 1000 0),(3,.ref 3 0),(4,.ref 4 0),(12,sl Al c.rel.reqs),(13,vi (c.rel.reqs.map Al).length),(14,vi q.1)],[(3,.ro (Ay c)),(4,.cells [vs ⟨#[]⟩,.v (.slice none 0 0),vs ⟨#[]⟩,vi 0,vi 0]),(1000,.cells (srM roots C A s dec 1004 st.length)),(1001,.tok 6 s.infs.length),(1002,.tok 1 s.drv.length),(1003,.map DA (D5 0 s.infs)),(1004,.arr 1 (st.map AS))],Aa⟩) (Xi (fun q=>c.rel.reqs.length-q.1) (Yi (Xi ⟨0,AL _,fun k q h=>absurd h (M9 k)⟩ ?_) ?_)))
 ·exact⟨Z6,Z7,Fh,At (by kernel_rfl)⟩
 intro⟨i,i1,i2⟩;have i1:i≤c.rel.reqs.length:=i1;have i2:∀k q,k<i→c.rel.reqs[k]?=some q→TL (dec++[c]) q=false:=i2;refine Yi (fun h1=>?_) (fun h1=>?_)
 ·have h1:(i:Int)<((c.rel.reqs.map Al).length:Int):=h1;have n1:i<c.rel.reqs.length:=by have q:=h1;rw[Lm]at q;omega
  have g1:c.rel.reqs[i]?=some c.rel.reqs[i]:=Ge n1;refine Xi (Al c.rel.reqs[i]) (Yi (Yi (Nn i) (Cg g1)) (Yi rfl ?_));refine Yi (Nz rfl) ?_;refine Yi (Nz rfl) ?_;refine Xi ⟨[(0,.ref 1000 0),(3,.ref 3 0),(4,.ref 4 0),(6,vi i),(7,.ref 7 0),(12,sl Al c.rel.reqs),(13,vi (c.rel.reqs.map Al).length),(14,vi i)],[(3,.ro (Ay c)),(4,.cells [vs ⟨#[]⟩,.v (.slice none 0 0),vs ⟨#[]⟩,vi 0,vi 0]),(7,.cells (Al c.rel.reqs[i])),(1000,.cells (srM roots C A s dec 1004 st.length)),(1001,.tok 6 s.infs.length),(1002,.tok 1 s.drv.length),(1003,.map DA (D5 0 s.infs)),(1004,.arr 1 (st.map AS))],Aa⟩ (Yi ⟨Z8,Z8,Fh,At (by kernel_rfl)⟩ ?_)
  refine Xi _ (Xi _ (Yi (by kernel_rfl) (Yi (pL dec (Bw hd (by decide))) ?_)));refine Yi (Nz rfl) ?_;have b2:BW 10 [(Ay c)]∧(dec.map Ay).length=(dec.map Ay).length∧((dec.map Ay).length+([(Ay c)]:List (List AV)).length)*128≤140737488355328∧(dec.map Ay).length+([(Ay c)]:List (List AV)).length≤9223372036854775807:=⟨⟨rfl,trivial⟩,rfl,(by simp only[Lm,Aj,Ah];omega),(by simp only[Lm,Aj,Ah];omega)⟩;refine Yi b2 ?_;refine Yi (by kernel_rfl) ?_;refine Xi {j:Nat // j≤(dec++[c]).length∧∀m d,m<j→(dec++[c])[m]?=some d→(decide (d.rel.path=c.rel.reqs[i].path)&&!has c.rel.reqs[i].set d.place)=false} (Xi (fun q=>⟨[(0,.ref 1000 0),(3,.ref 3 0),(4,.ref 4 0),(6,vi i),(7,.ref 7 0),(12,sl Al c.rel.reqs),(13,vi (c.rel.reqs.map Al).length),(14,vi i),(26,.slice (.id 12300 10) ((dec++[c]).map Ay)),(27,vi ((dec++[c]).map Ay).length),(28,vi q.1)],[(3,.ro (Ay c)),(4,.cells [vs ⟨#[]⟩,.v (.slice none 0 0),vs ⟨#[]⟩,vi 0,vi 0]),(7,.cells (Al c.rel.reqs[i])),(1000,.cells (srM roots C A s dec 1004 st.length)),(1001,.tok 6 s.infs.length),(1002,.tok 1 s.drv.length),(1003,.map DA (D5 0 s.infs)),(1004,.arr 1 (st.map AS)),(12300,.tok 10 ((dec++[c]).map Ay).length)],Aa⟩) (Xi (fun q=>(dec++[c]).length-q.1) (Yi (Xi ⟨0,AL _,fun k q h=>absurd h (M9 k)⟩ ?_) ?_)))
  ·exact⟨⟨Zr,Zr,Zr,Zr,Zr,Zr,Zr,Zr,⟨(show AV.slice (.id 12300 10) (dec.map Ay++[Ay c])=.slice (.id 12300 10) ((dec++[c]).map Ay) by rw[Az];rfl),rfl⟩,⟨(show vi ((dec.map Ay++[Ay c]:List (List AV)).length:Int)=vi (((dec++[c]).map Ay).length:Int) by rw[Az];rfl),rfl⟩,Zr,Tv⟩,⟨Zr,Zr,Zr,Zr,Zr,Zr,Zr,Zr,⟨(show HO.tok 10 ((dec.map Ay).length+[Ay c].length)=.tok 10 ((dec++[c]).map Ay).length by simp),rfl⟩,Tv⟩,Fh,At (by kernel_rfl)⟩
  intro⟨j,j1,j2⟩;have j1:j≤(dec++[c]).length:=j1;have j2:∀m d,m<j→(dec++[c])[m]?=some d→(decide (d.rel.path=c.rel.reqs[i].path)&&!has c.rel.reqs[i].set d.place)=false:=j2;refine Yi (fun h3=>?_) (fun h3=>?_)
  ·have h3:(j:Int)<(((dec++[c]).map Ay).length:Int):=h3;have n3:j<(dec++[c]).length:=by have q:=h3;rw[Lm]at q;omega
   have g3:(dec++[c])[j]?=some (dec++[c])[j]:=Ge n3;refine Xi (Ay ((dec++[c])[j])) (Yi (Yi (Nn j) (Cg g3)) (Yi rfl ?_));refine Yi (Nz rfl) ?_;refine Yi (Nz rfl) ?_;refine Yi (fun h4=>?_) (fun h4=>?_)
   ·have h4:(((dec++[c])[j]).rel.path:ByteArray)=c.rel.reqs[i].path:=h4;refine BO (Bt (has c.rel.reqs[i].set (dec++[c])[j].place)) (fun h5=>?_) (fun h5=>?_)
    ·have h5:(has c.rel.reqs[i].set (dec++[c])[j].place)=true:=h5;have gJ:=(od c.rel.reqs[i].set (dec++[c])[j].place (hq _ (Am _)));rw[show(has c.rel.reqs[i].set (dec++[c])[j].place)=true from h5]at gJ;refine Xi .pure (Xi _ (Yi gJ ?_));refine Xi ⟨[(0,.ref 1000 0),(3,.ref 3 0),(4,.ref 4 0),(6,vi i),(7,.ref 7 0),(12,sl Al c.rel.reqs),(13,vi (c.rel.reqs.map Al).length),(14,vi i),(26,.slice (.id 12300 10) ((dec++[c]).map Ay)),(27,vi ((dec++[c]).map Ay).length),(28,vi j)],[(3,.ro (Ay c)),(4,.cells [vs ⟨#[]⟩,.v (.slice none 0 0),vs ⟨#[]⟩,vi 0,vi 0]),(7,.cells (Al c.rel.reqs[i])),(1000,.cells (srM roots C A s dec 1004 st.length)),(1001,.tok 6 s.infs.length),(1002,.tok 1 s.drv.length),(1003,.map DA (D5 0 s.infs)),(1004,.arr 1 (st.map AS)),(12300,.tok 10 ((dec++[c]).map Ay).length)],Aa⟩ (Yi ⟨Z11,Z9,Fh,At (by kernel_rfl)⟩ ?_)
     refine Yi (Ii j (by omega)) ?_;refine Xi ⟨j+1,by omega,fun m d hm hd=>by
       by_cases e:m=j
       ·subst e;rw[Ge n3]at hd;cases hd;exact by rw[h5];simp
       ·exact j2 m d (by omega) hd⟩ ?_
     exact⟨by show(dec++[c]).length-(j+1)<(dec++[c]).length-j;omega,Z11,Z9,Fh,At (by kernel_rfl)⟩
    have h5:(has c.rel.reqs[i].set (dec++[c])[j].place)=false:=h5;have rQ:=(od c.rel.reqs[i].set (dec++[c])[j].place (hq _ (Am _)));rw[show(has c.rel.reqs[i].set (dec++[c])[j].place)=false from h5]at rQ;refine Xi .pure (Xi _ (Yi rQ ?_));refine Xi ⟨[(3,.ref 3 0),(4,.ref 4 0),(6,vi i),(7,.ref 7 0)],[(3,.ro (Ay c)),(4,.cells [vs ⟨#[]⟩,.v (.slice none 0 0),vs ⟨#[]⟩,vi 0,vi 0]),(7,.cells (Al c.rel.reqs[i])),(1000,.cells (srM roots C A s dec 1004 st.length)),(1001,.tok 6 s.infs.length),(1002,.tok 1 s.drv.length),(1003,.map DA (D5 0 s.infs)),(1004,.arr 1 (st.map AS))],Aa⟩ (Yi ⟨Z4,Z8,Fh,At (by kernel_rfl)⟩ ?_)
    refine Yi (Nz rfl) ?_;refine Yi (Nz rfl) ?_;refine Yi (Nz rfl) ?_;have eC:=fM (dec:=dec) (c:=c) n1 i2 n3 h4 h5;exact Xi _ (Yi (.refl _) (Yi (show AV.tup [.agg (AT ⟨c.rel.reqs[i],c.rel.path,c.place,(i:Nat)⟩),vb true]=kF (Co dec c) by rw[eC];rfl) rfl))
   have h4:¬(((dec++[c])[j]).rel.path:ByteArray)=c.rel.reqs[i].path:=h4;refine Xi ⟨[(0,.ref 1000 0),(3,.ref 3 0),(4,.ref 4 0),(6,vi i),(7,.ref 7 0),(12,sl Al c.rel.reqs),(13,vi (c.rel.reqs.map Al).length),(14,vi i),(26,.slice (.id 12300 10) ((dec++[c]).map Ay)),(27,vi ((dec++[c]).map Ay).length),(28,vi j)],[(3,.ro (Ay c)),(4,.cells [vs ⟨#[]⟩,.v (.slice none 0 0),vs ⟨#[]⟩,vi 0,vi 0]),(7,.cells (Al c.rel.reqs[i])),(1000,.cells (srM roots C A s dec 1004 st.length)),(1001,.tok 6 s.infs.length),(1002,.tok 1 s.drv.length),(1003,.map DA (D5 0 s.infs)),(1004,.arr 1 (st.map AS)),(12300,.tok 10 ((dec++[c]).map Ay).length)],Aa⟩ (Yi ⟨Z11,Z9,Fh,At (by kernel_rfl)⟩ ?_)
   refine Yi (Ii j (by omega)) ?_;refine Xi ⟨j+1,by omega,fun m d hm hd=>by
     by_cases e:m=j
     ·subst e;rw[Ge n3]at hd;cases hd;exact by rw[Au h4];rfl
     ·exact j2 m d (by omega) hd⟩ ?_
   exact⟨by show(dec++[c]).length-(j+1)<(dec++[c]).length-j;omega,Z11,Z9,Fh,At (by kernel_rfl)⟩
  have h3:¬((j:Int)<(((dec++[c]).map Ay).length:Int)):=h3;have n3:¬j<(dec++[c]).length:=by have q:=h3;rw[Lm]at q;omega
  refine Yi (Ii i (by omega)) ?_;have hmq:TL (dec++[c]) c.rel.reqs[i]=false:=iD fun m d hd=>j2 m d (by have:=(Aw.1 hd).1;have q:=h3;rw[Lm]at q;omega) hd;refine Xi ⟨i+1,by omega,fun k q hk xq=>by
    by_cases e:k=i
    ·subst e;rw[Ge n1]at xq;cases xq;exact hmq
    ·exact i2 k q (by omega) xq⟩ ?_
  exact⟨Dl c.rel.reqs.length i (by omega),Z6,Z7,Fh,At (by kernel_rfl)⟩
 have h1:¬((i:Int)<((c.rel.reqs.map Al).length:Int)):=h1;have n1:¬i<c.rel.reqs.length:=by have q:=h1;rw[Lm]at q;omega
 refine Yi (Nz rfl) ?_;refine Yi (Nz rfl) ?_;have eC:=fN (dec:=dec) (c:=c) fun k q hk=>i2 k q (by have:=(Aw.1 hk).1;have q:=h1;rw[Lm]at q;omega) hk;exact Xi _ (Yi (.refl _) (Yi (show AV.tup [zNd,vb false]=kF (Co dec c) by rw[eC];rfl) rfl))
end Go.Eng
