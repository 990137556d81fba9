/- Lemmas for the claims of this seat, without a condition: part 22 (S15, S17, S1, S2, S3, S4). -/
import Derived.Test.YtkmnnpmneamgoaaGreatDoorA03
import Derived.Test.YtkmnnpmneamgoaaGreatDoorA21
namespace Go.Proofs
open Go.Shelf Go.RowKit Go.Lib Go.Sort
abbrev OneC:Type:={v:Value // v.oneCell'=true}
def SlA:Type:=ByteArray×OneC×OneC×OneC
instance:Inhabited SlA:=⟨⟨ByteArray.empty,⟨.bool false,rfl⟩,⟨.bool false,rfl⟩,⟨.bool false,rfl⟩⟩⟩
def encSlA(x:SlA):List Value:=[.string x.1,x.2.1.1,x.2.2.1.1,x.2.2.2.1]
def cfSlA(x y:SlA):Int:=Lib.compareBytes x.1.data.toList y.1.data.toList
abbrev CmpSlA(k:Nat):Prop:=∀(x y:SlA) (W:World),Calls Tryz.prog k #[.agg #[.string x.1,x.2.1.1,x.2.2.1.1,x.2.2.2.1],.agg #[.string y.1,y.2.1.1,y.2.2.1.1,y.2.2.2.1]] W fun e w'=>e=.returned (.int .i64 (cfSlA x y))∧∃q os',w'=grow (W.drewN q) os'
set_option maxHeartbeats 1000000 in
theorem Tryz.closure48:CmpSlA 48:=fun x y W=>by
 have hcon:=fun W'=>Any.strings_Compare Tryz.layCompare x.1 y.1 W';obtain⟨a,⟨b,hb⟩,⟨c,hc⟩,⟨d,hd⟩⟩:=x;obtain⟨a',⟨b',jv⟩,⟨c',nM⟩,⟨d',jx⟩⟩:=y;dsimp only at hcon
 change ∀W',Calls Tryz.prog 49 _ _ _ at hcon
 unfold cfSlA;dsimp only;generalize Lib.compareBytes a.data.toList a'.data.toList=r at hcon⊢
 go_enter Tryz.func48,Tryz.ntmps48
 go_wp2_with (go_at_call 49;refine(hcon _).mono ?_;rintro e w' ⟨rfl,rfl⟩)
 go_ret
 exact⟨rfl,0,_,by rw[alloc_eq_grow,alloc_eq_grow,grow_grow];rfl⟩
set_option maxHeartbeats 1000000 in
theorem Tryz.closure65:CmpSlA 65:=fun x y W=>by
 have hcon:=fun W'=>Any.strings_Compare Tryz.layCompare x.1 y.1 W';obtain⟨a,⟨b,hb⟩,⟨c,hc⟩,⟨d,hd⟩⟩:=x;obtain⟨a',⟨b',jv⟩,⟨c',nM⟩,⟨d',jx⟩⟩:=y;dsimp only at hcon
 change ∀W',Calls Tryz.prog 49 _ _ _ at hcon
 unfold cfSlA;dsimp only;generalize Lib.compareBytes a.data.toList a'.data.toList=r at hcon⊢
 go_enter Tryz.func65,Tryz.ntmps65
 go_wp2_with (go_at_call 49;refine(hcon _).mono ?_;rintro e w' ⟨rfl,rfl⟩)
 go_ret
 exact⟨rfl,0,_,by rw[alloc_eq_grow,alloc_eq_grow,grow_grow];rfl⟩
end Go.Proofs
namespace Go.Eng
open Go.Proofs Go.Shelf Go.RowKit Go.Lib Go.Sort
theorem aR(x y:SlA):ltOf cfSlA x y=EH x.1 y.1:=Tj _ _
theorem jf:SWO (ltOf cfSlA) where
 irrefl x:=by rw[aR];exact DR _
 trans x y z h1 h2:=by rw[aR]at *;exact Ej h1 h2
 ntrans x y z h1 h2:=by
  rw[aR]at *
  rw[AH];intro h;cases pL:EH y.1 x.1 with
  |true=>have:=Ej pL h;rw[h2]at this;cases this
  |false =>
   have e:=IV h1 pL;rw[e]at h;rw[h2]at h;cases h
theorem s92(k:Nat)(hc:CmpSlA k)(eg:∀args w,(callFunc k args).run Tryz.prog w=.ok (.enter k args) w)(l:List Sl)(hl:CK l)(lim:Nat)(XF:lim<100) :
  Bo Tryz.prog 92 [.msl 1000 l.length,vi 0,vi l.length,vi lim,.v (Ug k)] (Af [(1000,.arr 4 (l.map Ah))] Aa) fun r h' =>
   r=.tup []∧∃l' : List Sl,l'.Perm l∧l'.Pairwise (fun x y=>EH y.path x.path=false)∧h'=Af [(1000,.arr 4 (l'.map Ah))] Aa:=by
 have hl:l.length≤1073741824:=hl;have hE:Gd Tryz.prog 92:=fA 92 Tryz.func92 (by kernel_rfl) rfl;have Iu:=Jm (P:=Tryz.prog) (f:=92) (α:=SlA) (rest:=[.int .i64 0,.int .i64 l.length,.int .i64 lim,Ug k]) hE Ah encSlA (k:=4) (fun _=>rfl) (fun _=>rfl) (ltOf cfSlA) (fun x a=>a.1=x.path) l (by omega) ?_ ?_ ?_
 ·refine⟨hE,fun g w vals q1 q2 q3=>(Iu.2 g w vals q1 q2 q3).mono fun _ _ ⟨v,r,h',g',e1,⟨e2,l',p1,⟨al,a1,a2,a3⟩,p2⟩,rest⟩=>⟨v,r,h',g',e1,⟨e2,l',p1,?_,p2⟩,rest⟩⟩;rw[Bl]at a3⊢;intro i j hi hj Wf
  have:=a3 i j (by omega) (by omega) Wf
  rw[aR]at this;have e1:=a2 i _ _ (Ge hi) (Ge (by omega));have e2:=a2 j _ _ (Ge hj) (Ge (by omega));rw[←e1,←e2];exact this
 ·intro x hx g w vs hr
  match vs,hr with
  | [a,b,c,d],hr =>
   have h1:=(hr.2.2 0 (Go.Eng.vs x.path) a rfl rfl).v_eq;subst h1;exact⟨⟨x.path,⟨b,hr.2.1 b (by simp)⟩,⟨c,hr.2.1 c (by simp)⟩,⟨d,hr.2.1 d (by simp)⟩⟩,rfl,rfl⟩
  | [],hr=>have:=hr.1;simp at this
  | [_],hr=>have:=hr.1;simp at this
  | [_,_],hr=>have:=hr.1;simp at this
  | [_,_,_],hr=>have:=hr.1;simp at this
  |_::_::_::_::_::_,hr=>have:=hr.1;simp at this
 ·intro w b cap d hH hb Ed hdl;have gj:CmpLays Tryz.prog k #[] encSlA 4 cfSlA b 0 d.size w:=fun _ _ _ _ x y=>hc x y _;have hp:=AnyQ.pdqsortCmpFunc_all Tryz.layPdqSel 4 Tryz.isAgg51 Tryz.sizeOf51 encSlA cfSlA k #[] jf b 0 cap d w eg gj ⟨fun _=>rfl,fun x v hv=>by
    simp only[encSlA,AF,LN,or_false]at hv;rcases hv with rfl | rfl | rfl | rfl
    ·rfl
    ·exact x.2.1.2
    ·exact x.2.2.1.2
    ·exact x.2.2.2.2,hH,hb⟩ (d.size+1) 0 d.size lim d w (by omega) rfl (SWK.start hH) (AL _) (Ao _) Ed (by omega) (Or.inl rfl)
  rw[hdl]at hp⊢;refine hp.mono ?_
  rintro e w' ⟨rfl,n,os,rfl⟩
  have h:=pdq_sorts (ltOf cfSlA) jf d 0 d.size lim true true (AL _) (Ao _) (Or.inl rfl);rw[hdl]at h;exact⟨rfl,_,n,os,h.1,h.2,rfl⟩
 ·intro e w;subst e;exact AnyF.pdqsortCmpFunc_none Tryz.layPdqSel none 0 lim (Ug k) w
theorem Nx{l l' : List Sl}(h1:Po l)(h2:Po l')(hm:∀y,y∈l↔y∈l'):l=l':=by
 induction l generalizing l' with
 |nil =>
  cases l' with
  |nil=>rfl
  |cons y l'=>have:=(hm y).2 (Ab ..);cases this
 |cons x l ih =>
  cases l' with
  |nil=>have:=(hm x).1 (Ab ..);cases this
  |cons y l' =>
   obtain⟨a1,a2⟩:=Db.1 h1;obtain⟨b1,b2⟩:=Db.1 h2;have e:x=y:=by
    rcases AF.1 ((hm x).1 (Ab ..))with e | e
    ·exact e
    ·rcases AF.1 ((hm y).2 (Ab ..))with e2 | e2
     ·exact e2.symm
     ·have c1:=b1 x e;have c2:=a1 y e2
      have:=Ej c1 c2
      rw[DR]at this;cases this
   subst e
   congr 1
   refine ih a2 b2 fun z=>⟨fun hz=>?_,fun hz=>?_⟩
   ·rcases AF.1 ((hm z).1 (Ai _ hz))with e | e
    ·subst e
     have:=a1 z hz
     rw[DR]at this;cases this
    ·exact e
   ·rcases AF.1 ((hm z).2 (Ai _ hz))with e | e
    ·subst e
     have:=b1 z hz
     rw[DR]at this;cases this
    ·exact e
theorem jc{l l' : List Sl}(hn:(l.map (·.path)).Nodup)(hp:l'.Perm l)(hs:l'.Pairwise fun x y=>EH y.path x.path=false):l'=Dm l:=by
 refine Nx ?_ (MX hn) fun y=>by rw[hp.mem_iff,Hl]
 have XI : (l'.map (·.path)).Nodup:=(hp.map (·.path)).nodup_iff.2 hn;show l'.Pairwise _;rw[Bl]at hs⊢;intro i j hi hj Wf;cases hb:EH l'[i].path l'[j].path with
 |true=>rfl
 |false =>
  have e:=IV hb (hs i j hi hj Wf)
  have:=(Bl.1 XI) i j (by simpa using hi) (by simpa using hj) Wf
  simp at this;exact absurd e this
theorem zO(k:Nat)(hc:CmpSlA k)(eg:∀args w,(callFunc k args).run Tryz.prog w=.ok (.enter k args) w)(l:List Sl)(hl:CK l)(hn:(l.map (·.path)).Nodup) :
  Bo Tryz.prog 47 [.msl 1000 l.length,.v (Ug k)] (Af [(1000,.arr 4 (l.map Ah))] Aa) fun r h' =>
   r=.tup []∧h'=Af [(1000,.arr 4 ((Dm l).map Ah))] Aa:=by
 obtain⟨lim,XF,hb⟩:=m6 l.length hl;refine CF (MG EI) [(1000,1000)] rfl CG hm rfl Tryz.func47 (by kernel_rfl) rfl (Nz rfl) (by kernel_rfl) rfl ?_;refine Xi .pure (Xi _ (Yi (hb) ?_));refine Xi (.gen [(1000,1000)] 0) (Yi rfl ((s92 k hc eg l hl lim XF).imp ?_));intro r h' hq;refine A8 hq.2 (fun l' PK=>?_);have e:=jc hn PK.1 PK.2.1;refine Xi (.tup []) (Yi ?_ (Yi rfl ?_))
 ·exact .refl _
 ·rw[PK.2.2,e];rfl
end Go.Eng

namespace Go.Eng
open Go.Proofs
abbrev sr(n:Nat):QA:=⟨[],[],[(2,n),(5,n)],[],[],[],[5],[],[],[],[2,3]⟩
theorem sY(l:List Sl)(hl:CK l):Bo Tryz.prog 46 [sl Ah l] (Af [] Aa) fun r h'=>r=.msl 2000 l.length∧h'=Af [(2000,.arr 4 (l.map Ah))] Aa:=by
 refine CF (MG (sr 4)) [(2,2000)] rfl CG hm rfl Tryz.func46 (by kernel_rfl) rfl (Nz rfl) (by kernel_rfl) rfl ?_;have GI:B1 4 (l.map Ah)∧([]:List (List AV)).length=0∧(([]:List (List AV)).length+(l.map Ah).length)*40≤140737488355328∧([]:List (List AV)).length+(l.map Ah).length≤9223372036854775807:=by
  refine⟨DQ (enc:=Ah) (n:=4) (fun _=>rfl) l,rfl,?_,?_⟩<;>simp only[Al,Lm]<;>unfold CK at hl<;>omega
 have e1:AV.msl 2000 (([]:List (List AV)).length+(l.map Ah).length)=.msl 2000 l.length:=by simp
 refine Xi 0 ?_;refine Xi 0 ?_;refine Yi ?_ ?_
 ·intro _;refine Xi ⟨[(0,sl Ah l)],[],Aa⟩ (Yi ⟨Z1,Tv,Fh,As (by kernel_rfl)⟩ ?_)
  refine Xi 2 ?_;refine Yi GI ?_;exact Xi _ (Yi (.refl _) (Yi e1 rfl))
 ·intro h;have h:l.map Ah=[]:=h;refine Yi ?_ ?_
  ·refine Xi ⟨[],[],Aa⟩ (Yi ⟨trivial,trivial,fun _=>.inl rfl,As (by kernel_rfl)⟩ ?_)
   refine Xi 2 ?_;exact Xi _ (Yi (.refl _) (Yi (show AV.msl 2000 0=_ by rw[EQ.1 h];rfl) (show Af [(2000,HO.arr 4 [])] Aa=_ by rw[h])))
  ·refine Xi ⟨[(0,sl Ah l)],[],Aa⟩ (Yi ⟨Z1,Tv,Fh,As (by kernel_rfl)⟩ ?_)
   refine Xi 2 ?_;refine Yi GI ?_;exact Xi _ (Yi (.refl _) (Yi e1 rfl))
end Go.Eng

namespace Go.Eng
open Go.Proofs
abbrev Ax(c:Cd):List AV:=vi c.place::AY c.rel
abbrev AT(n:Nd):List AV:=[vs n.rq.path,sl Ae n.rq.set,vs n.path,vi n.place,vi n.number]
abbrev AS(l:List Sk):List AV:=[sl BD l]
abbrev BF(i:Nat):List AV:=[vi (i:Nat)]
def Dw:EL:=⟨true,[.int .i64,.str,.int .i64,.int .i64,.int .i64,.int .i64]⟩
def Ju(i:Nf):Value:=.agg [.int .i64 i.kind,.string i.path,.int .i64 i.place,.int .i64 i.number,.int .i64 i.left,.int .i64 i.right].toArray
def DX:Nat→List Nf→List (Value×AV)
 |_,[]=>[]
 |k,i::l=>(Ju i,vi (k:Nat))::DX (k+1) l
abbrev Pe(roots:List Rq)(C A:List (Value×AV))(s:SS)(dec:List Cd)(n:Nat):List AV :=
 [sl Ap roots,.cmap DI C,.cmap DI A,.slice (.id 1001 6) (s.infs.map BO),.slice (.id 1002 1) (s.drv.map B4),.mref 1003,vb s.full,sl Ax dec,sl Ah (Am dec),.msl 1004 n]
abbrev srM(roots:List Rq)(C A:List (Value×AV))(s:SS)(dec:List Cd)(k n:Nat):List AV :=
 [sl Ap roots,.cmap DI C,.cmap DI A,.slice (.id 1001 6) (s.infs.map BO),.slice (.id 1002 1) (s.drv.map B4),.mref 1003,vb s.full,sl Ax dec,sl Ah (Am dec),.msl k n]
abbrev HX(roots:List Rq)(C A:List (Value×AV))(s:SS)(dec:List Cd)(st:List (List Sk)):List (Nat×HO) :=
 [(1000,.cells (Pe roots C A s dec st.length)),(1001,.tok 6 s.infs.length),(1002,.tok 1 s.drv.length),(1003,.map Dw (DX 0 s.infs)),(1004,.arr 1 (st.map AS))]
theorem ya{fF:Nat}{caps:List AV}(hs:E1 caps)(l:List (Cd))(p:Cd→Bool)(hF:∀x∈l,PC fF ([.agg (Ax x)]++caps) (vb (p x)))(hl:l.length<9223372036854775807) :
  PC 217 [sl Ax l,.clo fF caps] (vi (Kb p l 0)):=by
 refine Ps EI Tryz.func217 rfl (Nz rfl) ?_;refine Xi {i:Nat // i≤l.length∧∀j (hj:j<l.length),j<i→p l[j]=false} (Xi (fun i=>⟨[(0,sl Ax l),(1,.clo fF caps),(7,vi (l.map Ax).length),(8,vi i.1)],[],Aa⟩) (Xi (fun i=>l.length-i.1) (Yi (Xi ⟨0,by simp⟩ ?_) ?_)))
 ·exact⟨⟨Zr,⟨rfl,hs.ids _⟩,Zr,Zr,Tv⟩,Tv,Fh,Tv⟩
 ·intro⟨i,h1,h2⟩;refine Yi ?_ ?_
  ·intro h;have h:(i:Int)<(l.map Ax).length:=h;have h:i<l.length:=by simpa using h
   have hg:l[i]?=some l[i]:=Ge h;refine Xi (Ax l[i]) (Yi (Yi (Nn i) (by simp[hg])) (Yi rfl (Yi (Nz rfl) ?_)));have DU:∀h,PC fF ([.agg (Ax l[i])]++caps.map (str0 h)) (vb (p l[i])):=fun h=>by rw[hs.map];exact hF l[i] (Aj _)
   cases hp:p l[i]with
   |true =>
    rw[hp]at DU;refine Xi .pure (Xi (vb true) (Yi (DU _) ?_));rw[PN h (fun j hj IA=>h2 j hj IA) hp,Kn];exact .refl _
   |false =>
    rw[hp]at DU;refine Xi .pure (Xi (vb false) (Yi (DU _) ?_));refine Yi (Ii i (by omega)) ?_;refine Xi ⟨i+1,by omega,fun j hj IA=>?_⟩ ?_
    ·by_cases e:j=i
     ·subst e;exact hp
     ·exact h2 j hj (by omega)
    ·exact⟨Dl l.length i (by omega),⟨Zr,⟨rfl,hs.ids _⟩,Zr,Zr,Tv⟩,Tv,Fh,Tv⟩
  ·intro h;have h:¬(i:Int)<(l.map Ax).length:=h;have h:¬i<l.length:=by simpa using h
   rw[KI fun j hj=>h2 j hj (by omega)];exact .refl _
theorem zS{fF:Nat}{caps:List AV}(hs:E1 caps)(l:List (Nd))(p:Nd→Bool)(hF:∀x∈l,PC fF ([.agg (AT x)]++caps) (vb (p x)))(hl:l.length<9223372036854775807) :
  PC 86 [sl AT l,.clo fF caps] (vi (Kb p l 0)):=by
 refine Ps EI Tryz.func86 rfl (Nz rfl) ?_;refine Xi {i:Nat // i≤l.length∧∀j (hj:j<l.length),j<i→p l[j]=false} (Xi (fun i=>⟨[(0,sl AT l),(1,.clo fF caps),(7,vi (l.map AT).length),(8,vi i.1)],[],Aa⟩) (Xi (fun i=>l.length-i.1) (Yi (Xi ⟨0,by simp⟩ ?_) ?_)))
 ·exact⟨⟨Zr,⟨rfl,hs.ids _⟩,Zr,Zr,Tv⟩,Tv,Fh,Tv⟩
 ·intro⟨i,h1,h2⟩;refine Yi ?_ ?_
  ·intro h;have h:(i:Int)<(l.map AT).length:=h;have h:i<l.length:=by simpa using h
   have hg:l[i]?=some l[i]:=Ge h;refine Xi (AT l[i]) (Yi (Yi (Nn i) (by simp[hg])) (Yi rfl (Yi (Nz rfl) ?_)));have DU:∀h,PC fF ([.agg (AT l[i])]++caps.map (str0 h)) (vb (p l[i])):=fun h=>by rw[hs.map];exact hF l[i] (Aj _)
   cases hp:p l[i]with
   |true =>
    rw[hp]at DU;refine Xi .pure (Xi (vb true) (Yi (DU _) ?_));rw[PN h (fun j hj IA=>h2 j hj IA) hp,Kn];exact .refl _
   |false =>
    rw[hp]at DU;refine Xi .pure (Xi (vb false) (Yi (DU _) ?_));refine Yi (Ii i (by omega)) ?_;refine Xi ⟨i+1,by omega,fun j hj IA=>?_⟩ ?_
    ·by_cases e:j=i
     ·subst e;exact hp
     ·exact h2 j hj (by omega)
    ·exact⟨Dl l.length i (by omega),⟨Zr,⟨rfl,hs.ids _⟩,Zr,Zr,Tv⟩,Tv,Fh,Tv⟩
  ·intro h;have h:¬(i:Int)<(l.map AT).length:=h;have h:¬i<l.length:=by simpa using h
   rw[KI fun j hj=>h2 j hj (by omega)];exact .refl _
theorem sQ{fF:Nat}{caps:List AV}(hs:E1 caps)(l:List (Cd))(p:Cd→Bool)(hF:∀x∈l,PC fF ([.agg (Ax x)]++caps) (vb (p x)))(hl:CK l) :
  PC 171 [sl Ax l,.clo fF caps] (vb (l.any p)):=by
 refine Ps EI Tryz.func171 rfl (Nz rfl) ?_;have hi:=ya hs l p hF (by unfold CK at hl;omega);have DU:∀h,PC 217 [sl Ax l,.clo fF (caps.map (str0 h))] (vi (Kb p l 0)):=fun h=>by rw[hs.map];exact hi
 refine Xi .pure (Xi _ (Yi (DU _) ?_));have ha:=MK (p:=p) l 0 (BQ 0);refine Yi ?_ ?_
 ·intro h;have h:(0:Int)≤Kb p l 0:=h;rw[←ha,Av h];exact .refl _
 ·intro h;have h:¬(0:Int)≤Kb p l 0:=h;rw[←ha,At h];exact .refl _
theorem s66{fF:Nat}{caps:List AV}(hs:E1 caps)(l:List (Nd))(p:Nd→Bool)(hF:∀x∈l,PC fF ([.agg (AT x)]++caps) (vb (p x)))(hl:CK l) :
  PC 66 [sl AT l,.clo fF caps] (vb (l.any p)):=by
 refine Ps EI Tryz.func66 rfl (Nz rfl) ?_;have hi:=zS hs l p hF (by unfold CK at hl;omega);have DU:∀h,PC 86 [sl AT l,.clo fF (caps.map (str0 h))] (vi (Kb p l 0)):=fun h=>by rw[hs.map];exact hi
 refine Xi .pure (Xi _ (Yi (DU _) ?_));have ha:=MK (p:=p) l 0 (BQ 0);refine Yi ?_ ?_
 ·intro h;have h:(0:Int)≤Kb p l 0:=h;rw[←ha,Av h];exact .refl _
 ·intro h;have h:¬(0:Int)≤Kb p l 0:=h;rw[←ha,At h];exact .refl _
theorem o0(l:List Cd)(hl:CK l):Bo Tryz.prog 70 [sl Ax l] (Af [] Aa) fun r h'=>r=.slice (.id 2000 10) (l.map Ax)∧h'=Af [(2000,.tok 10 (l.map Ax).length)] Aa:=by
 refine CF (MG (sq 10)) [(2,2000)] rfl CG hm rfl Tryz.func70 (by kernel_rfl) rfl (Nz rfl) (by kernel_rfl) rfl ?_;have GI:B1 10 (l.map Ax)∧([]:List (List AV)).length=0∧(([]:List (List AV)).length+(l.map Ax).length)*128≤140737488355328∧([]:List (List AV)).length+(l.map Ax).length≤9223372036854775807:=by
  refine⟨DQ (enc:=Ax) (n:=10) (fun _=>rfl) l,rfl,?_,?_⟩<;>simp only[Al,Lm]<;>unfold CK at hl<;>omega
 have e2:HO.tok 10 (([]:List (List AV)).length+(l.map Ax).length)=.tok 10 (l.map Ax).length:=by rw[Al,Bc]
 have e3:AV.slice (.id 2000 10) ([]++l.map Ax)=.slice (.id 2000 10) (l.map Ax):=rfl;have full:∀st:St,(∃s:LS,St.le (MG (sq 10)) st s∧True)→True:=fun _ _=>trivial;refine Xi 0 ?_;refine Xi 0 ?_;refine Yi ?_ ?_
 ·intro _;refine Xi ⟨[(0,sl Ax l)],[],Aa⟩ (Yi ⟨Z1,Tv,Fh,As (by kernel_rfl)⟩ ?_)
  refine Xi 2 ?_;refine Yi GI ?_;exact Xi _ (Yi (.refl _) (Yi e3 (Ac (fun o=>Af [(2000,o)] Aa) e2)))
 ·intro h;have h:l.map Ax=[]:=h;refine Yi ?_ ?_
  ·refine Xi ⟨[],[],Aa⟩ (Yi ⟨trivial,trivial,fun _=>.inl rfl,As (by kernel_rfl)⟩ ?_)
   refine Xi 0 ?_;exact Xi _ (Yi (.refl _) (Yi (show AV.slice (.id 2000 10) []=_ by rw[h]) (show Af [(2000,HO.tok 10 0)] Aa=_ by rw[h];rfl)))
  ·refine Xi ⟨[(0,sl Ax l)],[],Aa⟩ (Yi ⟨Z1,Tv,Fh,As (by kernel_rfl)⟩ ?_)
   refine Xi 2 ?_;refine Yi GI ?_;exact Xi _ (Yi (.refl _) (Yi e3 (Ac (fun o=>Af [(2000,o)] Aa) e2)))
end Go.Eng

namespace Go.Eng
open Go.Proofs
theorem RB:∀{l:List Nf} {k:Nat} {kx:Value} {a:AV},(kx,a)∈DX k l↔∃j i,l[j]?=some i∧kx=Ju i∧a=vi ((k+j:Nat):Int)
 | [],k,kx,a=>by simp[DX]
 |y::l,k,kx,a=>by
  unfold DX;rw[AF,RB];constructor
  ·rintro(h | ⟨j,i,h1,h2,h3⟩)
   ·cases h;exact⟨0,y,rfl,rfl,rfl⟩
   ·exact⟨j+1,i,h1,h2,by rw[h3,show k+1+j=k+(j+1) by omega]⟩
  ·rintro⟨j,i,h1,h2,h3⟩
   cases j with
   |zero=>cases h1;exact .inl (by rw[h2,h3];rfl)
   |succ j=>exact .inr ⟨j,i,h1,h2,by rw[h3,show k+1+j=k+(j+1) by omega]⟩
theorem U9{a b:Nf}(h:Ju a=Ju b):a=b:=by
 obtain⟨a1,a2,a3,a4,a5,a6⟩:=a;obtain⟨b1,b2,b3,b4,b5,b6⟩:=b;unfold Ju at h;simp at h;obtain⟨rfl,rfl,rfl,rfl,rfl,rfl⟩:=h
 rfl
theorem sa{l:List Nf}{i:Nf}{k:Nat}(h:LW i 0 l=some k):(Ju i,vi (k:Nat))∈DX 0 l:=by
 obtain⟨j,e,hj⟩:=MV h;exact RB.2 ⟨j,i,hj,rfl,by rw[e]⟩
theorem kV{l:List Nf}(hn:l.Nodup){i:Nf}{k:Nat}(h:LW i 0 l=some k):∀b,(Ju i,b)∈DX 0 l→b=vi (k:Nat):=fun b hb=>by
 obtain⟨j,e,hj⟩:=MV h;obtain⟨j',i',h1,h2,h3⟩:=RB.1 hb
 have:=U9 h2
 subst this;obtain⟨a1,a2⟩:=Aw.1 hj;obtain⟨b1,b2⟩:=Aw.1 h1
 have:j'=j:=(List.getElem_inj hn).1 (b2.trans a2.symm)
 subst this;rw[h3,e]
theorem mA{l:List Nf}{i:Nf}(h:LW i 0 l=none):∀a,(Ju i,a)∉DX 0 l:=fun a ha=>by
 obtain⟨j,i',h1,h2,_⟩:=RB.1 ha
 have:=U9 h2
 subst this;exact Qb h (Ay h1)
theorem aQ:∀(l:List Nf) (k:Nat) (i:Nf),DX k (l++[i])=DX k l++[(Ju i,vi ((k+l.length:Nat):Int))]
 | [],k,i=>by simp[DX]
 |y::l,k,i=>by
  show(Ju y,_)::DX (k+1) (l++[i])=_;rw[aQ l (k+1) i];simp[DX,show k+1+l.length=k+(l.length+1) by omega]
theorem ov{l:List Nf}{i:Nf}(h:LW i 0 l=none):Fa (DX 0 l) (Ju i) (vi ((l.map BO).length:Int))=DX 0 (l++[i]):=by
 rw[Mp (mA h),aQ,Lm,Bc]
theorem WZ{s:SS}{i:Nf}{l:List Tm}{k:Nat}(h:LW i 0 s.infs=some k):Eh s i l=(k,s):=by unfold Eh;rw[h]
theorem UD{s:SS}{i:Nf}{l:List Tm}(h:LW i 0 s.infs=none)(hf:65536≤s.infs.length):Eh s i l=(s.infs.length-1,⟨s.infs,s.drv,true⟩):=by unfold Eh;rw[h];exact AB hf
theorem WY{s:SS}{i:Nf}{l:List Tm}(h:LW i 0 s.infs=none)(hf:¬65536≤s.infs.length):Eh s i l=(s.infs.length,⟨s.infs++[i],s.drv++[l],s.full⟩):=by unfold Eh;rw[h];exact Ar hf
section
variable {roots:List Rq}{C A:List (Value×AV)}{s s' : SS}{dec:List Cd}{st:List (List Sk)}{i:Nf}{l:List Tm}
theorem eu{k:Nat}{z:Int}(e:Eh s i l=(k,s'))(hz:z=k):vi z=vi ((Eh s i l).1:Nat)∧Af (HX roots C A s' dec st) Aa=Af (HX roots C A (Eh s i l).2 dec st) Aa:=by rw[e,hz];exact Zr
theorem p6(h:LW i 0 s.infs=none):Af [(1000,.cells [sl Ap roots,.cmap DI C,.cmap DI A,.slice (.id 1001 6) (s.infs.map BO++[BO i]),.slice (.id 1002 1) (s.drv.map B4++[B4 l]),.mref 1003,vb s.full,sl Ax dec,sl Ah (Am dec),.msl 1004 st.length]),
      (1001,.tok 6 ((s.infs.map BO).length+[BO i].length)),(1002,.tok 1 ((s.drv.map B4).length+[B4 l].length)),(1003,.map Dw (Fa (DX 0 s.infs) (Ju i) (vi ((s.infs.map BO).length:Int)))),(1004,.arr 1 (st.map AS))] Aa=Af (HX roots C A ⟨s.infs++[i],s.drv++[l],s.full⟩ dec st) Aa:=by
  have e1:s.infs.map BO++[BO i]=(s.infs++[i]).map BO:=by simp
  have e2:s.drv.map B4++[B4 l]=(s.drv++[l]).map B4:=by simp
  have e3:(s.infs.map BO).length+[BO i].length=(s.infs++[i]).length:=by simp
  have e4:(s.drv.map B4).length+[B4 l].length=(s.drv++[l]).length:=by simp
  rw[e1,e2,e3,e4,ov h]
end
theorem sR(c:Cd)(p:ByteArray):PC 172 [.agg (Ax c),.cptr [vs p]] (vb (decide (c.rel.path=p))):=by
 refine Ps ⟨[2],[],[],[],[],[],[],[],[],[],[]⟩ Tryz.func172 rfl (Nz rfl) ?_;refine Yi (fun h1=>?_) (fun h1=>?_)
 ·have h1:(c.rel.path:ByteArray)=p:=h1;exact .of_eq (show vb true=vb (decide (c.rel.path=p)) by rw[Av h1])
 have h1:¬(c.rel.path:ByteArray)=p:=h1;exact .of_eq (show vb false=vb (decide (c.rel.path=p)) by rw[At h1])
theorem sP(t:Tm)(p:ByteArray):PC 136 [.agg (AG t),.cptr [vs p]] (vb (decide (t.path=p))):=by
 refine Ps ⟨[2],[],[],[],[],[],[],[],[],[],[]⟩ Tryz.func136 rfl (Nz rfl) ?_;refine Yi (fun h1=>?_) (fun h1=>?_)
 ·have h1:(t.path:ByteArray)=p:=h1;exact .of_eq (show vb true=vb (decide (t.path=p)) by rw[Av h1])
 have h1:¬(t.path:ByteArray)=p:=h1;exact .of_eq (show vb false=vb (decide (t.path=p)) by rw[At h1])
theorem jG(l:List Tm)(p:ByteArray)(hl:CK l):PC 90 [sl AG l,vs p] (vb (Cy l p)):=by
 refine Ps ⟨[3],[],[],[],[],[],[],[],[],[],[]⟩ Tryz.func90 rfl (Nz rfl) ?_;refine BG (Bt (Cy l p)) (fun h1=>?_) (fun h1=>?_)
 ·have h1:(Cy l p)=true:=h1;have N6:=(show PC 135 [sl AG l,.clo 136 [.cptr [vs p]]] (vb (Cy l p))from m8 (fF:=136) (caps:=[.cptr [vs p]]) (fun c hc=>by obtain rfl:=Au.1 hc;intro h;rfl) l (fun t=>decide (t.path=p)) (fun t _=>sP t p) hl);rw[show(Cy l p)=true from h1]at N6;refine Xi .pure (Xi _ (Yi N6 ?_));exact .of_eq (show vb true=vb (Cy l p) by rw[h1])
 have h1:(Cy l p)=false:=h1;have Xw:=(show PC 135 [sl AG l,.clo 136 [.cptr [vs p]]] (vb (Cy l p))from m8 (fF:=136) (caps:=[.cptr [vs p]]) (fun c hc=>by obtain rfl:=Au.1 hc;intro h;rfl) l (fun t=>decide (t.path=p)) (fun t _=>sP t p) hl);rw[show(Cy l p)=false from h1]at Xw;refine Xi .pure (Xi _ (Yi Xw ?_));exact .of_eq (show vb false=vb (Cy l p) by rw[h1])
theorem sO(roots:List Rq)(C A:List (Value×AV))(s:SS)(dec:List Cd)(st:List (List Sk))(p:ByteArray)(hl:CK dec):Bo Tryz.prog 118 [.ref 1000 0,vs p] (Af (HX roots C A s dec st) Aa) fun r h'=>r=vb (Df dec p)∧h'=Af (HX roots C A s dec st) Aa:=by
 refine CF (MG ⟨[3],[],[],[],[],[],[],[],[],[],[]⟩) [(1000,1000),(1001,1001),(1002,1002),(1003,1003),(1004,1004)] rfl CG hm rfl Tryz.func118 (by kernel_rfl) rfl (Nz rfl) (by kernel_rfl) rfl ?_;refine BG (Bt (Df dec p)) (fun h1=>?_) (fun h1=>?_)
 ·have h1:(Df dec p)=true:=h1;have N6:=(show PC 171 [sl Ax dec,.clo 172 [.cptr [vs p]]] (vb (Df dec p))from sQ (fF:=172) (caps:=[.cptr [vs p]]) (fun c hc=>by obtain rfl:=Au.1 hc;intro h;rfl) dec (fun c=>decide (c.rel.path=p)) (fun c _=>sR c p) hl);rw[show(Df dec p)=true from h1]at N6;refine Xi .pure (Xi _ (Yi N6 ?_));exact Xi _ (Yi (.refl _) (Yi (show vb true=vb (Df dec p) by rw[h1]) rfl))
 have h1:(Df dec p)=false:=h1;have Xw:=(show PC 171 [sl Ax dec,.clo 172 [.cptr [vs p]]] (vb (Df dec p))from sQ (fF:=172) (caps:=[.cptr [vs p]]) (fun c hc=>by obtain rfl:=Au.1 hc;intro h;rfl) dec (fun c=>decide (c.rel.path=p)) (fun c _=>sR c p) hl);rw[show(Df dec p)=false from h1]at Xw;refine Xi .pure (Xi _ (Yi Xw ?_));exact Xi _ (Yi (.refl _) (Yi (show vb false=vb (Df dec p) by rw[h1]) rfl))
set_option maxHeartbeats 4000000 in
theorem lM(roots:List Rq)(C A:List (Value×AV))(s:SS)(dec:List Cd)(st:List (List Sk))(i:Nf)(l:List Tm)(k:Nat)(hk:LW i 0 s.infs=some k)(MJ:s.infs.Nodup):Bo Tryz.prog 132 [.ref 1000 0,.agg (BO i),sl AG l] (Af (HX roots C A s dec st) Aa) fun r h'=>r=vi ((Eh s i l).1:Nat)∧h'=Af (HX roots C A (Eh s i l).2 dec st) Aa:=by
 refine CF (MG ⟨[4],[],[],[],[],[],[],[],[],[],[2,5,7,8,9,10,11]⟩) [(1000,1000),(1001,1001),(1002,1002),(1003,1003),(1004,1004)] rfl CG hm rfl Tryz.func132 (by kernel_rfl) rfl (Nz rfl) (by kernel_rfl) rfl ?_;refine Yi (Nz rfl) ?_;refine Or.inl (Xi (vi (k:Nat)) (Yi (Yi (sa hk) (kV MJ hk)) ?_));refine Yi (by kernel_rfl) ?_;refine Xi ⟨[(0,.ref 1000 0),(2,sl AG l),(4,.ref 4 0),(7,vi (k:Nat)),(8,vb true)],[(4,.ro (BO i)),(1000,.cells (srM roots C A s dec 1004 st.length)),(1001,.tok 6 s.infs.length),(1002,.tok 1 s.drv.length),(1003,.map Dw (DX 0 s.infs)),(1004,.arr 1 (st.map AS))],Aa⟩ (Yi ⟨Z5,Z6,Fh,As (by kernel_rfl)⟩ ?_)
 exact Xi _ (Yi (.refl _) (eu (WZ hk) rfl))
set_option maxHeartbeats 4000000 in
theorem lL(roots:List Rq)(C A:List (Value×AV))(s:SS)(dec:List Cd)(st:List (List Sk))(i:Nf)(l:List Tm)(hk:LW i 0 s.infs=none)(hn:s.infs.length≤65536)(hdl:s.drv.length=s.infs.length):Bo Tryz.prog 132 [.ref 1000 0,.agg (BO i),sl AG l] (Af (HX roots C A s dec st) Aa) fun r h'=>r=vi ((Eh s i l).1:Nat)∧h'=Af (HX roots C A (Eh s i l).2 dec st) Aa:=by
 have hdn:s.drv.length≤65536:=by omega
 have tq:(s.infs.map BO).length=s.infs.length:=Lm _;refine CF (MG ⟨[4],[],[],[],[],[],[],[],[],[],[2,5,7,8,9,10,11]⟩) [(1000,1000),(1001,1001),(1002,1002),(1003,1003),(1004,1004)] rfl CG hm rfl Tryz.func132 (by kernel_rfl) rfl (Nz rfl) (by kernel_rfl) rfl ?_;refine Yi (Nz rfl) ?_;refine Or.inr (Yi (mA hk) ?_);refine Yi (by kernel_rfl) ?_;refine Xi ⟨[(0,.ref 1000 0),(2,sl AG l),(4,.ref 4 0),(7,vi 0),(8,vb false)],[(4,.ro (BO i)),(1000,.cells (srM roots C A s dec 1004 st.length)),(1001,.tok 6 s.infs.length),(1002,.tok 1 s.drv.length),(1003,.map Dw (DX 0 s.infs)),(1004,.arr 1 (st.map AS))],Aa⟩ (Yi ⟨Z5,Z6,Fh,As (by kernel_rfl)⟩ ?_)
 refine Yi (fun h1=>?_) (fun h1=>?_)
 ·have h1:(65536:Int)≤((s.infs.map BO).length:Int):=h1;refine Xi ⟨[(0,.ref 1000 0)],[(1000,.cells (srM roots C A s dec 1004 st.length)),(1001,.tok 6 s.infs.length),(1002,.tok 1 s.drv.length),(1003,.map Dw (DX 0 s.infs)),(1004,.arr 1 (st.map AS))],Aa⟩ (Yi ⟨Z1,Z5,Fh,As (by kernel_rfl)⟩ ?_)
  refine Yi (Nz rfl) ?_;refine Yi (by show Bf (((s.infs.map BO).length:Int)-(1:Int));unfold Bf;omega) ?_;exact Xi _ (Yi (.refl _) (eu (UD hk (by have q:=h1;rw[Lm]at q;omega)) (by have q:=h1;rw[Lm]at q⊢;omega)))
 have h1:¬((65536:Int)≤((s.infs.map BO).length:Int)):=h1;refine Xi ⟨[(0,.ref 1000 0),(2,sl AG l),(4,.ref 4 0)],[(4,.ro (BO i)),(1000,.cells (srM roots C A s dec 1004 st.length)),(1001,.tok 6 s.infs.length),(1002,.tok 1 s.drv.length),(1003,.map Dw (DX 0 s.infs)),(1004,.arr 1 (st.map AS))],Aa⟩ (Yi ⟨Z3,Z6,Fh,As (by kernel_rfl)⟩ ?_)
 refine Xi ⟨[(0,.ref 1000 0),(2,sl AG l),(4,.ref 4 0),(9,vi (s.infs.map BO).length)],[(4,.ro (BO i)),(1000,.cells (srM roots C A s dec 1004 st.length)),(1001,.tok 6 s.infs.length),(1002,.tok 1 s.drv.length),(1003,.map Dw (DX 0 s.infs)),(1004,.arr 1 (st.map AS))],Aa⟩ (Yi ⟨Z4,Z6,Fh,As (by kernel_rfl)⟩ ?_)
 refine Yi (Nz rfl) ?_;refine Yi (by kernel_rfl) ?_;refine Xi ⟨[(0,.ref 1000 0),(2,sl AG l),(4,.ref 4 0),(9,vi (s.infs.map BO).length)],[(4,.ro (BO i)),(1000,.cells (srM roots C A s dec 1004 st.length)),(1001,.tok 6 s.infs.length),(1002,.tok 1 s.drv.length),(1003,.map Dw (Fa (DX 0 s.infs) (Ju i) (vi (s.infs.map BO).length))),(1004,.arr 1 (st.map AS))],Aa⟩ (Yi ⟨Z4,Z6,Fh,As (by kernel_rfl)⟩ ?_)
 refine Yi (Nz rfl) ?_;have b3:B1 6 [(BO i)]∧(s.infs.map BO).length=s.infs.length∧((s.infs.map BO).length+([(BO i)]:List (List AV)).length)*56≤140737488355328∧(s.infs.map BO).length+([(BO i)]:List (List AV)).length≤9223372036854775807:=⟨⟨rfl,trivial⟩,(by rw[Lm]),(by simp only[Lm,Ak,Al];omega),(by simp only[Lm,Ak,Al];omega)⟩;refine Yi b3 ?_;refine Yi (Nz rfl) ?_;refine Yi (by kernel_rfl) ?_;refine Xi ⟨[(0,.ref 1000 0),(2,sl AG l),(9,vi (s.infs.map BO).length)],[(1000,.cells [sl Ap roots,.cmap DI C,.cmap DI A,.slice (.id 1001 6) ((s.infs.map BO)++[(BO i)]),.slice (.id 1002 1) (s.drv.map B4),.mref 1003,vb s.full,sl Ax dec,sl Ah (Am dec),.msl 1004 st.length]),(1001,.tok 6 ((s.infs.map BO).length+([(BO i)]:List (List AV)).length)),(1002,.tok 1 s.drv.length),(1003,.map Dw (Fa (DX 0 s.infs) (Ju i) (vi (s.infs.map BO).length))),(1004,.arr 1 (st.map AS))],Aa⟩ (Yi ⟨Z3,Z5,Fh,As (by kernel_rfl)⟩ ?_)
 have b4:B1 1 [[sl AG l]]∧(s.drv.map B4).length=s.drv.length∧((s.drv.map B4).length+([[sl AG l]]:List (List AV)).length)*24≤140737488355328∧(s.drv.map B4).length+([[sl AG l]]:List (List AV)).length≤9223372036854775807:=⟨⟨rfl,trivial⟩,(by rw[Lm]),(by simp only[Lm,Ak,Al];omega),(by simp only[Lm,Ak,Al];omega)⟩;refine Yi b4 ?_;refine Yi (Nz rfl) ?_;refine Xi ⟨[(9,vi (s.infs.map BO).length)],[(1000,.cells [sl Ap roots,.cmap DI C,.cmap DI A,.slice (.id 1001 6) ((s.infs.map BO)++[(BO i)]),.slice (.id 1002 1) ((s.drv.map B4)++[[sl AG l]]),.mref 1003,vb s.full,sl Ax dec,sl Ah (Am dec),.msl 1004 st.length]),(1001,.tok 6 ((s.infs.map BO).length+([(BO i)]:List (List AV)).length)),(1002,.tok 1 ((s.drv.map B4).length+([[sl AG l]]:List (List AV)).length)),(1003,.map Dw (Fa (DX 0 s.infs) (Ju i) (vi (s.infs.map BO).length))),(1004,.arr 1 (st.map AS))],Aa⟩ (Yi ⟨Z1,Z5,Fh,As (by kernel_rfl)⟩ ?_)
 have hq:=eu (roots:=roots) (C:=C) (A:=A) (dec:=dec) (st:=st) (z:=((s.infs.map BO).length:Int)) (WY (l:=l) hk (by have q:=h1;rw[Lm]at q;omega)) (by rw[Lm]);exact Xi _ (Yi (.refl _) (Yi hq.1 ((p6 hk).trans hq.2)))
structure JI(x:List Rl)(roots:List Rq)(s:SS):Prop where
 der:FC x roots s
 nodup:s.infs.Nodup
abbrev mJ(roots:List Rq)(C A:List (Value×AV))(dec:List Cd)(st:List (List Sk))(o:Nat×SS)(r:AV)(h' : Nat→HO):Prop:=r=vi (o.1:Nat)∧h'=Af (HX roots C A o.2 dec st) Aa
theorem lK(roots:List Rq)(C A:List (Value×AV))(s:SS)(dec:List Cd)(st:List (List Sk))(i:Nf)(l:List Tm)(hn:s.infs.length≤65536)(hdl:s.drv.length=s.infs.length)(MJ:s.infs.Nodup) :
  Bo Tryz.prog 132 [.ref 1000 0,.agg (BO i),sl AG l] (Af (HX roots C A s dec st) Aa) (mJ roots C A dec st (Eh s i l)):=by
 cases hk:LW i 0 s.infs with
 |some k=>exact lM roots C A s dec st i l k hk MJ
 |none=>exact lL roots C A s dec st i l hk hn hdl
end Go.Eng

namespace Go.Eng
open Go.Proofs
abbrev Ux:Hq:=[(1000,1000),(1001,1001),(1002,1002),(1003,1003),(1004,1004)]
theorem qE{h2:Nat→HO}{cs:List AV}{o1 o2 o3 o4:HO}(e0:h2 1000=.cells cs)(e1:h2 1001=o1)(e2:h2 1002=o2)(e3:h2 1003=o3)(e4:h2 1004=o4) :
  Fc Ux h2=Af [(1000,.cells (cs.map (ren1 (Cn Ux) h2))),(1001,o1.ren (Cn Ux) h2),(1002,o2.ren (Cn Ux) h2),(1003,o3.ren (Cn Ux) h2),(1004,o4.ren (Cn Ux) h2)] Aa:=by
 unfold Fc;simp only[WC];rw[e0,e1,e2,e3,e4];rfl
theorem cC{s:SS}{n:Nd}(h:n.path=mt):Eh s ⟨0,mt,0,n.number,0,0⟩ (JC n.rq)=Bh s n:=by unfold Bh Tb I4;rw[AB h,AB h]
theorem gP{s:SS}{n:Nd}(h:¬n.path=mt):Eh s ⟨1,n.path,n.place,n.number,0,0⟩ (El n.path n.place n.rq)=Bh s n:=by unfold Bh Tb I4;rw[Ar h,Ar h]
abbrev V1(d:List (List Tm))(S:List Sl):AV:=.tup [vi (((Ox d S).getD 0:Nat):Int),vb (Ox d S).isSome]
theorem Xf{S:List Sl}:∀{l:List (List Tm)} {b i:Nat} {t:List Tm},l[i]?=some t→Cz t S=true→(∀j u,j<i→l[j]?=some u→Cz u S=false)→Ow S b l=some (b+i)
 | [],_,_,_,h,_,_=>by simp at h
 |u::l,b,0,t,h,he,_=>by cases h;unfold Ow;rw[AB he];rfl
 |u::l,b,i+1,t,h,he,hn=>by
  unfold Ow;rw[Ar (by rw[hn 0 u (by omega) rfl];decide),Xf (i:=i) (by simpa using h) he (fun j v hj hv=>hn (j+1) v (by omega) (by simpa using hv))]
  congr 1;omega
theorem Xg{S:List Sl}:∀{l:List (List Tm)} {b:Nat},(∀t∈l,Cz t S=false)→Ow S b l=none
 | [],_,_=>rfl
 |u::l,b,h=>by
  unfold Ow;rw[Ar (by rw[h u (Ab ..)];decide)];exact Xg fun t ht=>h t (Ai _ ht)
set_option maxHeartbeats 4000000 in
theorem yq(roots:List Rq)(C A:List (Value×AV))(s:SS)(dec:List Cd)(st:List (List Sk))(n:Nd)(hn:s.infs.length≤65536)(hdl:s.drv.length=s.infs.length)(MJ:s.infs.Nodup)(hq:CK n.rq.set)(hp:Bf (n.place+1)):Bo Tryz.prog 88 [.ref 1000 0,.agg (AT n)] (Af (HX roots C A s dec st) Aa) fun r h'=>mJ roots C A dec st (Bh s n) r h':=by
 refine CF (MG ⟨[3],[],[],[],[],[],[],[],[(15,5),(31,5)],[],[2,3]⟩) [(1000,1000),(1001,1001),(1002,1002),(1003,1003),(1004,1004)] rfl CG hm rfl Tryz.func88 (by kernel_rfl) rfl (Nz rfl) (by kernel_rfl) rfl ?_;refine Yi (fun h1=>?_) (fun h1=>?_)
 ·have h1:(n.path:ByteArray)=⟨#[]⟩:=h1;refine Xi ⟨[(0,.ref 1000 0),(3,.ref 3 0)],[(3,.ro (AT n)),(1000,.cells (srM roots C A s dec 1004 st.length)),(1001,.tok 6 s.infs.length),(1002,.tok 1 s.drv.length),(1003,.map Dw (DX 0 s.infs)),(1004,.arr 1 (st.map AS))],Aa⟩ (Yi ⟨Z2,Z6,Fh,As (by kernel_rfl)⟩ ?_)
  refine Yi (Nz rfl) ?_;refine Xi _ (Yi (uD n.rq hq) ?_);refine Xi Ux (Xi [(1000,.cells (srM roots C A s dec 1004 st.length)),(1001,.tok 6 s.infs.length),(1002,.tok 1 s.drv.length),(1003,.map Dw (DX 0 s.infs)),(1004,.arr 1 (st.map AS))] (Xi (HX roots C A (Eh s ⟨0,mt,0,n.number,0,0⟩ (JC n.rq)).2 dec st) (Xi [.ref 1000 0,.agg [vi 0,vs ⟨#[]⟩,vi 0,vi n.number,vi 0,vi 0],sl AG (JC n.rq)] (Xi (vi (((Eh s ⟨0,mt,0,n.number,0,0⟩ (JC n.rq)).1:Nat):Int):AV) (Yi (fun h2 hh=>Yi ((qE (show h2 1000=.cells (srM roots C A s dec 1004 st.length)from hh 1000 (by decide)) (show h2 1001=.tok 6 s.infs.length from hh 1001 (by decide)) (show h2 1002=.tok 1 s.drv.length from hh 1002 (by decide)) (show h2 1003=.map Dw (DX 0 s.infs)from hh 1003 (by decide)) (show h2 1004=.arr 1 (st.map AS)from hh 1004 (by decide))).trans rfl) rfl) (Yi (by kernel_rfl) (Yi (lK roots C A s dec st ⟨0,mt,0,n.number,0,0⟩ (JC n.rq) hn hdl MJ) ?_)))))));refine Yi (by kernel_rfl) ?_;have ei:=cC (s:=s) h1;exact Xi _ (Yi (.refl _) (Yi (show vi (((Eh s ⟨0,mt,0,n.number,0,0⟩ (JC n.rq)).1:Nat):Int)=vi (((Bh s n).1:Nat):Int) by rw[ei]) (show Af (HX roots C A (Eh s ⟨0,mt,0,n.number,0,0⟩ (JC n.rq)).2 dec st) Aa=Af (HX roots C A (Bh s n).2 dec st) Aa by rw[ei])))
 have h1:¬(n.path:ByteArray)=⟨#[]⟩:=h1;refine Xi ⟨[(0,.ref 1000 0),(3,.ref 3 0)],[(3,.ro (AT n)),(1000,.cells (srM roots C A s dec 1004 st.length)),(1001,.tok 6 s.infs.length),(1002,.tok 1 s.drv.length),(1003,.map Dw (DX 0 s.infs)),(1004,.arr 1 (st.map AS))],Aa⟩ (Yi ⟨Z2,Z6,Fh,As (by kernel_rfl)⟩ ?_)
 refine Yi (Nz rfl) ?_;refine Xi _ (Yi (uE n.path n.place n.rq hp hq) ?_);refine Xi Ux (Xi [(1000,.cells (srM roots C A s dec 1004 st.length)),(1001,.tok 6 s.infs.length),(1002,.tok 1 s.drv.length),(1003,.map Dw (DX 0 s.infs)),(1004,.arr 1 (st.map AS))] (Xi (HX roots C A (Eh s ⟨1,n.path,n.place,n.number,0,0⟩ (El n.path n.place n.rq)).2 dec st) (Xi [.ref 1000 0,.agg [vi 1,vs n.path,vi n.place,vi n.number,vi 0,vi 0],sl AG (El n.path n.place n.rq)] (Xi (vi (((Eh s ⟨1,n.path,n.place,n.number,0,0⟩ (El n.path n.place n.rq)).1:Nat):Int):AV) (Yi (fun h2 hh=>Yi ((qE (show h2 1000=.cells (srM roots C A s dec 1004 st.length)from hh 1000 (by decide)) (show h2 1001=.tok 6 s.infs.length from hh 1001 (by decide)) (show h2 1002=.tok 1 s.drv.length from hh 1002 (by decide)) (show h2 1003=.map Dw (DX 0 s.infs)from hh 1003 (by decide)) (show h2 1004=.arr 1 (st.map AS)from hh 1004 (by decide))).trans rfl) rfl) (Yi (by kernel_rfl) (Yi (lK roots C A s dec st ⟨1,n.path,n.place,n.number,0,0⟩ (El n.path n.place n.rq) hn hdl MJ) ?_)))))));refine Yi (by kernel_rfl) ?_;have ei:=gP (s:=s) h1;exact Xi _ (Yi (.refl _) (Yi (show vi (((Eh s ⟨1,n.path,n.place,n.number,0,0⟩ (El n.path n.place n.rq)).1:Nat):Int)=vi (((Bh s n).1:Nat):Int) by rw[ei]) (show Af (HX roots C A (Eh s ⟨1,n.path,n.place,n.number,0,0⟩ (El n.path n.place n.rq)).2 dec st) Aa=Af (HX roots C A (Bh s n).2 dec st) Aa by rw[ei])))
set_option maxHeartbeats 4000000 in
theorem s89(roots:List Rq)(C A:List (Value×AV))(s:SS)(dec:List Cd)(st:List (List Sk))(S:List Sl)(hd:s.drv.length≤65536)(ht:∀t∈s.drv,ee t)(hS:CK S):Bo Tryz.prog 89 [.ref 1000 0,sl Ah S] (Af (HX roots C A s dec st) Aa) fun r h'=>r=V1 s.drv S∧h'=Af (HX roots C A s dec st) Aa:=by
 refine CF (MG ⟨[],[],[],[],[],[],[],[],[],[],[4,6]⟩) [(1000,1000),(1001,1001),(1002,1002),(1003,1003),(1004,1004)] rfl CG hm rfl Tryz.func89 (by kernel_rfl) rfl (Nz rfl) (by kernel_rfl) rfl ?_;refine Xi {i:Nat // i≤s.drv.length∧∀j u,j<i→s.drv[j]?=some u→Cz u S=false} (Xi (fun q=>⟨[(1,sl Ah S),(11,.slice (.id 1002 1) (s.drv.map B4)),(12,vi (s.drv.map B4).length),(13,vi q.1)],[(1000,.cells (srM roots C A s dec 1004 st.length)),(1001,.tok 6 s.infs.length),(1002,.tok 1 s.drv.length),(1003,.map Dw (DX 0 s.infs)),(1004,.arr 1 (st.map AS))],Aa⟩) (Xi (fun q=>s.drv.length-q.1) (Yi (Xi ⟨0,AL _,fun j u h=>absurd h (M0 j)⟩ ?_) ?_)))
 ·exact⟨Z4,Z5,Fh,As (by kernel_rfl)⟩
 intro⟨i,i1,i2⟩;have i1:i≤s.drv.length:=i1;have i2:∀j u,j<i→s.drv[j]?=some u→Cz u S=false:=i2;refine Yi (fun h1=>?_) (fun h1=>?_)
 ·have h1:(i:Int)<((s.drv.map B4).length:Int):=h1;have n1:i<s.drv.length:=by have q:=h1;rw[Lm]at q;omega
  have g1:s.drv[i]?=some s.drv[i]:=Ge n1;refine Xi (B4 s.drv[i]) (Yi (Yi (Nn i) (B5 g1)) (Yi rfl ?_));refine Xi ⟨[(1,sl Ah S),(6,vi i),(7,sl AG s.drv[i]),(11,.slice (.id 1002 1) (s.drv.map B4)),(12,vi (s.drv.map B4).length),(13,vi i)],[(1000,.cells (srM roots C A s dec 1004 st.length)),(1001,.tok 6 s.infs.length),(1002,.tok 1 s.drv.length),(1003,.map Dw (DX 0 s.infs)),(1004,.arr 1 (st.map AS))],Aa⟩ (Yi ⟨Z6,Z5,Fh,As (by kernel_rfl)⟩ ?_)
  refine BG (Bt (Cz s.drv[i] S)) (fun h2=>?_) (fun h2=>?_)
  ·have h2:(Cz s.drv[i] S)=true:=h2;have gc:=(yG s.drv[i] S (ht _ (Aj _)) hS);rw[show(Cz s.drv[i] S)=true from h2]at gc;refine Xi .pure (Xi _ (Yi gc ?_));have eE:Ox s.drv S=some i:=by unfold Ox;rw[Xf (Ge n1) h2 i2,Bc]
   exact Xi _ (Yi (.refl _) (Yi (show AV.tup [vi (i:Int),vb true]=V1 s.drv S by unfold V1;rw[eE];rfl) rfl))
  have h2:(Cz s.drv[i] S)=false:=h2;have gg:=(yG s.drv[i] S (ht _ (Aj _)) hS);rw[show(Cz s.drv[i] S)=false from h2]at gg;refine Xi .pure (Xi _ (Yi gg ?_));refine Xi ⟨[(1,sl Ah S),(11,.slice (.id 1002 1) (s.drv.map B4)),(12,vi (s.drv.map B4).length),(13,vi i)],[(1000,.cells (srM roots C A s dec 1004 st.length)),(1001,.tok 6 s.infs.length),(1002,.tok 1 s.drv.length),(1003,.map Dw (DX 0 s.infs)),(1004,.arr 1 (st.map AS))],Aa⟩ (Yi ⟨Z4,Z5,Fh,As (by kernel_rfl)⟩ ?_)
  refine Yi (Ii i (by omega)) ?_;refine Xi ⟨i+1,by omega,fun j u hj hu=>by
    by_cases e:j=i
    ·subst e;rw[Ge n1]at hu;cases hu;exact h2
    ·exact i2 j u (by omega) hu⟩ ?_
  exact⟨Dl s.drv.length i (by omega),Z4,Z5,Fh,As (by kernel_rfl)⟩
 have h1:¬((i:Int)<((s.drv.map B4).length:Int)):=h1;have n1:¬i<s.drv.length:=by have q:=h1;rw[Lm]at q;omega
 have eE:Ox s.drv S=none:=Xg fun t ht=>by
  obtain⟨j,hj⟩:=Cg.1 ht
  have:=(Aw.1 hj).1
  exact i2 j t (by have q:=h1;rw[Lm]at q;omega) hj
 exact Xi _ (Yi (.refl _) (Yi (show AV.tup [vi 0,vb false]=V1 s.drv S by unfold V1;rw[eE];rfl) rfl))
end Go.Eng

namespace Go.Eng
open Go.Proofs
def Tr(l:List Cd)(q:Rq):Bool:=l.any fun d=>decide (d.rel.path=q.path)&&!has q.set d.place
theorem UV{f:Rq→Nat→Nd}{P:Nd→Bool}:∀{l:List Rq} {b i:Nat} {q:Rq},l[i]?=some q→P (f q (b+i))=true→(∀k u,k<i→l[k]?=some u→P (f u (b+k))=false)→(Lo f b l).find? P=some (f q (b+i))
 | [],_,_,_,h,_,_=>by simp at h
 |u::l,b,0,q,h,he,_=>by
  cases h
  unfold Lo;rw[ET,show P (f u b)=true from he];rfl
 |u::l,b,i+1,q,h,he,hn=>by
  unfold Lo;have h0:P (f u b)=false:=hn 0 u (by omega) rfl;rw[ET,h0]
  have:=UV (f:=f) (P:=P) (l:=l) (b:=b+1) (i:=i) (q:=q) (by simpa using h) (by rw[show b+1+i=b+(i+1) by omega];exact he) (fun k v hk hv=>by
   rw[show b+1+k=b+(k+1) by omega];exact hn (k+1) v (by omega) (by simpa using hv))
  rw[show b+1+i=b+(i+1) by omega]at this;exact this
theorem OD{f:Rq→Nat→Nd}{P:Nd→Bool}:∀{l:List Rq} {b:Nat},(∀k u,l[k]?=some u→P (f u (b+k))=false)→(Lo f b l).find? P=none
 | [],_,_=>rfl
 |u::l,b,h=>by
  unfold Lo;have h0:P (f u b)=false:=h 0 u rfl;rw[ET,h0];exact OD fun k v hv=>by rw[show b+1+k=b+(k+1) by omega];exact h (k+1) v (by simpa using hv)
def zZ:AV:=.agg [vs ⟨#[]⟩,.v (.slice none 0 0),vs ⟨#[]⟩,vi 0,vi 0]
def kb(o:Option Nd):AV:=match o with | some n=>.tup [.agg (AT n),vb true] | none=>.tup [zZ,vb false]
section
variable {dec:List Cd}{c:Cd}{i:Nat}
theorem ff(hi:i<c.rel.reqs.length)(hn:∀k q,k<i→c.rel.reqs[k]?=some q→Tr (dec++[c]) q=false){j:Nat}(hj:j<(dec++[c]).length)(h1:(dec++[c])[j].rel.path=c.rel.reqs[i].path)(h2:has c.rel.reqs[i].set (dec++[c])[j].place=false) :
  Co dec c=some ⟨c.rel.reqs[i],c.rel.path,c.place,(i:Nat)⟩:=by
 have:=UV (f:=fun q i=>⟨q,c.rel.path,c.place,(i:Nat)⟩) (P:=Tq (dec++[c])) (l:=c.rel.reqs) (b:=0) (i:=i) (q:=c.rel.reqs[i]) (Ge hi)
  (A3.2 ⟨_,Aj hj,by rw[Av h1,h2];rfl⟩) (fun k u hk hu=>hn k u hk hu)
 unfold Co O5;rw[this,Bc]
theorem fg(hn:∀(k:Nat) (q:Rq),c.rel.reqs[k]?=some q→Tr (dec++[c]) q=false):Co dec c=none:=by
 unfold Co O5;exact OD fun k u hu=>hn k u hu
theorem ia{q:Rq}(h:∀(m:Nat) (d:Cd),(dec++[c])[m]?=some d→(decide (d.rel.path=q.path)&&!has q.set d.place)=false):Tr (dec++[c]) q=false:=by
 unfold Tr;rw[CL];intro d hd;obtain⟨m,hm⟩:=Cg.1 hd;rw[h m d hm];decide
end
theorem s87(n:Nd)(c:Cd)(hq:CK n.rq.set):PC 87 [.agg (AT n),.cptr (Ax c)] (vb (!has n.rq.set c.place)):=by
 refine Ps ⟨[2],[],[],[],[],[],[],[],[],[],[]⟩ Tryz.func87 rfl (Nz rfl) ?_;refine BG (Bt (has n.rq.set c.place)) (fun h1=>?_) (fun h1=>?_)
 ·have h1:(has n.rq.set c.place)=true:=h1;have N6:=(nt n.rq.set c.place hq);rw[show(has n.rq.set c.place)=true from h1]at N6;refine Xi .pure (Xi _ (Yi N6 ?_));exact .of_eq (show vb false=vb (!has n.rq.set c.place) by rw[h1];rfl)
 have h1:(has n.rq.set c.place)=false:=h1;have Xw:=(nt n.rq.set c.place hq);rw[show(has n.rq.set c.place)=false from h1]at Xw;refine Xi .pure (Xi _ (Yi Xw ?_));exact .of_eq (show vb true=vb (!has n.rq.set c.place) by rw[h1];rfl)
set_option maxHeartbeats 4000000 in
theorem yn(roots:List Rq)(C A:List (Value×AV))(s:SS)(dec:List Cd)(st:List (List Sk))(c:Cd)(hd:dec.length≤1073741823)(hr:c.rel.reqs.length≤1073741824)(hq:∀q∈c.rel.reqs,CK q.set):Bo Tryz.prog 69 [.ref 1000 0,.agg (Ax c)] (Af (HX roots C A s dec st) Aa) fun r h'=>r=kb (Co dec c)∧h'=Af (HX roots C A s dec st) Aa:=by
 have hd:dec.length≤1073741823:=hd;have hdl:(dec++[c]).length=dec.length+1:=by simp
 refine CF (MG ⟨[3],[],[],[],[],[],[],[],[(23,3)],[],[4,8,9]⟩) [(1000,1000),(1001,1001),(1002,1002),(1003,1003),(1004,1004)] rfl CG hm rfl Tryz.func69 (by kernel_rfl) rfl (Nz rfl) (by kernel_rfl) rfl ?_;refine Xi {i:Nat // i≤c.rel.reqs.length∧∀k q,k<i→c.rel.reqs[k]?=some q→Tr (dec++[c]) q=false} (Xi (fun q=>⟨[(0,.ref 1000 0),(3,.ref 3 0),(4,.ref 4 0),(12,sl Ap c.rel.reqs),(13,vi (c.rel.reqs.map Ap).length),(14,vi q.1)],[(3,.ro (Ax c)),(4,.cells [vs ⟨#[]⟩,.v (.slice none 0 0),vs ⟨#[]⟩,vi 0,vi 0]),(1000,.cells (srM roots C A s dec 1004 st.length)),(1001,.tok 6 s.infs.length),(1002,.tok 1 s.drv.length),(1003,.map Dw (DX 0 s.infs)),(1004,.arr 1 (st.map AS))],Aa⟩) (Xi (fun q=>c.rel.reqs.length-q.1) (Yi (Xi ⟨0,AL _,fun k q h=>absurd h (M0 k)⟩ ?_) ?_)))
 ·exact⟨Z6,Z7,Fh,As (by kernel_rfl)⟩
 intro⟨i,i1,i2⟩;have i1:i≤c.rel.reqs.length:=i1;have i2:∀k q,k<i→c.rel.reqs[k]?=some q→Tr (dec++[c]) q=false:=i2;refine Yi (fun h1=>?_) (fun h1=>?_)
 ·have h1:(i:Int)<((c.rel.reqs.map Ap).length:Int):=h1;have n1:i<c.rel.reqs.length:=by have q:=h1;rw[Lm]at q;omega
  have g1:c.rel.reqs[i]?=some c.rel.reqs[i]:=Ge n1;refine Xi (Ap c.rel.reqs[i]) (Yi (Yi (Nn i) (B5 g1)) (Yi rfl ?_));refine Yi (Nz rfl) ?_;refine Yi (Nz rfl) ?_;refine Xi ⟨[(0,.ref 1000 0),(3,.ref 3 0),(4,.ref 4 0),(6,vi i),(7,.ref 7 0),(12,sl Ap c.rel.reqs),(13,vi (c.rel.reqs.map Ap).length),(14,vi i)],[(3,.ro (Ax c)),(4,.cells [vs ⟨#[]⟩,.v (.slice none 0 0),vs ⟨#[]⟩,vi 0,vi 0]),(7,.cells (Ap c.rel.reqs[i])),(1000,.cells (srM roots C A s dec 1004 st.length)),(1001,.tok 6 s.infs.length),(1002,.tok 1 s.drv.length),(1003,.map Dw (DX 0 s.infs)),(1004,.arr 1 (st.map AS))],Aa⟩ (Yi ⟨Z8,Z8,Fh,As (by kernel_rfl)⟩ ?_)
  refine Xi _ (Xi _ (Yi (by kernel_rfl) (Yi (o0 dec (Bu hd (by decide))) ?_)));refine Yi (Nz rfl) ?_;have b2:B1 10 [(Ax c)]∧(dec.map Ax).length=(dec.map Ax).length∧((dec.map Ax).length+([(Ax c)]:List (List AV)).length)*128≤140737488355328∧(dec.map Ax).length+([(Ax c)]:List (List AV)).length≤9223372036854775807:=⟨⟨rfl,trivial⟩,rfl,(by simp only[Lm,Ak,Al];omega),(by simp only[Lm,Ak,Al];omega)⟩;refine Yi b2 ?_;refine Yi (by kernel_rfl) ?_;refine Xi {j:Nat // j≤(dec++[c]).length∧∀m d,m<j→(dec++[c])[m]?=some d→(decide (d.rel.path=c.rel.reqs[i].path)&&!has c.rel.reqs[i].set d.place)=false} (Xi (fun q=>⟨[(0,.ref 1000 0),(3,.ref 3 0),(4,.ref 4 0),(6,vi i),(7,.ref 7 0),(12,sl Ap c.rel.reqs),(13,vi (c.rel.reqs.map Ap).length),(14,vi i),(26,.slice (.id 12300 10) ((dec++[c]).map Ax)),(27,vi ((dec++[c]).map Ax).length),(28,vi q.1)],[(3,.ro (Ax c)),(4,.cells [vs ⟨#[]⟩,.v (.slice none 0 0),vs ⟨#[]⟩,vi 0,vi 0]),(7,.cells (Ap c.rel.reqs[i])),(1000,.cells (srM roots C A s dec 1004 st.length)),(1001,.tok 6 s.infs.length),(1002,.tok 1 s.drv.length),(1003,.map Dw (DX 0 s.infs)),(1004,.arr 1 (st.map AS)),(12300,.tok 10 ((dec++[c]).map Ax).length)],Aa⟩) (Xi (fun q=>(dec++[c]).length-q.1) (Yi (Xi ⟨0,AL _,fun k q h=>absurd h (M0 k)⟩ ?_) ?_)))
  ·exact⟨⟨Zr,Zr,Zr,Zr,Zr,Zr,Zr,Zr,⟨(show AV.slice (.id 12300 10) (dec.map Ax++[Ax c])=.slice (.id 12300 10) ((dec++[c]).map Ax) by rw[AA];rfl),rfl⟩,⟨(show vi ((dec.map Ax++[Ax c]:List (List AV)).length:Int)=vi (((dec++[c]).map Ax).length:Int) by rw[AA];rfl),rfl⟩,Zr,Tv⟩,⟨Zr,Zr,Zr,Zr,Zr,Zr,Zr,Zr,⟨(show HO.tok 10 ((dec.map Ax).length+[Ax c].length)=.tok 10 ((dec++[c]).map Ax).length by simp),rfl⟩,Tv⟩,Fh,As (by kernel_rfl)⟩
  intro⟨j,j1,j2⟩;have j1:j≤(dec++[c]).length:=j1;have j2:∀m d,m<j→(dec++[c])[m]?=some d→(decide (d.rel.path=c.rel.reqs[i].path)&&!has c.rel.reqs[i].set d.place)=false:=j2;refine Yi (fun h3=>?_) (fun h3=>?_)
  ·have h3:(j:Int)<(((dec++[c]).map Ax).length:Int):=h3;have n3:j<(dec++[c]).length:=by have q:=h3;rw[Lm]at q;omega
   have g3:(dec++[c])[j]?=some (dec++[c])[j]:=Ge n3;refine Xi (Ax ((dec++[c])[j])) (Yi (Yi (Nn j) (B5 g3)) (Yi rfl ?_));refine Yi (Nz rfl) ?_;refine Yi (Nz rfl) ?_;refine Yi (fun h4=>?_) (fun h4=>?_)
   ·have h4:(((dec++[c])[j]).rel.path:ByteArray)=c.rel.reqs[i].path:=h4;refine BG (Bt (has c.rel.reqs[i].set (dec++[c])[j].place)) (fun h5=>?_) (fun h5=>?_)
    ·have h5:(has c.rel.reqs[i].set (dec++[c])[j].place)=true:=h5;have gi:=(nt c.rel.reqs[i].set (dec++[c])[j].place (hq _ (Aj _)));rw[show(has c.rel.reqs[i].set (dec++[c])[j].place)=true from h5]at gi;refine Xi .pure (Xi _ (Yi gi ?_));refine Xi ⟨[(0,.ref 1000 0),(3,.ref 3 0),(4,.ref 4 0),(6,vi i),(7,.ref 7 0),(12,sl Ap c.rel.reqs),(13,vi (c.rel.reqs.map Ap).length),(14,vi i),(26,.slice (.id 12300 10) ((dec++[c]).map Ax)),(27,vi ((dec++[c]).map Ax).length),(28,vi j)],[(3,.ro (Ax c)),(4,.cells [vs ⟨#[]⟩,.v (.slice none 0 0),vs ⟨#[]⟩,vi 0,vi 0]),(7,.cells (Ap c.rel.reqs[i])),(1000,.cells (srM roots C A s dec 1004 st.length)),(1001,.tok 6 s.infs.length),(1002,.tok 1 s.drv.length),(1003,.map Dw (DX 0 s.infs)),(1004,.arr 1 (st.map AS)),(12300,.tok 10 ((dec++[c]).map Ax).length)],Aa⟩ (Yi ⟨Z11,Z9,Fh,As (by kernel_rfl)⟩ ?_)
     refine Yi (Ii j (by omega)) ?_;refine Xi ⟨j+1,by omega,fun m d hm hd=>by
       by_cases e:m=j
       ·subst e;rw[Ge n3]at hd;cases hd;exact by rw[h5];simp
       ·exact j2 m d (by omega) hd⟩ ?_
     exact⟨by show(dec++[c]).length-(j+1)<(dec++[c]).length-j;omega,Z11,Z9,Fh,As (by kernel_rfl)⟩
    have h5:(has c.rel.reqs[i].set (dec++[c])[j].place)=false:=h5;have rg:=(nt c.rel.reqs[i].set (dec++[c])[j].place (hq _ (Aj _)));rw[show(has c.rel.reqs[i].set (dec++[c])[j].place)=false from h5]at rg;refine Xi .pure (Xi _ (Yi rg ?_));refine Xi ⟨[(3,.ref 3 0),(4,.ref 4 0),(6,vi i),(7,.ref 7 0)],[(3,.ro (Ax c)),(4,.cells [vs ⟨#[]⟩,.v (.slice none 0 0),vs ⟨#[]⟩,vi 0,vi 0]),(7,.cells (Ap c.rel.reqs[i])),(1000,.cells (srM roots C A s dec 1004 st.length)),(1001,.tok 6 s.infs.length),(1002,.tok 1 s.drv.length),(1003,.map Dw (DX 0 s.infs)),(1004,.arr 1 (st.map AS))],Aa⟩ (Yi ⟨Z4,Z8,Fh,As (by kernel_rfl)⟩ ?_)
    refine Yi (Nz rfl) ?_;refine Yi (Nz rfl) ?_;refine Yi (Nz rfl) ?_;have eC:=ff (dec:=dec) (c:=c) n1 i2 n3 h4 h5;exact Xi _ (Yi (.refl _) (Yi (show AV.tup [.agg (AT ⟨c.rel.reqs[i],c.rel.path,c.place,(i:Nat)⟩),vb true]=kb (Co dec c) by rw[eC];rfl) rfl))
   have h4:¬(((dec++[c])[j]).rel.path:ByteArray)=c.rel.reqs[i].path:=h4;refine Xi ⟨[(0,.ref 1000 0),(3,.ref 3 0),(4,.ref 4 0),(6,vi i),(7,.ref 7 0),(12,sl Ap c.rel.reqs),(13,vi (c.rel.reqs.map Ap).length),(14,vi i),(26,.slice (.id 12300 10) ((dec++[c]).map Ax)),(27,vi ((dec++[c]).map Ax).length),(28,vi j)],[(3,.ro (Ax c)),(4,.cells [vs ⟨#[]⟩,.v (.slice none 0 0),vs ⟨#[]⟩,vi 0,vi 0]),(7,.cells (Ap c.rel.reqs[i])),(1000,.cells (srM roots C A s dec 1004 st.length)),(1001,.tok 6 s.infs.length),(1002,.tok 1 s.drv.length),(1003,.map Dw (DX 0 s.infs)),(1004,.arr 1 (st.map AS)),(12300,.tok 10 ((dec++[c]).map Ax).length)],Aa⟩ (Yi ⟨Z11,Z9,Fh,As (by kernel_rfl)⟩ ?_)
   refine Yi (Ii j (by omega)) ?_;refine Xi ⟨j+1,by omega,fun m d hm hd=>by
     by_cases e:m=j
     ·subst e;rw[Ge n3]at hd;cases hd;exact by rw[At h4];rfl
     ·exact j2 m d (by omega) hd⟩ ?_
   exact⟨by show(dec++[c]).length-(j+1)<(dec++[c]).length-j;omega,Z11,Z9,Fh,As (by kernel_rfl)⟩
  have h3:¬((j:Int)<(((dec++[c]).map Ax).length:Int)):=h3;have n3:¬j<(dec++[c]).length:=by have q:=h3;rw[Lm]at q;omega
  refine Yi (Ii i (by omega)) ?_;have hmq:Tr (dec++[c]) c.rel.reqs[i]=false:=ia fun m d hd=>j2 m d (by have:=(Aw.1 hd).1;have q:=h3;rw[Lm]at q;omega) hd;refine Xi ⟨i+1,by omega,fun k q hk wN=>by
    by_cases e:k=i
    ·subst e;rw[Ge n1]at wN;cases wN;exact hmq
    ·exact i2 k q (by omega) wN⟩ ?_
  exact⟨Dl c.rel.reqs.length i (by omega),Z6,Z7,Fh,As (by kernel_rfl)⟩
 have h1:¬((i:Int)<((c.rel.reqs.map Ap).length:Int)):=h1;have n1:¬i<c.rel.reqs.length:=by have q:=h1;rw[Lm]at q;omega
 refine Yi (Nz rfl) ?_;refine Yi (Nz rfl) ?_;have eC:=fg (dec:=dec) (c:=c) fun k q hk=>i2 k q (by have:=(Aw.1 hk).1;have q:=h1;rw[Lm]at q;omega) hk;exact Xi _ (Yi (.refl _) (Yi (show AV.tup [zZ,vb false]=kb (Co dec c) by rw[eC];rfl) rfl))
end Go.Eng
