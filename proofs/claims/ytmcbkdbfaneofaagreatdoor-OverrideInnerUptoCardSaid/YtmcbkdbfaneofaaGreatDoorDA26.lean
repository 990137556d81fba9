/- Lemmas for the claims of this seat, without a condition: part 26 (S15, S1, S2, S3, S4). -/
import Derived.Test.YtmcbkdbfaneofaaGreatDoorDA03
import Derived.Test.YtmcbkdbfaneofaaGreatDoorDA21
namespace Go.Proofs
open Go.Shelf Go.RowKit Go.Lib Go.Sort
abbrev OneC:Type:={v:Value // v.oneCell'=true}
def SlA:Type:=ByteArray×OneC×OneC×OneC
instance:Inhabited SlA:=⟨⟨ByteArray.empty,⟨.bool false,rfl⟩,⟨.bool false,rfl⟩,⟨.bool false,rfl⟩⟩⟩
def encSlA(x:SlA):List Value:=[.string x.1,x.2.1.1,x.2.2.1.1,x.2.2.2.1]
def cfSlA(x y:SlA):Int:=Lib.compareBytes x.1.data.toList y.1.data.toList
abbrev CmpSlA(k:Nat):Prop:=∀(x y:SlA) (W:World),Calls Tryz.prog k #[.agg #[.string x.1,x.2.1.1,x.2.2.1.1,x.2.2.2.1],.agg #[.string y.1,y.2.1.1,y.2.2.1.1,y.2.2.2.1]] W fun e w'=>e=.returned (.int .i64 (cfSlA x y))∧∃q os',w'=grow (W.drewN q) os'
theorem Tryz.closure99:CmpSlA 99:=fun x y W=>by
 have hcon:=fun W'=>Any.strings_Compare Tryz.layCompare x.1 y.1 W';obtain⟨a,⟨b,hb⟩,⟨c,hc⟩,⟨d,hd⟩⟩:=x;obtain⟨a',⟨b',mU⟩,⟨c',ov⟩,⟨d',jL⟩⟩:=y;dsimp only at hcon
 change ∀W',Calls Tryz.prog 100 _ _ _ at hcon
 unfold cfSlA;dsimp only;generalize Lib.compareBytes a.data.toList a'.data.toList=r at hcon⊢
 go_enter Tryz.func99,Tryz.ntmps99
 go_wp2_with (go_at_call 100;refine(hcon _).mono ?_;rintro e w' ⟨rfl,rfl⟩)
 go_ret
 exact⟨rfl,0,_,by rw[alloc_eq_grow,alloc_eq_grow,grow_grow];rfl⟩
end Go.Proofs
set_option maxHeartbeats 4000000
namespace Go.Eng
open Go.Proofs Go.Shelf Go.RowKit Go.Lib Go.Sort
theorem ai(x y:SlA):ltOf cfSlA x y=Ff x.1 y.1:=SW _ _
theorem ip:SWO (ltOf cfSlA) where
 irrefl x:=by rw[ai];exact CY _
 trans x y z h1 h2:=by rw[ai]at *;exact Eb h1 h2
 ntrans x y z h1 h2:=by
  rw[ai]at *
  rw[AI];intro h;cases oL:Ff y.1 x.1 with
  |true=>have:=Eb oL h;rw[h2]at this;cases this
  |false =>
   have e:=Hp h1 oL;rw[e]at h;rw[h2]at h;cases h
theorem s92(k:Nat)(hc:CmpSlA k)(eg:∀args w,(callFunc k args).run Tryz.prog w=.ok (.enter k args) w)(l:List Sl)(hl:Cn l)(lim:Nat)(Xr:lim<100) :
  Be Tryz.prog 129 [.msl 1000 l.length,vi 0,vi l.length,vi lim,.v (TZ k)] (Aj [(1000,.arr 4 (l.map Ae))] Ab) fun r h' =>
   r=.tup []∧∃l' : List Sl,l'.Perm l∧l'.Pairwise (fun x y=>Ff y.path x.path=false)∧h'=Aj [(1000,.arr 4 (l'.map Ae))] Ab:=by
 have hl:l.length≤1073741824:=hl;have hE:F1 Tryz.prog 129:=dp 129 Tryz.func129 (by kernel_rfl) rfl;have G9:=I6 (P:=Tryz.prog) (f:=129) (α:=SlA) (rest:=[.int .i64 0,.int .i64 l.length,.int .i64 lim,TZ k]) hE Ae encSlA (k:=4) (fun _=>rfl) (fun _=>rfl) (ltOf cfSlA) (fun x a=>a.1=x.path) l (by omega) ?_ ?_ ?_
 ·refine⟨hE,fun g w vals q1 q2 q3=>(G9.2 g w vals q1 q2 q3).mono fun _ _ ⟨v,r,h',g',e1,⟨e2,l',p1,⟨al,a1,a2,a3⟩,p2⟩,rest⟩=>⟨v,r,h',g',e1,⟨e2,l',p1,?_,p2⟩,rest⟩⟩;rw[Bc]at a3⊢;intro i j hi hj UN
  have:=a3 i j (by omega) (by omega) UN
  rw[ai]at this;have e1:=a2 i _ _ (Ge hi) (Ge (by omega));have e2:=a2 j _ _ (Ge hj) (Ge (by omega));rw[←e1,←e2];exact this
 ·intro x hx g w vs hr
  match vs,hr with
  | [a,b,c,d],hr =>
   have h1:=(hr.2.2 0 (Go.Eng.vs x.path) a rfl rfl).v_eq;subst h1;exact⟨⟨x.path,⟨b,hr.2.1 b (by simp)⟩,⟨c,hr.2.1 c (by simp)⟩,⟨d,hr.2.1 d (by simp)⟩⟩,rfl,rfl⟩
  | [],hr=>have:=hr.1;simp at this
  | [_],hr=>have:=hr.1;simp at this
  | [_,_],hr=>have:=hr.1;simp at this
  | [_,_,_],hr=>have:=hr.1;simp at this
  |_::_::_::_::_::_,hr=>have:=hr.1;simp at this
 ·intro w b cap d hH hb EH hdl;have ff:CmpLays Tryz.prog k #[] encSlA 4 cfSlA b 0 d.size w:=fun _ _ _ _ x y=>hc x y _;have hp:=AnyQ.pdqsortCmpFunc_all Tryz.layPdqSel 4 Tryz.isAgg51 Tryz.sizeOf51 encSlA cfSlA k #[] ip b 0 cap d w eg ff ⟨fun _=>rfl,fun x v hv=>by
    simp only[encSlA,Au,Lt,or_false]at hv;rcases hv with rfl | rfl | rfl | rfl
    ·rfl
    ·exact x.2.1.2
    ·exact x.2.2.1.2
    ·exact x.2.2.2.2,hH,hb⟩ (d.size+1) 0 d.size lim d w (by omega) rfl (SWK.start hH) (AM _) (Ak _) EH (by omega) (Or.inl rfl)
  rw[hdl]at hp⊢;refine hp.mono ?_
  rintro e w' ⟨rfl,n,os,rfl⟩
  have h:=pdq_sorts (ltOf cfSlA) ip d 0 d.size lim true true (AM _) (Ak _) (Or.inl rfl);rw[hdl]at h;exact⟨rfl,_,n,os,h.1,h.2,rfl⟩
 ·intro e w;subst e;exact AnyF.pdqsortCmpFunc_none Tryz.layPdqSel none 0 lim (TZ k) w
theorem Ue{l l' : List Sl}(h1:Vt l)(h2:Vt l')(hm:∀y,y∈l↔y∈l'):l=l':=by
 induction l generalizing l' with
 |nil =>
  cases l' with
  |nil=>rfl
  |cons y l'=>have:=(hm y).2 (Aa ..);cases this
 |cons x l ih =>
  cases l' with
  |nil=>have:=(hm x).1 (Aa ..);cases this
  |cons y l' =>
   obtain⟨a1,a2⟩:=BX.1 h1;obtain⟨b1,b2⟩:=BX.1 h2;have e:x=y:=by
    rcases Au.1 ((hm x).1 (Aa ..))with e | e
    ·exact e
    ·rcases Au.1 ((hm y).2 (Aa ..))with e2 | e2
     ·exact e2.symm
     ·have c1:=b1 x e;have c2:=a1 y e2
      have:=Eb c1 c2
      rw[CY]at this;cases this
   subst e
   congr 1
   refine ih a2 b2 fun z=>⟨fun hz=>?_,fun hz=>?_⟩
   ·rcases Au.1 ((hm z).1 (Af _ hz))with e | e
    ·subst e
     have:=a1 z hz
     rw[CY]at this;cases this
    ·exact e
   ·rcases Au.1 ((hm z).2 (Af _ hz))with e | e
    ·subst e
     have:=b1 z hz
     rw[CY]at this;cases this
    ·exact e
theorem il{l l' : List Sl}(hn:(l.map (·.path)).Nodup)(hp:l'.Perm l)(hs:l'.Pairwise fun x y=>Ff y.path x.path=false):l'=FW l:=by
 refine Ue ?_ (PW hn) fun y=>by rw[hp.mem_iff,H8]
 have Xt : (l'.map (·.path)).Nodup:=(hp.map (·.path)).nodup_iff.2 hn;show l'.Pairwise _;rw[Bc]at hs⊢;intro i j hi hj UN;cases hb:Ff l'[i].path l'[j].path with
 |true=>rfl
 |false =>
  have e:=Hp hb (hs i j hi hj UN)
  have:=(Bc.1 Xt) i j (by simpa using hi) (by simpa using hj) UN
  simp at this;exact absurd e this
theorem s47(k:Nat)(hc:CmpSlA k)(eg:∀args w,(callFunc k args).run Tryz.prog w=.ok (.enter k args) w)(l:List Sl)(hl:Cn l)(hn:(l.map (·.path)).Nodup) :
  Be Tryz.prog 98 [.msl 1000 l.length,.v (TZ k)] (Aj [(1000,.arr 4 (l.map Ae))] Ab) fun r h' =>
   r=.tup []∧h'=Aj [(1000,.arr 4 ((FW l).map Ae))] Ab:=by
 obtain⟨lim,Xr,hb⟩:=mq l.length hl;refine Cm (Mo F7) [(1000,1000)] rfl CL hm rfl Tryz.func98 (by kernel_rfl) rfl (Nz rfl) (by kernel_rfl) rfl ?_;refine Xi .pure (Xi _ (Yi (hb) ?_));refine Xi (.gen [(1000,1000)] 0) (Yi rfl ((s92 k hc eg l hl lim Xr).imp ?_));intro r h' hq;refine Do hq.2 (fun l' Py=>?_);have e:=il hn Py.1 Py.2.1;refine Xi (.tup []) (Yi ?_ (Yi rfl ?_))
 ·exact .refl _
 ·rw[Py.2.2,e];rfl
end Go.Eng
namespace Go.Eng
open Go.Proofs
abbrev AE(c:Cd):List AV:=vi c.place::Ah c.rel
abbrev Ba(n:Nd):List AV:=[vs n.rq.path,sl Aq n.rq.set,vs n.path,vi n.place,vi n.number]
abbrev AS(l:List Sk):List AV:=[sl BT l]
abbrev BO(i:Nat):List AV:=[vi (i:Nat)]
def DS:EG:=⟨true,[.int .i64,.str,.int .i64,.int .i64,.int .i64,.int .i64]⟩
def Je(i:Nf):Value:=.agg [.int .i64 i.kind,.string i.path,.int .i64 i.place,.int .i64 i.number,.int .i64 i.left,.int .i64 i.right].toArray
def DU:Nat→List Nf→List (Value×AV)
 |_,[]=>[]
 |k,i::l=>(Je i,vi (k:Nat))::DU (k+1) l
abbrev sF(roots:List Rq)(C A:List (Value×AV))(s:SS)(dec:List Cd)(n:Nat):List AV :=
 [sl AN roots,.cmap C3 C,.cmap C3 A,.slice (.id 1001 6) (s.infs.map BZ),.slice (.id 1002 1) (s.drv.map Ca),.mref 1003,vb s.full,sl AE dec,sl Ae (AK dec),.msl 1004 n]
abbrev srM(roots:List Rq)(C A:List (Value×AV))(s:SS)(dec:List Cd)(k n:Nat):List AV :=
 [sl AN roots,.cmap C3 C,.cmap C3 A,.slice (.id 1001 6) (s.infs.map BZ),.slice (.id 1002 1) (s.drv.map Ca),.mref 1003,vb s.full,sl AE dec,sl Ae (AK dec),.msl k n]
abbrev IZ(roots:List Rq)(C A:List (Value×AV))(s:SS)(dec:List Cd)(st:List (List Sk)):List (Nat×HO) :=
 [(1000,.cells (sF roots C A s dec st.length)),(1001,.tok 6 s.infs.length),(1002,.tok 1 s.drv.length),(1003,.map DS (DU 0 s.infs)),(1004,.arr 1 (st.map AS))]
theorem wt{fF:Nat}{caps:List AV}(hs:Es caps)(l:List (Cd))(p:Cd→Bool)(hF:∀x∈l,PC fF ([.agg (AE x)]++caps) (vb (p x)))(hl:l.length<9223372036854775807) :
  PC 224 [sl AE l,.clo fF caps] (vi (Hy p l 0)):=by
 refine Ps F7 Tryz.func224 rfl (Nz rfl) ?_;refine Xi {i:Nat // i≤l.length∧∀j (hj:j<l.length),j<i→p l[j]=false} (Xi (fun i=>⟨[(0,sl AE l),(1,.clo fF caps),(7,vi (l.map AE).length),(8,vi i.1)],[],Ab⟩) (Xi (fun i=>l.length-i.1) (Yi (Xi ⟨0,by simp⟩ ?_) ?_)))
 ·exact⟨⟨Zr,⟨rfl,hs.ids _⟩,Zr,Zr,Tv⟩,Tv,Fh,Tv⟩
 ·intro⟨i,h1,h2⟩;refine Yi ?_ ?_
  ·intro h;have h:(i:Int)<(l.map AE).length:=h;have h:i<l.length:=by simpa using h
   have hg:l[i]?=some l[i]:=Ge h;refine Xi (AE l[i]) (Yi (Yi (Nn i) (by simp[hg])) (Yi rfl (Yi (Nz rfl) ?_)));have Dg:∀h,PC fF ([.agg (AE l[i])]++caps.map (str0 h)) (vb (p l[i])):=fun h=>by rw[hs.map];exact hF l[i] (Ao _)
   cases hp:p l[i]with
   |true =>
    rw[hp]at Dg;refine Xi .pure (Xi (vb true) (Yi (Dg _) ?_));rw[IB h (fun j hj HL=>h2 j hj HL) hp,EE];exact .refl _
   |false =>
    rw[hp]at Dg;refine Xi .pure (Xi (vb false) (Yi (Dg _) ?_));refine Yi (Ii i (by omega)) ?_;refine Xi ⟨i+1,by omega,fun j hj HL=>?_⟩ ?_
    ·by_cases e:j=i
     ·subst e;exact hp
     ·exact h2 j hj (by omega)
    ·exact⟨Dl l.length i (by omega),⟨Zr,⟨rfl,hs.ids _⟩,Zr,Zr,Tv⟩,Tv,Fh,Tv⟩
  ·intro h;have h:¬(i:Int)<(l.map AE).length:=h;have h:¬i<l.length:=by simpa using h
   rw[FU fun j hj=>h2 j hj (by omega)];exact .refl _
theorem s86{fF:Nat}{caps:List AV}(hs:Es caps)(l:List (Nd))(p:Nd→Bool)(hF:∀x∈l,PC fF ([.agg (Ba x)]++caps) (vb (p x)))(hl:l.length<9223372036854775807) :
  PC 120 [sl Ba l,.clo fF caps] (vi (Hy p l 0)):=by
 refine Ps F7 Tryz.func120 rfl (Nz rfl) ?_;refine Xi {i:Nat // i≤l.length∧∀j (hj:j<l.length),j<i→p l[j]=false} (Xi (fun i=>⟨[(0,sl Ba l),(1,.clo fF caps),(7,vi (l.map Ba).length),(8,vi i.1)],[],Ab⟩) (Xi (fun i=>l.length-i.1) (Yi (Xi ⟨0,by simp⟩ ?_) ?_)))
 ·exact⟨⟨Zr,⟨rfl,hs.ids _⟩,Zr,Zr,Tv⟩,Tv,Fh,Tv⟩
 ·intro⟨i,h1,h2⟩;refine Yi ?_ ?_
  ·intro h;have h:(i:Int)<(l.map Ba).length:=h;have h:i<l.length:=by simpa using h
   have hg:l[i]?=some l[i]:=Ge h;refine Xi (Ba l[i]) (Yi (Yi (Nn i) (by simp[hg])) (Yi rfl (Yi (Nz rfl) ?_)));have Dg:∀h,PC fF ([.agg (Ba l[i])]++caps.map (str0 h)) (vb (p l[i])):=fun h=>by rw[hs.map];exact hF l[i] (Ao _)
   cases hp:p l[i]with
   |true =>
    rw[hp]at Dg;refine Xi .pure (Xi (vb true) (Yi (Dg _) ?_));rw[IB h (fun j hj HL=>h2 j hj HL) hp,EE];exact .refl _
   |false =>
    rw[hp]at Dg;refine Xi .pure (Xi (vb false) (Yi (Dg _) ?_));refine Yi (Ii i (by omega)) ?_;refine Xi ⟨i+1,by omega,fun j hj HL=>?_⟩ ?_
    ·by_cases e:j=i
     ·subst e;exact hp
     ·exact h2 j hj (by omega)
    ·exact⟨Dl l.length i (by omega),⟨Zr,⟨rfl,hs.ids _⟩,Zr,Zr,Tv⟩,Tv,Fh,Tv⟩
  ·intro h;have h:¬(i:Int)<(l.map Ba).length:=h;have h:¬i<l.length:=by simpa using h
   rw[FU fun j hj=>h2 j hj (by omega)];exact .refl _
theorem rz{fF:Nat}{caps:List AV}(hs:Es caps)(l:List (Cd))(p:Cd→Bool)(hF:∀x∈l,PC fF ([.agg (AE x)]++caps) (vb (p x)))(hl:Cn l) :
  PC 193 [sl AE l,.clo fF caps] (vb (l.any p)):=by
 refine Ps F7 Tryz.func193 rfl (Nz rfl) ?_;have hi:=wt hs l p hF (by unfold Cn at hl;omega);have Dg:∀h,PC 224 [sl AE l,.clo fF (caps.map (str0 h))] (vi (Hy p l 0)):=fun h=>by rw[hs.map];exact hi
 refine Xi .pure (Xi _ (Yi (Dg _) ?_));have ha:=JJ (p:=p) l 0 (AX 0);refine Yi ?_ ?_
 ·intro h;have h:(0:Int)≤Hy p l 0:=h;rw[←ha,Aw h];exact .refl _
 ·intro h;have h:¬(0:Int)≤Hy p l 0:=h;rw[←ha,Ap h];exact .refl _
theorem rE(l:List Cd)(hl:Cn l):Be Tryz.prog 126 [sl AE l] (Aj [] Ab) fun r h'=>r=.slice (.id 2000 10) (l.map AE)∧h'=Aj [(2000,.tok 10 (l.map AE).length)] Ab:=by
 refine Cm (Mo (vB 10)) [(2,2000)] rfl CL hm rfl Tryz.func126 (by kernel_rfl) rfl (Nz rfl) (by kernel_rfl) rfl ?_;have Gs:Dp 10 (l.map AE)∧([]:List (List AV)).length=0∧(([]:List (List AV)).length+(l.map AE).length)*128≤140737488355328∧([]:List (List AV)).length+(l.map AE).length≤9223372036854775807:=by
  refine⟨Ez (enc:=AE) (n:=10) (fun _=>rfl) l,rfl,?_,?_⟩<;>simp only[AC,Lm]<;>unfold Cn at hl<;>omega
 have e2:HO.tok 10 (([]:List (List AV)).length+(l.map AE).length)=.tok 10 (l.map AE).length:=by rw[AC,Bk]
 have e3:AV.slice (.id 2000 10) ([]++l.map AE)=.slice (.id 2000 10) (l.map AE):=rfl;have full:∀st:St,(∃s:LS,St.le (Mo (vB 10)) st s∧True)→True:=fun _ _=>trivial;refine Xi 0 ?_;refine Xi 0 ?_;refine Yi ?_ ?_
 ·intro _;refine Xi ⟨[(0,sl AE l)],[],Ab⟩ (Yi ⟨Z1,Tv,Fh,Ax (by kernel_rfl)⟩ ?_)
  refine Xi 2 ?_;refine Yi Gs ?_;exact Xi _ (Yi (.refl _) (Yi e3 (Ac (fun o=>Aj [(2000,o)] Ab) e2)))
 ·intro h;have h:l.map AE=[]:=h;refine Yi ?_ ?_
  ·refine Xi ⟨[],[],Ab⟩ (Yi ⟨trivial,trivial,fun _=>.inl rfl,Ax (by kernel_rfl)⟩ ?_)
   refine Xi 0 ?_;exact Xi _ (Yi (.refl _) (Yi (show AV.slice (.id 2000 10) []=_ by rw[h]) (show Aj [(2000,HO.tok 10 0)] Ab=_ by rw[h];rfl)))
  ·refine Xi ⟨[(0,sl AE l)],[],Ab⟩ (Yi ⟨Z1,Tv,Fh,Ax (by kernel_rfl)⟩ ?_)
   refine Xi 2 ?_;refine Yi Gs ?_;exact Xi _ (Yi (.refl _) (Yi e3 (Ac (fun o=>Aj [(2000,o)] Ab) e2)))
theorem Rm:∀{l:List Nf} {k:Nat} {kx:Value} {a:AV},(kx,a)∈DU k l↔∃j i,l[j]?=some i∧kx=Je i∧a=vi ((k+j:Nat):Int)
 | [],k,kx,a=>by simp[DU]
 |y::l,k,kx,a=>by
  unfold DU;rw[Au,Rm];constructor
  ·rintro(h | ⟨j,i,h1,h2,h3⟩)
   ·cases h;exact⟨0,y,rfl,rfl,rfl⟩
   ·exact⟨j+1,i,h1,h2,by rw[h3,show k+1+j=k+(j+1) by omega]⟩
  ·rintro⟨j,i,h1,h2,h3⟩
   cases j with
   |zero=>cases h1;exact .inl (by rw[h2,h3];rfl)
   |succ j=>exact .inr ⟨j,i,h1,h2,by rw[h3,show k+1+j=k+(j+1) by omega]⟩
theorem UU{a b:Nf}(h:Je a=Je b):a=b:=by
 obtain⟨a1,a2,a3,a4,a5,a6⟩:=a;obtain⟨b1,b2,b3,b4,b5,b6⟩:=b;unfold Je at h;simp at h;obtain⟨rfl,rfl,rfl,rfl,rfl,rfl⟩:=h
 rfl
theorem qK{l:List Nf}{i:Nf}{k:Nat}(h:Ly i 0 l=some k):(Je i,vi (k:Nat))∈DU 0 l:=by
 obtain⟨j,e,hj⟩:=MF h;exact Rm.2 ⟨j,i,hj,rfl,by rw[e]⟩
theorem j7{l:List Nf}(hn:l.Nodup){i:Nf}{k:Nat}(h:Ly i 0 l=some k):∀b,(Je i,b)∈DU 0 l→b=vi (k:Nat):=fun b hb=>by
 obtain⟨j,e,hj⟩:=MF h;obtain⟨j',i',h1,h2,h3⟩:=Rm.1 hb
 have:=UU h2
 subst this;obtain⟨a1,a2⟩:=As.1 hj;obtain⟨b1,b2⟩:=As.1 h1
 have:j'=j:=(List.getElem_inj hn).1 (b2.trans a2.symm)
 subst this;rw[h3,e]
theorem lN{l:List Nf}{i:Nf}(h:Ly i 0 l=none):∀a,(Je i,a)∉DU 0 l:=fun a ha=>by
 obtain⟨j,i',h1,h2,_⟩:=Rm.1 ha
 have:=UU h2
 subst this;exact PM h (Av h1)
theorem af:∀(l:List Nf) (k:Nat) (i:Nf),DU k (l++[i])=DU k l++[(Je i,vi ((k+l.length:Nat):Int))]
 | [],k,i=>by simp[DU]
 |y::l,k,i=>by
  show(Je y,_)::DU (k+1) (l++[i])=_;rw[af l (k+1) i];simp[DU,show k+1+l.length=k+(l.length+1) by omega]
theorem nC{l:List Nf}{i:Nf}(h:Ly i 0 l=none):EP (DU 0 l) (Je i) (vi ((l.map BZ).length:Int))=DU 0 (l++[i]):=by
 rw[L3 (lN h),af,Lm,Bk]
theorem WL{s:SS}{i:Nf}{l:List Tm}{k:Nat}(h:Ly i 0 s.infs=some k):D6 s i l=(k,s):=by unfold D6;rw[h]
theorem Ul{s:SS}{i:Nf}{l:List Tm}(h:Ly i 0 s.infs=none)(hf:65536≤s.infs.length):D6 s i l=(s.infs.length-1,⟨s.infs,s.drv,true⟩):=by unfold D6;rw[h];exact Az hf
theorem WK{s:SS}{i:Nf}{l:List Tm}(h:Ly i 0 s.infs=none)(hf:¬65536≤s.infs.length):D6 s i l=(s.infs.length,⟨s.infs++[i],s.drv++[l],s.full⟩):=by unfold D6;rw[h];exact Al hf
section
variable {roots:List Rq}{C A:List (Value×AV)}{s s' : SS}{dec:List Cd}{st:List (List Sk)}{i:Nf}{l:List Tm}
theorem dE{k:Nat}{z:Int}(e:D6 s i l=(k,s'))(hz:z=k):vi z=vi ((D6 s i l).1:Nat)∧Aj (IZ roots C A s' dec st) Ab=Aj (IZ roots C A (D6 s i l).2 dec st) Ab:=by rw[e,hz];exact Zr
theorem oX(h:Ly i 0 s.infs=none):Aj [(1000,.cells [sl AN roots,.cmap C3 C,.cmap C3 A,.slice (.id 1001 6) (s.infs.map BZ++[BZ i]),.slice (.id 1002 1) (s.drv.map Ca++[Ca l]),.mref 1003,vb s.full,sl AE dec,sl Ae (AK dec),.msl 1004 st.length]),
      (1001,.tok 6 ((s.infs.map BZ).length+[BZ i].length)),(1002,.tok 1 ((s.drv.map Ca).length+[Ca l].length)),(1003,.map DS (EP (DU 0 s.infs) (Je i) (vi ((s.infs.map BZ).length:Int)))),(1004,.arr 1 (st.map AS))] Ab=Aj (IZ roots C A ⟨s.infs++[i],s.drv++[l],s.full⟩ dec st) Ab:=by
  have e1:s.infs.map BZ++[BZ i]=(s.infs++[i]).map BZ:=by simp
  have e2:s.drv.map Ca++[Ca l]=(s.drv++[l]).map Ca:=by simp
  have e3:(s.infs.map BZ).length+[BZ i].length=(s.infs++[i]).length:=by simp
  have e4:(s.drv.map Ca).length+[Ca l].length=(s.drv++[l]).length:=by simp
  rw[e1,e2,e3,e4,nC h]
end
theorem rA(c:Cd)(p:ByteArray):PC 194 [.agg (AE c),.cptr [vs p]] (vb (decide (c.rel.path=p))):=by
 refine Ps ⟨[2],[],[],[],[],[],[],[],[],[],[]⟩ Tryz.func194 rfl (Nz rfl) ?_;refine Yi (fun h1=>?_) (fun h1=>?_)
 ·have h1:(c.rel.path:ByteArray)=p:=h1;exact .of_eq (show vb true=vb (decide (c.rel.path=p)) by rw[Aw h1])
 have h1:¬(c.rel.path:ByteArray)=p:=h1;exact .of_eq (show vb false=vb (decide (c.rel.path=p)) by rw[Ap h1])
theorem ry(t:Tm)(p:ByteArray):PC 159 [.agg (AF t),.cptr [vs p]] (vb (decide (t.path=p))):=by
 refine Ps ⟨[2],[],[],[],[],[],[],[],[],[],[]⟩ Tryz.func159 rfl (Nz rfl) ?_;refine Yi (fun h1=>?_) (fun h1=>?_)
 ·have h1:(t.path:ByteArray)=p:=h1;exact .of_eq (show vb true=vb (decide (t.path=p)) by rw[Aw h1])
 have h1:¬(t.path:ByteArray)=p:=h1;exact .of_eq (show vb false=vb (decide (t.path=p)) by rw[Ap h1])
theorem iT(l:List Tm)(p:ByteArray)(hl:Cn l):PC 127 [sl AF l,vs p] (vb (CZ l p)):=by
 refine Ps ⟨[3],[],[],[],[],[],[],[],[],[],[]⟩ Tryz.func127 rfl (Nz rfl) ?_;refine BN (Bt (CZ l p)) (fun h1=>?_) (fun h1=>?_)
 ·have h1:(CZ l p)=true:=h1;refine Xi .pure (Xi _ (Yi (cb h1 (show PC 158 [sl AF l,.clo 159 [.cptr [vs p]]] (vb (CZ l p))from mu (fF:=159) (caps:=[.cptr [vs p]]) (fun c hc=>by obtain rfl:=Ai.1 hc;intro h;rfl) l (fun t=>decide (t.path=p)) (fun t _=>ry t p) hl)) ?_));exact .of_eq (show vb true=vb (CZ l p) by rw[h1])
 have h1:(CZ l p)=false:=h1;refine Xi .pure (Xi _ (Yi (cb h1 (show PC 158 [sl AF l,.clo 159 [.cptr [vs p]]] (vb (CZ l p))from mu (fF:=159) (caps:=[.cptr [vs p]]) (fun c hc=>by obtain rfl:=Ai.1 hc;intro h;rfl) l (fun t=>decide (t.path=p)) (fun t _=>ry t p) hl)) ?_));exact .of_eq (show vb false=vb (CZ l p) by rw[h1])
theorem rx(roots:List Rq)(C A:List (Value×AV))(s:SS)(dec:List Cd)(st:List (List Sk))(p:ByteArray)(hl:Cn dec):Be Tryz.prog 151 [.ref 1000 0,vs p] (Aj (IZ roots C A s dec st) Ab) fun r h'=>r=vb (De dec p)∧h'=Aj (IZ roots C A s dec st) Ab:=by
 refine Cm (Mo ⟨[3],[],[],[],[],[],[],[],[],[],[]⟩) [(1000,1000),(1001,1001),(1002,1002),(1003,1003),(1004,1004)] rfl CL hm rfl Tryz.func151 (by kernel_rfl) rfl (Nz rfl) (by kernel_rfl) rfl ?_;refine BN (Bt (De dec p)) (fun h1=>?_) (fun h1=>?_)
 ·have h1:(De dec p)=true:=h1;refine Xi .pure (Xi _ (Yi (cb h1 (show PC 193 [sl AE dec,.clo 194 [.cptr [vs p]]] (vb (De dec p))from rz (fF:=194) (caps:=[.cptr [vs p]]) (fun c hc=>by obtain rfl:=Ai.1 hc;intro h;rfl) dec (fun c=>decide (c.rel.path=p)) (fun c _=>rA c p) hl)) ?_));exact Xi _ (Yi (.refl _) (Yi (show vb true=vb (De dec p) by rw[h1]) rfl))
 have h1:(De dec p)=false:=h1;refine Xi .pure (Xi _ (Yi (cb h1 (show PC 193 [sl AE dec,.clo 194 [.cptr [vs p]]] (vb (De dec p))from rz (fF:=194) (caps:=[.cptr [vs p]]) (fun c hc=>by obtain rfl:=Ai.1 hc;intro h;rfl) dec (fun c=>decide (c.rel.path=p)) (fun c _=>rA c p) hl)) ?_));exact Xi _ (Yi (.refl _) (Yi (show vb false=vb (De dec p) by rw[h1]) rfl))
theorem kR(roots:List Rq)(C A:List (Value×AV))(s:SS)(dec:List Cd)(st:List (List Sk))(i:Nf)(l:List Tm)(k:Nat)(hk:Ly i 0 s.infs=some k)(QY:s.infs.Nodup):Be Tryz.prog 154 [.ref 1000 0,.agg (BZ i),sl AF l] (Aj (IZ roots C A s dec st) Ab) fun r h'=>r=vi ((D6 s i l).1:Nat)∧h'=Aj (IZ roots C A (D6 s i l).2 dec st) Ab:=by
 refine Cm (Mo ⟨[4],[],[],[],[],[],[],[],[],[],[2,5,7,8,9,10,11]⟩) [(1000,1000),(1001,1001),(1002,1002),(1003,1003),(1004,1004)] rfl CL hm rfl Tryz.func154 (by kernel_rfl) rfl (Nz rfl) (by kernel_rfl) rfl ?_;refine Yi (Nz rfl) ?_;refine Or.inl (Xi (vi (k:Nat)) (Yi (Yi (qK hk) (j7 QY hk)) ?_));refine Yi (by kernel_rfl) ?_;refine Xi ⟨[(0,.ref 1000 0),(2,sl AF l),(4,.ref 4 0),(7,vi (k:Nat)),(8,vb true)],[(4,.ro (BZ i)),(1000,.cells (srM roots C A s dec 1004 st.length)),(1001,.tok 6 s.infs.length),(1002,.tok 1 s.drv.length),(1003,.map DS (DU 0 s.infs)),(1004,.arr 1 (st.map AS))],Ab⟩ (Yi ⟨Z5,Z6,Fh,Ax (by kernel_rfl)⟩ ?_)
 exact Xi _ (Yi (.refl _) (dE (WL hk) rfl))
theorem kQ(roots:List Rq)(C A:List (Value×AV))(s:SS)(dec:List Cd)(st:List (List Sk))(i:Nf)(l:List Tm)(hk:Ly i 0 s.infs=none)(hn:s.infs.length≤65536)(hdl:s.drv.length=s.infs.length):Be Tryz.prog 154 [.ref 1000 0,.agg (BZ i),sl AF l] (Aj (IZ roots C A s dec st) Ab) fun r h'=>r=vi ((D6 s i l).1:Nat)∧h'=Aj (IZ roots C A (D6 s i l).2 dec st) Ab:=by
 have hdn:s.drv.length≤65536:=by omega
 have xv:(s.infs.map BZ).length=s.infs.length:=Lm _;refine Cm (Mo ⟨[4],[],[],[],[],[],[],[],[],[],[2,5,7,8,9,10,11]⟩) [(1000,1000),(1001,1001),(1002,1002),(1003,1003),(1004,1004)] rfl CL hm rfl Tryz.func154 (by kernel_rfl) rfl (Nz rfl) (by kernel_rfl) rfl ?_;refine Yi (Nz rfl) ?_;refine Or.inr (Yi (lN hk) ?_);refine Yi (by kernel_rfl) ?_;refine Xi ⟨[(0,.ref 1000 0),(2,sl AF l),(4,.ref 4 0),(7,vi 0),(8,vb false)],[(4,.ro (BZ i)),(1000,.cells (srM roots C A s dec 1004 st.length)),(1001,.tok 6 s.infs.length),(1002,.tok 1 s.drv.length),(1003,.map DS (DU 0 s.infs)),(1004,.arr 1 (st.map AS))],Ab⟩ (Yi ⟨Z5,Z6,Fh,Ax (by kernel_rfl)⟩ ?_)
 refine Yi (fun h1=>?_) (fun h1=>?_)
 ·have h1:(65536:Int)≤((s.infs.map BZ).length:Int):=h1;refine Xi ⟨[(0,.ref 1000 0)],[(1000,.cells (srM roots C A s dec 1004 st.length)),(1001,.tok 6 s.infs.length),(1002,.tok 1 s.drv.length),(1003,.map DS (DU 0 s.infs)),(1004,.arr 1 (st.map AS))],Ab⟩ (Yi ⟨Z1,Z5,Fh,Ax (by kernel_rfl)⟩ ?_)
  refine Yi (Nz rfl) ?_;refine Yi (by show BY (((s.infs.map BZ).length:Int)-(1:Int));unfold BY;omega) ?_;exact Xi _ (Yi (.refl _) (dE (Ul hk (by have q:=h1;rw[Lm]at q;omega)) (by have q:=h1;rw[Lm]at q⊢;omega)))
 have h1:¬((65536:Int)≤((s.infs.map BZ).length:Int)):=h1;refine Xi ⟨[(0,.ref 1000 0),(2,sl AF l),(4,.ref 4 0)],[(4,.ro (BZ i)),(1000,.cells (srM roots C A s dec 1004 st.length)),(1001,.tok 6 s.infs.length),(1002,.tok 1 s.drv.length),(1003,.map DS (DU 0 s.infs)),(1004,.arr 1 (st.map AS))],Ab⟩ (Yi ⟨Z3,Z6,Fh,Ax (by kernel_rfl)⟩ ?_)
 refine Xi ⟨[(0,.ref 1000 0),(2,sl AF l),(4,.ref 4 0),(9,vi (s.infs.map BZ).length)],[(4,.ro (BZ i)),(1000,.cells (srM roots C A s dec 1004 st.length)),(1001,.tok 6 s.infs.length),(1002,.tok 1 s.drv.length),(1003,.map DS (DU 0 s.infs)),(1004,.arr 1 (st.map AS))],Ab⟩ (Yi ⟨Z4,Z6,Fh,Ax (by kernel_rfl)⟩ ?_)
 refine Yi (Nz rfl) ?_;refine Yi (by kernel_rfl) ?_;refine Xi ⟨[(0,.ref 1000 0),(2,sl AF l),(4,.ref 4 0),(9,vi (s.infs.map BZ).length)],[(4,.ro (BZ i)),(1000,.cells (srM roots C A s dec 1004 st.length)),(1001,.tok 6 s.infs.length),(1002,.tok 1 s.drv.length),(1003,.map DS (EP (DU 0 s.infs) (Je i) (vi (s.infs.map BZ).length))),(1004,.arr 1 (st.map AS))],Ab⟩ (Yi ⟨Z4,Z6,Fh,Ax (by kernel_rfl)⟩ ?_)
 refine Yi (Nz rfl) ?_;refine Yi (Pf rfl (by omega) (by decide)) ?_;refine Yi (Nz rfl) ?_;refine Yi (by kernel_rfl) ?_;refine Xi ⟨[(0,.ref 1000 0),(2,sl AF l),(9,vi (s.infs.map BZ).length)],[(1000,.cells [sl AN roots,.cmap C3 C,.cmap C3 A,.slice (.id 1001 6) ((s.infs.map BZ)++[(BZ i)]),.slice (.id 1002 1) (s.drv.map Ca),.mref 1003,vb s.full,sl AE dec,sl Ae (AK dec),.msl 1004 st.length]),(1001,.tok 6 ((s.infs.map BZ).length+([(BZ i)]:List (List AV)).length)),(1002,.tok 1 s.drv.length),(1003,.map DS (EP (DU 0 s.infs) (Je i) (vi (s.infs.map BZ).length))),(1004,.arr 1 (st.map AS))],Ab⟩ (Yi ⟨Z3,Z5,Fh,Ax (by kernel_rfl)⟩ ?_)
 refine Yi (Pf rfl (by omega) (by decide)) ?_;refine Yi (Nz rfl) ?_;refine Xi ⟨[(9,vi (s.infs.map BZ).length)],[(1000,.cells [sl AN roots,.cmap C3 C,.cmap C3 A,.slice (.id 1001 6) ((s.infs.map BZ)++[(BZ i)]),.slice (.id 1002 1) ((s.drv.map Ca)++[[sl AF l]]),.mref 1003,vb s.full,sl AE dec,sl Ae (AK dec),.msl 1004 st.length]),(1001,.tok 6 ((s.infs.map BZ).length+([(BZ i)]:List (List AV)).length)),(1002,.tok 1 ((s.drv.map Ca).length+([[sl AF l]]:List (List AV)).length)),(1003,.map DS (EP (DU 0 s.infs) (Je i) (vi (s.infs.map BZ).length))),(1004,.arr 1 (st.map AS))],Ab⟩ (Yi ⟨Z1,Z5,Fh,Ax (by kernel_rfl)⟩ ?_)
 have hq:=dE (roots:=roots) (C:=C) (A:=A) (dec:=dec) (st:=st) (z:=((s.infs.map BZ).length:Int)) (WK (l:=l) hk (by have q:=h1;rw[Lm]at q;omega)) (by rw[Lm]);exact Xi _ (Yi (.refl _) (Yi hq.1 ((oX hk).trans hq.2)))
structure Jt(x:List Rl)(roots:List Rq)(s:SS):Prop where
 der:Fk x roots s
 nodup:s.infs.Nodup
abbrev l5(roots:List Rq)(C A:List (Value×AV))(dec:List Cd)(st:List (List Sk))(o:Nat×SS)(r:AV)(h' : Nat→HO):Prop:=r=vi (o.1:Nat)∧h'=Aj (IZ roots C A o.2 dec st) Ab
theorem kP(roots:List Rq)(C A:List (Value×AV))(s:SS)(dec:List Cd)(st:List (List Sk))(i:Nf)(l:List Tm)(hn:s.infs.length≤65536)(hdl:s.drv.length=s.infs.length)(QY:s.infs.Nodup) :
  Be Tryz.prog 154 [.ref 1000 0,.agg (BZ i),sl AF l] (Aj (IZ roots C A s dec st) Ab) (l5 roots C A dec st (D6 s i l)):=by
 cases hk:Ly i 0 s.infs with
 |some k=>exact kR roots C A s dec st i l k hk QY
 |none=>exact kQ roots C A s dec st i l hk hn hdl
abbrev Ym:IQ:=[(1000,1000),(1001,1001),(1002,1002),(1003,1003),(1004,1004)]
theorem pH{h2:Nat→HO}{cs:List AV}{o1 o2 o3 o4:HO}(e0:h2 1000=.cells cs)(e1:h2 1001=o1)(e2:h2 1002=o2)(e3:h2 1003=o3)(e4:h2 1004=o4) :
  Fy Ym h2=Aj [(1000,.cells (cs.map (ren1 (Ct Ym) h2))),(1001,o1.ren (Ct Ym) h2),(1002,o2.ren (Ct Ym) h2),(1003,o3.ren (Ct Ym) h2),(1004,o4.ren (Ct Ym) h2)] Ab:=by
 unfold Fy;simp only[Wi];rw[e0,e1,e2,e3,e4];rfl
theorem bW{s:SS}{n:Nd}(h:n.path=mt):D6 s ⟨0,mt,0,n.number,0,0⟩ (Jm n.rq)=Bm s n:=by unfold Bm SL IW;rw[Az h,Az h]
theorem fM{s:SS}{n:Nd}(h:¬n.path=mt):D6 s ⟨1,n.path,n.place,n.number,0,0⟩ (Ef n.path n.place n.rq)=Bm s n:=by unfold Bm SL IW;rw[Al h,Al h]
abbrev VM(d:List (List Tm))(S:List Sl):AV:=.tup [vi (((Oc d S).getD 0:Nat):Int),vb (Oc d S).isSome]
theorem W6{S:List Sl}:∀{l:List (List Tm)} {b i:Nat} {t:List Tm},l[i]?=some t→CD t S=true→(∀j u,j<i→l[j]?=some u→CD u S=false)→Ob S b l=some (b+i)
 | [],_,_,_,h,_,_=>by simp at h
 |u::l,b,0,t,h,he,_=>by cases h;unfold Ob;rw[Az he];rfl
 |u::l,b,i+1,t,h,he,hn=>by
  unfold Ob;rw[Al (by rw[hn 0 u (by omega) rfl];decide),W6 (i:=i) (by simpa using h) he (fun j v hj hv=>hn (j+1) v (by omega) (by simpa using hv))]
  congr 1;omega
theorem W7{S:List Sl}:∀{l:List (List Tm)} {b:Nat},(∀t∈l,CD t S=false)→Ob S b l=none
 | [],_,_=>rfl
 |u::l,b,h=>by
  unfold Ob;rw[Al (by rw[h u (Aa ..)];decide)];exact W7 fun t ht=>h t (Af _ ht)
theorem wB(roots:List Rq)(C A:List (Value×AV))(s:SS)(dec:List Cd)(st:List (List Sk))(n:Nd)(hn:s.infs.length≤65536)(hdl:s.drv.length=s.infs.length)(QY:s.infs.Nodup)(hq:Cn n.rq.set)(hp:BY (n.place+1)):Be Tryz.prog 123 [.ref 1000 0,.agg (Ba n)] (Aj (IZ roots C A s dec st) Ab) fun r h'=>l5 roots C A dec st (Bm s n) r h':=by
 refine Cm (Mo ⟨[3],[],[],[],[],[],[],[],[(15,5),(31,5)],[],[2,3]⟩) [(1000,1000),(1001,1001),(1002,1002),(1003,1003),(1004,1004)] rfl CL hm rfl Tryz.func123 (by kernel_rfl) rfl (Nz rfl) (by kernel_rfl) rfl ?_;refine Yi (fun h1=>?_) (fun h1=>?_)
 ·have h1:(n.path:ByteArray)=⟨#[]⟩:=h1;refine Xi ⟨[(0,.ref 1000 0),(3,.ref 3 0)],[(3,.ro (Ba n)),(1000,.cells (srM roots C A s dec 1004 st.length)),(1001,.tok 6 s.infs.length),(1002,.tok 1 s.drv.length),(1003,.map DS (DU 0 s.infs)),(1004,.arr 1 (st.map AS))],Ab⟩ (Yi ⟨Z2,Z6,Fh,Ax (by kernel_rfl)⟩ ?_)
  refine Yi (Nz rfl) ?_;refine Xi _ (Yi (tf n.rq hq) ?_);refine Xi Ym (Xi [(1000,.cells (srM roots C A s dec 1004 st.length)),(1001,.tok 6 s.infs.length),(1002,.tok 1 s.drv.length),(1003,.map DS (DU 0 s.infs)),(1004,.arr 1 (st.map AS))] (Xi (IZ roots C A (D6 s ⟨0,mt,0,n.number,0,0⟩ (Jm n.rq)).2 dec st) (Xi [.ref 1000 0,.agg [vi 0,vs ⟨#[]⟩,vi 0,vi n.number,vi 0,vi 0],sl AF (Jm n.rq)] (Xi (vi (((D6 s ⟨0,mt,0,n.number,0,0⟩ (Jm n.rq)).1:Nat):Int):AV) (Yi (fun h2 hh=>Yi ((pH (show h2 1000=.cells (srM roots C A s dec 1004 st.length)from hh 1000 (by decide)) (show h2 1001=.tok 6 s.infs.length from hh 1001 (by decide)) (show h2 1002=.tok 1 s.drv.length from hh 1002 (by decide)) (show h2 1003=.map DS (DU 0 s.infs)from hh 1003 (by decide)) (show h2 1004=.arr 1 (st.map AS)from hh 1004 (by decide))).trans rfl) rfl) (Yi (by kernel_rfl) (Yi (kP roots C A s dec st ⟨0,mt,0,n.number,0,0⟩ (Jm n.rq) hn hdl QY) ?_)))))));refine Yi (by kernel_rfl) ?_;have ei:=bW (s:=s) h1;exact Xi _ (Yi (.refl _) (Yi (show vi (((D6 s ⟨0,mt,0,n.number,0,0⟩ (Jm n.rq)).1:Nat):Int)=vi (((Bm s n).1:Nat):Int) by rw[ei]) (show Aj (IZ roots C A (D6 s ⟨0,mt,0,n.number,0,0⟩ (Jm n.rq)).2 dec st) Ab=Aj (IZ roots C A (Bm s n).2 dec st) Ab by rw[ei])))
 have h1:¬(n.path:ByteArray)=⟨#[]⟩:=h1;refine Xi ⟨[(0,.ref 1000 0),(3,.ref 3 0)],[(3,.ro (Ba n)),(1000,.cells (srM roots C A s dec 1004 st.length)),(1001,.tok 6 s.infs.length),(1002,.tok 1 s.drv.length),(1003,.map DS (DU 0 s.infs)),(1004,.arr 1 (st.map AS))],Ab⟩ (Yi ⟨Z2,Z6,Fh,Ax (by kernel_rfl)⟩ ?_)
 refine Yi (Nz rfl) ?_;refine Xi _ (Yi (tg n.path n.place n.rq hp hq) ?_);refine Xi Ym (Xi [(1000,.cells (srM roots C A s dec 1004 st.length)),(1001,.tok 6 s.infs.length),(1002,.tok 1 s.drv.length),(1003,.map DS (DU 0 s.infs)),(1004,.arr 1 (st.map AS))] (Xi (IZ roots C A (D6 s ⟨1,n.path,n.place,n.number,0,0⟩ (Ef n.path n.place n.rq)).2 dec st) (Xi [.ref 1000 0,.agg [vi 1,vs n.path,vi n.place,vi n.number,vi 0,vi 0],sl AF (Ef n.path n.place n.rq)] (Xi (vi (((D6 s ⟨1,n.path,n.place,n.number,0,0⟩ (Ef n.path n.place n.rq)).1:Nat):Int):AV) (Yi (fun h2 hh=>Yi ((pH (show h2 1000=.cells (srM roots C A s dec 1004 st.length)from hh 1000 (by decide)) (show h2 1001=.tok 6 s.infs.length from hh 1001 (by decide)) (show h2 1002=.tok 1 s.drv.length from hh 1002 (by decide)) (show h2 1003=.map DS (DU 0 s.infs)from hh 1003 (by decide)) (show h2 1004=.arr 1 (st.map AS)from hh 1004 (by decide))).trans rfl) rfl) (Yi (by kernel_rfl) (Yi (kP roots C A s dec st ⟨1,n.path,n.place,n.number,0,0⟩ (Ef n.path n.place n.rq) hn hdl QY) ?_)))))));refine Yi (by kernel_rfl) ?_;have ei:=fM (s:=s) h1;exact Xi _ (Yi (.refl _) (Yi (show vi (((D6 s ⟨1,n.path,n.place,n.number,0,0⟩ (Ef n.path n.place n.rq)).1:Nat):Int)=vi (((Bm s n).1:Nat):Int) by rw[ei]) (show Aj (IZ roots C A (D6 s ⟨1,n.path,n.place,n.number,0,0⟩ (Ef n.path n.place n.rq)).2 dec st) Ab=Aj (IZ roots C A (Bm s n).2 dec st) Ab by rw[ei])))
theorem s89(roots:List Rq)(C A:List (Value×AV))(s:SS)(dec:List Cd)(st:List (List Sk))(S:List Sl)(hd:s.drv.length≤65536)(ht:∀t∈s.drv,dB t)(hS:Cn S):Be Tryz.prog 124 [.ref 1000 0,sl Ae S] (Aj (IZ roots C A s dec st) Ab) fun r h'=>r=VM s.drv S∧h'=Aj (IZ roots C A s dec st) Ab:=by
 refine Cm (Mo ⟨[],[],[],[],[],[],[],[],[],[],[4,6]⟩) [(1000,1000),(1001,1001),(1002,1002),(1003,1003),(1004,1004)] rfl CL hm rfl Tryz.func124 (by kernel_rfl) rfl (Nz rfl) (by kernel_rfl) rfl ?_;refine Xi {i:Nat // i≤s.drv.length∧∀j u,j<i→s.drv[j]?=some u→CD u S=false} (Xi (fun q=>⟨[(1,sl Ae S),(11,.slice (.id 1002 1) (s.drv.map Ca)),(12,vi (s.drv.map Ca).length),(13,vi q.1)],[(1000,.cells (srM roots C A s dec 1004 st.length)),(1001,.tok 6 s.infs.length),(1002,.tok 1 s.drv.length),(1003,.map DS (DU 0 s.infs)),(1004,.arr 1 (st.map AS))],Ab⟩) (Xi (fun q=>s.drv.length-q.1) (Yi (Xi ⟨0,AM _,fun j u h=>absurd h (Du j)⟩ ?_) ?_)))
 ·exact⟨Z4,Z5,Fh,Ax (by kernel_rfl)⟩
 intro⟨i,i1,i2⟩;have i1:i≤s.drv.length:=i1;have i2:∀j u,j<i→s.drv[j]?=some u→CD u S=false:=i2;refine Yi (fun h1=>?_) (fun h1=>?_)
 ·have h1:(i:Int)<((s.drv.map Ca).length:Int):=h1;have n1:=Jy h1;refine Xi (Ca s.drv[i]) (Yi (NP n1) (Yi rfl ?_));refine Xi ⟨[(1,sl Ae S),(6,vi i),(7,sl AF s.drv[i]),(11,.slice (.id 1002 1) (s.drv.map Ca)),(12,vi (s.drv.map Ca).length),(13,vi i)],[(1000,.cells (srM roots C A s dec 1004 st.length)),(1001,.tok 6 s.infs.length),(1002,.tok 1 s.drv.length),(1003,.map DS (DU 0 s.infs)),(1004,.arr 1 (st.map AS))],Ab⟩ (Yi ⟨Z6,Z5,Fh,Ax (by kernel_rfl)⟩ ?_)
  refine BN (Bt (CD s.drv[i] S)) (fun h2=>?_) (fun h2=>?_)
  ·have h2:(CD s.drv[i] S)=true:=h2;refine Xi .pure (Xi _ (Yi (cb h2 (wO s.drv[i] S (ht _ (Ao _)) hS)) ?_));have eE:Oc s.drv S=some i:=by unfold Oc;rw[W6 (Ge n1) h2 i2,Bk]
   exact Xi _ (Yi (.refl _) (Yi (show AV.tup [vi (i:Int),vb true]=VM s.drv S by unfold VM;rw[eE];rfl) rfl))
  have h2:(CD s.drv[i] S)=false:=h2;refine Xi .pure (Xi _ (Yi (cb h2 (wO s.drv[i] S (ht _ (Ao _)) hS)) ?_));refine Xi ⟨[(1,sl Ae S),(11,.slice (.id 1002 1) (s.drv.map Ca)),(12,vi (s.drv.map Ca).length),(13,vi i)],[(1000,.cells (srM roots C A s dec 1004 st.length)),(1001,.tok 6 s.infs.length),(1002,.tok 1 s.drv.length),(1003,.map DS (DU 0 s.infs)),(1004,.arr 1 (st.map AS))],Ab⟩ (Yi ⟨Z4,Z5,Fh,Ax (by kernel_rfl)⟩ ?_)
  refine Yi (Ii i (by omega)) ?_;refine Xi ⟨i+1,by omega,fun j u hj hu=>by
    by_cases e:j=i
    ·subst e;rw[Ge n1]at hu;cases hu;exact h2
    ·exact i2 j u (by omega) hu⟩ ?_
  exact⟨Dl s.drv.length i (by omega),Z4,Z5,Fh,Ax (by kernel_rfl)⟩
 have h1:¬((i:Int)<((s.drv.map Ca).length:Int)):=h1;have n1:=Jx h1;have eE:Oc s.drv S=none:=W7 fun t ht=>by
  obtain⟨j,hj⟩:=B9.1 ht
  have:=(As.1 hj).1
  exact i2 j t (by have q:=h1;rw[Lm]at q;omega) hj
 exact Xi _ (Yi (.refl _) (Yi (show AV.tup [vi 0,vb false]=VM s.drv S by unfold VM;rw[eE];rfl) rfl))
def Tb(l:List Cd)(q:Rq):Bool:=l.any fun d=>decide (d.rel.path=q.path)&&!has q.set d.place
theorem UH{f:Rq→Nat→Nd}{P:Nd→Bool}:∀{l:List Rq} {b i:Nat} {q:Rq},l[i]?=some q→P (f q (b+i))=true→(∀k u,k<i→l[k]?=some u→P (f u (b+k))=false)→(L5 f b l).find? P=some (f q (b+i))
 | [],_,_,_,h,_,_=>by simp at h
 |u::l,b,0,q,h,he,_=>by
  cases h
  unfold L5;rw[Ft,show P (f u b)=true from he];rfl
 |u::l,b,i+1,q,h,he,hn=>by
  unfold L5;have h0:P (f u b)=false:=hn 0 u (by omega) rfl;rw[Ft,h0]
  have:=UH (f:=f) (P:=P) (l:=l) (b:=b+1) (i:=i) (q:=q) (by simpa using h) (by rw[show b+1+i=b+(i+1) by omega];exact he) (fun k v hk hv=>by
   rw[show b+1+k=b+(k+1) by omega];exact hn (k+1) v (by omega) (by simpa using hv))
  rw[show b+1+i=b+(i+1) by omega]at this;exact this
theorem Ol{f:Rq→Nat→Nd}{P:Nd→Bool}:∀{l:List Rq} {b:Nat},(∀k u,l[k]?=some u→P (f u (b+k))=false)→(L5 f b l).find? P=none
 | [],_,_=>rfl
 |u::l,b,h=>by
  unfold L5;have h0:P (f u b)=false:=h 0 u rfl;rw[Ft,h0];exact Ol fun k v hv=>by rw[show b+1+k=b+(k+1) by omega];exact h (k+1) v (by simpa using hv)
def ym:AV:=.agg [vs ⟨#[]⟩,.v (.slice none 0 0),vs ⟨#[]⟩,vi 0,vi 0]
def mH(o:Option Nd):AV:=match o with | some n=>.tup [.agg (Ba n),vb true] | none=>.tup [ym,vb false]
section
variable {dec:List Cd}{c:Cd}{i:Nat}
theorem dX(hi:i<c.rel.reqs.length)(hn:∀k q,k<i→c.rel.reqs[k]?=some q→Tb (dec++[c]) q=false){j:Nat}(hj:j<(dec++[c]).length)(h1:(dec++[c])[j].rel.path=c.rel.reqs[i].path)(h2:has c.rel.reqs[i].set (dec++[c])[j].place=false) :
  D3 dec c=some ⟨c.rel.reqs[i],c.rel.path,c.place,(i:Nat)⟩:=by
 have:=UH (f:=fun q i=>⟨q,c.rel.path,c.place,(i:Nat)⟩) (P:=ao (dec++[c])) (l:=c.rel.reqs) (b:=0) (i:=i) (q:=c.rel.reqs[i]) (Ge hi)
  (A7.2 ⟨_,Ao hj,by rw[Aw h1,h2];rfl⟩) (fun k u hk hu=>hn k u hk hu)
 unfold D3 PP;rw[this,Bk]
theorem dY(hn:∀(k:Nat) (q:Rq),c.rel.reqs[k]?=some q→Tb (dec++[c]) q=false):D3 dec c=none:=by
 unfold D3 PP;exact Ol fun k u hu=>hn k u hu
theorem ge{q:Rq}(h:∀(m:Nat) (d:Cd),(dec++[c])[m]?=some d→(decide (d.rel.path=q.path)&&!has q.set d.place)=false):Tb (dec++[c]) q=false:=by
 unfold Tb;rw[Fl];intro d hd;obtain⟨m,hm⟩:=B9.1 hd;rw[h m d hm];decide
end
theorem s87(n:Nd)(c:Cd)(hq:Cn n.rq.set):PC 121 [.agg (Ba n),.cptr (AE c)] (vb (!has n.rq.set c.place)):=by
 refine Ps ⟨[2],[],[],[],[],[],[],[],[],[],[]⟩ Tryz.func121 rfl (Nz rfl) ?_;refine BN (Bt (has n.rq.set c.place)) (fun h1=>?_) (fun h1=>?_)
 ·have h1:(has n.rq.set c.place)=true:=h1;refine Xi .pure (Xi _ (Yi (cb h1 (pv n.rq.set c.place hq)) ?_));exact .of_eq (show vb false=vb (!has n.rq.set c.place) by rw[h1];rfl)
 have h1:(has n.rq.set c.place)=false:=h1;refine Xi .pure (Xi _ (Yi (cb h1 (pv n.rq.set c.place hq)) ?_));exact .of_eq (show vb true=vb (!has n.rq.set c.place) by rw[h1];rfl)
theorem yg(roots:List Rq)(C A:List (Value×AV))(s:SS)(dec:List Cd)(st:List (List Sk))(c:Cd)(hd:dec.length≤1073741823)(hr:c.rel.reqs.length≤1073741824)(hq:∀q∈c.rel.reqs,Cn q.set):Be Tryz.prog 125 [.ref 1000 0,.agg (AE c)] (Aj (IZ roots C A s dec st) Ab) fun r h'=>r=mH (D3 dec c)∧h'=Aj (IZ roots C A s dec st) Ab:=by
 have hd:dec.length≤1073741823:=hd;have hdl:(dec++[c]).length=dec.length+1:=by simp
 refine Cm (Mo ⟨[3],[],[],[],[],[],[],[],[(23,3)],[],[4,8,9]⟩) [(1000,1000),(1001,1001),(1002,1002),(1003,1003),(1004,1004)] rfl CL hm rfl Tryz.func125 (by kernel_rfl) rfl (Nz rfl) (by kernel_rfl) rfl ?_;refine Xi {i:Nat // i≤c.rel.reqs.length∧∀k q,k<i→c.rel.reqs[k]?=some q→Tb (dec++[c]) q=false} (Xi (fun q=>⟨[(0,.ref 1000 0),(3,.ref 3 0),(4,.ref 4 0),(12,sl AN c.rel.reqs),(13,vi (c.rel.reqs.map AN).length),(14,vi q.1)],[(3,.ro (AE c)),(4,.cells [vs ⟨#[]⟩,.v (.slice none 0 0),vs ⟨#[]⟩,vi 0,vi 0]),(1000,.cells (srM roots C A s dec 1004 st.length)),(1001,.tok 6 s.infs.length),(1002,.tok 1 s.drv.length),(1003,.map DS (DU 0 s.infs)),(1004,.arr 1 (st.map AS))],Ab⟩) (Xi (fun q=>c.rel.reqs.length-q.1) (Yi (Xi ⟨0,AM _,fun k q h=>absurd h (Du k)⟩ ?_) ?_)))
 ·exact⟨Z6,Z7,Fh,Ax (by kernel_rfl)⟩
 intro⟨i,i1,i2⟩;have i1:i≤c.rel.reqs.length:=i1;have i2:∀k q,k<i→c.rel.reqs[k]?=some q→Tb (dec++[c]) q=false:=i2;refine Yi (fun h1=>?_) (fun h1=>?_)
 ·have h1:(i:Int)<((c.rel.reqs.map AN).length:Int):=h1;have n1:=Jy h1;refine Xi (AN c.rel.reqs[i]) (Yi (NP n1) (Yi rfl ?_));refine Yi (Nz rfl) ?_;refine Yi (Nz rfl) ?_;refine Xi ⟨[(0,.ref 1000 0),(3,.ref 3 0),(4,.ref 4 0),(6,vi i),(7,.ref 7 0),(12,sl AN c.rel.reqs),(13,vi (c.rel.reqs.map AN).length),(14,vi i)],[(3,.ro (AE c)),(4,.cells [vs ⟨#[]⟩,.v (.slice none 0 0),vs ⟨#[]⟩,vi 0,vi 0]),(7,.cells (AN c.rel.reqs[i])),(1000,.cells (srM roots C A s dec 1004 st.length)),(1001,.tok 6 s.infs.length),(1002,.tok 1 s.drv.length),(1003,.map DS (DU 0 s.infs)),(1004,.arr 1 (st.map AS))],Ab⟩ (Yi ⟨Z8,Z8,Fh,Ax (by kernel_rfl)⟩ ?_)
  refine Xi _ (Xi _ (Yi (by kernel_rfl) (Yi (rE dec (A5 hd (by decide))) ?_)));refine Yi (Nz rfl) ?_;have b2:Dp 10 [(AE c)]∧(dec.map AE).length=(dec.map AE).length∧((dec.map AE).length+([(AE c)]:List (List AV)).length)*128≤140737488355328∧(dec.map AE).length+([(AE c)]:List (List AV)).length≤9223372036854775807:=⟨⟨rfl,trivial⟩,rfl,(by simp only[Lm,At,AC];omega),(by simp only[Lm,At,AC];omega)⟩;refine Yi b2 ?_;refine Yi (by kernel_rfl) ?_;refine Xi {j:Nat // j≤(dec++[c]).length∧∀m d,m<j→(dec++[c])[m]?=some d→(decide (d.rel.path=c.rel.reqs[i].path)&&!has c.rel.reqs[i].set d.place)=false} (Xi (fun q=>⟨[(0,.ref 1000 0),(3,.ref 3 0),(4,.ref 4 0),(6,vi i),(7,.ref 7 0),(12,sl AN c.rel.reqs),(13,vi (c.rel.reqs.map AN).length),(14,vi i),(26,.slice (.id 12300 10) ((dec++[c]).map AE)),(27,vi ((dec++[c]).map AE).length),(28,vi q.1)],[(3,.ro (AE c)),(4,.cells [vs ⟨#[]⟩,.v (.slice none 0 0),vs ⟨#[]⟩,vi 0,vi 0]),(7,.cells (AN c.rel.reqs[i])),(1000,.cells (srM roots C A s dec 1004 st.length)),(1001,.tok 6 s.infs.length),(1002,.tok 1 s.drv.length),(1003,.map DS (DU 0 s.infs)),(1004,.arr 1 (st.map AS)),(12300,.tok 10 ((dec++[c]).map AE).length)],Ab⟩) (Xi (fun q=>(dec++[c]).length-q.1) (Yi (Xi ⟨0,AM _,fun k q h=>absurd h (Du k)⟩ ?_) ?_)))
  ·exact⟨⟨Zr,Zr,Zr,Zr,Zr,Zr,Zr,Zr,⟨Uf,rfl⟩,⟨(show vi ((dec.map AE++[AE c]:List (List AV)).length:Int)=vi (((dec++[c]).map AE).length:Int) by rw[AH];rfl),rfl⟩,Zr,Tv⟩,⟨Zr,Zr,Zr,Zr,Zr,Zr,Zr,Zr,⟨(show HO.tok 10 ((dec.map AE).length+[AE c].length)=.tok 10 ((dec++[c]).map AE).length by simp),rfl⟩,Tv⟩,Fh,Ax (by kernel_rfl)⟩
  intro⟨j,j1,j2⟩;have j1:j≤(dec++[c]).length:=j1;have j2:∀m d,m<j→(dec++[c])[m]?=some d→(decide (d.rel.path=c.rel.reqs[i].path)&&!has c.rel.reqs[i].set d.place)=false:=j2;refine Yi (fun h3=>?_) (fun h3=>?_)
  ·have h3:(j:Int)<(((dec++[c]).map AE).length:Int):=h3;have n3:=Jy h3;refine Xi (AE ((dec++[c])[j])) (Yi (NP n3) (Yi rfl ?_));refine Yi (Nz rfl) ?_;refine Yi (Nz rfl) ?_;refine Yi (fun h4=>?_) (fun h4=>?_)
   ·have h4:(((dec++[c])[j]).rel.path:ByteArray)=c.rel.reqs[i].path:=h4;refine BN (Bt (has c.rel.reqs[i].set (dec++[c])[j].place)) (fun h5=>?_) (fun h5=>?_)
    ·have h5:(has c.rel.reqs[i].set (dec++[c])[j].place)=true:=h5;refine Xi .pure (Xi _ (Yi (cb h5 (pv c.rel.reqs[i].set (dec++[c])[j].place (hq _ (Ao _)))) ?_));refine Xi ⟨[(0,.ref 1000 0),(3,.ref 3 0),(4,.ref 4 0),(6,vi i),(7,.ref 7 0),(12,sl AN c.rel.reqs),(13,vi (c.rel.reqs.map AN).length),(14,vi i),(26,.slice (.id 12300 10) ((dec++[c]).map AE)),(27,vi ((dec++[c]).map AE).length),(28,vi j)],[(3,.ro (AE c)),(4,.cells [vs ⟨#[]⟩,.v (.slice none 0 0),vs ⟨#[]⟩,vi 0,vi 0]),(7,.cells (AN c.rel.reqs[i])),(1000,.cells (srM roots C A s dec 1004 st.length)),(1001,.tok 6 s.infs.length),(1002,.tok 1 s.drv.length),(1003,.map DS (DU 0 s.infs)),(1004,.arr 1 (st.map AS)),(12300,.tok 10 ((dec++[c]).map AE).length)],Ab⟩ (Yi ⟨Z11,Z9,Fh,Ax (by kernel_rfl)⟩ ?_)
     refine Yi (Ii j (by omega)) ?_;refine Xi ⟨j+1,by omega,fun m d hm hd=>by
       by_cases e:m=j
       ·subst e;rw[Ge n3]at hd;cases hd;exact by rw[h5];simp
       ·exact j2 m d (by omega) hd⟩ ?_
     exact⟨by show(dec++[c]).length-(j+1)<(dec++[c]).length-j;omega,Z11,Z9,Fh,Ax (by kernel_rfl)⟩
    have h5:(has c.rel.reqs[i].set (dec++[c])[j].place)=false:=h5;refine Xi .pure (Xi _ (Yi (cb h5 (pv c.rel.reqs[i].set (dec++[c])[j].place (hq _ (Ao _)))) ?_));refine Xi ⟨[(3,.ref 3 0),(4,.ref 4 0),(6,vi i),(7,.ref 7 0)],[(3,.ro (AE c)),(4,.cells [vs ⟨#[]⟩,.v (.slice none 0 0),vs ⟨#[]⟩,vi 0,vi 0]),(7,.cells (AN c.rel.reqs[i])),(1000,.cells (srM roots C A s dec 1004 st.length)),(1001,.tok 6 s.infs.length),(1002,.tok 1 s.drv.length),(1003,.map DS (DU 0 s.infs)),(1004,.arr 1 (st.map AS))],Ab⟩ (Yi ⟨Z4,Z8,Fh,Ax (by kernel_rfl)⟩ ?_)
    refine Yi (Nz rfl) ?_;refine Yi (Nz rfl) ?_;refine Yi (Nz rfl) ?_;have eC:=dX (dec:=dec) (c:=c) n1 i2 n3 h4 h5;exact Xi _ (Yi (.refl _) (Yi (show AV.tup [.agg (Ba ⟨c.rel.reqs[i],c.rel.path,c.place,(i:Nat)⟩),vb true]=mH (D3 dec c) by rw[eC];rfl) rfl))
   have h4:¬(((dec++[c])[j]).rel.path:ByteArray)=c.rel.reqs[i].path:=h4;refine Xi ⟨[(0,.ref 1000 0),(3,.ref 3 0),(4,.ref 4 0),(6,vi i),(7,.ref 7 0),(12,sl AN c.rel.reqs),(13,vi (c.rel.reqs.map AN).length),(14,vi i),(26,.slice (.id 12300 10) ((dec++[c]).map AE)),(27,vi ((dec++[c]).map AE).length),(28,vi j)],[(3,.ro (AE c)),(4,.cells [vs ⟨#[]⟩,.v (.slice none 0 0),vs ⟨#[]⟩,vi 0,vi 0]),(7,.cells (AN c.rel.reqs[i])),(1000,.cells (srM roots C A s dec 1004 st.length)),(1001,.tok 6 s.infs.length),(1002,.tok 1 s.drv.length),(1003,.map DS (DU 0 s.infs)),(1004,.arr 1 (st.map AS)),(12300,.tok 10 ((dec++[c]).map AE).length)],Ab⟩ (Yi ⟨Z11,Z9,Fh,Ax (by kernel_rfl)⟩ ?_)
   refine Yi (Ii j (by omega)) ?_;refine Xi ⟨j+1,by omega,fun m d hm hd=>by
     by_cases e:m=j
     ·subst e;rw[Ge n3]at hd;cases hd;exact by rw[Ap h4];rfl
     ·exact j2 m d (by omega) hd⟩ ?_
   exact⟨by show(dec++[c]).length-(j+1)<(dec++[c]).length-j;omega,Z11,Z9,Fh,Ax (by kernel_rfl)⟩
  have h3:¬((j:Int)<(((dec++[c]).map AE).length:Int)):=h3;have n3:=Jx h3;refine Yi (Ii i (by omega)) ?_;have zF:Tb (dec++[c]) c.rel.reqs[i]=false:=ge fun m d hd=>j2 m d (by have:=(As.1 hd).1;have q:=h3;rw[Lm]at q;omega) hd;refine Xi ⟨i+1,by omega,fun k q hk uG=>by
    by_cases e:k=i
    ·subst e;rw[Ge n1]at uG;cases uG;exact zF
    ·exact i2 k q (by omega) uG⟩ ?_
  exact⟨Dl c.rel.reqs.length i (by omega),Z6,Z7,Fh,Ax (by kernel_rfl)⟩
 have h1:¬((i:Int)<((c.rel.reqs.map AN).length:Int)):=h1;have n1:=Jx h1;refine Yi (Nz rfl) ?_;refine Yi (Nz rfl) ?_;have eC:=dY (dec:=dec) (c:=c) fun k q hk=>i2 k q (by have:=(As.1 hk).1;have q:=h1;rw[Lm]at q;omega) hk;exact Xi _ (Yi (.refl _) (Yi (show AV.tup [ym,vb false]=mH (D3 dec c) by rw[eC];rfl) rfl))
end Go.Eng
