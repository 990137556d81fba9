/- Lemmas for the claims of this seat, without a condition: part 26 (S15, S1, S2, S3, S4). -/
import Derived.Test.YtmcbkdbfaneofaaGreatDoorEA03
import Derived.Test.YtmcbkdbfaneofaaGreatDoorEA21
namespace Go.Proofs
open Go.Shelf Go.RowKit Go.Lib Go.Sort
abbrev OneC:Type:={v:Value // v.oneCell'=true}
def SlA:Type:=ByteArray×OneC×OneC×OneC
instance:Inhabited SlA:=⟨⟨ByteArray.empty,⟨.bool false,rfl⟩,⟨.bool false,rfl⟩,⟨.bool false,rfl⟩⟩⟩
def encSlA(x:SlA):List Value:=[.string x.1,x.2.1.1,x.2.2.1.1,x.2.2.2.1]
def cfSlA(x y:SlA):Int:=Lib.compareBytes x.1.data.toList y.1.data.toList
abbrev CmpSlA(k:Nat):Prop:=∀(x y:SlA) (W:World),Calls Tryz.prog k #[.agg #[.string x.1,x.2.1.1,x.2.2.1.1,x.2.2.2.1],.agg #[.string y.1,y.2.1.1,y.2.2.1.1,y.2.2.2.1]] W fun e w'=>e=.returned (.int .i64 (cfSlA x y))∧∃q os',w'=grow (W.drewN q) os'
theorem Tryz.closure99:CmpSlA 99:=fun x y W=>by
 have hcon:=fun W'=>Any.strings_Compare Tryz.layCompare x.1 y.1 W';obtain⟨a,⟨b,hb⟩,⟨c,hc⟩,⟨d,hd⟩⟩:=x;obtain⟨a',⟨b',nh⟩,⟨c',oT⟩,⟨d',j9⟩⟩:=y;dsimp only at hcon
 change ∀W',Calls Tryz.prog 100 _ _ _ at hcon
 unfold cfSlA;dsimp only;generalize Lib.compareBytes a.data.toList a'.data.toList=r at hcon⊢
 go_enter Tryz.func99,Tryz.ntmps99
 go_wp2_with (go_at_call 100;refine(hcon _).mono ?_;rintro e w' ⟨rfl,rfl⟩)
 go_ret
 exact⟨rfl,0,_,by rw[alloc_eq_grow,alloc_eq_grow,grow_grow];rfl⟩
end Go.Proofs
set_option maxHeartbeats 4000000
namespace Go.Eng
open Go.Proofs Go.Shelf Go.RowKit Go.Lib Go.Sort
theorem aG(x y:SlA):ltOf cfSlA x y=Fg x.1 y.1:=Tl _ _
theorem iJ:SWO (ltOf cfSlA) where
 irrefl x:=by rw[aG];exact Dg _
 trans x y z h1 h2:=by rw[aG]at *;exact Ev h1 h2
 ntrans x y z h1 h2:=by
  rw[aG]at *
  rw[AI];intro h;cases o8:Fg y.1 x.1 with
  |true=>have:=Ev o8 h;rw[h2]at this;cases this
  |false =>
   have e:=Hp h1 o8;rw[e]at h;rw[h2]at h;cases h
theorem s92(k:Nat)(hc:CmpSlA k)(eg:∀args w,(callFunc k args).run Tryz.prog w=.ok (.enter k args) w)(l:List Sl)(hl:Cm l)(lim:Nat)(XH:lim<100) :
  Be Tryz.prog 129 [.msl 1000 l.length,vi 0,vi l.length,vi lim,.v (Uf k)] (Ai [(1000,.arr 4 (l.map Af))] Ab) fun r h' =>
   r=.tup []∧∃l' : List Sl,l'.Perm l∧l'.Pairwise (fun x y=>Fg y.path x.path=false)∧h'=Ai [(1000,.arr 4 (l'.map Af))] Ab:=by
 have hl:l.length≤1073741824:=hl;have hE:FX Tryz.prog 129:=dK 129 Tryz.func129 (by kernel_rfl) rfl;have G8:=Ja (P:=Tryz.prog) (f:=129) (α:=SlA) (rest:=[.int .i64 0,.int .i64 l.length,.int .i64 lim,Uf k]) hE Af encSlA (k:=4) (fun _=>rfl) (fun _=>rfl) (ltOf cfSlA) (fun x a=>a.1=x.path) l (by omega) ?_ ?_ ?_
 ·refine⟨hE,fun g w vals q1 q2 q3=>(G8.2 g w vals q1 q2 q3).mono fun _ _ ⟨v,r,h',g',e1,⟨e2,l',p1,⟨al,a1,a2,a3⟩,p2⟩,rest⟩=>⟨v,r,h',g',e1,⟨e2,l',p1,?_,p2⟩,rest⟩⟩;rw[Bc]at a3⊢;intro i j hi hj U4
  have:=a3 i j (by omega) (by omega) U4
  rw[aG]at this;have e1:=a2 i _ _ (Ge hi) (Ge (by omega));have e2:=a2 j _ _ (Ge hj) (Ge (by omega));rw[←e1,←e2];exact this
 ·intro x hx g w vs hr
  match vs,hr with
  | [a,b,c,d],hr =>
   have h1:=(hr.2.2 0 (Go.Eng.vs x.path) a rfl rfl).v_eq;subst h1;exact⟨⟨x.path,⟨b,hr.2.1 b (by simp)⟩,⟨c,hr.2.1 c (by simp)⟩,⟨d,hr.2.1 d (by simp)⟩⟩,rfl,rfl⟩
  | [],hr=>have:=hr.1;simp at this
  | [_],hr=>have:=hr.1;simp at this
  | [_,_],hr=>have:=hr.1;simp at this
  | [_,_,_],hr=>have:=hr.1;simp at this
  |_::_::_::_::_::_,hr=>have:=hr.1;simp at this
 ·intro w b cap d hH hb EF hdl;have fH:CmpLays Tryz.prog k #[] encSlA 4 cfSlA b 0 d.size w:=fun _ _ _ _ x y=>hc x y _;have hp:=AnyQ.pdqsortCmpFunc_all Tryz.layPdqSel 4 Tryz.isAgg51 Tryz.sizeOf51 encSlA cfSlA k #[] iJ b 0 cap d w eg fH ⟨fun _=>rfl,fun x v hv=>by
    simp only[encSlA,Aq,LE,or_false]at hv;rcases hv with rfl | rfl | rfl | rfl
    ·rfl
    ·exact x.2.1.2
    ·exact x.2.2.1.2
    ·exact x.2.2.2.2,hH,hb⟩ (d.size+1) 0 d.size lim d w (by omega) rfl (SWK.start hH) (AO _) (Aj _) EF (by omega) (Or.inl rfl)
  rw[hdl]at hp⊢;refine hp.mono ?_
  rintro e w' ⟨rfl,n,os,rfl⟩
  have h:=pdq_sorts (ltOf cfSlA) iJ d 0 d.size lim true true (AO _) (Aj _) (Or.inl rfl);rw[hdl]at h;exact⟨rfl,_,n,os,h.1,h.2,rfl⟩
 ·intro e w;subst e;exact AnyF.pdqsortCmpFunc_none Tryz.layPdqSel none 0 lim (Uf k) w
theorem Ut{l l' : List Sl}(h1:VI l)(h2:VI l')(hm:∀y,y∈l↔y∈l'):l=l':=by
 induction l generalizing l' with
 |nil =>
  cases l' with
  |nil=>rfl
  |cons y l'=>have:=(hm y).2 (Aa ..);cases this
 |cons x l ih =>
  cases l' with
  |nil=>have:=(hm x).1 (Aa ..);cases this
  |cons y l' =>
   obtain⟨a1,a2⟩:=BI.1 h1;obtain⟨b1,b2⟩:=BI.1 h2;have e:x=y:=by
    rcases Aq.1 ((hm x).1 (Aa ..))with e | e
    ·exact e
    ·rcases Aq.1 ((hm y).2 (Aa ..))with e2 | e2
     ·exact e2.symm
     ·have c1:=b1 x e;have c2:=a1 y e2
      have:=Ev c1 c2
      rw[Dg]at this;cases this
   subst e
   congr 1
   refine ih a2 b2 fun z=>⟨fun hz=>?_,fun hz=>?_⟩
   ·rcases Aq.1 ((hm z).1 (Ae _ hz))with e | e
    ·subst e
     have:=a1 z hz
     rw[Dg]at this;cases this
    ·exact e
   ·rcases Aq.1 ((hm z).2 (Ae _ hz))with e | e
    ·subst e
     have:=b1 z hz
     rw[Dg]at this;cases this
    ·exact e
theorem iG{l l' : List Sl}(hn:(l.map (·.path)).Nodup)(hp:l'.Perm l)(hs:l'.Pairwise fun x y=>Fg y.path x.path=false):l'=FU l:=by
 refine Ut ?_ (Qk hn) fun y=>by rw[hp.mem_iff,Ia]
 have XJ : (l'.map (·.path)).Nodup:=(hp.map (·.path)).nodup_iff.2 hn;show l'.Pairwise _;rw[Bc]at hs⊢;intro i j hi hj U4;cases hb:Fg l'[i].path l'[j].path with
 |true=>rfl
 |false =>
  have e:=Hp hb (hs i j hi hj U4)
  have:=(Bc.1 XJ) i j (by simpa using hi) (by simpa using hj) U4
  simp at this;exact absurd e this
theorem s47(k:Nat)(hc:CmpSlA k)(eg:∀args w,(callFunc k args).run Tryz.prog w=.ok (.enter k args) w)(l:List Sl)(hl:Cm l)(hn:(l.map (·.path)).Nodup) :
  Be Tryz.prog 98 [.msl 1000 l.length,.v (Uf k)] (Ai [(1000,.arr 4 (l.map Af))] Ab) fun r h' =>
   r=.tup []∧h'=Ai [(1000,.arr 4 ((FU l).map Af))] Ab:=by
 obtain⟨lim,XH,hb⟩:=mK l.length hl;refine Co (MF F3) [(1000,1000)] rfl CB hm rfl Tryz.func98 (by kernel_rfl) rfl (Nz rfl) (by kernel_rfl) rfl ?_;refine Xi .pure (Xi _ (Yi (hb) ?_));refine Xi (.gen [(1000,1000)] 0) (Yi rfl ((s92 k hc eg l hl lim XH).imp ?_));intro r h' hq;refine Dn hq.2 (fun l' PO=>?_);have e:=iG hn PO.1 PO.2.1;refine Xi (.tup []) (Yi ?_ (Yi rfl ?_))
 ·exact .refl _
 ·rw[PO.2.2,e];rfl
end Go.Eng
namespace Go.Eng
open Go.Proofs
abbrev AE(c:Cd):List AV:=vi c.place::Al c.rel
abbrev A9(n:Nd):List AV:=[vs n.rq.path,sl Ao n.rq.set,vs n.path,vi n.place,vi n.number]
abbrev AS(l:List Sk):List AV:=[sl BV l]
abbrev BN(i:Nat):List AV:=[vi (i:Nat)]
def DW:EE:=⟨true,[.int .i64,.str,.int .i64,.int .i64,.int .i64,.int .i64]⟩
def Jk(i:Nf):Value:=.agg [.int .i64 i.kind,.string i.path,.int .i64 i.place,.int .i64 i.number,.int .i64 i.left,.int .i64 i.right].toArray
def DY:Nat→List Nf→List (Value×AV)
 |_,[]=>[]
 |k,i::l=>(Jk i,vi (k:Nat))::DY (k+1) l
abbrev s5(roots:List Rq)(C A:List (Value×AV))(s:SS)(dec:List Cd)(n:Nat):List AV :=
 [sl AM roots,.cmap C3 C,.cmap C3 A,.slice (.id 1001 6) (s.infs.map BX),.slice (.id 1002 1) (s.drv.map Ca),.mref 1003,vb s.full,sl AE dec,sl Af (AK dec),.msl 1004 n]
abbrev srM(roots:List Rq)(C A:List (Value×AV))(s:SS)(dec:List Cd)(k n:Nat):List AV :=
 [sl AM roots,.cmap C3 C,.cmap C3 A,.slice (.id 1001 6) (s.infs.map BX),.slice (.id 1002 1) (s.drv.map Ca),.mref 1003,vb s.full,sl AE dec,sl Af (AK dec),.msl k n]
abbrev I1(roots:List Rq)(C A:List (Value×AV))(s:SS)(dec:List Cd)(st:List (List Sk)):List (Nat×HO) :=
 [(1000,.cells (s5 roots C A s dec st.length)),(1001,.tok 6 s.infs.length),(1002,.tok 1 s.drv.length),(1003,.map DW (DY 0 s.infs)),(1004,.arr 1 (st.map AS))]
theorem wM{fF:Nat}{caps:List AV}(hs:EH caps)(l:List (Cd))(p:Cd→Bool)(hF:∀x∈l,PC fF ([.agg (AE x)]++caps) (vb (p x)))(hl:l.length<9223372036854775807) :
  PC 224 [sl AE l,.clo fF caps] (vi (H1 p l 0)):=by
 refine Ps F3 Tryz.func224 rfl (Nz rfl) ?_;refine Xi {i:Nat // i≤l.length∧∀j (hj:j<l.length),j<i→p l[j]=false} (Xi (fun i=>⟨[(0,sl AE l),(1,.clo fF caps),(7,vi (l.map AE).length),(8,vi i.1)],[],Ab⟩) (Xi (fun i=>l.length-i.1) (Yi (Xi ⟨0,by simp⟩ ?_) ?_)))
 ·exact⟨⟨Zr,⟨rfl,hs.ids _⟩,Zr,Zr,Tv⟩,Tv,Fh,Tv⟩
 ·intro⟨i,h1,h2⟩;refine Yi ?_ ?_
  ·intro h;have h:(i:Int)<(l.map AE).length:=h;have h:i<l.length:=by simpa using h
   have hg:l[i]?=some l[i]:=Ge h;refine Xi (AE l[i]) (Yi (Yi (Nn i) (by simp[hg])) (Yi rfl (Yi (Nz rfl) ?_)));have DD:∀h,PC fF ([.agg (AE l[i])]++caps.map (str0 h)) (vb (p l[i])):=fun h=>by rw[hs.map];exact hF l[i] (Ap _)
   cases hp:p l[i]with
   |true =>
    rw[hp]at DD;refine Xi .pure (Xi (vb true) (Yi (DD _) ?_));rw[Jh h (fun j hj HZ=>h2 j hj HZ) hp,E0];exact .refl _
   |false =>
    rw[hp]at DD;refine Xi .pure (Xi (vb false) (Yi (DD _) ?_));refine Yi (Ii i (by omega)) ?_;refine Xi ⟨i+1,by omega,fun j hj HZ=>?_⟩ ?_
    ·by_cases e:j=i
     ·subst e;exact hp
     ·exact h2 j hj (by omega)
    ·exact⟨Dl l.length i (by omega),⟨Zr,⟨rfl,hs.ids _⟩,Zr,Zr,Tv⟩,Tv,Fh,Tv⟩
  ·intro h;have h:¬(i:Int)<(l.map AE).length:=h;have h:¬i<l.length:=by simpa using h
   rw[Gc fun j hj=>h2 j hj (by omega)];exact .refl _
theorem s86{fF:Nat}{caps:List AV}(hs:EH caps)(l:List (Nd))(p:Nd→Bool)(hF:∀x∈l,PC fF ([.agg (A9 x)]++caps) (vb (p x)))(hl:l.length<9223372036854775807) :
  PC 120 [sl A9 l,.clo fF caps] (vi (H1 p l 0)):=by
 refine Ps F3 Tryz.func120 rfl (Nz rfl) ?_;refine Xi {i:Nat // i≤l.length∧∀j (hj:j<l.length),j<i→p l[j]=false} (Xi (fun i=>⟨[(0,sl A9 l),(1,.clo fF caps),(7,vi (l.map A9).length),(8,vi i.1)],[],Ab⟩) (Xi (fun i=>l.length-i.1) (Yi (Xi ⟨0,by simp⟩ ?_) ?_)))
 ·exact⟨⟨Zr,⟨rfl,hs.ids _⟩,Zr,Zr,Tv⟩,Tv,Fh,Tv⟩
 ·intro⟨i,h1,h2⟩;refine Yi ?_ ?_
  ·intro h;have h:(i:Int)<(l.map A9).length:=h;have h:i<l.length:=by simpa using h
   have hg:l[i]?=some l[i]:=Ge h;refine Xi (A9 l[i]) (Yi (Yi (Nn i) (by simp[hg])) (Yi rfl (Yi (Nz rfl) ?_)));have DD:∀h,PC fF ([.agg (A9 l[i])]++caps.map (str0 h)) (vb (p l[i])):=fun h=>by rw[hs.map];exact hF l[i] (Ap _)
   cases hp:p l[i]with
   |true =>
    rw[hp]at DD;refine Xi .pure (Xi (vb true) (Yi (DD _) ?_));rw[Jh h (fun j hj HZ=>h2 j hj HZ) hp,E0];exact .refl _
   |false =>
    rw[hp]at DD;refine Xi .pure (Xi (vb false) (Yi (DD _) ?_));refine Yi (Ii i (by omega)) ?_;refine Xi ⟨i+1,by omega,fun j hj HZ=>?_⟩ ?_
    ·by_cases e:j=i
     ·subst e;exact hp
     ·exact h2 j hj (by omega)
    ·exact⟨Dl l.length i (by omega),⟨Zr,⟨rfl,hs.ids _⟩,Zr,Zr,Tv⟩,Tv,Fh,Tv⟩
  ·intro h;have h:¬(i:Int)<(l.map A9).length:=h;have h:¬i<l.length:=by simpa using h
   rw[Gc fun j hj=>h2 j hj (by omega)];exact .refl _
theorem rT{fF:Nat}{caps:List AV}(hs:EH caps)(l:List (Cd))(p:Cd→Bool)(hF:∀x∈l,PC fF ([.agg (AE x)]++caps) (vb (p x)))(hl:Cm l) :
  PC 193 [sl AE l,.clo fF caps] (vb (l.any p)):=by
 refine Ps F3 Tryz.func193 rfl (Nz rfl) ?_;have hi:=wM hs l p hF (by unfold Cm at hl;omega);have DD:∀h,PC 224 [sl AE l,.clo fF (caps.map (str0 h))] (vi (H1 p l 0)):=fun h=>by rw[hs.map];exact hi
 refine Xi .pure (Xi _ (Yi (DD _) ?_));have ha:=K6 (p:=p) l 0 (AZ 0);refine Yi ?_ ?_
 ·intro h;have h:(0:Int)≤H1 p l 0:=h;rw[←ha,Ax h];exact .refl _
 ·intro h;have h:¬(0:Int)≤H1 p l 0:=h;rw[←ha,Ar h];exact .refl _
theorem rX(l:List Cd)(hl:Cm l):Be Tryz.prog 126 [sl AE l] (Ai [] Ab) fun r h'=>r=.slice (.id 2000 10) (l.map AE)∧h'=Ai [(2000,.tok 10 (l.map AE).length)] Ab:=by
 refine Co (MF (vU 10)) [(2,2000)] rfl CB hm rfl Tryz.func126 (by kernel_rfl) rfl (Nz rfl) (by kernel_rfl) rfl ?_;have Gp:Do 10 (l.map AE)∧([]:List (List AV)).length=0∧(([]:List (List AV)).length+(l.map AE).length)*128≤140737488355328∧([]:List (List AV)).length+(l.map AE).length≤9223372036854775807:=by
  refine⟨Ez (enc:=AE) (n:=10) (fun _=>rfl) l,rfl,?_,?_⟩<;>simp only[AC,Lm]<;>unfold Cm at hl<;>omega
 have e2:HO.tok 10 (([]:List (List AV)).length+(l.map AE).length)=.tok 10 (l.map AE).length:=by rw[AC,Bi]
 have e3:AV.slice (.id 2000 10) ([]++l.map AE)=.slice (.id 2000 10) (l.map AE):=rfl;have full:∀st:St,(∃s:LS,St.le (MF (vU 10)) st s∧True)→True:=fun _ _=>trivial;refine Xi 0 ?_;refine Xi 0 ?_;refine Yi ?_ ?_
 ·intro _;refine Xi ⟨[(0,sl AE l)],[],Ab⟩ (Yi ⟨Z1,Tv,Fh,Ay (by kernel_rfl)⟩ ?_)
  refine Xi 2 ?_;refine Yi Gp ?_;exact Xi _ (Yi (.refl _) (Yi e3 (Ac (fun o=>Ai [(2000,o)] Ab) e2)))
 ·intro h;have h:l.map AE=[]:=h;refine Yi ?_ ?_
  ·refine Xi ⟨[],[],Ab⟩ (Yi ⟨trivial,trivial,fun _=>.inl rfl,Ay (by kernel_rfl)⟩ ?_)
   refine Xi 0 ?_;exact Xi _ (Yi (.refl _) (Yi (show AV.slice (.id 2000 10) []=_ by rw[h]) (show Ai [(2000,HO.tok 10 0)] Ab=_ by rw[h];rfl)))
  ·refine Xi ⟨[(0,sl AE l)],[],Ab⟩ (Yi ⟨Z1,Tv,Fh,Ay (by kernel_rfl)⟩ ?_)
   refine Xi 2 ?_;refine Yi Gp ?_;exact Xi _ (Yi (.refl _) (Yi e3 (Ac (fun o=>Ai [(2000,o)] Ab) e2)))
theorem Rx:∀{l:List Nf} {k:Nat} {kx:Value} {a:AV},(kx,a)∈DY k l↔∃j i,l[j]?=some i∧kx=Jk i∧a=vi ((k+j:Nat):Int)
 | [],k,kx,a=>by simp[DY]
 |y::l,k,kx,a=>by
  unfold DY;rw[Aq,Rx];constructor
  ·rintro(h | ⟨j,i,h1,h2,h3⟩)
   ·cases h;exact⟨0,y,rfl,rfl,rfl⟩
   ·exact⟨j+1,i,h1,h2,by rw[h3,show k+1+j=k+(j+1) by omega]⟩
  ·rintro⟨j,i,h1,h2,h3⟩
   cases j with
   |zero=>cases h1;exact .inl (by rw[h2,h3];rfl)
   |succ j=>exact .inr ⟨j,i,h1,h2,by rw[h3,show k+1+j=k+(j+1) by omega]⟩
theorem Vb{a b:Nf}(h:Jk a=Jk b):a=b:=by
 obtain⟨a1,a2,a3,a4,a5,a6⟩:=a;obtain⟨b1,b2,b3,b4,b5,b6⟩:=b;unfold Jk at h;simp at h;obtain⟨rfl,rfl,rfl,rfl,rfl,rfl⟩:=h
 rfl
theorem q9{l:List Nf}{i:Nf}{k:Nat}(h:LJ i 0 l=some k):(Jk i,vi (k:Nat))∈DY 0 l:=by
 obtain⟨j,e,hj⟩:=MV h;exact Rx.2 ⟨j,i,hj,rfl,by rw[e]⟩
theorem kr{l:List Nf}(hn:l.Nodup){i:Nf}{k:Nat}(h:LJ i 0 l=some k):∀b,(Jk i,b)∈DY 0 l→b=vi (k:Nat):=fun b hb=>by
 obtain⟨j,e,hj⟩:=MV h;obtain⟨j',i',h1,h2,h3⟩:=Rx.1 hb
 have:=Vb h2
 subst this;obtain⟨a1,a2⟩:=At.1 hj;obtain⟨b1,b2⟩:=At.1 h1
 have:j'=j:=(List.getElem_inj hn).1 (b2.trans a2.symm)
 subst this;rw[h3,e]
theorem ma{l:List Nf}{i:Nf}(h:LJ i 0 l=none):∀a,(Jk i,a)∉DY 0 l:=fun a ha=>by
 obtain⟨j,i',h1,h2,_⟩:=Rx.1 ha
 have:=Vb h2
 subst this;exact P0 h (Av h1)
theorem aF:∀(l:List Nf) (k:Nat) (i:Nf),DY k (l++[i])=DY k l++[(Jk i,vi ((k+l.length:Nat):Int))]
 | [],k,i=>by simp[DY]
 |y::l,k,i=>by
  show(Jk y,_)::DY (k+1) (l++[i])=_;rw[aF l (k+1) i];simp[DY,show k+1+l.length=k+(l.length+1) by omega]
theorem nS{l:List Nf}{i:Nf}(h:LJ i 0 l=none):EO (DY 0 l) (Jk i) (vi ((l.map BX).length:Int))=DY 0 (l++[i]):=by
 rw[Mj (ma h),aF,Lm,Bi]
theorem WZ{s:SS}{i:Nf}{l:List Tm}{k:Nat}(h:LJ i 0 s.infs=some k):Ec s i l=(k,s):=by unfold Ec;rw[h]
theorem UA{s:SS}{i:Nf}{l:List Tm}(h:LJ i 0 s.infs=none)(hf:65536≤s.infs.length):Ec s i l=(s.infs.length-1,⟨s.infs,s.drv,true⟩):=by unfold Ec;rw[h];exact Aw hf
theorem WY{s:SS}{i:Nf}{l:List Tm}(h:LJ i 0 s.infs=none)(hf:¬65536≤s.infs.length):Ec s i l=(s.infs.length,⟨s.infs++[i],s.drv++[l],s.full⟩):=by unfold Ec;rw[h];exact Ah hf
section
variable {roots:List Rq}{C A:List (Value×AV)}{s s' : SS}{dec:List Cd}{st:List (List Sk)}{i:Nf}{l:List Tm}
theorem dY{k:Nat}{z:Int}(e:Ec s i l=(k,s'))(hz:z=k):vi z=vi ((Ec s i l).1:Nat)∧Ai (I1 roots C A s' dec st) Ab=Ai (I1 roots C A (Ec s i l).2 dec st) Ab:=by rw[e,hz];exact Zr
theorem po(h:LJ i 0 s.infs=none):Ai [(1000,.cells [sl AM roots,.cmap C3 C,.cmap C3 A,.slice (.id 1001 6) (s.infs.map BX++[BX i]),.slice (.id 1002 1) (s.drv.map Ca++[Ca l]),.mref 1003,vb s.full,sl AE dec,sl Af (AK dec),.msl 1004 st.length]),
      (1001,.tok 6 ((s.infs.map BX).length+[BX i].length)),(1002,.tok 1 ((s.drv.map Ca).length+[Ca l].length)),(1003,.map DW (EO (DY 0 s.infs) (Jk i) (vi ((s.infs.map BX).length:Int)))),(1004,.arr 1 (st.map AS))] Ab=Ai (I1 roots C A ⟨s.infs++[i],s.drv++[l],s.full⟩ dec st) Ab:=by
  have e1:s.infs.map BX++[BX i]=(s.infs++[i]).map BX:=by simp
  have e2:s.drv.map Ca++[Ca l]=(s.drv++[l]).map Ca:=by simp
  have e3:(s.infs.map BX).length+[BX i].length=(s.infs++[i]).length:=by simp
  have e4:(s.drv.map Ca).length+[Ca l].length=(s.drv++[l]).length:=by simp
  rw[e1,e2,e3,e4,nS h]
end
theorem rU(c:Cd)(p:ByteArray):PC 194 [.agg (AE c),.cptr [vs p]] (vb (decide (c.rel.path=p))):=by
 refine Ps ⟨[2],[],[],[],[],[],[],[],[],[],[]⟩ Tryz.func194 rfl (Nz rfl) ?_;refine Yi (fun h1=>?_) (fun h1=>?_)
 ·have h1:(c.rel.path:ByteArray)=p:=h1;exact .of_eq (show vb true=vb (decide (c.rel.path=p)) by rw[Ax h1])
 have h1:¬(c.rel.path:ByteArray)=p:=h1;exact .of_eq (show vb false=vb (decide (c.rel.path=p)) by rw[Ar h1])
theorem rS(t:Tm)(p:ByteArray):PC 159 [.agg (AF t),.cptr [vs p]] (vb (decide (t.path=p))):=by
 refine Ps ⟨[2],[],[],[],[],[],[],[],[],[],[]⟩ Tryz.func159 rfl (Nz rfl) ?_;refine Yi (fun h1=>?_) (fun h1=>?_)
 ·have h1:(t.path:ByteArray)=p:=h1;exact .of_eq (show vb true=vb (decide (t.path=p)) by rw[Ax h1])
 have h1:¬(t.path:ByteArray)=p:=h1;exact .of_eq (show vb false=vb (decide (t.path=p)) by rw[Ar h1])
theorem jn(l:List Tm)(p:ByteArray)(hl:Cm l):PC 127 [sl AF l,vs p] (vb (CZ l p)):=by
 refine Ps ⟨[3],[],[],[],[],[],[],[],[],[],[]⟩ Tryz.func127 rfl (Nz rfl) ?_;refine BU (Bt (CZ l p)) (fun h1=>?_) (fun h1=>?_)
 ·have h1:(CZ l p)=true:=h1;refine Xi .pure (Xi _ (Yi (cb h1 (show PC 158 [sl AF l,.clo 159 [.cptr [vs p]]] (vb (CZ l p))from mM (fF:=159) (caps:=[.cptr [vs p]]) (fun c hc=>by obtain rfl:=Am.1 hc;intro h;rfl) l (fun t=>decide (t.path=p)) (fun t _=>rS t p) hl)) ?_));exact .of_eq (show vb true=vb (CZ l p) by rw[h1])
 have h1:(CZ l p)=false:=h1;refine Xi .pure (Xi _ (Yi (cb h1 (show PC 158 [sl AF l,.clo 159 [.cptr [vs p]]] (vb (CZ l p))from mM (fF:=159) (caps:=[.cptr [vs p]]) (fun c hc=>by obtain rfl:=Am.1 hc;intro h;rfl) l (fun t=>decide (t.path=p)) (fun t _=>rS t p) hl)) ?_));exact .of_eq (show vb false=vb (CZ l p) by rw[h1])
theorem rR(roots:List Rq)(C A:List (Value×AV))(s:SS)(dec:List Cd)(st:List (List Sk))(p:ByteArray)(hl:Cm dec):Be Tryz.prog 151 [.ref 1000 0,vs p] (Ai (I1 roots C A s dec st) Ab) fun r h'=>r=vb (De dec p)∧h'=Ai (I1 roots C A s dec st) Ab:=by
 refine Co (MF ⟨[3],[],[],[],[],[],[],[],[],[],[]⟩) [(1000,1000),(1001,1001),(1002,1002),(1003,1003),(1004,1004)] rfl CB hm rfl Tryz.func151 (by kernel_rfl) rfl (Nz rfl) (by kernel_rfl) rfl ?_;refine BU (Bt (De dec p)) (fun h1=>?_) (fun h1=>?_)
 ·have h1:(De dec p)=true:=h1;refine Xi .pure (Xi _ (Yi (cb h1 (show PC 193 [sl AE dec,.clo 194 [.cptr [vs p]]] (vb (De dec p))from rT (fF:=194) (caps:=[.cptr [vs p]]) (fun c hc=>by obtain rfl:=Am.1 hc;intro h;rfl) dec (fun c=>decide (c.rel.path=p)) (fun c _=>rU c p) hl)) ?_));exact Xi _ (Yi (.refl _) (Yi (show vb true=vb (De dec p) by rw[h1]) rfl))
 have h1:(De dec p)=false:=h1;refine Xi .pure (Xi _ (Yi (cb h1 (show PC 193 [sl AE dec,.clo 194 [.cptr [vs p]]] (vb (De dec p))from rT (fF:=194) (caps:=[.cptr [vs p]]) (fun c hc=>by obtain rfl:=Am.1 hc;intro h;rfl) dec (fun c=>decide (c.rel.path=p)) (fun c _=>rU c p) hl)) ?_));exact Xi _ (Yi (.refl _) (Yi (show vb false=vb (De dec p) by rw[h1]) rfl))
theorem li(roots:List Rq)(C A:List (Value×AV))(s:SS)(dec:List Cd)(st:List (List Sk))(i:Nf)(l:List Tm)(k:Nat)(hk:LJ i 0 s.infs=some k)(Rk:s.infs.Nodup):Be Tryz.prog 154 [.ref 1000 0,.agg (BX i),sl AF l] (Ai (I1 roots C A s dec st) Ab) fun r h'=>r=vi ((Ec s i l).1:Nat)∧h'=Ai (I1 roots C A (Ec s i l).2 dec st) Ab:=by
 refine Co (MF ⟨[4],[],[],[],[],[],[],[],[],[],[2,5,7,8,9,10,11]⟩) [(1000,1000),(1001,1001),(1002,1002),(1003,1003),(1004,1004)] rfl CB hm rfl Tryz.func154 (by kernel_rfl) rfl (Nz rfl) (by kernel_rfl) rfl ?_;refine Yi (Nz rfl) ?_;refine Or.inl (Xi (vi (k:Nat)) (Yi (Yi (q9 hk) (kr Rk hk)) ?_));refine Yi (by kernel_rfl) ?_;refine Xi ⟨[(0,.ref 1000 0),(2,sl AF l),(4,.ref 4 0),(7,vi (k:Nat)),(8,vb true)],[(4,.ro (BX i)),(1000,.cells (srM roots C A s dec 1004 st.length)),(1001,.tok 6 s.infs.length),(1002,.tok 1 s.drv.length),(1003,.map DW (DY 0 s.infs)),(1004,.arr 1 (st.map AS))],Ab⟩ (Yi ⟨Z5,Z6,Fh,Ay (by kernel_rfl)⟩ ?_)
 exact Xi _ (Yi (.refl _) (dY (WZ hk) rfl))
theorem lh(roots:List Rq)(C A:List (Value×AV))(s:SS)(dec:List Cd)(st:List (List Sk))(i:Nf)(l:List Tm)(hk:LJ i 0 s.infs=none)(hn:s.infs.length≤65536)(hdl:s.drv.length=s.infs.length):Be Tryz.prog 154 [.ref 1000 0,.agg (BX i),sl AF l] (Ai (I1 roots C A s dec st) Ab) fun r h'=>r=vi ((Ec s i l).1:Nat)∧h'=Ai (I1 roots C A (Ec s i l).2 dec st) Ab:=by
 have hdn:s.drv.length≤65536:=by omega
 have xP:(s.infs.map BX).length=s.infs.length:=Lm _;refine Co (MF ⟨[4],[],[],[],[],[],[],[],[],[],[2,5,7,8,9,10,11]⟩) [(1000,1000),(1001,1001),(1002,1002),(1003,1003),(1004,1004)] rfl CB hm rfl Tryz.func154 (by kernel_rfl) rfl (Nz rfl) (by kernel_rfl) rfl ?_;refine Yi (Nz rfl) ?_;refine Or.inr (Yi (ma hk) ?_);refine Yi (by kernel_rfl) ?_;refine Xi ⟨[(0,.ref 1000 0),(2,sl AF l),(4,.ref 4 0),(7,vi 0),(8,vb false)],[(4,.ro (BX i)),(1000,.cells (srM roots C A s dec 1004 st.length)),(1001,.tok 6 s.infs.length),(1002,.tok 1 s.drv.length),(1003,.map DW (DY 0 s.infs)),(1004,.arr 1 (st.map AS))],Ab⟩ (Yi ⟨Z5,Z6,Fh,Ay (by kernel_rfl)⟩ ?_)
 refine Yi (fun h1=>?_) (fun h1=>?_)
 ·have h1:(65536:Int)≤((s.infs.map BX).length:Int):=h1;refine Xi ⟨[(0,.ref 1000 0)],[(1000,.cells (srM roots C A s dec 1004 st.length)),(1001,.tok 6 s.infs.length),(1002,.tok 1 s.drv.length),(1003,.map DW (DY 0 s.infs)),(1004,.arr 1 (st.map AS))],Ab⟩ (Yi ⟨Z1,Z5,Fh,Ay (by kernel_rfl)⟩ ?_)
  refine Yi (Nz rfl) ?_;refine Yi (by show B2 (((s.infs.map BX).length:Int)-(1:Int));unfold B2;omega) ?_;exact Xi _ (Yi (.refl _) (dY (UA hk (by have q:=h1;rw[Lm]at q;omega)) (by have q:=h1;rw[Lm]at q⊢;omega)))
 have h1:¬((65536:Int)≤((s.infs.map BX).length:Int)):=h1;refine Xi ⟨[(0,.ref 1000 0),(2,sl AF l),(4,.ref 4 0)],[(4,.ro (BX i)),(1000,.cells (srM roots C A s dec 1004 st.length)),(1001,.tok 6 s.infs.length),(1002,.tok 1 s.drv.length),(1003,.map DW (DY 0 s.infs)),(1004,.arr 1 (st.map AS))],Ab⟩ (Yi ⟨Z3,Z6,Fh,Ay (by kernel_rfl)⟩ ?_)
 refine Xi ⟨[(0,.ref 1000 0),(2,sl AF l),(4,.ref 4 0),(9,vi (s.infs.map BX).length)],[(4,.ro (BX i)),(1000,.cells (srM roots C A s dec 1004 st.length)),(1001,.tok 6 s.infs.length),(1002,.tok 1 s.drv.length),(1003,.map DW (DY 0 s.infs)),(1004,.arr 1 (st.map AS))],Ab⟩ (Yi ⟨Z4,Z6,Fh,Ay (by kernel_rfl)⟩ ?_)
 refine Yi (Nz rfl) ?_;refine Yi (by kernel_rfl) ?_;refine Xi ⟨[(0,.ref 1000 0),(2,sl AF l),(4,.ref 4 0),(9,vi (s.infs.map BX).length)],[(4,.ro (BX i)),(1000,.cells (srM roots C A s dec 1004 st.length)),(1001,.tok 6 s.infs.length),(1002,.tok 1 s.drv.length),(1003,.map DW (EO (DY 0 s.infs) (Jk i) (vi (s.infs.map BX).length))),(1004,.arr 1 (st.map AS))],Ab⟩ (Yi ⟨Z4,Z6,Fh,Ay (by kernel_rfl)⟩ ?_)
 refine Yi (Nz rfl) ?_;refine Yi (Pr rfl (by omega) (by decide)) ?_;refine Yi (Nz rfl) ?_;refine Yi (by kernel_rfl) ?_;refine Xi ⟨[(0,.ref 1000 0),(2,sl AF l),(9,vi (s.infs.map BX).length)],[(1000,.cells [sl AM roots,.cmap C3 C,.cmap C3 A,.slice (.id 1001 6) ((s.infs.map BX)++[(BX i)]),.slice (.id 1002 1) (s.drv.map Ca),.mref 1003,vb s.full,sl AE dec,sl Af (AK dec),.msl 1004 st.length]),(1001,.tok 6 ((s.infs.map BX).length+([(BX i)]:List (List AV)).length)),(1002,.tok 1 s.drv.length),(1003,.map DW (EO (DY 0 s.infs) (Jk i) (vi (s.infs.map BX).length))),(1004,.arr 1 (st.map AS))],Ab⟩ (Yi ⟨Z3,Z5,Fh,Ay (by kernel_rfl)⟩ ?_)
 refine Yi (Pr rfl (by omega) (by decide)) ?_;refine Yi (Nz rfl) ?_;refine Xi ⟨[(9,vi (s.infs.map BX).length)],[(1000,.cells [sl AM roots,.cmap C3 C,.cmap C3 A,.slice (.id 1001 6) ((s.infs.map BX)++[(BX i)]),.slice (.id 1002 1) ((s.drv.map Ca)++[[sl AF l]]),.mref 1003,vb s.full,sl AE dec,sl Af (AK dec),.msl 1004 st.length]),(1001,.tok 6 ((s.infs.map BX).length+([(BX i)]:List (List AV)).length)),(1002,.tok 1 ((s.drv.map Ca).length+([[sl AF l]]:List (List AV)).length)),(1003,.map DW (EO (DY 0 s.infs) (Jk i) (vi (s.infs.map BX).length))),(1004,.arr 1 (st.map AS))],Ab⟩ (Yi ⟨Z1,Z5,Fh,Ay (by kernel_rfl)⟩ ?_)
 have hq:=dY (roots:=roots) (C:=C) (A:=A) (dec:=dec) (st:=st) (z:=((s.infs.map BX).length:Int)) (WY (l:=l) hk (by have q:=h1;rw[Lm]at q;omega)) (by rw[Lm]);exact Xi _ (Yi (.refl _) (Yi hq.1 ((po hk).trans hq.2)))
structure Jy(x:List Rl)(roots:List Rq)(s:SS):Prop where
 der:Fl x roots s
 nodup:s.infs.Nodup
abbrev mp(roots:List Rq)(C A:List (Value×AV))(dec:List Cd)(st:List (List Sk))(o:Nat×SS)(r:AV)(h' : Nat→HO):Prop:=r=vi (o.1:Nat)∧h'=Ai (I1 roots C A o.2 dec st) Ab
theorem lg(roots:List Rq)(C A:List (Value×AV))(s:SS)(dec:List Cd)(st:List (List Sk))(i:Nf)(l:List Tm)(hn:s.infs.length≤65536)(hdl:s.drv.length=s.infs.length)(Rk:s.infs.Nodup) :
  Be Tryz.prog 154 [.ref 1000 0,.agg (BX i),sl AF l] (Ai (I1 roots C A s dec st) Ab) (mp roots C A dec st (Ec s i l)):=by
 cases hk:LJ i 0 s.infs with
 |some k=>exact li roots C A s dec st i l k hk Rk
 |none=>exact lh roots C A s dec st i l hk hn hdl
abbrev YC:IT:=[(1000,1000),(1001,1001),(1002,1002),(1003,1003),(1004,1004)]
theorem pY{h2:Nat→HO}{cs:List AV}{o1 o2 o3 o4:HO}(e0:h2 1000=.cells cs)(e1:h2 1001=o1)(e2:h2 1002=o2)(e3:h2 1003=o3)(e4:h2 1004=o4) :
  Fx YC h2=Ai [(1000,.cells (cs.map (ren1 (Cu YC) h2))),(1001,o1.ren (Cu YC) h2),(1002,o2.ren (Cu YC) h2),(1003,o3.ren (Cu YC) h2),(1004,o4.ren (Cu YC) h2)] Ab:=by
 unfold Fx;simp only[Wy];rw[e0,e1,e2,e3,e4];rfl
theorem cA{s:SS}{n:Nd}(h:n.path=mt):Ec s ⟨0,mt,0,n.number,0,0⟩ (Jt n.rq)=Bl s n:=by unfold Bl Ta IZ;rw[Aw h,Aw h]
theorem ge{s:SS}{n:Nd}(h:¬n.path=mt):Ec s ⟨1,n.path,n.place,n.number,0,0⟩ (Ei n.path n.place n.rq)=Bl s n:=by unfold Bl Ta IZ;rw[Ah h,Ah h]
abbrev V0(d:List (List Tm))(S:List Sl):AV:=.tup [vi (((Oq d S).getD 0:Nat):Int),vb (Oq d S).isSome]
theorem Xn{S:List Sl}:∀{l:List (List Tm)} {b i:Nat} {t:List Tm},l[i]?=some t→CD t S=true→(∀j u,j<i→l[j]?=some u→CD u S=false)→Oo S b l=some (b+i)
 | [],_,_,_,h,_,_=>by simp at h
 |u::l,b,0,t,h,he,_=>by cases h;unfold Oo;rw[Aw he];rfl
 |u::l,b,i+1,t,h,he,hn=>by
  unfold Oo;rw[Ah (by rw[hn 0 u (by omega) rfl];decide),Xn (i:=i) (by simpa using h) he (fun j v hj hv=>hn (j+1) v (by omega) (by simpa using hv))]
  congr 1;omega
theorem Xo{S:List Sl}:∀{l:List (List Tm)} {b:Nat},(∀t∈l,CD t S=false)→Oo S b l=none
 | [],_,_=>rfl
 |u::l,b,h=>by
  unfold Oo;rw[Ah (by rw[h u (Aa ..)];decide)];exact Xo fun t ht=>h t (Ae _ ht)
theorem wU(roots:List Rq)(C A:List (Value×AV))(s:SS)(dec:List Cd)(st:List (List Sk))(n:Nd)(hn:s.infs.length≤65536)(hdl:s.drv.length=s.infs.length)(Rk:s.infs.Nodup)(hq:Cm n.rq.set)(hp:B2 (n.place+1)):Be Tryz.prog 123 [.ref 1000 0,.agg (A9 n)] (Ai (I1 roots C A s dec st) Ab) fun r h'=>mp roots C A dec st (Bl s n) r h':=by
 refine Co (MF ⟨[3],[],[],[],[],[],[],[],[(15,5),(31,5)],[],[2,3]⟩) [(1000,1000),(1001,1001),(1002,1002),(1003,1003),(1004,1004)] rfl CB hm rfl Tryz.func123 (by kernel_rfl) rfl (Nz rfl) (by kernel_rfl) rfl ?_;refine Yi (fun h1=>?_) (fun h1=>?_)
 ·have h1:(n.path:ByteArray)=⟨#[]⟩:=h1;refine Xi ⟨[(0,.ref 1000 0),(3,.ref 3 0)],[(3,.ro (A9 n)),(1000,.cells (srM roots C A s dec 1004 st.length)),(1001,.tok 6 s.infs.length),(1002,.tok 1 s.drv.length),(1003,.map DW (DY 0 s.infs)),(1004,.arr 1 (st.map AS))],Ab⟩ (Yi ⟨Z2,Z6,Fh,Ay (by kernel_rfl)⟩ ?_)
  refine Yi (Nz rfl) ?_;refine Xi _ (Yi (tJ n.rq hq) ?_);refine Xi YC (Xi [(1000,.cells (srM roots C A s dec 1004 st.length)),(1001,.tok 6 s.infs.length),(1002,.tok 1 s.drv.length),(1003,.map DW (DY 0 s.infs)),(1004,.arr 1 (st.map AS))] (Xi (I1 roots C A (Ec s ⟨0,mt,0,n.number,0,0⟩ (Jt n.rq)).2 dec st) (Xi [.ref 1000 0,.agg [vi 0,vs ⟨#[]⟩,vi 0,vi n.number,vi 0,vi 0],sl AF (Jt n.rq)] (Xi (vi (((Ec s ⟨0,mt,0,n.number,0,0⟩ (Jt n.rq)).1:Nat):Int):AV) (Yi (fun h2 hh=>Yi ((pY (show h2 1000=.cells (srM roots C A s dec 1004 st.length)from hh 1000 (by decide)) (show h2 1001=.tok 6 s.infs.length from hh 1001 (by decide)) (show h2 1002=.tok 1 s.drv.length from hh 1002 (by decide)) (show h2 1003=.map DW (DY 0 s.infs)from hh 1003 (by decide)) (show h2 1004=.arr 1 (st.map AS)from hh 1004 (by decide))).trans rfl) rfl) (Yi (by kernel_rfl) (Yi (lg roots C A s dec st ⟨0,mt,0,n.number,0,0⟩ (Jt n.rq) hn hdl Rk) ?_)))))));refine Yi (by kernel_rfl) ?_;have ei:=cA (s:=s) h1;exact Xi _ (Yi (.refl _) (Yi (show vi (((Ec s ⟨0,mt,0,n.number,0,0⟩ (Jt n.rq)).1:Nat):Int)=vi (((Bl s n).1:Nat):Int) by rw[ei]) (show Ai (I1 roots C A (Ec s ⟨0,mt,0,n.number,0,0⟩ (Jt n.rq)).2 dec st) Ab=Ai (I1 roots C A (Bl s n).2 dec st) Ab by rw[ei])))
 have h1:¬(n.path:ByteArray)=⟨#[]⟩:=h1;refine Xi ⟨[(0,.ref 1000 0),(3,.ref 3 0)],[(3,.ro (A9 n)),(1000,.cells (srM roots C A s dec 1004 st.length)),(1001,.tok 6 s.infs.length),(1002,.tok 1 s.drv.length),(1003,.map DW (DY 0 s.infs)),(1004,.arr 1 (st.map AS))],Ab⟩ (Yi ⟨Z2,Z6,Fh,Ay (by kernel_rfl)⟩ ?_)
 refine Yi (Nz rfl) ?_;refine Xi _ (Yi (tK n.path n.place n.rq hp hq) ?_);refine Xi YC (Xi [(1000,.cells (srM roots C A s dec 1004 st.length)),(1001,.tok 6 s.infs.length),(1002,.tok 1 s.drv.length),(1003,.map DW (DY 0 s.infs)),(1004,.arr 1 (st.map AS))] (Xi (I1 roots C A (Ec s ⟨1,n.path,n.place,n.number,0,0⟩ (Ei n.path n.place n.rq)).2 dec st) (Xi [.ref 1000 0,.agg [vi 1,vs n.path,vi n.place,vi n.number,vi 0,vi 0],sl AF (Ei n.path n.place n.rq)] (Xi (vi (((Ec s ⟨1,n.path,n.place,n.number,0,0⟩ (Ei n.path n.place n.rq)).1:Nat):Int):AV) (Yi (fun h2 hh=>Yi ((pY (show h2 1000=.cells (srM roots C A s dec 1004 st.length)from hh 1000 (by decide)) (show h2 1001=.tok 6 s.infs.length from hh 1001 (by decide)) (show h2 1002=.tok 1 s.drv.length from hh 1002 (by decide)) (show h2 1003=.map DW (DY 0 s.infs)from hh 1003 (by decide)) (show h2 1004=.arr 1 (st.map AS)from hh 1004 (by decide))).trans rfl) rfl) (Yi (by kernel_rfl) (Yi (lg roots C A s dec st ⟨1,n.path,n.place,n.number,0,0⟩ (Ei n.path n.place n.rq) hn hdl Rk) ?_)))))));refine Yi (by kernel_rfl) ?_;have ei:=ge (s:=s) h1;exact Xi _ (Yi (.refl _) (Yi (show vi (((Ec s ⟨1,n.path,n.place,n.number,0,0⟩ (Ei n.path n.place n.rq)).1:Nat):Int)=vi (((Bl s n).1:Nat):Int) by rw[ei]) (show Ai (I1 roots C A (Ec s ⟨1,n.path,n.place,n.number,0,0⟩ (Ei n.path n.place n.rq)).2 dec st) Ab=Ai (I1 roots C A (Bl s n).2 dec st) Ab by rw[ei])))
theorem s89(roots:List Rq)(C A:List (Value×AV))(s:SS)(dec:List Cd)(st:List (List Sk))(S:List Sl)(hd:s.drv.length≤65536)(ht:∀t∈s.drv,dU t)(hS:Cm S):Be Tryz.prog 124 [.ref 1000 0,sl Af S] (Ai (I1 roots C A s dec st) Ab) fun r h'=>r=V0 s.drv S∧h'=Ai (I1 roots C A s dec st) Ab:=by
 refine Co (MF ⟨[],[],[],[],[],[],[],[],[],[],[4,6]⟩) [(1000,1000),(1001,1001),(1002,1002),(1003,1003),(1004,1004)] rfl CB hm rfl Tryz.func124 (by kernel_rfl) rfl (Nz rfl) (by kernel_rfl) rfl ?_;refine Xi {i:Nat // i≤s.drv.length∧∀j u,j<i→s.drv[j]?=some u→CD u S=false} (Xi (fun q=>⟨[(1,sl Af S),(11,.slice (.id 1002 1) (s.drv.map Ca)),(12,vi (s.drv.map Ca).length),(13,vi q.1)],[(1000,.cells (srM roots C A s dec 1004 st.length)),(1001,.tok 6 s.infs.length),(1002,.tok 1 s.drv.length),(1003,.map DW (DY 0 s.infs)),(1004,.arr 1 (st.map AS))],Ab⟩) (Xi (fun q=>s.drv.length-q.1) (Yi (Xi ⟨0,AO _,fun j u h=>absurd h (Dt j)⟩ ?_) ?_)))
 ·exact⟨Z4,Z5,Fh,Ay (by kernel_rfl)⟩
 intro⟨i,i1,i2⟩;have i1:i≤s.drv.length:=i1;have i2:∀j u,j<i→s.drv[j]?=some u→CD u S=false:=i2;refine Yi (fun h1=>?_) (fun h1=>?_)
 ·have h1:(i:Int)<((s.drv.map Ca).length:Int):=h1;have n1:=Ld h1;refine Xi (Ca s.drv[i]) (Yi (Pu n1) (Yi rfl ?_));refine Xi ⟨[(1,sl Af S),(6,vi i),(7,sl AF s.drv[i]),(11,.slice (.id 1002 1) (s.drv.map Ca)),(12,vi (s.drv.map Ca).length),(13,vi i)],[(1000,.cells (srM roots C A s dec 1004 st.length)),(1001,.tok 6 s.infs.length),(1002,.tok 1 s.drv.length),(1003,.map DW (DY 0 s.infs)),(1004,.arr 1 (st.map AS))],Ab⟩ (Yi ⟨Z6,Z5,Fh,Ay (by kernel_rfl)⟩ ?_)
  refine BU (Bt (CD s.drv[i] S)) (fun h2=>?_) (fun h2=>?_)
  ·have h2:(CD s.drv[i] S)=true:=h2;refine Xi .pure (Xi _ (Yi (cb h2 (xd s.drv[i] S (ht _ (Ap _)) hS)) ?_));have eE:Oq s.drv S=some i:=by unfold Oq;rw[Xn (Ge n1) h2 i2,Bi]
   exact Xi _ (Yi (.refl _) (Yi (show AV.tup [vi (i:Int),vb true]=V0 s.drv S by unfold V0;rw[eE];rfl) rfl))
  have h2:(CD s.drv[i] S)=false:=h2;refine Xi .pure (Xi _ (Yi (cb h2 (xd s.drv[i] S (ht _ (Ap _)) hS)) ?_));refine Xi ⟨[(1,sl Af S),(11,.slice (.id 1002 1) (s.drv.map Ca)),(12,vi (s.drv.map Ca).length),(13,vi i)],[(1000,.cells (srM roots C A s dec 1004 st.length)),(1001,.tok 6 s.infs.length),(1002,.tok 1 s.drv.length),(1003,.map DW (DY 0 s.infs)),(1004,.arr 1 (st.map AS))],Ab⟩ (Yi ⟨Z4,Z5,Fh,Ay (by kernel_rfl)⟩ ?_)
  refine Yi (Ii i (by omega)) ?_;refine Xi ⟨i+1,by omega,fun j u hj hu=>by
    by_cases e:j=i
    ·subst e;rw[Ge n1]at hu;cases hu;exact h2
    ·exact i2 j u (by omega) hu⟩ ?_
  exact⟨Dl s.drv.length i (by omega),Z4,Z5,Fh,Ay (by kernel_rfl)⟩
 have h1:¬((i:Int)<((s.drv.map Ca).length:Int)):=h1;have n1:=Lc h1;have eE:Oq s.drv S=none:=Xo fun t ht=>by
  obtain⟨j,hj⟩:=B9.1 ht
  have:=(At.1 hj).1
  exact i2 j t (by have q:=h1;rw[Lm]at q;omega) hj
 exact Xi _ (Yi (.refl _) (Yi (show AV.tup [vi 0,vb false]=V0 s.drv S by unfold V0;rw[eE];rfl) rfl))
def Tu(l:List Cd)(q:Rq):Bool:=l.any fun d=>decide (d.rel.path=q.path)&&!has q.set d.place
theorem UX{f:Rq→Nat→Nd}{P:Nd→Bool}:∀{l:List Rq} {b i:Nat} {q:Rq},l[i]?=some q→P (f q (b+i))=true→(∀k u,k<i→l[k]?=some u→P (f u (b+k))=false)→(Ml f b l).find? P=some (f q (b+i))
 | [],_,_,_,h,_,_=>by simp at h
 |u::l,b,0,q,h,he,_=>by
  cases h
  unfold Ml;rw[Fs,show P (f u b)=true from he];rfl
 |u::l,b,i+1,q,h,he,hn=>by
  unfold Ml;have h0:P (f u b)=false:=hn 0 u (by omega) rfl;rw[Fs,h0]
  have:=UX (f:=f) (P:=P) (l:=l) (b:=b+1) (i:=i) (q:=q) (by simpa using h) (by rw[show b+1+i=b+(i+1) by omega];exact he) (fun k v hk hv=>by
   rw[show b+1+k=b+(k+1) by omega];exact hn (k+1) v (by omega) (by simpa using hv))
  rw[show b+1+i=b+(i+1) by omega]at this;exact this
theorem OA{f:Rq→Nat→Nd}{P:Nd→Bool}:∀{l:List Rq} {b:Nat},(∀k u,l[k]?=some u→P (f u (b+k))=false)→(Ml f b l).find? P=none
 | [],_,_=>rfl
 |u::l,b,h=>by
  unfold Ml;have h0:P (f u b)=false:=h 0 u rfl;rw[Fs,h0];exact OA fun k v hv=>by rw[show b+1+k=b+(k+1) by omega];exact h (k+1) v (by simpa using hv)
def yI:AV:=.agg [vs ⟨#[]⟩,.v (.slice none 0 0),vs ⟨#[]⟩,vi 0,vi 0]
def mX(o:Option Nd):AV:=match o with | some n=>.tup [.agg (A9 n),vb true] | none=>.tup [yI,vb false]
section
variable {dec:List Cd}{c:Cd}{i:Nat}
theorem eQ(hi:i<c.rel.reqs.length)(hn:∀k q,k<i→c.rel.reqs[k]?=some q→Tu (dec++[c]) q=false){j:Nat}(hj:j<(dec++[c]).length)(h1:(dec++[c])[j].rel.path=c.rel.reqs[i].path)(h2:has c.rel.reqs[i].set (dec++[c])[j].place=false) :
  D8 dec c=some ⟨c.rel.reqs[i],c.rel.path,c.place,(i:Nat)⟩:=by
 have:=UX (f:=fun q i=>⟨q,c.rel.path,c.place,(i:Nat)⟩) (P:=aJ (dec++[c])) (l:=c.rel.reqs) (b:=0) (i:=i) (q:=c.rel.reqs[i]) (Ge hi)
  (Bb.2 ⟨_,Ap hj,by rw[Ax h1,h2];rfl⟩) (fun k u hk hu=>hn k u hk hu)
 unfold D8 Qd;rw[this,Bi]
theorem eS(hn:∀(k:Nat) (q:Rq),c.rel.reqs[k]?=some q→Tu (dec++[c]) q=false):D8 dec c=none:=by
 unfold D8 Qd;exact OA fun k u hu=>hn k u hu
theorem gE{q:Rq}(h:∀(m:Nat) (d:Cd),(dec++[c])[m]?=some d→(decide (d.rel.path=q.path)&&!has q.set d.place)=false):Tu (dec++[c]) q=false:=by
 unfold Tu;rw[F5];intro d hd;obtain⟨m,hm⟩:=B9.1 hd;rw[h m d hm];decide
end
theorem s87(n:Nd)(c:Cd)(hq:Cm n.rq.set):PC 121 [.agg (A9 n),.cptr (AE c)] (vb (!has n.rq.set c.place)):=by
 refine Ps ⟨[2],[],[],[],[],[],[],[],[],[],[]⟩ Tryz.func121 rfl (Nz rfl) ?_;refine BU (Bt (has n.rq.set c.place)) (fun h1=>?_) (fun h1=>?_)
 ·have h1:(has n.rq.set c.place)=true:=h1;refine Xi .pure (Xi _ (Yi (cb h1 (pO n.rq.set c.place hq)) ?_));exact .of_eq (show vb false=vb (!has n.rq.set c.place) by rw[h1];rfl)
 have h1:(has n.rq.set c.place)=false:=h1;refine Xi .pure (Xi _ (Yi (cb h1 (pO n.rq.set c.place hq)) ?_));exact .of_eq (show vb true=vb (!has n.rq.set c.place) by rw[h1];rfl)
theorem yD(roots:List Rq)(C A:List (Value×AV))(s:SS)(dec:List Cd)(st:List (List Sk))(c:Cd)(hd:dec.length≤1073741823)(hr:c.rel.reqs.length≤1073741824)(hq:∀q∈c.rel.reqs,Cm q.set):Be Tryz.prog 125 [.ref 1000 0,.agg (AE c)] (Ai (I1 roots C A s dec st) Ab) fun r h'=>r=mX (D8 dec c)∧h'=Ai (I1 roots C A s dec st) Ab:=by
 have hd:dec.length≤1073741823:=hd;have hdl:(dec++[c]).length=dec.length+1:=by simp
 refine Co (MF ⟨[3],[],[],[],[],[],[],[],[(23,3)],[],[4,8,9]⟩) [(1000,1000),(1001,1001),(1002,1002),(1003,1003),(1004,1004)] rfl CB hm rfl Tryz.func125 (by kernel_rfl) rfl (Nz rfl) (by kernel_rfl) rfl ?_;refine Xi {i:Nat // i≤c.rel.reqs.length∧∀k q,k<i→c.rel.reqs[k]?=some q→Tu (dec++[c]) q=false} (Xi (fun q=>⟨[(0,.ref 1000 0),(3,.ref 3 0),(4,.ref 4 0),(12,sl AM c.rel.reqs),(13,vi (c.rel.reqs.map AM).length),(14,vi q.1)],[(3,.ro (AE c)),(4,.cells [vs ⟨#[]⟩,.v (.slice none 0 0),vs ⟨#[]⟩,vi 0,vi 0]),(1000,.cells (srM roots C A s dec 1004 st.length)),(1001,.tok 6 s.infs.length),(1002,.tok 1 s.drv.length),(1003,.map DW (DY 0 s.infs)),(1004,.arr 1 (st.map AS))],Ab⟩) (Xi (fun q=>c.rel.reqs.length-q.1) (Yi (Xi ⟨0,AO _,fun k q h=>absurd h (Dt k)⟩ ?_) ?_)))
 ·exact⟨Z6,Z7,Fh,Ay (by kernel_rfl)⟩
 intro⟨i,i1,i2⟩;have i1:i≤c.rel.reqs.length:=i1;have i2:∀k q,k<i→c.rel.reqs[k]?=some q→Tu (dec++[c]) q=false:=i2;refine Yi (fun h1=>?_) (fun h1=>?_)
 ·have h1:(i:Int)<((c.rel.reqs.map AM).length:Int):=h1;have n1:=Ld h1;refine Xi (AM c.rel.reqs[i]) (Yi (Pu n1) (Yi rfl ?_));refine Yi (Nz rfl) ?_;refine Yi (Nz rfl) ?_;refine Xi ⟨[(0,.ref 1000 0),(3,.ref 3 0),(4,.ref 4 0),(6,vi i),(7,.ref 7 0),(12,sl AM c.rel.reqs),(13,vi (c.rel.reqs.map AM).length),(14,vi i)],[(3,.ro (AE c)),(4,.cells [vs ⟨#[]⟩,.v (.slice none 0 0),vs ⟨#[]⟩,vi 0,vi 0]),(7,.cells (AM c.rel.reqs[i])),(1000,.cells (srM roots C A s dec 1004 st.length)),(1001,.tok 6 s.infs.length),(1002,.tok 1 s.drv.length),(1003,.map DW (DY 0 s.infs)),(1004,.arr 1 (st.map AS))],Ab⟩ (Yi ⟨Z8,Z8,Fh,Ay (by kernel_rfl)⟩ ?_)
  refine Xi _ (Xi _ (Yi (by kernel_rfl) (Yi (rX dec (AU hd (by decide))) ?_)));refine Yi (Nz rfl) ?_;have b2:Do 10 [(AE c)]∧(dec.map AE).length=(dec.map AE).length∧((dec.map AE).length+([(AE c)]:List (List AV)).length)*128≤140737488355328∧(dec.map AE).length+([(AE c)]:List (List AV)).length≤9223372036854775807:=⟨⟨rfl,trivial⟩,rfl,(by simp only[Lm,Au,AC];omega),(by simp only[Lm,Au,AC];omega)⟩;refine Yi b2 ?_;refine Yi (by kernel_rfl) ?_;refine Xi {j:Nat // j≤(dec++[c]).length∧∀m d,m<j→(dec++[c])[m]?=some d→(decide (d.rel.path=c.rel.reqs[i].path)&&!has c.rel.reqs[i].set d.place)=false} (Xi (fun q=>⟨[(0,.ref 1000 0),(3,.ref 3 0),(4,.ref 4 0),(6,vi i),(7,.ref 7 0),(12,sl AM c.rel.reqs),(13,vi (c.rel.reqs.map AM).length),(14,vi i),(26,.slice (.id 12300 10) ((dec++[c]).map AE)),(27,vi ((dec++[c]).map AE).length),(28,vi q.1)],[(3,.ro (AE c)),(4,.cells [vs ⟨#[]⟩,.v (.slice none 0 0),vs ⟨#[]⟩,vi 0,vi 0]),(7,.cells (AM c.rel.reqs[i])),(1000,.cells (srM roots C A s dec 1004 st.length)),(1001,.tok 6 s.infs.length),(1002,.tok 1 s.drv.length),(1003,.map DW (DY 0 s.infs)),(1004,.arr 1 (st.map AS)),(12300,.tok 10 ((dec++[c]).map AE).length)],Ab⟩) (Xi (fun q=>(dec++[c]).length-q.1) (Yi (Xi ⟨0,AO _,fun k q h=>absurd h (Dt k)⟩ ?_) ?_)))
  ·exact⟨⟨Zr,Zr,Zr,Zr,Zr,Zr,Zr,Zr,⟨Uu,rfl⟩,⟨(show vi ((dec.map AE++[AE c]:List (List AV)).length:Int)=vi (((dec++[c]).map AE).length:Int) by rw[AH];rfl),rfl⟩,Zr,Tv⟩,⟨Zr,Zr,Zr,Zr,Zr,Zr,Zr,Zr,⟨(show HO.tok 10 ((dec.map AE).length+[AE c].length)=.tok 10 ((dec++[c]).map AE).length by simp),rfl⟩,Tv⟩,Fh,Ay (by kernel_rfl)⟩
  intro⟨j,j1,j2⟩;have j1:j≤(dec++[c]).length:=j1;have j2:∀m d,m<j→(dec++[c])[m]?=some d→(decide (d.rel.path=c.rel.reqs[i].path)&&!has c.rel.reqs[i].set d.place)=false:=j2;refine Yi (fun h3=>?_) (fun h3=>?_)
  ·have h3:(j:Int)<(((dec++[c]).map AE).length:Int):=h3;have n3:=Ld h3;refine Xi (AE ((dec++[c])[j])) (Yi (Pu n3) (Yi rfl ?_));refine Yi (Nz rfl) ?_;refine Yi (Nz rfl) ?_;refine Yi (fun h4=>?_) (fun h4=>?_)
   ·have h4:(((dec++[c])[j]).rel.path:ByteArray)=c.rel.reqs[i].path:=h4;refine BU (Bt (has c.rel.reqs[i].set (dec++[c])[j].place)) (fun h5=>?_) (fun h5=>?_)
    ·have h5:(has c.rel.reqs[i].set (dec++[c])[j].place)=true:=h5;refine Xi .pure (Xi _ (Yi (cb h5 (pO c.rel.reqs[i].set (dec++[c])[j].place (hq _ (Ap _)))) ?_));refine Xi ⟨[(0,.ref 1000 0),(3,.ref 3 0),(4,.ref 4 0),(6,vi i),(7,.ref 7 0),(12,sl AM c.rel.reqs),(13,vi (c.rel.reqs.map AM).length),(14,vi i),(26,.slice (.id 12300 10) ((dec++[c]).map AE)),(27,vi ((dec++[c]).map AE).length),(28,vi j)],[(3,.ro (AE c)),(4,.cells [vs ⟨#[]⟩,.v (.slice none 0 0),vs ⟨#[]⟩,vi 0,vi 0]),(7,.cells (AM c.rel.reqs[i])),(1000,.cells (srM roots C A s dec 1004 st.length)),(1001,.tok 6 s.infs.length),(1002,.tok 1 s.drv.length),(1003,.map DW (DY 0 s.infs)),(1004,.arr 1 (st.map AS)),(12300,.tok 10 ((dec++[c]).map AE).length)],Ab⟩ (Yi ⟨Z11,Z9,Fh,Ay (by kernel_rfl)⟩ ?_)
     refine Yi (Ii j (by omega)) ?_;refine Xi ⟨j+1,by omega,fun m d hm hd=>by
       by_cases e:m=j
       ·subst e;rw[Ge n3]at hd;cases hd;exact by rw[h5];simp
       ·exact j2 m d (by omega) hd⟩ ?_
     exact⟨by show(dec++[c]).length-(j+1)<(dec++[c]).length-j;omega,Z11,Z9,Fh,Ay (by kernel_rfl)⟩
    have h5:(has c.rel.reqs[i].set (dec++[c])[j].place)=false:=h5;refine Xi .pure (Xi _ (Yi (cb h5 (pO c.rel.reqs[i].set (dec++[c])[j].place (hq _ (Ap _)))) ?_));refine Xi ⟨[(3,.ref 3 0),(4,.ref 4 0),(6,vi i),(7,.ref 7 0)],[(3,.ro (AE c)),(4,.cells [vs ⟨#[]⟩,.v (.slice none 0 0),vs ⟨#[]⟩,vi 0,vi 0]),(7,.cells (AM c.rel.reqs[i])),(1000,.cells (srM roots C A s dec 1004 st.length)),(1001,.tok 6 s.infs.length),(1002,.tok 1 s.drv.length),(1003,.map DW (DY 0 s.infs)),(1004,.arr 1 (st.map AS))],Ab⟩ (Yi ⟨Z4,Z8,Fh,Ay (by kernel_rfl)⟩ ?_)
    refine Yi (Nz rfl) ?_;refine Yi (Nz rfl) ?_;refine Yi (Nz rfl) ?_;have eC:=eQ (dec:=dec) (c:=c) n1 i2 n3 h4 h5;exact Xi _ (Yi (.refl _) (Yi (show AV.tup [.agg (A9 ⟨c.rel.reqs[i],c.rel.path,c.place,(i:Nat)⟩),vb true]=mX (D8 dec c) by rw[eC];rfl) rfl))
   have h4:¬(((dec++[c])[j]).rel.path:ByteArray)=c.rel.reqs[i].path:=h4;refine Xi ⟨[(0,.ref 1000 0),(3,.ref 3 0),(4,.ref 4 0),(6,vi i),(7,.ref 7 0),(12,sl AM c.rel.reqs),(13,vi (c.rel.reqs.map AM).length),(14,vi i),(26,.slice (.id 12300 10) ((dec++[c]).map AE)),(27,vi ((dec++[c]).map AE).length),(28,vi j)],[(3,.ro (AE c)),(4,.cells [vs ⟨#[]⟩,.v (.slice none 0 0),vs ⟨#[]⟩,vi 0,vi 0]),(7,.cells (AM c.rel.reqs[i])),(1000,.cells (srM roots C A s dec 1004 st.length)),(1001,.tok 6 s.infs.length),(1002,.tok 1 s.drv.length),(1003,.map DW (DY 0 s.infs)),(1004,.arr 1 (st.map AS)),(12300,.tok 10 ((dec++[c]).map AE).length)],Ab⟩ (Yi ⟨Z11,Z9,Fh,Ay (by kernel_rfl)⟩ ?_)
   refine Yi (Ii j (by omega)) ?_;refine Xi ⟨j+1,by omega,fun m d hm hd=>by
     by_cases e:m=j
     ·subst e;rw[Ge n3]at hd;cases hd;exact by rw[Ar h4];rfl
     ·exact j2 m d (by omega) hd⟩ ?_
   exact⟨by show(dec++[c]).length-(j+1)<(dec++[c]).length-j;omega,Z11,Z9,Fh,Ay (by kernel_rfl)⟩
  have h3:¬((j:Int)<(((dec++[c]).map AE).length:Int)):=h3;have n3:=Lc h3;refine Yi (Ii i (by omega)) ?_;have zX:Tu (dec++[c]) c.rel.reqs[i]=false:=gE fun m d hd=>j2 m d (by have:=(At.1 hd).1;have q:=h3;rw[Lm]at q;omega) hd;refine Xi ⟨i+1,by omega,fun k q hk u5=>by
    by_cases e:k=i
    ·subst e;rw[Ge n1]at u5;cases u5;exact zX
    ·exact i2 k q (by omega) u5⟩ ?_
  exact⟨Dl c.rel.reqs.length i (by omega),Z6,Z7,Fh,Ay (by kernel_rfl)⟩
 have h1:¬((i:Int)<((c.rel.reqs.map AM).length:Int)):=h1;have n1:=Lc h1;refine Yi (Nz rfl) ?_;refine Yi (Nz rfl) ?_;have eC:=eS (dec:=dec) (c:=c) fun k q hk=>i2 k q (by have:=(At.1 hk).1;have q:=h1;rw[Lm]at q;omega) hk;exact Xi _ (Yi (.refl _) (Yi (show AV.tup [yI,vb false]=mX (D8 dec c) by rw[eC];rfl) rfl))
end Go.Eng
