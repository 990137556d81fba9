/- Lemmas for the claims of this seat, without a condition: part 26 (S15, S1, S2, S3, S4). -/
import Derived.Test.YtmcbkdbfaneofaaGreatDoorFA03
import Derived.Test.YtmcbkdbfaneofaaGreatDoorFA21
namespace Go.Proofs
open Go.Shelf Go.RowKit Go.Lib Go.Sort
abbrev OneC:Type:={v:Value // v.oneCell'=true}
def SlA:Type:=ByteArray×OneC×OneC×OneC
instance:Inhabited SlA:=⟨⟨ByteArray.empty,⟨.bool false,rfl⟩,⟨.bool false,rfl⟩,⟨.bool false,rfl⟩⟩⟩
def encSlA(x:SlA):List Value:=[.string x.1,x.2.1.1,x.2.2.1.1,x.2.2.2.1]
def cfSlA(x y:SlA):Int:=Lib.compareBytes x.1.data.toList y.1.data.toList
abbrev CmpSlA(k:Nat):Prop:=∀(x y:SlA) (W:World),Calls Tryz.prog k #[.agg #[.string x.1,x.2.1.1,x.2.2.1.1,x.2.2.2.1],.agg #[.string y.1,y.2.1.1,y.2.2.1.1,y.2.2.2.1]] W fun e w'=>e=.returned (.int .i64 (cfSlA x y))∧∃q os',w'=grow (W.drewN q) os'
theorem Tryz.closure99:CmpSlA 99:=fun x y W=>by
 have hcon:=fun W'=>Any.strings_Compare Tryz.layCompare x.1 y.1 W';obtain⟨a,⟨b,hb⟩,⟨c,hc⟩,⟨d,hd⟩⟩:=x;obtain⟨a',⟨b',nG⟩,⟨c',pg⟩,⟨d',kr⟩⟩:=y;dsimp only at hcon
 change ∀W',Calls Tryz.prog 100 _ _ _ at hcon
 unfold cfSlA;dsimp only;generalize Lib.compareBytes a.data.toList a'.data.toList=r at hcon⊢
 go_enter Tryz.func99,Tryz.ntmps99
 go_wp2_with (go_at_call 100;refine(hcon _).mono ?_;rintro e w' ⟨rfl,rfl⟩)
 go_ret
 exact⟨rfl,0,_,by rw[alloc_eq_grow,alloc_eq_grow,grow_grow];rfl⟩
end Go.Proofs
set_option maxHeartbeats 4000000
namespace Go.Eng
open Go.Proofs Go.Shelf Go.RowKit Go.Lib Go.Sort
theorem aK(x y:SlA):ltOf cfSlA x y=Fl x.1 y.1:=Ti _ _
theorem iZ:SWO (ltOf cfSlA) where
 irrefl x:=by rw[aK];exact Di _
 trans x y z h1 h2:=by rw[aK]at *;exact EB h1 h2
 ntrans x y z h1 h2:=by
  rw[aK]at *
  rw[AK];intro h;cases pv:Fl y.1 x.1 with
  |true=>have:=EB pv h;rw[h2]at this;cases this
  |false =>
   have e:=Hs h1 pv;rw[e]at h;rw[h2]at h;cases h
theorem s92(k:Nat)(hc:CmpSlA k)(eg:∀args w,(callFunc k args).run Tryz.prog w=.ok (.enter k args) w)(l:List Sl)(hl:Ci l)(lim:Nat)(XE:lim<100) :
  Be Tryz.prog 129 [.msl 1000 l.length,vi 0,vi l.length,vi lim,.v (Ud k)] (Aj [(1000,.arr 4 (l.map Ae))] Aa) fun r h' =>
   r=.tup []∧∃l' : List Sl,l'.Perm l∧l'.Pairwise (fun x y=>Fl y.path x.path=false)∧h'=Aj [(1000,.arr 4 (l'.map Ae))] Aa:=by
 have hl:l.length≤1073741824:=hl;have hE:F2 Tryz.prog 129:=dP 129 Tryz.func129 (by kernel_rfl) rfl;have Hb:=Ja (P:=Tryz.prog) (f:=129) (α:=SlA) (rest:=[.int .i64 0,.int .i64 l.length,.int .i64 lim,Ud k]) hE Ae encSlA (k:=4) (fun _=>rfl) (fun _=>rfl) (ltOf cfSlA) (fun x a=>a.1=x.path) l (by omega) ?_ ?_ ?_
 ·refine⟨hE,fun g w vals q1 q2 q3=>(Hb.2 g w vals q1 q2 q3).mono fun _ _ ⟨v,r,h',g',e1,⟨e2,l',p1,⟨al,a1,a2,a3⟩,p2⟩,rest⟩=>⟨v,r,h',g',e1,⟨e2,l',p1,?_,p2⟩,rest⟩⟩;rw[A7]at a3⊢;intro i j hi hj QL
  have:=a3 i j (by omega) (by omega) QL
  rw[aK]at this;have e1:=a2 i _ _ (Ge hi) (Ge (by omega));have e2:=a2 j _ _ (Ge hj) (Ge (by omega));rw[←e1,←e2];exact this
 ·intro x hx g w vs hr
  match vs,hr with
  | [a,b,c,d],hr =>
   have h1:=(hr.2.2 0 (Go.Eng.vs x.path) a rfl rfl).v_eq;subst h1;exact⟨⟨x.path,⟨b,hr.2.1 b (by simp)⟩,⟨c,hr.2.1 c (by simp)⟩,⟨d,hr.2.1 d (by simp)⟩⟩,rfl,rfl⟩
  | [],hr=>have:=hr.1;simp at this
  | [_],hr=>have:=hr.1;simp at this
  | [_,_],hr=>have:=hr.1;simp at this
  | [_,_,_],hr=>have:=hr.1;simp at this
  |_::_::_::_::_::_,hr=>have:=hr.1;simp at this
 ·intro w b cap d hH hb EK hdl;have fR:CmpLays Tryz.prog k #[] encSlA 4 cfSlA b 0 d.size w:=fun _ _ _ _ x y=>hc x y _;have hp:=AnyQ.pdqsortCmpFunc_all Tryz.layPdqSel 4 Tryz.isAgg51 Tryz.sizeOf51 encSlA cfSlA k #[] iZ b 0 cap d w eg fR ⟨fun _=>rfl,fun x v hv=>by
    simp only[encSlA,As,LD,or_false]at hv;rcases hv with rfl | rfl | rfl | rfl
    ·rfl
    ·exact x.2.1.2
    ·exact x.2.2.1.2
    ·exact x.2.2.2.2,hH,hb⟩ (d.size+1) 0 d.size lim d w (by omega) rfl (SWK.start hH) (AL _) (Ak _) EK (by omega) (Or.inl rfl)
  rw[hdl]at hp⊢;refine hp.mono ?_
  rintro e w' ⟨rfl,n,os,rfl⟩
  have h:=pdq_sorts (ltOf cfSlA) iZ d 0 d.size lim true true (AL _) (Ak _) (Or.inl rfl);rw[hdl]at h;exact⟨rfl,_,n,os,h.1,h.2,rfl⟩
 ·intro e w;subst e;exact AnyF.pdqsortCmpFunc_none Tryz.layPdqSel none 0 lim (Ud k) w
theorem Ur{l l' : List Sl}(h1:VE l)(h2:VE l')(hm:∀y,y∈l↔y∈l'):l=l':=by
 induction l generalizing l' with
 |nil =>
  cases l' with
  |nil=>rfl
  |cons y l'=>have:=(hm y).2 (Ab ..);cases this
 |cons x l ih =>
  cases l' with
  |nil=>have:=(hm x).1 (Ab ..);cases this
  |cons y l' =>
   obtain⟨a1,a2⟩:=BX.1 h1;obtain⟨b1,b2⟩:=BX.1 h2;have e:x=y:=by
    rcases As.1 ((hm x).1 (Ab ..))with e | e
    ·exact e
    ·rcases As.1 ((hm y).2 (Ab ..))with e2 | e2
     ·exact e2.symm
     ·have c1:=b1 x e;have c2:=a1 y e2
      have:=EB c1 c2
      rw[Di]at this;cases this
   subst e
   congr 1
   refine ih a2 b2 fun z=>⟨fun hz=>?_,fun hz=>?_⟩
   ·rcases As.1 ((hm z).1 (Af _ hz))with e | e
    ·subst e
     have:=a1 z hz
     rw[Di]at this;cases this
    ·exact e
   ·rcases As.1 ((hm z).2 (Af _ hz))with e | e
    ·subst e
     have:=b1 z hz
     rw[Di]at this;cases this
    ·exact e
theorem iW{l l' : List Sl}(hn:(l.map (·.path)).Nodup)(hp:l'.Perm l)(hs:l'.Pairwise fun x y=>Fl y.path x.path=false):l'=FP l:=by
 refine Ur ?_ (Qh hn) fun y=>by rw[hp.mem_iff,Hg]
 have XG : (l'.map (·.path)).Nodup:=(hp.map (·.path)).nodup_iff.2 hn;show l'.Pairwise _;rw[A7]at hs⊢;intro i j hi hj QL;cases hb:Fl l'[i].path l'[j].path with
 |true=>rfl
 |false =>
  have e:=Hs hb (hs i j hi hj QL)
  have:=(A7.1 XG) i j (by simpa using hi) (by simpa using hj) QL
  simp at this;exact absurd e this
theorem s47(k:Nat)(hc:CmpSlA k)(eg:∀args w,(callFunc k args).run Tryz.prog w=.ok (.enter k args) w)(l:List Sl)(hl:Ci l)(hn:(l.map (·.path)).Nodup) :
  Be Tryz.prog 98 [.msl 1000 l.length,.v (Ud k)] (Aj [(1000,.arr 4 (l.map Ae))] Aa) fun r h' =>
   r=.tup []∧h'=Aj [(1000,.arr 4 ((FP l).map Ae))] Aa:=by
 obtain⟨lim,XE,hb⟩:=m0 l.length hl;refine Co (MA F6) [(1000,1000)] rfl CD hm rfl Tryz.func98 (by kernel_rfl) rfl (Nz rfl) (by kernel_rfl) rfl ?_;refine Xi .pure (Xi _ (Yi (hb) ?_));refine Xi (.gen [(1000,1000)] 0) (Yi rfl ((s92 k hc eg l hl lim XE).imp ?_));intro r h' hq;refine CK hq.2 (fun l' PK=>?_);have e:=iW hn PK.1 PK.2.1;refine Xi (.tup []) (Yi ?_ (Yi rfl ?_))
 ·exact .refl _
 ·rw[PK.2.2,e];rfl
end Go.Eng
namespace Go.Eng
open Go.Proofs
abbrev AF(c:Cd):List AV:=vi c.place::Ah c.rel
abbrev Ba(n:Nd):List AV:=[vs n.rq.path,sl Ao n.rq.set,vs n.path,vi n.place,vi n.number]
abbrev AT(l:List Sk):List AV:=[sl BV l]
abbrev BQ(i:Nat):List AV:=[vi (i:Nat)]
def DY:EJ:=⟨true,[.int .i64,.str,.int .i64,.int .i64,.int .i64,.int .i64]⟩
def Jl(i:Nf):Value:=.agg [.int .i64 i.kind,.string i.path,.int .i64 i.place,.int .i64 i.number,.int .i64 i.left,.int .i64 i.right].toArray
def D0:Nat→List Nf→List (Value×AV)
 |_,[]=>[]
 |k,i::l=>(Jl i,vi (k:Nat))::D0 (k+1) l
abbrev tA(roots:List Rq)(C A:List (Value×AV))(s:SS)(dec:List Cd)(n:Nat):List AV :=
 [sl AE roots,.cmap C3 C,.cmap C3 A,.slice (.id 1001 6) (s.infs.map BY),.slice (.id 1002 1) (s.drv.map Cb),.mref 1003,vb s.full,sl AF dec,sl Ae (AM dec),.msl 1004 n]
abbrev srM(roots:List Rq)(C A:List (Value×AV))(s:SS)(dec:List Cd)(k n:Nat):List AV :=
 [sl AE roots,.cmap C3 C,.cmap C3 A,.slice (.id 1001 6) (s.infs.map BY),.slice (.id 1002 1) (s.drv.map Cb),.mref 1003,vb s.full,sl AF dec,sl Ae (AM dec),.msl k n]
abbrev I2(roots:List Rq)(C A:List (Value×AV))(s:SS)(dec:List Cd)(st:List (List Sk)):List (Nat×HO) :=
 [(1000,.cells (tA roots C A s dec st.length)),(1001,.tok 6 s.infs.length),(1002,.tok 1 s.drv.length),(1003,.map DY (D0 0 s.infs)),(1004,.arr 1 (st.map AT))]
theorem xk{fF:Nat}{caps:List AV}(hs:EM caps)(l:List (Cd))(p:Cd→Bool)(hF:∀x∈l,PC fF ([.agg (AF x)]++caps) (vb (p x)))(hl:l.length<9223372036854775807) :
  PC 224 [sl AF l,.clo fF caps] (vi (H3 p l 0)):=by
 refine Ps F6 Tryz.func224 rfl (Nz rfl) ?_;refine Xi {i:Nat // i≤l.length∧∀j (hj:j<l.length),j<i→p l[j]=false} (Xi (fun i=>⟨[(0,sl AF l),(1,.clo fF caps),(7,vi (l.map AF).length),(8,vi i.1)],[],Aa⟩) (Xi (fun i=>l.length-i.1) (Yi (Xi ⟨0,by simp⟩ ?_) ?_)))
 ·exact⟨⟨Zr,⟨rfl,hs.ids _⟩,Zr,Zr,Tv⟩,Tv,Fh,Tv⟩
 ·intro⟨i,h1,h2⟩;refine Yi ?_ ?_
  ·intro h;have h:(i:Int)<(l.map AF).length:=h;have h:i<l.length:=by simpa using h
   have hg:l[i]?=some l[i]:=Ge h;refine Xi (AF l[i]) (Yi (Yi (Nn i) (by simp[hg])) (Yi rfl (Yi (Nz rfl) ?_)));have DF:∀h,PC fF ([.agg (AF l[i])]++caps.map (str0 h)) (vb (p l[i])):=fun h=>by rw[hs.map];exact hF l[i] (Ap _)
   cases hp:p l[i]with
   |true =>
    rw[hp]at DF;refine Xi .pure (Xi (vb true) (Yi (DF _) ?_));rw[Ji h (fun j hj H2=>h2 j hj H2) hp,E4];exact .refl _
   |false =>
    rw[hp]at DF;refine Xi .pure (Xi (vb false) (Yi (DF _) ?_));refine Yi (Ii i (by omega)) ?_;refine Xi ⟨i+1,by omega,fun j hj H2=>?_⟩ ?_
    ·by_cases e:j=i
     ·subst e;exact hp
     ·exact h2 j hj (by omega)
    ·exact⟨Dl l.length i (by omega),⟨Zr,⟨rfl,hs.ids _⟩,Zr,Zr,Tv⟩,Tv,Fh,Tv⟩
  ·intro h;have h:¬(i:Int)<(l.map AF).length:=h;have h:¬i<l.length:=by simpa using h
   rw[Gk fun j hj=>h2 j hj (by omega)];exact .refl _
theorem s86{fF:Nat}{caps:List AV}(hs:EM caps)(l:List (Nd))(p:Nd→Bool)(hF:∀x∈l,PC fF ([.agg (Ba x)]++caps) (vb (p x)))(hl:l.length<9223372036854775807) :
  PC 120 [sl Ba l,.clo fF caps] (vi (H3 p l 0)):=by
 refine Ps F6 Tryz.func120 rfl (Nz rfl) ?_;refine Xi {i:Nat // i≤l.length∧∀j (hj:j<l.length),j<i→p l[j]=false} (Xi (fun i=>⟨[(0,sl Ba l),(1,.clo fF caps),(7,vi (l.map Ba).length),(8,vi i.1)],[],Aa⟩) (Xi (fun i=>l.length-i.1) (Yi (Xi ⟨0,by simp⟩ ?_) ?_)))
 ·exact⟨⟨Zr,⟨rfl,hs.ids _⟩,Zr,Zr,Tv⟩,Tv,Fh,Tv⟩
 ·intro⟨i,h1,h2⟩;refine Yi ?_ ?_
  ·intro h;have h:(i:Int)<(l.map Ba).length:=h;have h:i<l.length:=by simpa using h
   have hg:l[i]?=some l[i]:=Ge h;refine Xi (Ba l[i]) (Yi (Yi (Nn i) (by simp[hg])) (Yi rfl (Yi (Nz rfl) ?_)));have DF:∀h,PC fF ([.agg (Ba l[i])]++caps.map (str0 h)) (vb (p l[i])):=fun h=>by rw[hs.map];exact hF l[i] (Ap _)
   cases hp:p l[i]with
   |true =>
    rw[hp]at DF;refine Xi .pure (Xi (vb true) (Yi (DF _) ?_));rw[Ji h (fun j hj H2=>h2 j hj H2) hp,E4];exact .refl _
   |false =>
    rw[hp]at DF;refine Xi .pure (Xi (vb false) (Yi (DF _) ?_));refine Yi (Ii i (by omega)) ?_;refine Xi ⟨i+1,by omega,fun j hj H2=>?_⟩ ?_
    ·by_cases e:j=i
     ·subst e;exact hp
     ·exact h2 j hj (by omega)
    ·exact⟨Dl l.length i (by omega),⟨Zr,⟨rfl,hs.ids _⟩,Zr,Zr,Tv⟩,Tv,Fh,Tv⟩
  ·intro h;have h:¬(i:Int)<(l.map Ba).length:=h;have h:¬i<l.length:=by simpa using h
   rw[Gk fun j hj=>h2 j hj (by omega)];exact .refl _
theorem si{fF:Nat}{caps:List AV}(hs:EM caps)(l:List (Cd))(p:Cd→Bool)(hF:∀x∈l,PC fF ([.agg (AF x)]++caps) (vb (p x)))(hl:Ci l) :
  PC 193 [sl AF l,.clo fF caps] (vb (l.any p)):=by
 refine Ps F6 Tryz.func193 rfl (Nz rfl) ?_;have hi:=xk hs l p hF (by unfold Ci at hl;omega);have DF:∀h,PC 224 [sl AF l,.clo fF (caps.map (str0 h))] (vi (H3 p l 0)):=fun h=>by rw[hs.map];exact hi
 refine Xi .pure (Xi _ (Yi (DF _) ?_));have ha:=La (p:=p) l 0 (AY 0);refine Yi ?_ ?_
 ·intro h;have h:(0:Int)≤H3 p l 0:=h;rw[←ha,Ax h];exact .refl _
 ·intro h;have h:¬(0:Int)≤H3 p l 0:=h;rw[←ha,Aq h];exact .refl _
theorem so(l:List Cd)(hl:Ci l):Be Tryz.prog 126 [sl AF l] (Aj [] Aa) fun r h'=>r=.slice (.id 2000 10) (l.map AF)∧h'=Aj [(2000,.tok 10 (l.map AF).length)] Aa:=by
 refine Co (MA (wA 10)) [(2,2000)] rfl CD hm rfl Tryz.func126 (by kernel_rfl) rfl (Nz rfl) (by kernel_rfl) rfl ?_;have Ga:Dn 10 (l.map AF)∧([]:List (List AV)).length=0∧(([]:List (List AV)).length+(l.map AF).length)*128≤140737488355328∧([]:List (List AV)).length+(l.map AF).length≤9223372036854775807:=by
  refine⟨EE (enc:=AF) (n:=10) (fun _=>rfl) l,rfl,?_,?_⟩<;>simp only[AD,Lm]<;>unfold Ci at hl<;>omega
 have e2:HO.tok 10 (([]:List (List AV)).length+(l.map AF).length)=.tok 10 (l.map AF).length:=by rw[AD,Bi]
 have e3:AV.slice (.id 2000 10) ([]++l.map AF)=.slice (.id 2000 10) (l.map AF):=rfl;have full:∀st:St,(∃s:LS,St.le (MA (wA 10)) st s∧True)→True:=fun _ _=>trivial;refine Xi 0 ?_;refine Xi 0 ?_;refine Yi ?_ ?_
 ·intro _;refine Xi ⟨[(0,sl AF l)],[],Aa⟩ (Yi ⟨Z1,Tv,Fh,Az (by kernel_rfl)⟩ ?_)
  refine Xi 2 ?_;refine Yi Ga ?_;exact Xi _ (Yi (.refl _) (Yi e3 (Ac (fun o=>Aj [(2000,o)] Aa) e2)))
 ·intro h;have h:l.map AF=[]:=h;refine Yi ?_ ?_
  ·refine Xi ⟨[],[],Aa⟩ (Yi ⟨trivial,trivial,fun _=>.inl rfl,Az (by kernel_rfl)⟩ ?_)
   refine Xi 0 ?_;exact Xi _ (Yi (.refl _) (Yi (show AV.slice (.id 2000 10) []=_ by rw[h]) (show Aj [(2000,HO.tok 10 0)] Aa=_ by rw[h];rfl)))
  ·refine Xi ⟨[(0,sl AF l)],[],Aa⟩ (Yi ⟨Z1,Tv,Fh,Az (by kernel_rfl)⟩ ?_)
   refine Xi 2 ?_;refine Yi Ga ?_;exact Xi _ (Yi (.refl _) (Yi e3 (Ac (fun o=>Aj [(2000,o)] Aa) e2)))
theorem Rz:∀{l:List Nf} {k:Nat} {kx:Value} {a:AV},(kx,a)∈D0 k l↔∃j i,l[j]?=some i∧kx=Jl i∧a=vi ((k+j:Nat):Int)
 | [],k,kx,a=>by simp[D0]
 |y::l,k,kx,a=>by
  unfold D0;rw[As,Rz];constructor
  ·rintro(h | ⟨j,i,h1,h2,h3⟩)
   ·cases h;exact⟨0,y,rfl,rfl,rfl⟩
   ·exact⟨j+1,i,h1,h2,by rw[h3,show k+1+j=k+(j+1) by omega]⟩
  ·rintro⟨j,i,h1,h2,h3⟩
   cases j with
   |zero=>cases h1;exact .inl (by rw[h2,h3];rfl)
   |succ j=>exact .inr ⟨j,i,h1,h2,by rw[h3,show k+1+j=k+(j+1) by omega]⟩
theorem U7{a b:Nf}(h:Jl a=Jl b):a=b:=by
 obtain⟨a1,a2,a3,a4,a5,a6⟩:=a;obtain⟨b1,b2,b3,b4,b5,b6⟩:=b;unfold Jl at h;simp at h;obtain⟨rfl,rfl,rfl,rfl,rfl,rfl⟩:=h
 rfl
theorem ry{l:List Nf}{i:Nf}{k:Nat}(h:LI i 0 l=some k):(Jl i,vi (k:Nat))∈D0 0 l:=by
 obtain⟨j,e,hj⟩:=MR h;exact Rz.2 ⟨j,i,hj,rfl,by rw[e]⟩
theorem kO{l:List Nf}(hn:l.Nodup){i:Nf}{k:Nat}(h:LI i 0 l=some k):∀b,(Jl i,b)∈D0 0 l→b=vi (k:Nat):=fun b hb=>by
 obtain⟨j,e,hj⟩:=MR h;obtain⟨j',i',h1,h2,h3⟩:=Rz.1 hb
 have:=U7 h2
 subst this;obtain⟨a1,a2⟩:=At.1 hj;obtain⟨b1,b2⟩:=At.1 h1
 have:j'=j:=(List.getElem_inj hn).1 (b2.trans a2.symm)
 subst this;rw[h3,e]
theorem my{l:List Nf}{i:Nf}(h:LI i 0 l=none):∀a,(Jl i,a)∉D0 0 l:=fun a ha=>by
 obtain⟨j,i',h1,h2,_⟩:=Rz.1 ha
 have:=U7 h2
 subst this;exact PW h (Av h1)
theorem aI:∀(l:List Nf) (k:Nat) (i:Nf),D0 k (l++[i])=D0 k l++[(Jl i,vi ((k+l.length:Nat):Int))]
 | [],k,i=>by simp[D0]
 |y::l,k,i=>by
  show(Jl y,_)::D0 (k+1) (l++[i])=_;rw[aI l (k+1) i];simp[D0,show k+1+l.length=k+(l.length+1) by omega]
theorem ot{l:List Nf}{i:Nf}(h:LI i 0 l=none):ET (D0 0 l) (Jl i) (vi ((l.map BY).length:Int))=D0 0 (l++[i]):=by
 rw[Mg (my h),aI,Lm,Bi]
theorem WV{s:SS}{i:Nf}{l:List Tm}{k:Nat}(h:LI i 0 s.infs=some k):Ef s i l=(k,s):=by unfold Ef;rw[h]
theorem Uy{s:SS}{i:Nf}{l:List Tm}(h:LI i 0 s.infs=none)(hf:65536≤s.infs.length):Ef s i l=(s.infs.length-1,⟨s.infs,s.drv,true⟩):=by unfold Ef;rw[h];exact Aw hf
theorem WU{s:SS}{i:Nf}{l:List Tm}(h:LI i 0 s.infs=none)(hf:¬65536≤s.infs.length):Ef s i l=(s.infs.length,⟨s.infs++[i],s.drv++[l],s.full⟩):=by unfold Ef;rw[h];exact Ai hf
section
variable {roots:List Rq}{C A:List (Value×AV)}{s s' : SS}{dec:List Cd}{st:List (List Sk)}{i:Nf}{l:List Tm}
theorem d7{k:Nat}{z:Int}(e:Ef s i l=(k,s'))(hz:z=k):vi z=vi ((Ef s i l).1:Nat)∧Aj (I2 roots C A s' dec st) Aa=Aj (I2 roots C A (Ef s i l).2 dec st) Aa:=by rw[e,hz];exact Zr
theorem pJ(h:LI i 0 s.infs=none):Aj [(1000,.cells [sl AE roots,.cmap C3 C,.cmap C3 A,.slice (.id 1001 6) (s.infs.map BY++[BY i]),.slice (.id 1002 1) (s.drv.map Cb++[Cb l]),.mref 1003,vb s.full,sl AF dec,sl Ae (AM dec),.msl 1004 st.length]),
      (1001,.tok 6 ((s.infs.map BY).length+[BY i].length)),(1002,.tok 1 ((s.drv.map Cb).length+[Cb l].length)),(1003,.map DY (ET (D0 0 s.infs) (Jl i) (vi ((s.infs.map BY).length:Int)))),(1004,.arr 1 (st.map AT))] Aa=Aj (I2 roots C A ⟨s.infs++[i],s.drv++[l],s.full⟩ dec st) Aa:=by
  have e1:s.infs.map BY++[BY i]=(s.infs++[i]).map BY:=by simp
  have e2:s.drv.map Cb++[Cb l]=(s.drv++[l]).map Cb:=by simp
  have e3:(s.infs.map BY).length+[BY i].length=(s.infs++[i]).length:=by simp
  have e4:(s.drv.map Cb).length+[Cb l].length=(s.drv++[l]).length:=by simp
  rw[e1,e2,e3,e4,ot h]
end
theorem sj(c:Cd)(p:ByteArray):PC 194 [.agg (AF c),.cptr [vs p]] (vb (decide (c.rel.path=p))):=by
 refine Ps ⟨[2],[],[],[],[],[],[],[],[],[],[]⟩ Tryz.func194 rfl (Nz rfl) ?_;refine Yi (fun h1=>?_) (fun h1=>?_)
 ·have h1:(c.rel.path:ByteArray)=p:=h1;exact .of_eq (show vb true=vb (decide (c.rel.path=p)) by rw[Ax h1])
 have h1:¬(c.rel.path:ByteArray)=p:=h1;exact .of_eq (show vb false=vb (decide (c.rel.path=p)) by rw[Aq h1])
theorem sf(t:Tm)(p:ByteArray):PC 159 [.agg (AG t),.cptr [vs p]] (vb (decide (t.path=p))):=by
 refine Ps ⟨[2],[],[],[],[],[],[],[],[],[],[]⟩ Tryz.func159 rfl (Nz rfl) ?_;refine Yi (fun h1=>?_) (fun h1=>?_)
 ·have h1:(t.path:ByteArray)=p:=h1;exact .of_eq (show vb true=vb (decide (t.path=p)) by rw[Ax h1])
 have h1:¬(t.path:ByteArray)=p:=h1;exact .of_eq (show vb false=vb (decide (t.path=p)) by rw[Aq h1])
theorem jC(l:List Tm)(p:ByteArray)(hl:Ci l):PC 127 [sl AG l,vs p] (vb (Db l p)):=by
 refine Ps ⟨[3],[],[],[],[],[],[],[],[],[],[]⟩ Tryz.func127 rfl (Nz rfl) ?_;refine BH (Bt (Db l p)) (fun h1=>?_) (fun h1=>?_)
 ·have h1:(Db l p)=true:=h1;refine Xi .pure (Xi _ (Yi (cb h1 (show PC 158 [sl AG l,.clo 159 [.cptr [vs p]]] (vb (Db l p))from m6 (fF:=159) (caps:=[.cptr [vs p]]) (fun c hc=>by obtain rfl:=Am.1 hc;intro h;rfl) l (fun t=>decide (t.path=p)) (fun t _=>sf t p) hl)) ?_));exact .of_eq (show vb true=vb (Db l p) by rw[h1])
 have h1:(Db l p)=false:=h1;refine Xi .pure (Xi _ (Yi (cb h1 (show PC 158 [sl AG l,.clo 159 [.cptr [vs p]]] (vb (Db l p))from m6 (fF:=159) (caps:=[.cptr [vs p]]) (fun c hc=>by obtain rfl:=Am.1 hc;intro h;rfl) l (fun t=>decide (t.path=p)) (fun t _=>sf t p) hl)) ?_));exact .of_eq (show vb false=vb (Db l p) by rw[h1])
theorem se(roots:List Rq)(C A:List (Value×AV))(s:SS)(dec:List Cd)(st:List (List Sk))(p:ByteArray)(hl:Ci dec):Be Tryz.prog 151 [.ref 1000 0,vs p] (Aj (I2 roots C A s dec st) Aa) fun r h'=>r=vb (Dg dec p)∧h'=Aj (I2 roots C A s dec st) Aa:=by
 refine Co (MA ⟨[3],[],[],[],[],[],[],[],[],[],[]⟩) [(1000,1000),(1001,1001),(1002,1002),(1003,1003),(1004,1004)] rfl CD hm rfl Tryz.func151 (by kernel_rfl) rfl (Nz rfl) (by kernel_rfl) rfl ?_;refine BH (Bt (Dg dec p)) (fun h1=>?_) (fun h1=>?_)
 ·have h1:(Dg dec p)=true:=h1;refine Xi .pure (Xi _ (Yi (cb h1 (show PC 193 [sl AF dec,.clo 194 [.cptr [vs p]]] (vb (Dg dec p))from si (fF:=194) (caps:=[.cptr [vs p]]) (fun c hc=>by obtain rfl:=Am.1 hc;intro h;rfl) dec (fun c=>decide (c.rel.path=p)) (fun c _=>sj c p) hl)) ?_));exact Xi _ (Yi (.refl _) (Yi (show vb true=vb (Dg dec p) by rw[h1]) rfl))
 have h1:(Dg dec p)=false:=h1;refine Xi .pure (Xi _ (Yi (cb h1 (show PC 193 [sl AF dec,.clo 194 [.cptr [vs p]]] (vb (Dg dec p))from si (fF:=194) (caps:=[.cptr [vs p]]) (fun c hc=>by obtain rfl:=Am.1 hc;intro h;rfl) dec (fun c=>decide (c.rel.path=p)) (fun c _=>sj c p) hl)) ?_));exact Xi _ (Yi (.refl _) (Yi (show vb false=vb (Dg dec p) by rw[h1]) rfl))
theorem lE(roots:List Rq)(C A:List (Value×AV))(s:SS)(dec:List Cd)(st:List (List Sk))(i:Nf)(l:List Tm)(k:Nat)(hk:LI i 0 s.infs=some k)(Rk:s.infs.Nodup):Be Tryz.prog 154 [.ref 1000 0,.agg (BY i),sl AG l] (Aj (I2 roots C A s dec st) Aa) fun r h'=>r=vi ((Ef s i l).1:Nat)∧h'=Aj (I2 roots C A (Ef s i l).2 dec st) Aa:=by
 refine Co (MA ⟨[4],[],[],[],[],[],[],[],[],[],[2,5,7,8,9,10,11]⟩) [(1000,1000),(1001,1001),(1002,1002),(1003,1003),(1004,1004)] rfl CD hm rfl Tryz.func154 (by kernel_rfl) rfl (Nz rfl) (by kernel_rfl) rfl ?_;refine Yi (Nz rfl) ?_;refine Or.inl (Xi (vi (k:Nat)) (Yi (Yi (ry hk) (kO Rk hk)) ?_));refine Yi (by kernel_rfl) ?_;refine Xi ⟨[(0,.ref 1000 0),(2,sl AG l),(4,.ref 4 0),(7,vi (k:Nat)),(8,vb true)],[(4,.ro (BY i)),(1000,.cells (srM roots C A s dec 1004 st.length)),(1001,.tok 6 s.infs.length),(1002,.tok 1 s.drv.length),(1003,.map DY (D0 0 s.infs)),(1004,.arr 1 (st.map AT))],Aa⟩ (Yi ⟨Z5,Z6,Fh,Az (by kernel_rfl)⟩ ?_)
 exact Xi _ (Yi (.refl _) (d7 (WV hk) rfl))
theorem lD(roots:List Rq)(C A:List (Value×AV))(s:SS)(dec:List Cd)(st:List (List Sk))(i:Nf)(l:List Tm)(hk:LI i 0 s.infs=none)(hn:s.infs.length≤65536)(hdl:s.drv.length=s.infs.length):Be Tryz.prog 154 [.ref 1000 0,.agg (BY i),sl AG l] (Aj (I2 roots C A s dec st) Aa) fun r h'=>r=vi ((Ef s i l).1:Nat)∧h'=Aj (I2 roots C A (Ef s i l).2 dec st) Aa:=by
 have hdn:s.drv.length≤65536:=by omega
 have ym:(s.infs.map BY).length=s.infs.length:=Lm _;refine Co (MA ⟨[4],[],[],[],[],[],[],[],[],[],[2,5,7,8,9,10,11]⟩) [(1000,1000),(1001,1001),(1002,1002),(1003,1003),(1004,1004)] rfl CD hm rfl Tryz.func154 (by kernel_rfl) rfl (Nz rfl) (by kernel_rfl) rfl ?_;refine Yi (Nz rfl) ?_;refine Or.inr (Yi (my hk) ?_);refine Yi (by kernel_rfl) ?_;refine Xi ⟨[(0,.ref 1000 0),(2,sl AG l),(4,.ref 4 0),(7,vi 0),(8,vb false)],[(4,.ro (BY i)),(1000,.cells (srM roots C A s dec 1004 st.length)),(1001,.tok 6 s.infs.length),(1002,.tok 1 s.drv.length),(1003,.map DY (D0 0 s.infs)),(1004,.arr 1 (st.map AT))],Aa⟩ (Yi ⟨Z5,Z6,Fh,Az (by kernel_rfl)⟩ ?_)
 refine Yi (fun h1=>?_) (fun h1=>?_)
 ·have h1:(65536:Int)≤((s.infs.map BY).length:Int):=h1;refine Xi ⟨[(0,.ref 1000 0)],[(1000,.cells (srM roots C A s dec 1004 st.length)),(1001,.tok 6 s.infs.length),(1002,.tok 1 s.drv.length),(1003,.map DY (D0 0 s.infs)),(1004,.arr 1 (st.map AT))],Aa⟩ (Yi ⟨Z1,Z5,Fh,Az (by kernel_rfl)⟩ ?_)
  refine Yi (Nz rfl) ?_;refine Yi (by show B3 (((s.infs.map BY).length:Int)-(1:Int));unfold B3;omega) ?_;exact Xi _ (Yi (.refl _) (d7 (Uy hk (by have q:=h1;rw[Lm]at q;omega)) (by have q:=h1;rw[Lm]at q⊢;omega)))
 have h1:¬((65536:Int)≤((s.infs.map BY).length:Int)):=h1;refine Xi ⟨[(0,.ref 1000 0),(2,sl AG l),(4,.ref 4 0)],[(4,.ro (BY i)),(1000,.cells (srM roots C A s dec 1004 st.length)),(1001,.tok 6 s.infs.length),(1002,.tok 1 s.drv.length),(1003,.map DY (D0 0 s.infs)),(1004,.arr 1 (st.map AT))],Aa⟩ (Yi ⟨Z3,Z6,Fh,Az (by kernel_rfl)⟩ ?_)
 refine Xi ⟨[(0,.ref 1000 0),(2,sl AG l),(4,.ref 4 0),(9,vi (s.infs.map BY).length)],[(4,.ro (BY i)),(1000,.cells (srM roots C A s dec 1004 st.length)),(1001,.tok 6 s.infs.length),(1002,.tok 1 s.drv.length),(1003,.map DY (D0 0 s.infs)),(1004,.arr 1 (st.map AT))],Aa⟩ (Yi ⟨Z4,Z6,Fh,Az (by kernel_rfl)⟩ ?_)
 refine Yi (Nz rfl) ?_;refine Yi (by kernel_rfl) ?_;refine Xi ⟨[(0,.ref 1000 0),(2,sl AG l),(4,.ref 4 0),(9,vi (s.infs.map BY).length)],[(4,.ro (BY i)),(1000,.cells (srM roots C A s dec 1004 st.length)),(1001,.tok 6 s.infs.length),(1002,.tok 1 s.drv.length),(1003,.map DY (ET (D0 0 s.infs) (Jl i) (vi (s.infs.map BY).length))),(1004,.arr 1 (st.map AT))],Aa⟩ (Yi ⟨Z4,Z6,Fh,Az (by kernel_rfl)⟩ ?_)
 refine Yi (Nz rfl) ?_;refine Yi (Pr rfl (by omega) (by decide)) ?_;refine Yi (Nz rfl) ?_;refine Yi (by kernel_rfl) ?_;refine Xi ⟨[(0,.ref 1000 0),(2,sl AG l),(9,vi (s.infs.map BY).length)],[(1000,.cells [sl AE roots,.cmap C3 C,.cmap C3 A,.slice (.id 1001 6) ((s.infs.map BY)++[(BY i)]),.slice (.id 1002 1) (s.drv.map Cb),.mref 1003,vb s.full,sl AF dec,sl Ae (AM dec),.msl 1004 st.length]),(1001,.tok 6 ((s.infs.map BY).length+([(BY i)]:List (List AV)).length)),(1002,.tok 1 s.drv.length),(1003,.map DY (ET (D0 0 s.infs) (Jl i) (vi (s.infs.map BY).length))),(1004,.arr 1 (st.map AT))],Aa⟩ (Yi ⟨Z3,Z5,Fh,Az (by kernel_rfl)⟩ ?_)
 refine Yi (Pr rfl (by omega) (by decide)) ?_;refine Yi (Nz rfl) ?_;refine Xi ⟨[(9,vi (s.infs.map BY).length)],[(1000,.cells [sl AE roots,.cmap C3 C,.cmap C3 A,.slice (.id 1001 6) ((s.infs.map BY)++[(BY i)]),.slice (.id 1002 1) ((s.drv.map Cb)++[[sl AG l]]),.mref 1003,vb s.full,sl AF dec,sl Ae (AM dec),.msl 1004 st.length]),(1001,.tok 6 ((s.infs.map BY).length+([(BY i)]:List (List AV)).length)),(1002,.tok 1 ((s.drv.map Cb).length+([[sl AG l]]:List (List AV)).length)),(1003,.map DY (ET (D0 0 s.infs) (Jl i) (vi (s.infs.map BY).length))),(1004,.arr 1 (st.map AT))],Aa⟩ (Yi ⟨Z1,Z5,Fh,Az (by kernel_rfl)⟩ ?_)
 have hq:=d7 (roots:=roots) (C:=C) (A:=A) (dec:=dec) (st:=st) (z:=((s.infs.map BY).length:Int)) (WU (l:=l) hk (by have q:=h1;rw[Lm]at q;omega)) (by rw[Lm]);exact Xi _ (Yi (.refl _) (Yi hq.1 ((pJ hk).trans hq.2)))
structure JA(x:List Rl)(roots:List Rq)(s:SS):Prop where
 der:Fr x roots s
 nodup:s.infs.Nodup
abbrev mJ(roots:List Rq)(C A:List (Value×AV))(dec:List Cd)(st:List (List Sk))(o:Nat×SS)(r:AV)(h' : Nat→HO):Prop:=r=vi (o.1:Nat)∧h'=Aj (I2 roots C A o.2 dec st) Aa
theorem lC(roots:List Rq)(C A:List (Value×AV))(s:SS)(dec:List Cd)(st:List (List Sk))(i:Nf)(l:List Tm)(hn:s.infs.length≤65536)(hdl:s.drv.length=s.infs.length)(Rk:s.infs.Nodup) :
  Be Tryz.prog 154 [.ref 1000 0,.agg (BY i),sl AG l] (Aj (I2 roots C A s dec st) Aa) (mJ roots C A dec st (Ef s i l)):=by
 cases hk:LI i 0 s.infs with
 |some k=>exact lE roots C A s dec st i l k hk Rk
 |none=>exact lD roots C A s dec st i l hk hn hdl
abbrev YA:IU:=[(1000,1000),(1001,1001),(1002,1002),(1003,1003),(1004,1004)]
theorem qm{h2:Nat→HO}{cs:List AV}{o1 o2 o3 o4:HO}(e0:h2 1000=.cells cs)(e1:h2 1001=o1)(e2:h2 1002=o2)(e3:h2 1003=o3)(e4:h2 1004=o4) :
  FB YA h2=Aj [(1000,.cells (cs.map (ren1 (Cv YA) h2))),(1001,o1.ren (Cv YA) h2),(1002,o2.ren (Cv YA) h2),(1003,o3.ren (Cv YA) h2),(1004,o4.ren (Cv YA) h2)] Aa:=by
 unfold FB;simp only[Wu];rw[e0,e1,e2,e3,e4];rfl
theorem cI{s:SS}{n:Nd}(h:n.path=mt):Ef s ⟨0,mt,0,n.number,0,0⟩ (Ju n.rq)=Bl s n:=by unfold Bl S8 I0;rw[Aw h,Aw h]
theorem gz{s:SS}{n:Nd}(h:¬n.path=mt):Ef s ⟨1,n.path,n.place,n.number,0,0⟩ (El n.path n.place n.rq)=Bl s n:=by unfold Bl S8 I0;rw[Ai h,Ai h]
abbrev VW(d:List (List Tm))(S:List Sl):AV:=.tup [vi (((Oo d S).getD 0:Nat):Int),vb (Oo d S).isSome]
theorem Xh{S:List Sl}:∀{l:List (List Tm)} {b i:Nat} {t:List Tm},l[i]?=some t→CF t S=true→(∀j u,j<i→l[j]?=some u→CF u S=false)→On S b l=some (b+i)
 | [],_,_,_,h,_,_=>by simp at h
 |u::l,b,0,t,h,he,_=>by cases h;unfold On;rw[Aw he];rfl
 |u::l,b,i+1,t,h,he,hn=>by
  unfold On;rw[Ai (by rw[hn 0 u (by omega) rfl];decide),Xh (i:=i) (by simpa using h) he (fun j v hj hv=>hn (j+1) v (by omega) (by simpa using hv))]
  congr 1;omega
theorem Xj{S:List Sl}:∀{l:List (List Tm)} {b:Nat},(∀t∈l,CF t S=false)→On S b l=none
 | [],_,_=>rfl
 |u::l,b,h=>by
  unfold On;rw[Ai (by rw[h u (Ab ..)];decide)];exact Xj fun t ht=>h t (Af _ ht)
theorem xt(roots:List Rq)(C A:List (Value×AV))(s:SS)(dec:List Cd)(st:List (List Sk))(n:Nd)(hn:s.infs.length≤65536)(hdl:s.drv.length=s.infs.length)(Rk:s.infs.Nodup)(hq:Ci n.rq.set)(hp:B3 (n.place+1)):Be Tryz.prog 123 [.ref 1000 0,.agg (Ba n)] (Aj (I2 roots C A s dec st) Aa) fun r h'=>mJ roots C A dec st (Bl s n) r h':=by
 refine Co (MA ⟨[3],[],[],[],[],[],[],[],[(15,5),(31,5)],[],[2,3]⟩) [(1000,1000),(1001,1001),(1002,1002),(1003,1003),(1004,1004)] rfl CD hm rfl Tryz.func123 (by kernel_rfl) rfl (Nz rfl) (by kernel_rfl) rfl ?_;refine Yi (fun h1=>?_) (fun h1=>?_)
 ·have h1:(n.path:ByteArray)=⟨#[]⟩:=h1;refine Xi ⟨[(0,.ref 1000 0),(3,.ref 3 0)],[(3,.ro (Ba n)),(1000,.cells (srM roots C A s dec 1004 st.length)),(1001,.tok 6 s.infs.length),(1002,.tok 1 s.drv.length),(1003,.map DY (D0 0 s.infs)),(1004,.arr 1 (st.map AT))],Aa⟩ (Yi ⟨Z2,Z6,Fh,Az (by kernel_rfl)⟩ ?_)
  refine Yi (Nz rfl) ?_;refine Xi _ (Yi (ud n.rq hq) ?_);refine Xi YA (Xi [(1000,.cells (srM roots C A s dec 1004 st.length)),(1001,.tok 6 s.infs.length),(1002,.tok 1 s.drv.length),(1003,.map DY (D0 0 s.infs)),(1004,.arr 1 (st.map AT))] (Xi (I2 roots C A (Ef s ⟨0,mt,0,n.number,0,0⟩ (Ju n.rq)).2 dec st) (Xi [.ref 1000 0,.agg [vi 0,vs ⟨#[]⟩,vi 0,vi n.number,vi 0,vi 0],sl AG (Ju n.rq)] (Xi (vi (((Ef s ⟨0,mt,0,n.number,0,0⟩ (Ju n.rq)).1:Nat):Int):AV) (Yi (fun h2 hh=>Yi ((qm (show h2 1000=.cells (srM roots C A s dec 1004 st.length)from hh 1000 (by decide)) (show h2 1001=.tok 6 s.infs.length from hh 1001 (by decide)) (show h2 1002=.tok 1 s.drv.length from hh 1002 (by decide)) (show h2 1003=.map DY (D0 0 s.infs)from hh 1003 (by decide)) (show h2 1004=.arr 1 (st.map AT)from hh 1004 (by decide))).trans rfl) rfl) (Yi (by kernel_rfl) (Yi (lC roots C A s dec st ⟨0,mt,0,n.number,0,0⟩ (Ju n.rq) hn hdl Rk) ?_)))))));refine Yi (by kernel_rfl) ?_;have ei:=cI (s:=s) h1;exact Xi _ (Yi (.refl _) (Yi (show vi (((Ef s ⟨0,mt,0,n.number,0,0⟩ (Ju n.rq)).1:Nat):Int)=vi (((Bl s n).1:Nat):Int) by rw[ei]) (show Aj (I2 roots C A (Ef s ⟨0,mt,0,n.number,0,0⟩ (Ju n.rq)).2 dec st) Aa=Aj (I2 roots C A (Bl s n).2 dec st) Aa by rw[ei])))
 have h1:¬(n.path:ByteArray)=⟨#[]⟩:=h1;refine Xi ⟨[(0,.ref 1000 0),(3,.ref 3 0)],[(3,.ro (Ba n)),(1000,.cells (srM roots C A s dec 1004 st.length)),(1001,.tok 6 s.infs.length),(1002,.tok 1 s.drv.length),(1003,.map DY (D0 0 s.infs)),(1004,.arr 1 (st.map AT))],Aa⟩ (Yi ⟨Z2,Z6,Fh,Az (by kernel_rfl)⟩ ?_)
 refine Yi (Nz rfl) ?_;refine Xi _ (Yi (ue n.path n.place n.rq hp hq) ?_);refine Xi YA (Xi [(1000,.cells (srM roots C A s dec 1004 st.length)),(1001,.tok 6 s.infs.length),(1002,.tok 1 s.drv.length),(1003,.map DY (D0 0 s.infs)),(1004,.arr 1 (st.map AT))] (Xi (I2 roots C A (Ef s ⟨1,n.path,n.place,n.number,0,0⟩ (El n.path n.place n.rq)).2 dec st) (Xi [.ref 1000 0,.agg [vi 1,vs n.path,vi n.place,vi n.number,vi 0,vi 0],sl AG (El n.path n.place n.rq)] (Xi (vi (((Ef s ⟨1,n.path,n.place,n.number,0,0⟩ (El n.path n.place n.rq)).1:Nat):Int):AV) (Yi (fun h2 hh=>Yi ((qm (show h2 1000=.cells (srM roots C A s dec 1004 st.length)from hh 1000 (by decide)) (show h2 1001=.tok 6 s.infs.length from hh 1001 (by decide)) (show h2 1002=.tok 1 s.drv.length from hh 1002 (by decide)) (show h2 1003=.map DY (D0 0 s.infs)from hh 1003 (by decide)) (show h2 1004=.arr 1 (st.map AT)from hh 1004 (by decide))).trans rfl) rfl) (Yi (by kernel_rfl) (Yi (lC roots C A s dec st ⟨1,n.path,n.place,n.number,0,0⟩ (El n.path n.place n.rq) hn hdl Rk) ?_)))))));refine Yi (by kernel_rfl) ?_;have ei:=gz (s:=s) h1;exact Xi _ (Yi (.refl _) (Yi (show vi (((Ef s ⟨1,n.path,n.place,n.number,0,0⟩ (El n.path n.place n.rq)).1:Nat):Int)=vi (((Bl s n).1:Nat):Int) by rw[ei]) (show Aj (I2 roots C A (Ef s ⟨1,n.path,n.place,n.number,0,0⟩ (El n.path n.place n.rq)).2 dec st) Aa=Aj (I2 roots C A (Bl s n).2 dec st) Aa by rw[ei])))
theorem s89(roots:List Rq)(C A:List (Value×AV))(s:SS)(dec:List Cd)(st:List (List Sk))(S:List Sl)(hd:s.drv.length≤65536)(ht:∀t∈s.drv,dZ t)(hS:Ci S):Be Tryz.prog 124 [.ref 1000 0,sl Ae S] (Aj (I2 roots C A s dec st) Aa) fun r h'=>r=VW s.drv S∧h'=Aj (I2 roots C A s dec st) Aa:=by
 refine Co (MA ⟨[],[],[],[],[],[],[],[],[],[],[4,6]⟩) [(1000,1000),(1001,1001),(1002,1002),(1003,1003),(1004,1004)] rfl CD hm rfl Tryz.func124 (by kernel_rfl) rfl (Nz rfl) (by kernel_rfl) rfl ?_;refine Xi {i:Nat // i≤s.drv.length∧∀j u,j<i→s.drv[j]?=some u→CF u S=false} (Xi (fun q=>⟨[(1,sl Ae S),(11,.slice (.id 1002 1) (s.drv.map Cb)),(12,vi (s.drv.map Cb).length),(13,vi q.1)],[(1000,.cells (srM roots C A s dec 1004 st.length)),(1001,.tok 6 s.infs.length),(1002,.tok 1 s.drv.length),(1003,.map DY (D0 0 s.infs)),(1004,.arr 1 (st.map AT))],Aa⟩) (Xi (fun q=>s.drv.length-q.1) (Yi (Xi ⟨0,AL _,fun j u h=>absurd h (Du j)⟩ ?_) ?_)))
 ·exact⟨Z4,Z5,Fh,Az (by kernel_rfl)⟩
 intro⟨i,i1,i2⟩;have i1:i≤s.drv.length:=i1;have i2:∀j u,j<i→s.drv[j]?=some u→CF u S=false:=i2;refine Yi (fun h1=>?_) (fun h1=>?_)
 ·have h1:(i:Int)<((s.drv.map Cb).length:Int):=h1;have n1:=Ka h1;refine Xi (Cb s.drv[i]) (Yi (OO n1) (Yi rfl ?_));refine Xi ⟨[(1,sl Ae S),(6,vi i),(7,sl AG s.drv[i]),(11,.slice (.id 1002 1) (s.drv.map Cb)),(12,vi (s.drv.map Cb).length),(13,vi i)],[(1000,.cells (srM roots C A s dec 1004 st.length)),(1001,.tok 6 s.infs.length),(1002,.tok 1 s.drv.length),(1003,.map DY (D0 0 s.infs)),(1004,.arr 1 (st.map AT))],Aa⟩ (Yi ⟨Z6,Z5,Fh,Az (by kernel_rfl)⟩ ?_)
  refine BH (Bt (CF s.drv[i] S)) (fun h2=>?_) (fun h2=>?_)
  ·have h2:(CF s.drv[i] S)=true:=h2;refine Xi .pure (Xi _ (Yi (cb h2 (xF s.drv[i] S (ht _ (Ap _)) hS)) ?_));have eE:Oo s.drv S=some i:=by unfold Oo;rw[Xh (Ge n1) h2 i2,Bi]
   exact Xi _ (Yi (.refl _) (Yi (show AV.tup [vi (i:Int),vb true]=VW s.drv S by unfold VW;rw[eE];rfl) rfl))
  have h2:(CF s.drv[i] S)=false:=h2;refine Xi .pure (Xi _ (Yi (cb h2 (xF s.drv[i] S (ht _ (Ap _)) hS)) ?_));refine Xi ⟨[(1,sl Ae S),(11,.slice (.id 1002 1) (s.drv.map Cb)),(12,vi (s.drv.map Cb).length),(13,vi i)],[(1000,.cells (srM roots C A s dec 1004 st.length)),(1001,.tok 6 s.infs.length),(1002,.tok 1 s.drv.length),(1003,.map DY (D0 0 s.infs)),(1004,.arr 1 (st.map AT))],Aa⟩ (Yi ⟨Z4,Z5,Fh,Az (by kernel_rfl)⟩ ?_)
  refine Yi (Ii i (by omega)) ?_;refine Xi ⟨i+1,by omega,fun j u hj hu=>by
    by_cases e:j=i
    ·subst e;rw[Ge n1]at hu;cases hu;exact h2
    ·exact i2 j u (by omega) hu⟩ ?_
  exact⟨Dl s.drv.length i (by omega),Z4,Z5,Fh,Az (by kernel_rfl)⟩
 have h1:¬((i:Int)<((s.drv.map Cb).length:Int)):=h1;have n1:=KC h1;have eE:Oo s.drv S=none:=Xj fun t ht=>by
  obtain⟨j,hj⟩:=Ca.1 ht
  have:=(At.1 hj).1
  exact i2 j t (by have q:=h1;rw[Lm]at q;omega) hj
 exact Xi _ (Yi (.refl _) (Yi (show AV.tup [vi 0,vb false]=VW s.drv S by unfold VW;rw[eE];rfl) rfl))
def Tq(l:List Cd)(q:Rq):Bool:=l.any fun d=>decide (d.rel.path=q.path)&&!has q.set d.place
theorem UV{f:Rq→Nat→Nd}{P:Nd→Bool}:∀{l:List Rq} {b i:Nat} {q:Rq},l[i]?=some q→P (f q (b+i))=true→(∀k u,k<i→l[k]?=some u→P (f u (b+k))=false)→(Mi f b l).find? P=some (f q (b+i))
 | [],_,_,_,h,_,_=>by simp at h
 |u::l,b,0,q,h,he,_=>by
  cases h
  unfold Mi;rw[Fx,show P (f u b)=true from he];rfl
 |u::l,b,i+1,q,h,he,hn=>by
  unfold Mi;have h0:P (f u b)=false:=hn 0 u (by omega) rfl;rw[Fx,h0]
  have:=UV (f:=f) (P:=P) (l:=l) (b:=b+1) (i:=i) (q:=q) (by simpa using h) (by rw[show b+1+i=b+(i+1) by omega];exact he) (fun k v hk hv=>by
   rw[show b+1+k=b+(k+1) by omega];exact hn (k+1) v (by omega) (by simpa using hv))
  rw[show b+1+i=b+(i+1) by omega]at this;exact this
theorem Oz{f:Rq→Nat→Nd}{P:Nd→Bool}:∀{l:List Rq} {b:Nat},(∀k u,l[k]?=some u→P (f u (b+k))=false)→(Mi f b l).find? P=none
 | [],_,_=>rfl
 |u::l,b,h=>by
  unfold Mi;have h0:P (f u b)=false:=h 0 u rfl;rw[Fx,h0];exact Oz fun k v hv=>by rw[show b+1+k=b+(k+1) by omega];exact h (k+1) v (by simpa using hv)
def zf:AV:=.agg [vs ⟨#[]⟩,.v (.slice none 0 0),vs ⟨#[]⟩,vi 0,vi 0]
def ns(o:Option Nd):AV:=match o with | some n=>.tup [.agg (Ba n),vb true] | none=>.tup [zf,vb false]
section
variable {dec:List Cd}{c:Cd}{i:Nat}
theorem fc(hi:i<c.rel.reqs.length)(hn:∀k q,k<i→c.rel.reqs[k]?=some q→Tq (dec++[c]) q=false){j:Nat}(hj:j<(dec++[c]).length)(h1:(dec++[c])[j].rel.path=c.rel.reqs[i].path)(h2:has c.rel.reqs[i].set (dec++[c])[j].place=false) :
  Eb dec c=some ⟨c.rel.reqs[i],c.rel.path,c.place,(i:Nat)⟩:=by
 have:=UV (f:=fun q i=>⟨q,c.rel.path,c.place,(i:Nat)⟩) (P:=aN (dec++[c])) (l:=c.rel.reqs) (b:=0) (i:=i) (q:=c.rel.reqs[i]) (Ge hi)
  (Bc.2 ⟨_,Ap hj,by rw[Ax h1,h2];rfl⟩) (fun k u hk hu=>hn k u hk hu)
 unfold Eb PZ;rw[this,Bi]
theorem fe(hn:∀(k:Nat) (q:Rq),c.rel.reqs[k]?=some q→Tq (dec++[c]) q=false):Eb dec c=none:=by
 unfold Eb PZ;exact Oz fun k u hu=>hn k u hu
theorem gR{q:Rq}(h:∀(m:Nat) (d:Cd),(dec++[c])[m]?=some d→(decide (d.rel.path=q.path)&&!has q.set d.place)=false):Tq (dec++[c]) q=false:=by
 unfold Tq;rw[Fs];intro d hd;obtain⟨m,hm⟩:=Ca.1 hd;rw[h m d hm];decide
end
theorem s87(n:Nd)(c:Cd)(hq:Ci n.rq.set):PC 121 [.agg (Ba n),.cptr (AF c)] (vb (!has n.rq.set c.place)):=by
 refine Ps ⟨[2],[],[],[],[],[],[],[],[],[],[]⟩ Tryz.func121 rfl (Nz rfl) ?_;refine BH (Bt (has n.rq.set c.place)) (fun h1=>?_) (fun h1=>?_)
 ·have h1:(has n.rq.set c.place)=true:=h1;refine Xi .pure (Xi _ (Yi (cb h1 (qc n.rq.set c.place hq)) ?_));exact .of_eq (show vb false=vb (!has n.rq.set c.place) by rw[h1];rfl)
 have h1:(has n.rq.set c.place)=false:=h1;refine Xi .pure (Xi _ (Yi (cb h1 (qc n.rq.set c.place hq)) ?_));exact .of_eq (show vb true=vb (!has n.rq.set c.place) by rw[h1];rfl)
theorem y9(roots:List Rq)(C A:List (Value×AV))(s:SS)(dec:List Cd)(st:List (List Sk))(c:Cd)(hd:dec.length≤1073741823)(hr:c.rel.reqs.length≤1073741824)(hq:∀q∈c.rel.reqs,Ci q.set):Be Tryz.prog 125 [.ref 1000 0,.agg (AF c)] (Aj (I2 roots C A s dec st) Aa) fun r h'=>r=ns (Eb dec c)∧h'=Aj (I2 roots C A s dec st) Aa:=by
 have hd:dec.length≤1073741823:=hd;have hdl:(dec++[c]).length=dec.length+1:=by simp
 refine Co (MA ⟨[3],[],[],[],[],[],[],[],[(23,3)],[],[4,8,9]⟩) [(1000,1000),(1001,1001),(1002,1002),(1003,1003),(1004,1004)] rfl CD hm rfl Tryz.func125 (by kernel_rfl) rfl (Nz rfl) (by kernel_rfl) rfl ?_;refine Xi {i:Nat // i≤c.rel.reqs.length∧∀k q,k<i→c.rel.reqs[k]?=some q→Tq (dec++[c]) q=false} (Xi (fun q=>⟨[(0,.ref 1000 0),(3,.ref 3 0),(4,.ref 4 0),(12,sl AE c.rel.reqs),(13,vi (c.rel.reqs.map AE).length),(14,vi q.1)],[(3,.ro (AF c)),(4,.cells [vs ⟨#[]⟩,.v (.slice none 0 0),vs ⟨#[]⟩,vi 0,vi 0]),(1000,.cells (srM roots C A s dec 1004 st.length)),(1001,.tok 6 s.infs.length),(1002,.tok 1 s.drv.length),(1003,.map DY (D0 0 s.infs)),(1004,.arr 1 (st.map AT))],Aa⟩) (Xi (fun q=>c.rel.reqs.length-q.1) (Yi (Xi ⟨0,AL _,fun k q h=>absurd h (Du k)⟩ ?_) ?_)))
 ·exact⟨Z6,Z7,Fh,Az (by kernel_rfl)⟩
 intro⟨i,i1,i2⟩;have i1:i≤c.rel.reqs.length:=i1;have i2:∀k q,k<i→c.rel.reqs[k]?=some q→Tq (dec++[c]) q=false:=i2;refine Yi (fun h1=>?_) (fun h1=>?_)
 ·have h1:(i:Int)<((c.rel.reqs.map AE).length:Int):=h1;have n1:=Ka h1;refine Xi (AE c.rel.reqs[i]) (Yi (OO n1) (Yi rfl ?_));refine Yi (Nz rfl) ?_;refine Yi (Nz rfl) ?_;refine Xi ⟨[(0,.ref 1000 0),(3,.ref 3 0),(4,.ref 4 0),(6,vi i),(7,.ref 7 0),(12,sl AE c.rel.reqs),(13,vi (c.rel.reqs.map AE).length),(14,vi i)],[(3,.ro (AF c)),(4,.cells [vs ⟨#[]⟩,.v (.slice none 0 0),vs ⟨#[]⟩,vi 0,vi 0]),(7,.cells (AE c.rel.reqs[i])),(1000,.cells (srM roots C A s dec 1004 st.length)),(1001,.tok 6 s.infs.length),(1002,.tok 1 s.drv.length),(1003,.map DY (D0 0 s.infs)),(1004,.arr 1 (st.map AT))],Aa⟩ (Yi ⟨Z8,Z8,Fh,Az (by kernel_rfl)⟩ ?_)
  refine Xi _ (Xi _ (Yi (by kernel_rfl) (Yi (so dec (AU hd (by decide))) ?_)));refine Yi (Nz rfl) ?_;have b2:Dn 10 [(AF c)]∧(dec.map AF).length=(dec.map AF).length∧((dec.map AF).length+([(AF c)]:List (List AV)).length)*128≤140737488355328∧(dec.map AF).length+([(AF c)]:List (List AV)).length≤9223372036854775807:=⟨⟨rfl,trivial⟩,rfl,(by simp only[Lm,Au,AD];omega),(by simp only[Lm,Au,AD];omega)⟩;refine Yi b2 ?_;refine Yi (by kernel_rfl) ?_;refine Xi {j:Nat // j≤(dec++[c]).length∧∀m d,m<j→(dec++[c])[m]?=some d→(decide (d.rel.path=c.rel.reqs[i].path)&&!has c.rel.reqs[i].set d.place)=false} (Xi (fun q=>⟨[(0,.ref 1000 0),(3,.ref 3 0),(4,.ref 4 0),(6,vi i),(7,.ref 7 0),(12,sl AE c.rel.reqs),(13,vi (c.rel.reqs.map AE).length),(14,vi i),(26,.slice (.id 12300 10) ((dec++[c]).map AF)),(27,vi ((dec++[c]).map AF).length),(28,vi q.1)],[(3,.ro (AF c)),(4,.cells [vs ⟨#[]⟩,.v (.slice none 0 0),vs ⟨#[]⟩,vi 0,vi 0]),(7,.cells (AE c.rel.reqs[i])),(1000,.cells (srM roots C A s dec 1004 st.length)),(1001,.tok 6 s.infs.length),(1002,.tok 1 s.drv.length),(1003,.map DY (D0 0 s.infs)),(1004,.arr 1 (st.map AT)),(12300,.tok 10 ((dec++[c]).map AF).length)],Aa⟩) (Xi (fun q=>(dec++[c]).length-q.1) (Yi (Xi ⟨0,AL _,fun k q h=>absurd h (Du k)⟩ ?_) ?_)))
  ·exact⟨⟨Zr,Zr,Zr,Zr,Zr,Zr,Zr,Zr,⟨Us,rfl⟩,⟨(show vi ((dec.map AF++[AF c]:List (List AV)).length:Int)=vi (((dec++[c]).map AF).length:Int) by rw[AH];rfl),rfl⟩,Zr,Tv⟩,⟨Zr,Zr,Zr,Zr,Zr,Zr,Zr,Zr,⟨(show HO.tok 10 ((dec.map AF).length+[AF c].length)=.tok 10 ((dec++[c]).map AF).length by simp),rfl⟩,Tv⟩,Fh,Az (by kernel_rfl)⟩
  intro⟨j,j1,j2⟩;have j1:j≤(dec++[c]).length:=j1;have j2:∀m d,m<j→(dec++[c])[m]?=some d→(decide (d.rel.path=c.rel.reqs[i].path)&&!has c.rel.reqs[i].set d.place)=false:=j2;refine Yi (fun h3=>?_) (fun h3=>?_)
  ·have h3:(j:Int)<(((dec++[c]).map AF).length:Int):=h3;have n3:=Ka h3;refine Xi (AF ((dec++[c])[j])) (Yi (OO n3) (Yi rfl ?_));refine Yi (Nz rfl) ?_;refine Yi (Nz rfl) ?_;refine Yi (fun h4=>?_) (fun h4=>?_)
   ·have h4:(((dec++[c])[j]).rel.path:ByteArray)=c.rel.reqs[i].path:=h4;refine BH (Bt (has c.rel.reqs[i].set (dec++[c])[j].place)) (fun h5=>?_) (fun h5=>?_)
    ·have h5:(has c.rel.reqs[i].set (dec++[c])[j].place)=true:=h5;refine Xi .pure (Xi _ (Yi (cb h5 (qc c.rel.reqs[i].set (dec++[c])[j].place (hq _ (Ap _)))) ?_));refine Xi ⟨[(0,.ref 1000 0),(3,.ref 3 0),(4,.ref 4 0),(6,vi i),(7,.ref 7 0),(12,sl AE c.rel.reqs),(13,vi (c.rel.reqs.map AE).length),(14,vi i),(26,.slice (.id 12300 10) ((dec++[c]).map AF)),(27,vi ((dec++[c]).map AF).length),(28,vi j)],[(3,.ro (AF c)),(4,.cells [vs ⟨#[]⟩,.v (.slice none 0 0),vs ⟨#[]⟩,vi 0,vi 0]),(7,.cells (AE c.rel.reqs[i])),(1000,.cells (srM roots C A s dec 1004 st.length)),(1001,.tok 6 s.infs.length),(1002,.tok 1 s.drv.length),(1003,.map DY (D0 0 s.infs)),(1004,.arr 1 (st.map AT)),(12300,.tok 10 ((dec++[c]).map AF).length)],Aa⟩ (Yi ⟨Z11,Z9,Fh,Az (by kernel_rfl)⟩ ?_)
     refine Yi (Ii j (by omega)) ?_;refine Xi ⟨j+1,by omega,fun m d hm hd=>by
       by_cases e:m=j
       ·subst e;rw[Ge n3]at hd;cases hd;exact by rw[h5];simp
       ·exact j2 m d (by omega) hd⟩ ?_
     exact⟨by show(dec++[c]).length-(j+1)<(dec++[c]).length-j;omega,Z11,Z9,Fh,Az (by kernel_rfl)⟩
    have h5:(has c.rel.reqs[i].set (dec++[c])[j].place)=false:=h5;refine Xi .pure (Xi _ (Yi (cb h5 (qc c.rel.reqs[i].set (dec++[c])[j].place (hq _ (Ap _)))) ?_));refine Xi ⟨[(3,.ref 3 0),(4,.ref 4 0),(6,vi i),(7,.ref 7 0)],[(3,.ro (AF c)),(4,.cells [vs ⟨#[]⟩,.v (.slice none 0 0),vs ⟨#[]⟩,vi 0,vi 0]),(7,.cells (AE c.rel.reqs[i])),(1000,.cells (srM roots C A s dec 1004 st.length)),(1001,.tok 6 s.infs.length),(1002,.tok 1 s.drv.length),(1003,.map DY (D0 0 s.infs)),(1004,.arr 1 (st.map AT))],Aa⟩ (Yi ⟨Z4,Z8,Fh,Az (by kernel_rfl)⟩ ?_)
    refine Yi (Nz rfl) ?_;refine Yi (Nz rfl) ?_;refine Yi (Nz rfl) ?_;have eC:=fc (dec:=dec) (c:=c) n1 i2 n3 h4 h5;exact Xi _ (Yi (.refl _) (Yi (show AV.tup [.agg (Ba ⟨c.rel.reqs[i],c.rel.path,c.place,(i:Nat)⟩),vb true]=ns (Eb dec c) by rw[eC];rfl) rfl))
   have h4:¬(((dec++[c])[j]).rel.path:ByteArray)=c.rel.reqs[i].path:=h4;refine Xi ⟨[(0,.ref 1000 0),(3,.ref 3 0),(4,.ref 4 0),(6,vi i),(7,.ref 7 0),(12,sl AE c.rel.reqs),(13,vi (c.rel.reqs.map AE).length),(14,vi i),(26,.slice (.id 12300 10) ((dec++[c]).map AF)),(27,vi ((dec++[c]).map AF).length),(28,vi j)],[(3,.ro (AF c)),(4,.cells [vs ⟨#[]⟩,.v (.slice none 0 0),vs ⟨#[]⟩,vi 0,vi 0]),(7,.cells (AE c.rel.reqs[i])),(1000,.cells (srM roots C A s dec 1004 st.length)),(1001,.tok 6 s.infs.length),(1002,.tok 1 s.drv.length),(1003,.map DY (D0 0 s.infs)),(1004,.arr 1 (st.map AT)),(12300,.tok 10 ((dec++[c]).map AF).length)],Aa⟩ (Yi ⟨Z11,Z9,Fh,Az (by kernel_rfl)⟩ ?_)
   refine Yi (Ii j (by omega)) ?_;refine Xi ⟨j+1,by omega,fun m d hm hd=>by
     by_cases e:m=j
     ·subst e;rw[Ge n3]at hd;cases hd;exact by rw[Aq h4];rfl
     ·exact j2 m d (by omega) hd⟩ ?_
   exact⟨by show(dec++[c]).length-(j+1)<(dec++[c]).length-j;omega,Z11,Z9,Fh,Az (by kernel_rfl)⟩
  have h3:¬((j:Int)<(((dec++[c]).map AF).length:Int)):=h3;have n3:=KC h3;refine Yi (Ii i (by omega)) ?_;have hmq:Tq (dec++[c]) c.rel.reqs[i]=false:=gR fun m d hd=>j2 m d (by have:=(At.1 hd).1;have q:=h3;rw[Lm]at q;omega) hd;refine Xi ⟨i+1,by omega,fun k q hk vG=>by
    by_cases e:k=i
    ·subst e;rw[Ge n1]at vG;cases vG;exact hmq
    ·exact i2 k q (by omega) vG⟩ ?_
  exact⟨Dl c.rel.reqs.length i (by omega),Z6,Z7,Fh,Az (by kernel_rfl)⟩
 have h1:¬((i:Int)<((c.rel.reqs.map AE).length:Int)):=h1;have n1:=KC h1;refine Yi (Nz rfl) ?_;refine Yi (Nz rfl) ?_;have eC:=fe (dec:=dec) (c:=c) fun k q hk=>i2 k q (by have:=(At.1 hk).1;have q:=h1;rw[Lm]at q;omega) hk;exact Xi _ (Yi (.refl _) (Yi (show AV.tup [zf,vb false]=ns (Eb dec c) by rw[eC];rfl) rfl))
end Go.Eng
