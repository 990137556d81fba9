/- Lemmas for the claims of this seat, without a condition: part 24 (S15, S1, S2, S3, S4, S5, S8a). -/
import Derived.Test.YteaiieomnhbmgaaGreatDoorA03
import Derived.Test.YteaiieomnhbmgaaGreatDoorA22
namespace Go.Proofs
open Go.Shelf Go.RowKit Go.Lib Go.Sort
abbrev OneC:Type:={v:Value // v.oneCell'=true}
def SlA:Type:=ByteArray×OneC×OneC×OneC
instance:Inhabited SlA:=⟨⟨ByteArray.empty,⟨.bool false,rfl⟩,⟨.bool false,rfl⟩,⟨.bool false,rfl⟩⟩⟩
def encSlA(x:SlA):List Value:=[.string x.1,x.2.1.1,x.2.2.1.1,x.2.2.2.1]
def cfSlA(x y:SlA):Int:=Lib.compareBytes x.1.data.toList y.1.data.toList
abbrev CmpSlG(cf:SlA->SlA->Int)(k:Nat):Prop:=∀(x y:SlA) (W:World),Calls Tryz.prog k #[.agg #[.string x.1,x.2.1.1,x.2.2.1.1,x.2.2.2.1],.agg #[.string y.1,y.2.1.1,y.2.2.1.1,y.2.2.2.1]] W fun e w'=>e=.returned (.int .i64 (cf x y))/\∃q os',w'=grow (W.drewN q) os'
abbrev CmpSlA(k:Nat):Prop:=CmpSlG cfSlA k
theorem Tryz.closure139:CmpSlA 139:=fun x y W=>by
 have hcon:=fun W'=>Any.strings_Compare Tryz.layCompare x.1 y.1 W';obtain⟨a,⟨b,hb⟩,⟨c,hc⟩,⟨d,hd⟩⟩:=x;obtain⟨a',⟨b',rr⟩,⟨c',ti⟩,⟨d',oe⟩⟩:=y;dsimp only at hcon
 change ∀W',Calls Tryz.prog 140 _ _ _ at hcon
 unfold cfSlA;dsimp only;generalize Lib.compareBytes a.data.toList a'.data.toList=r at hcon⊢
 go_enter Tryz.func139,Tryz.ntmps139
 go_wp2_with (go_at_call 140;refine(hcon _).mono ?_;rintro e w' ⟨rfl,rfl⟩)
 go_ret
 exact⟨rfl,0,_,by rw[alloc_eq_grow,alloc_eq_grow,grow_grow];rfl⟩
end Go.Proofs
set_option maxHeartbeats 4000000
namespace Go.Eng
open Go.Proofs Go.Shelf Go.RowKit Go.Lib Go.Sort
theorem xU(x y:SlA):ltOf cfSlA x y=Ea x.1 y.1:=UI _ _
section
variable {cf:SlA->SlA->Int}(Dz:∀x y,ltOf cf x y=Ea x.1 y.1)
include Dz
theorem nq:SWO (ltOf cf) where
 irrefl x:=by rw[Dz];exact Df _
 trans x y z h1 h2:=by rw[Dz]at *;exact D2 h1 h2
 ntrans x y z h1 h2:=by
  rw[Dz]at *
  rw[AM];intro h;cases vL:Ea y.1 x.1 with
  |true=>have:=D2 vL h;rw[h2]at this;cases this
  |false =>
   have e:=H8 h1 vL;rw[e]at h;rw[h2]at h;cases h
theorem Adj(k:Nat)(hc:CmpSlG cf k)(eg:∀args w,(callFunc k args).run Tryz.prog w=.ok (.enter k args) w)(l:List Sl)(hl:B9 l)(lim:Nat)(ZX:lim<100) :
  A9 Tryz.prog 184 [.msl 1000 l.length,vi 0,vi l.length,vi lim,.v (Yb k)] (Ao [(1000,.arr 4 (l.map Am))] Af) fun r h' =>
   r=.tup []/\∃l' : List Sl,l'.Perm l/\l'.Pairwise (fun x y=>Ea y.path x.path=false)/\h'=Ao [(1000,.arr 4 (l'.map Am))] Af:=by
 have hl:l.length<=1073741824:=hl;have hE:FQ Tryz.prog 184:=Zy 184 Tryz.func184 Wk rfl;have HT:=JU (P:=Tryz.prog) (f:=184) (α:=SlA) (rest:=[.int .i64 0,.int .i64 l.length,.int .i64 lim,Yb k]) hE Am encSlA (k:=4) (fun _=>rfl) (fun _=>rfl) (ltOf cf) (fun x a=>a.1=x.path) l ch ?_ ?_ ?_
 .refine⟨hE,fun g w vals q1 q2 q3=>(HT.2 g w vals q1 q2 q3).mono fun _ _ ⟨v,r,h',g',e1,⟨e2,l',p1,⟨al,a1,a2,a3⟩,p2⟩,rest⟩=>⟨v,r,h',g',e1,⟨e2,l',p1,?_,p2⟩,rest⟩⟩;rw[AX]at a3⊢;intro i j hi hj PO
  have:=a3 i j ch ch PO
  rw[Dz]at this;have e1:=a2 i _ _ (Ge hi) (Ge ch);have e2:=a2 j _ _ (Ge hj) (Ge ch);rw[<-e1,<-e2];exact this
 .intro x hx g w vs hr
  match vs,hr with
  | [a,b,c,d],hr =>
   have h1:=(hr.2.2 0 (Go.Eng.vs x.path) a rfl rfl).v_eq;subst h1;exact⟨⟨x.path,⟨b,hr.2.1 b B0⟩,⟨c,hr.2.1 c B0⟩,⟨d,hr.2.1 d B0⟩⟩,rfl,rfl⟩
  | [],hr=>have:=hr.1;simp at this
  | [_],hr=>have:=hr.1;simp at this
  | [_,_],hr=>have:=hr.1;simp at this
  | [_,_,_],hr=>have:=hr.1;simp at this
  |_::_::_::_::_::_,hr=>have:=hr.1;simp at this
 .intro w b cap d hH hb EM hdl;have lr:CmpLays Tryz.prog k #[] encSlA 4 cf b 0 d.size w:=fun _ _ _ _ x y=>hc x y _;have hp:=AnyQ.pdqsortCmpFunc_all Tryz.layPdqSel 4 Tryz.isAgg48 Tryz.sizeOf48 encSlA cf k #[] (nq Dz) b 0 cap d w eg lr ⟨fun _=>rfl,fun x v hv=>by
    simp only[encSlA,Az,Mu,or_false]at hv;rcases hv with rfl | rfl | rfl | rfl
    .rfl
    .exact x.2.1.2
    .exact x.2.2.1.2
    .exact x.2.2.2.2,hH,hb⟩ (d.size+1) 0 d.size lim d w ch rfl (SWK.start hH) (AE _) (Aj _) EM ch (Or.inl rfl)
  rw[hdl]at hp⊢;refine hp.mono ?_
  rintro e w' ⟨rfl,n,os,rfl⟩
  have h:=pdq_sorts (ltOf cf) (nq Dz) d 0 d.size lim true true (AE _) (Aj _) (Or.inl rfl);rw[hdl]at h;exact⟨rfl,_,n,os,h.1,h.2,rfl⟩
 .intro e w;subst e;exact AnyF.pdqsortCmpFunc_none Tryz.layPdqSel none 0 lim (Yb k) w
end
theorem K5{l l' : List Sl}(h1:XE l)(h2:XE l')(hm:∀y,y∈l↔y∈l'):l=l':=by
 induction l generalizing l' with
 |nil =>
  cases l' with
  |nil=>rfl
  |cons y l'=>have:=(hm y).2 (Ab ..);cases this
 |cons x l ih =>
  cases l' with
  |nil=>have:=(hm x).1 (Ab ..);cases this
  |cons y l' =>
   obtain⟨a1,a2⟩:=BL.1 h1;obtain⟨b1,b2⟩:=BL.1 h2;have e:x=y:=by
    rcases Az.1 ((hm x).1 (Ab ..))with e | e
    .exact e
    .rcases Az.1 ((hm y).2 (Ab ..))with e2 | e2
     .exact e2.symm
     .have c1:=b1 x e;have c2:=a1 y e2
      have:=D2 c1 c2
      rw[Df]at this;cases this
   subst e
   congr 1
   refine ih a2 b2 fun z=>⟨fun hz=>?_,fun hz=>?_⟩
   .rcases Az.1 ((hm z).1 (Ah _ hz))with e | e
    .subst e
     have:=a1 z hz
     rw[Df]at this;cases this
    .exact e
   .rcases Az.1 ((hm z).2 (Ah _ hz))with e | e
    .subst e
     have:=b1 z hz
     rw[Df]at this;cases this
    .exact e
theorem nh{l l' : List Sl}(hn:(l.map (·.path)).Nodup)(hp:l'.Perm l)(hs:l'.Pairwise fun x y=>Ea y.path x.path=false):l'=D1 l:=by
 refine K5 ?_ (LB hn) fun y=>by rw[hp.mem_iff,Gr]
 have ZZ : (l'.map (·.path)).Nodup:=(hp.map (·.path)).nodup_iff.2 hn;show l'.Pairwise _;rw[AX]at hs⊢;intro i j hi hj PO;cases hb:Ea l'[i].path l'[j].path with
 |true=>rfl
 |false =>
  have e:=H8 hb (hs i j hi hj PO)
  have:=(AX.1 ZZ) i j (by simpa using hi) (by simpa using hj) PO
  simp at this;exact absurd e this
theorem yI{cf:SlA->SlA->Int}(Dz:∀x y,ltOf cf x y=Ea x.1 y.1)(k:Nat)(hc:CmpSlG cf k)(eg:∀args w,(callFunc k args).run Tryz.prog w=.ok (.enter k args) w)(l:List Sl)(hl:B9 l)(hn:(l.map (·.path)).Nodup) :
  A9 Tryz.prog 133 [.msl 1000 l.length,.v (Yb k)] (Ao [(1000,.arr 4 (l.map Am))] Af) fun r h' =>
   r=.tup []/\h'=Ao [(1000,.arr 4 ((D1 l).map Am))] Af:=by
 obtain⟨lim,ZX,hb⟩:=kj l.length hl;refine Cq (MK Ee) [(1000,1000)] rfl CQ hm rfl Tryz.func133 Wk rfl (Nz rfl) Wk rfl (Xi .pure (Xi _ (Yi (hb) (Xi (.gen [(1000,1000)] 0) (Yi rfl ((Adj Dz k hc eg l hl lim ZX).imp ?_))))));intro r h' hq;refine CN hq.2 (fun l' QU=>?_);have e:=nh hn QU.1 QU.2.1;refine Xi (.tup []) (Yi ?_ (Yi rfl ?_))
 .exact .refl _
 .rw[QU.2.2,e];rfl
theorem s47(k:Nat)(hc:CmpSlA k)(eg:∀args w,(callFunc k args).run Tryz.prog w=.ok (.enter k args) w)(l:List Sl)(hl:B9 l)(hn:(l.map (·.path)).Nodup) :
  A9 Tryz.prog 133 [.msl 1000 l.length,.v (Yb k)] (Ao [(1000,.arr 4 (l.map Am))] Af) fun r h' =>
   r=.tup []/\h'=Ao [(1000,.arr 4 ((D1 l).map Am))] Af :=
 yI xU k hc eg l hl hn
end Go.Eng
namespace Go.Eng
open Go.Proofs
variable {k:Nat}{i:Nf}{l:List Nf}{caps:List AV}{j fF:Nat}(roots:List Rq)(C A:List (Value×AV))(s:SS)(dec:List Cd)(st:List (List Sk))(c:Cd)(S:List Sl)(p:ByteArray)(n:Nd)
abbrev AT:List AV:=vi c.place::AF c.rel
abbrev BF:List AV:=[vs n.rq.path,sl AC n.rq.set,vs n.path,vi n.place,vi n.number]
abbrev Bn(l:List Sk):List AV:=[sl Cy l]
abbrev CU(i:Nat):List AV:=[vi (i:Nat)]
def FI:E2:=⟨true,[.int .i64,.str,.int .i64,.int .i64,.int .i64,.int .i64]⟩
def Mp(i:Nf):Value:=.agg [.int .i64 i.kind,.string i.path,.int .i64 i.place,.int .i64 i.number,.int .i64 i.left,.int .i64 i.right].toArray
def FN:Nat->List Nf->List (Value×AV)
 |_,[]=>[]
 |k,i::l=>(Mp i,vi (k:Nat))::FN (k+1) l
abbrev z7(n:Nat):List AV :=
 [sl Ba roots,.cmap Cm C,.cmap Cm A,.slice (.id 1001 6) (s.infs.map Dq),.slice (.id 1002 1) (s.drv.map Dg),.mref 1003,vb s.full,sl AT dec,sl Am (AR dec),.msl 1004 n]
abbrev srM(k n:Nat):List AV :=
 [sl Ba roots,.cmap Cm C,.cmap Cm A,.slice (.id 1001 6) (s.infs.map Dq),.slice (.id 1002 1) (s.drv.map Dg),.mref 1003,vb s.full,sl AT dec,sl Am (AR dec),.msl k n]
abbrev JK:List (Nat×HO) :=
 [(1000,.cells (z7 roots C A s dec st.length)),(1001,.tok 6 s.infs.length),(1002,.tok 1 s.drv.length),(1003,.map FI (FN 0 s.infs)),(1004,.arr 1 (st.map Bn))]
theorem Ada(hs:CV caps)(l:List (Cd))(p:Cd->Bool)(hF:∀x∈l,PC fF ([.agg (AT x)]++caps) (vb (p x)))(hl:l.length<9223372036854775807) :
  PC 339 [sl AT l,.clo fF caps] (vi (Jv p l 0)):=by
 refine Ps Ee Tryz.func339 rfl (Nz rfl) (Xi {i:Nat // i<=l.length/\∀j (hj:j<l.length),j<i->p l[j]=false} (Xi (fun i=>⟨[(0,sl AT l),(1,.clo fF caps),(7,vi (l.map AT).length),(8,vi i.1)],[],Af⟩) (Xi (fun i=>l.length-i.1) (Yi (Xi ⟨0,by simp⟩ ?_) ?_))))
 .exact⟨⟨Zr,⟨rfl,hs.ids _⟩,Zr,Zr,Tv⟩,Tv,Fh,Tv⟩
 .intro⟨i,h1,h2⟩;refine Yi ?_ ?_
  .intro h;have h:i<l.length:=by simpa using h
   have hg:l[i]?=some l[i]:=Ge h;refine Xi (AT l[i]) (Yi (Yi (Nn i) (by simp[hg])) (Yi rfl (yN ?_)));have Ca:∀h,PC fF ([.agg (AT l[i])]++caps.map (str0 h)) (vb (p l[i])):=fun h=>by rw[hs.map];exact hF l[i] (Aq _)
   cases hp:p l[i]with
   |true =>
    rw[hp]at Ca;refine Xi .pure (Xi (vb true) (Yi (Ca _) ?_));rw[HC h (fun j hj JG=>h2 j hj JG) hp,Ew];exact .refl _
   |false =>
    rw[hp]at Ca;refine Xi .pure (Xi (vb false) (Yi (Ca _) (Yi (Ii i ch) (Xi ⟨i+1,by omega,fun j hj JG=>?_⟩ ?_))))
    .by_cases e:j=i
     .subst e;exact hp
     .exact h2 j hj ch
    .exact⟨Dl l.length i ch,⟨Zr,⟨rfl,hs.ids _⟩,Zr,Zr,Tv⟩,Tv,Fh,Tv⟩
  .intro h;have h:¬i<l.length:=by simpa using h
   rw[Gk fun j hj=>h2 j hj ch];exact .refl _
theorem s86(hs:CV caps)(l:List (Nd))(p:Nd->Bool)(hF:∀x∈l,PC fF ([.agg (BF x)]++caps) (vb (p x)))(hl:l.length<9223372036854775807) :
  PC 187 [sl BF l,.clo fF caps] (vi (Jv p l 0)):=by
 refine Ps Ee Tryz.func187 rfl (Nz rfl) (Xi {i:Nat // i<=l.length/\∀j (hj:j<l.length),j<i->p l[j]=false} (Xi (fun i=>⟨[(0,sl BF l),(1,.clo fF caps),(7,vi (l.map BF).length),(8,vi i.1)],[],Af⟩) (Xi (fun i=>l.length-i.1) (Yi (Xi ⟨0,by simp⟩ ?_) ?_))))
 .exact⟨⟨Zr,⟨rfl,hs.ids _⟩,Zr,Zr,Tv⟩,Tv,Fh,Tv⟩
 .intro⟨i,h1,h2⟩;refine Yi ?_ ?_
  .intro h;have h:i<l.length:=by simpa using h
   have hg:l[i]?=some l[i]:=Ge h;refine Xi (BF l[i]) (Yi (Yi (Nn i) (by simp[hg])) (Yi rfl (yN ?_)));have Ca:∀h,PC fF ([.agg (BF l[i])]++caps.map (str0 h)) (vb (p l[i])):=fun h=>by rw[hs.map];exact hF l[i] (Aq _)
   cases hp:p l[i]with
   |true =>
    rw[hp]at Ca;refine Xi .pure (Xi (vb true) (Yi (Ca _) ?_));rw[HC h (fun j hj JG=>h2 j hj JG) hp,Ew];exact .refl _
   |false =>
    rw[hp]at Ca;refine Xi .pure (Xi (vb false) (Yi (Ca _) (Yi (Ii i ch) (Xi ⟨i+1,by omega,fun j hj JG=>?_⟩ ?_))))
    .by_cases e:j=i
     .subst e;exact hp
     .exact h2 j hj ch
    .exact⟨Dl l.length i ch,⟨Zr,⟨rfl,hs.ids _⟩,Zr,Zr,Tv⟩,Tv,Fh,Tv⟩
  .intro h;have h:¬i<l.length:=by simpa using h
   rw[Gk fun j hj=>h2 j hj ch];exact .refl _
theorem yG(hs:CV caps)(l:List (Cd))(p:Cd->Bool)(hF:∀x∈l,PC fF ([.agg (AT x)]++caps) (vb (p x)))(hl:B9 l) :
  PC 302 [sl AT l,.clo fF caps] (vb (l.any p)):=by
 refine Ps Ee Tryz.func302 rfl (Nz rfl) ?_;have hi:=Ada hs l p hF (by unfold B9 at hl;omega);have Ca:∀h,PC 339 [sl AT l,.clo fF (caps.map (str0 h))] (vi (Jv p l 0)):=fun h=>by rw[hs.map];exact hi
 refine Xi .pure (Xi _ (Yi (Ca _) ?_));have ha:=Hy (p:=p) l 0 (Bs 0);refine Yi ?_ ?_
 .intro h;rw[<-ha,Ax h];exact .refl _
 .intro h;rw[<-ha,AB h];exact .refl _
theorem yJ(l:List Cd)(hl:B9 l):A9 Tryz.prog 192 [sl AT l] (Ao [] Af) fun r h'=>r=.slice (.id 2000 10) (l.map AT)/\h'=Ao [(2000,.tok 10 (l.map AT).length)] Af:=by
 refine Cq (MK (plT 10)) [(2,2000)] rfl CQ hm rfl Tryz.func192 Wk rfl (Nz rfl) Wk rfl ?_;have Ho:Cn 10 (l.map AT)/\([]:List (List AV)).length=0/\(([]:List (List AV)).length+(l.map AT).length)*128<=140737488355328/\([]:List (List AV)).length+(l.map AT).length<=9223372036854775807:=by
  refine⟨DZ (enc:=AT) (n:=10) (fun _=>rfl) l,rfl,?_,?_⟩<;>simp only[At,Lm]<;>unfold B9 at hl<;>omega
 have e2:HO.tok 10 (([]:List (List AV)).length+(l.map AT).length)=.tok 10 (l.map AT).length:=by rw[At,Bf]
 have e3:AV.slice (.id 2000 10) ([]++l.map AT)=.slice (.id 2000 10) (l.map AT):=rfl;have full:∀st:St,(∃s:LS,St.le (MK (plT 10)) st s/\True)->True:=fun _ _=>trivial;refine Xi 0 (Xi 0 (Yi ?_ ?_))
 .intro _;refine cU [(0,sl AT l)] [] Z1 Tv (Xi 2 (Yi Ho ?_));exact Xi _ (Yi (.refl _) (Yi e3 (Aa (fun o=>Ao [(2000,o)] Af) e2)))
 .intro h;refine Yi ?_ ?_
  .refine Xi ⟨[],[],Af⟩ (Yi ⟨trivial,trivial,fun _=>.inl rfl,BN Wk⟩ ?_);refine Xi 0 ?_;exact Xi _ (Yi (.refl _) (Yi (show AV.slice (.id 2000 10) []=_ by rw[h]) (show Ao [(2000,HO.tok 10 0)] Af=_ by rw[h];rfl)))
  .refine cU [(0,sl AT l)] [] Z1 Tv (Xi 2 (Yi Ho ?_));exact Xi _ (Yi (.refl _) (Yi e3 (Aa (fun o=>Ao [(2000,o)] Af) e2)))
theorem Tc:∀{l:List Nf} {k:Nat} {kx:Value} {a:AV},(kx,a)∈FN k l↔∃j i,l[j]?=some i/\kx=Mp i/\a=vi ((k+j:Nat):Int)
 | [],k,kx,a=>by simp[FN]
 |y::l,k,kx,a=>by
  unfold FN;rw[Az,Tc];constructor
  .rintro(h | ⟨j,i,h1,h2,h3⟩)
   .cases h;exact⟨0,y,rfl,rfl,rfl⟩
   .exact⟨j+1,i,h1,h2,by rw[h3,show k+1+j=k+(j+1) by omega]⟩
  .rintro⟨j,i,h1,h2,h3⟩
   cases j with
   |zero=>cases h1;exact .inl (by rw[h2,h3];rfl)
   |succ j=>exact .inr ⟨j,i,h1,h2,by rw[h3,show k+1+j=k+(j+1) by omega]⟩
theorem WS{a b:Nf}(h:Mp a=Mp b):a=b:=by
 obtain⟨a1,a2,a3,a4,a5,a6⟩:=a;obtain⟨b1,b2,b3,b4,b5,b6⟩:=b;unfold Mp at h;simp at h;obtain⟨rfl,rfl,rfl,rfl,rfl,rfl⟩:=h
 rfl
theorem xS(h:My i 0 l=some k):(Mp i,vi (k:Nat))∈FN 0 l:=by
 obtain⟨j,e,hj⟩:=NI h;exact Tc.2 ⟨j,i,hj,rfl,by rw[e]⟩
theorem pM(hn:l.Nodup)(h:My i 0 l=some k):∀b,(Mp i,b)∈FN 0 l->b=vi (k:Nat):=fun b hb=>by
 obtain⟨j,e,hj⟩:=NI h;obtain⟨j',i',h1,h2,h3⟩:=Tc.1 hb
 have:=WS h2
 subst this;obtain⟨a1,a2⟩:=Au.1 hj;obtain⟨b1,b2⟩:=Au.1 h1
 have:j'=j:=(List.getElem_inj hn).1 (b2.trans a2.symm)
 subst this;rw[h3,e]
theorem rN(h:My i 0 l=none):∀a,(Mp i,a)∉FN 0 l:=fun a ha=>by
 obtain⟨j,i',h1,h2,_⟩:=Tc.1 ha
 have:=WS h2
 subst this;exact Ri h (Aw h1)
theorem eP:∀(l:List Nf) (k:Nat) (i:Nf),FN k (l++[i])=FN k l++[(Mp i,vi ((k+l.length:Nat):Int))]
 | [],k,i=>by simp[FN]
 |y::l,k,i=>by
  show(Mp y,_)::FN (k+1) (l++[i])=_;rw[eP l (k+1) i];simp[FN,show k+1+l.length=k+(l.length+1) by omega]
theorem tX(h:My i 0 l=none):EX (FN 0 l) (Mp i) (vi ((l.map Dq).length:Int))=FN 0 (l++[i]):=by
 rw[M1 (rN h),eP,Lm,Bf]
theorem Zd{s:SS}{l:List Tm}(h:My i 0 s.infs=some k):E5 s i l=(k,s):=by unfold E5;rw[h]
theorem Wh{s:SS}{l:List Tm}(h:My i 0 s.infs=none)(hf:65536<=s.infs.length):E5 s i l=(s.infs.length-1,⟨s.infs,s.drv,true⟩):=by unfold E5;rw[h];exact Al hf
theorem Zc{s:SS}{l:List Tm}(h:My i 0 s.infs=none)(hf:¬65536<=s.infs.length):E5 s i l=(s.infs.length,⟨s.infs++[i],s.drv++[l],s.full⟩):=by unfold E5;rw[h];exact Ai hf
section
variable {roots:List Rq}{C A:List (Value×AV)}{s s' : SS}{dec:List Cd}{st:List (List Sk)}{i:Nf}{l:List Tm}
theorem jW{z:Int}(e:E5 s i l=(k,s'))(hz:z=k):vi z=vi ((E5 s i l).1:Nat)/\Ao (JK roots C A s' dec st) Af=Ao (JK roots C A (E5 s i l).2 dec st) Af:=by rw[e,hz];exact Zr
theorem vT(h:My i 0 s.infs=none):Ao [(1000,.cells [sl Ba roots,.cmap Cm C,.cmap Cm A,.slice (.id 1001 6) (s.infs.map Dq++[Dq i]),.slice (.id 1002 1) (s.drv.map Dg++[Dg l]),.mref 1003,vb s.full,sl AT dec,sl Am (AR dec),.msl 1004 st.length]),
      (1001,.tok 6 ((s.infs.map Dq).length+[Dq i].length)),(1002,.tok 1 ((s.drv.map Dg).length+[Dg l].length)),(1003,.map FI (EX (FN 0 s.infs) (Mp i) (vi ((s.infs.map Dq).length:Int)))),(1004,.arr 1 (st.map Bn))] Af=Ao (JK roots C A ⟨s.infs++[i],s.drv++[l],s.full⟩ dec st) Af:=by
  have e1:s.infs.map Dq++[Dq i]=(s.infs++[i]).map Dq:=by simp
  have e2:s.drv.map Dg++[Dg l]=(s.drv++[l]).map Dg:=by simp
  have e3:(s.infs.map Dq).length+[Dq i].length=(s.infs++[i]).length:=by simp
  have e4:(s.drv.map Dg).length+[Dg l].length=(s.drv++[l]).length:=by simp
  rw[e1,e2,e3,e4,tX h]
end
theorem yH:PC 303 [.agg (AT c),.cptr [vs p]] (vb (decide (c.rel.path=p))):=by
 refine Ps (pC [2] []) Tryz.func303 rfl (Nz rfl) (Yi (fun h1=>?_) (fun h1=>?_))
 .exact .of_eq (show vb true=vb (decide (c.rel.path=p)) by rw[Ax h1])
 exact .of_eq (show vb false=vb (decide (c.rel.path=p)) by rw[AB h1])
theorem yF(t:Tm)(p:ByteArray):PC 260 [.agg (AN t),.cptr [vs p]] (vb (decide (t.path=p))):=by
 refine Ps (pC [2] []) Tryz.func260 rfl (Nz rfl) (Yi (fun h1=>?_) (fun h1=>?_))
 .exact .of_eq (show vb true=vb (decide (t.path=p)) by rw[Ax h1])
 exact .of_eq (show vb false=vb (decide (t.path=p)) by rw[AB h1])
theorem oy(l:List Tm)(p:ByteArray)(hl:B9 l):PC 193 [sl AN l,vs p] (vb (D6 l p)):=by
 refine Ps (pC [3] []) Tryz.func193 rfl (Nz rfl) (B8 (Bt (D6 l p)) (fun h1=>?_) (fun h1=>?_))
 .refine Xi .pure (Xi _ (Yi (cb h1 (show PC 259 [sl AN l,.clo 260 [.cptr [vs p]]] (vb (D6 l p))from sJ (fF:=260) (caps:=[.cptr [vs p]]) (fun c hc=>by obtain rfl:=Ap.1 hc;intro h;rfl) l (fun t=>decide (t.path=p)) (fun t _=>yF t p) hl)) ?_));exact .of_eq (show vb true=vb (D6 l p) by rw[h1])
 refine Xi .pure (Xi _ (Yi (cb h1 (show PC 259 [sl AN l,.clo 260 [.cptr [vs p]]] (vb (D6 l p))from sJ (fF:=260) (caps:=[.cptr [vs p]]) (fun c hc=>by obtain rfl:=Ap.1 hc;intro h;rfl) l (fun t=>decide (t.path=p)) (fun t _=>yF t p) hl)) ?_));exact .of_eq (show vb false=vb (D6 l p) by rw[h1])
theorem yE(hl:B9 dec):A9 Tryz.prog 254 [.ref 1000 0,vs p] (Ao (JK roots C A s dec st) Af) fun r h'=>r=vb (DK dec p)/\h'=Ao (JK roots C A s dec st) Af:=by
 refine Cq (MK (pC [3] [])) [(1000,1000),(1001,1001),(1002,1002),(1003,1003),(1004,1004)] rfl CQ hm rfl Tryz.func254 Wk rfl (Nz rfl) Wk rfl (B8 (Bt (DK dec p)) (fun h1=>?_) (fun h1=>?_))
 .refine Xi .pure (Xi _ (Yi (cb h1 (show PC 302 [sl AT dec,.clo 303 [.cptr [vs p]]] (vb (DK dec p))from yG (fF:=303) (caps:=[.cptr [vs p]]) (fun c hc=>by obtain rfl:=Ap.1 hc;intro h;rfl) dec (fun c=>decide (c.rel.path=p)) (fun c _=>yH c p) hl)) ?_));exact Xi _ (Yi (.refl _) (Yi (show vb true=vb (DK dec p) by rw[h1]) rfl))
 refine Xi .pure (Xi _ (Yi (cb h1 (show PC 302 [sl AT dec,.clo 303 [.cptr [vs p]]] (vb (DK dec p))from yG (fF:=303) (caps:=[.cptr [vs p]]) (fun c hc=>by obtain rfl:=Ap.1 hc;intro h;rfl) dec (fun c=>decide (c.rel.path=p)) (fun c _=>yH c p) hl)) ?_));exact Xi _ (Yi (.refl _) (Yi (show vb false=vb (DK dec p) by rw[h1]) rfl))
theorem qz(i:Nf)(l:List Tm)(k:Nat)(hk:My i 0 s.infs=some k)(SI:s.infs.Nodup):A9 Tryz.prog 255 [.ref 1000 0,.agg (Dq i),sl AN l] (Ao (JK roots C A s dec st) Af) fun r h'=>r=vi ((E5 s i l).1:Nat)/\h'=Ao (JK roots C A (E5 s i l).2 dec st) Af:=by
 refine Cq (MK (pC [4] [])) [(1000,1000),(1001,1001),(1002,1002),(1003,1003),(1004,1004)] rfl CQ hm rfl Tryz.func255 Wk rfl (Nz rfl) Wk rfl (yN ?_);refine Or.inl (Xi (vi (k:Nat)) (Yi (Yi (xS hk) (pM SI hk)) ?_));refine Yi Wk ?_;exact Xi _ (Yi (.refl _) (jW (Zd hk) rfl))
theorem qy(i:Nf)(l:List Tm)(hk:My i 0 s.infs=none)(hn:s.infs.length<=65536)(hdl:s.drv.length=s.infs.length):A9 Tryz.prog 255 [.ref 1000 0,.agg (Dq i),sl AN l] (Ao (JK roots C A s dec st) Af) fun r h'=>r=vi ((E5 s i l).1:Nat)/\h'=Ao (JK roots C A (E5 s i l).2 dec st) Af:=by
 have hdn:s.drv.length<=65536:=by omega
 have zJ:(s.infs.map Dq).length=s.infs.length:=Lm _;refine Cq (MK (pC [4] [])) [(1000,1000),(1001,1001),(1002,1002),(1003,1003),(1004,1004)] rfl CQ hm rfl Tryz.func255 Wk rfl (Nz rfl) Wk rfl (yN ?_);refine Or.inr (Yi (rN hk) ?_);refine Yi Wk (Yi (fun h1=>?_) (fun h1=>?_))
 .refine yN (Yi (by show A7 (((s.infs.map Dq).length:Int)-(1:Int));unfold A7;omega) ?_);exact Xi _ (Yi (.refl _) (jW (Wh hk (by have q:=h1;rw[Lm]at q;omega)) (by have q:=h1;rw[Lm]at q⊢;omega)))
 refine yN (Yi Wk (yN (Yi (jF rfl ch Cl) (yN (Yi Wk (Yi (jF rfl ch Cl) (yN ?_)))))));have hq:=jW (roots:=roots) (C:=C) (A:=A) (dec:=dec) (st:=st) (z:=((s.infs.map Dq).length:Int)) (Zc (l:=l) hk (by have q:=h1;rw[Lm]at q;omega)) (by rw[Lm]);exact Xi _ (Yi (.refl _) (Yi hq.1 ((vT hk).trans hq.2)))
structure LJ(x:List Rl)(roots:List Rq)(s:SS):Prop where
 der:FE x roots s
 nodup:s.infs.Nodup
abbrev sa(o:Nat×SS)(r:AV)(h' : Nat->HO):Prop:=r=vi (o.1:Nat)/\h'=Ao (JK roots C A o.2 dec st) Af
theorem qx(i:Nf)(l:List Tm)(hn:s.infs.length<=65536)(hdl:s.drv.length=s.infs.length)(SI:s.infs.Nodup) :
  A9 Tryz.prog 255 [.ref 1000 0,.agg (Dq i),sl AN l] (Ao (JK roots C A s dec st) Af) (sa roots C A dec st (E5 s i l)):=by
 cases hk:My i 0 s.infs with
 |some k=>exact qz roots C A s dec st i l k hk SI
 |none=>exact qy roots C A s dec st i l hk hn hdl
abbrev bC:JA:=[(1000,1000),(1001,1001),(1002,1002),(1003,1003),(1004,1004)]
theorem wF{h2:Nat->HO}{cs:List AV}{o1 o2 o3 o4:HO}(e0:h2 1000=.cells cs)(e1:h2 1001=o1)(e2:h2 1002=o2)(e3:h2 1003=o3)(e4:h2 1004=o4) :
  FO bC h2=Ao [(1000,.cells (cs.map (ren1 (CC bC) h2))),(1001,o1.ren (CC bC) h2),(1002,o2.ren (CC bC) h2),(1003,o3.ren (CC bC) h2),(1004,o4.ren (CC bC) h2)] Af:=by
 unfold FO;simp only[YF];rw[e0,e1,e2,e3,e4];rfl
theorem ir{s:SS}{n:Nd}(h:n.path=mt):E5 s ⟨0,mt,0,n.number,0,0⟩ (Kg n.rq)=BU s n:=by unfold BU UA JH;rw[Al h,Al h]
theorem lS{s:SS}{n:Nd}(h:¬n.path=mt):E5 s ⟨1,n.path,n.place,n.number,0,0⟩ (EA n.path n.place n.rq)=BU s n:=by unfold BU UA JH;rw[Ai h,Ai h]
abbrev X4(d:List (List Tm))(S:List Sl):AV:=.tup [vi (((Pv d S).getD 0:Nat):Int),vb (Pv d S).isSome]
theorem Zz{S:List Sl}:∀{l:List (List Tm)} {b i:Nat} {t:List Tm},l[i]?=some t->Da t S=true->(∀j u,j<i->l[j]?=some u->Da u S=false)->Pt S b l=some (b+i)
 | [],_,_,_,h,_,_=>by simp at h
 |u::l,b,0,t,h,he,_=>by cases h;unfold Pt;rw[Al he];rfl
 |u::l,b,i+1,t,h,he,hn=>by
  unfold Pt;rw[Ai (by rw[hn 0 u ch rfl];decide),Zz (i:=i) (by simpa using h) he (fun j v hj hv=>hn (j+1) v ch (by simpa using hv))]
  congr 1;omega
theorem ZA{S:List Sl}:∀{l:List (List Tm)} {b:Nat},(∀t∈l,Da t S=false)->Pt S b l=none
 | [],_,_=>rfl
 |u::l,b,h=>by
  unfold Pt;rw[Ai (by rw[h u (Ab ..)];decide)];exact ZA fun t ht=>h t (Ah _ ht)
theorem s88(hn:s.infs.length<=65536)(hdl:s.drv.length=s.infs.length)(SI:s.infs.Nodup)(hq:B9 n.rq.set)(hp:A7 (n.place+1)):A9 Tryz.prog 189 [.ref 1000 0,.agg (BF n)] (Ao (JK roots C A s dec st) Af) fun r h'=>sa roots C A dec st (BU s n) r h':=by
 refine Cq (MK ⟨[3],[],[],[],[],[],[],[],[(15,5),(31,5)],[],[]⟩) [(1000,1000),(1001,1001),(1002,1002),(1003,1003),(1004,1004)] rfl CQ hm rfl Tryz.func189 Wk rfl (Nz rfl) Wk rfl (Yi (fun h1=>?_) (fun h1=>?_))
 .refine yN (Xi _ (Yi (AaA n.rq hq) (Xi bC (Xi [(1000,.cells (srM roots C A s dec 1004 st.length)),(1001,.tok 6 s.infs.length),(1002,.tok 1 s.drv.length),(1003,.map FI (FN 0 s.infs)),(1004,.arr 1 (st.map Bn))] (Xi (JK roots C A (E5 s ⟨0,mt,0,n.number,0,0⟩ (Kg n.rq)).2 dec st) (Xi [.ref 1000 0,.agg [vi 0,vs ⟨#[]⟩,vi 0,vi n.number,vi 0,vi 0],sl AN (Kg n.rq)] (Xi (vi (((E5 s ⟨0,mt,0,n.number,0,0⟩ (Kg n.rq)).1:Nat):Int):AV) (Yi (fun h2 hh=>Yi ((wF (show h2 1000=.cells (srM roots C A s dec 1004 st.length)from hh 1000 Cl) (show h2 1001=.tok 6 s.infs.length from hh 1001 Cl) (show h2 1002=.tok 1 s.drv.length from hh 1002 Cl) (show h2 1003=.map FI (FN 0 s.infs)from hh 1003 Cl) (show h2 1004=.arr 1 (st.map Bn)from hh 1004 Cl)).trans rfl) rfl) (Yi Wk (Yi (qx roots C A s dec st ⟨0,mt,0,n.number,0,0⟩ (Kg n.rq) hn hdl SI) (Yi Wk ?_)))))))))));have ei:=ir (s:=s) h1;exact Xi _ (Yi (.refl _) (Yi (show vi (((E5 s ⟨0,mt,0,n.number,0,0⟩ (Kg n.rq)).1:Nat):Int)=vi (((BU s n).1:Nat):Int) by rw[ei]) (show Ao (JK roots C A (E5 s ⟨0,mt,0,n.number,0,0⟩ (Kg n.rq)).2 dec st) Af=Ao (JK roots C A (BU s n).2 dec st) Af by rw[ei])))
 refine yN (Xi _ (Yi (AaB n.path n.place n.rq hp hq) (Xi bC (Xi [(1000,.cells (srM roots C A s dec 1004 st.length)),(1001,.tok 6 s.infs.length),(1002,.tok 1 s.drv.length),(1003,.map FI (FN 0 s.infs)),(1004,.arr 1 (st.map Bn))] (Xi (JK roots C A (E5 s ⟨1,n.path,n.place,n.number,0,0⟩ (EA n.path n.place n.rq)).2 dec st) (Xi [.ref 1000 0,.agg [vi 1,vs n.path,vi n.place,vi n.number,vi 0,vi 0],sl AN (EA n.path n.place n.rq)] (Xi (vi (((E5 s ⟨1,n.path,n.place,n.number,0,0⟩ (EA n.path n.place n.rq)).1:Nat):Int):AV) (Yi (fun h2 hh=>Yi ((wF (show h2 1000=.cells (srM roots C A s dec 1004 st.length)from hh 1000 Cl) (show h2 1001=.tok 6 s.infs.length from hh 1001 Cl) (show h2 1002=.tok 1 s.drv.length from hh 1002 Cl) (show h2 1003=.map FI (FN 0 s.infs)from hh 1003 Cl) (show h2 1004=.arr 1 (st.map Bn)from hh 1004 Cl)).trans rfl) rfl) (Yi Wk (Yi (qx roots C A s dec st ⟨1,n.path,n.place,n.number,0,0⟩ (EA n.path n.place n.rq) hn hdl SI) (Yi Wk ?_)))))))))));have ei:=lS (s:=s) h1;exact Xi _ (Yi (.refl _) (Yi (show vi (((E5 s ⟨1,n.path,n.place,n.number,0,0⟩ (EA n.path n.place n.rq)).1:Nat):Int)=vi (((BU s n).1:Nat):Int) by rw[ei]) (show Ao (JK roots C A (E5 s ⟨1,n.path,n.place,n.number,0,0⟩ (EA n.path n.place n.rq)).2 dec st) Af=Ao (JK roots C A (BU s n).2 dec st) Af by rw[ei])))
theorem s89(hd:s.drv.length<=65536)(ht:∀t∈s.drv,jS t)(hS:B9 S):A9 Tryz.prog 190 [.ref 1000 0,sl Am S] (Ao (JK roots C A s dec st) Af) fun r h'=>r=X4 s.drv S/\h'=Ao (JK roots C A s dec st) Af:=by
 refine Cq (MK Ee) [(1000,1000),(1001,1001),(1002,1002),(1003,1003),(1004,1004)] rfl CQ hm rfl Tryz.func190 Wk rfl (Nz rfl) Wk rfl (Xi {i:Nat // i<=s.drv.length/\∀j u,j<i->s.drv[j]?=some u->Da u S=false} (Xi (fun q=>⟨[(1,sl Am S),(11,.slice (.id 1002 1) (s.drv.map Dg)),(12,vi (s.drv.map Dg).length),(13,vi q.1)],[(1000,.cells (srM roots C A s dec 1004 st.length)),(1001,.tok 6 s.infs.length),(1002,.tok 1 s.drv.length),(1003,.map FI (FN 0 s.infs)),(1004,.arr 1 (st.map Bn))],Af⟩) (Xi (fun q=>s.drv.length-q.1) (Yi (Xi ⟨0,AE _,fun j u h=>absurd h (NM j)⟩ ?_) ?_))))
 .exact⟨Z4,Z5,Fh,BN Wk⟩
 intro⟨i,i1,i2⟩;refine Yi (fun h1=>?_) (fun h1=>?_)
 .have h1:(i:Int)<((s.drv.map Dg).length:Int):=h1;have n1:=FW h1;refine Xi (Dg s.drv[i]) (Yi (LH n1) (Yi rfl (B8 (Bt (Da s.drv[i] S)) (fun h2=>?_) (fun h2=>?_))))
  .refine Xi .pure (Xi _ (Yi (cb h2 (c91 s.drv[i] S (ht _ (Aq _)) hS)) ?_));have eE:Pv s.drv S=some i:=by unfold Pv;rw[Zz (Ge n1) h2 i2,Bf]
   exact Xi _ (Yi (.refl _) (Yi (show AV.tup [vi (i:Int),vb true]=X4 s.drv S by unfold X4;rw[eE];rfl) rfl))
  have h2:(Da s.drv[i] S)=false:=h2;refine Xi .pure (Xi _ (Yi (cb h2 (c91 s.drv[i] S (ht _ (Aq _)) hS)) (Yi (Ii i ch) ?_)));refine Xi ⟨i+1,by omega,fun j u hj hu=>by
    by_cases e:j=i
    .subst e;rw[Ge n1]at hu;cases hu;exact h2
    .exact i2 j u ch hu⟩ ?_
  exact⟨Dl s.drv.length i ch,Z4,Z5,Fh,BN Wk⟩
 have h1:¬((i:Int)<((s.drv.map Dg).length:Int)):=h1;have n1:=DT h1;have eE:Pv s.drv S=none:=ZA fun t ht=>by
  obtain⟨j,hj⟩:=Ck.1 ht
  have:=(Au.1 hj).1
  exact i2 j t (by have q:=h1;rw[Lm]at q;omega) hj
 exact Xi _ (Yi (.refl _) (Yi (show AV.tup [vi 0,vb false]=X4 s.drv S by unfold X4;rw[eE];rfl) rfl))
def WX(l:List Cd)(q:Rq):Bool:=l.any fun d=>decide (d.rel.path=q.path)&&!has q.set d.place
theorem WH{f:Rq->Nat->Nd}{P:Nd->Bool}:∀{l:List Rq} {b i:Nat} {q:Rq},l[i]?=some q->P (f q (b+i))=true->(∀k u,k<i->l[k]?=some u->P (f u (b+k))=false)->(M3 f b l).find? P=some (f q (b+i))
 | [],_,_,_,h,_,_=>by simp at h
 |u::l,b,0,q,h,he,_=>by
  cases h
  unfold M3;rw[E8,show P (f u b)=true from he];rfl
 |u::l,b,i+1,q,h,he,hn=>by
  unfold M3;have h0:P (f u b)=false:=hn 0 u ch rfl;rw[E8,h0]
  have:=WH (f:=f) (P:=P) (l:=l) (b:=b+1) (i:=i) (q:=q) (by simpa using h) (by rw[show b+1+i=b+(i+1) by omega];exact he) (fun k v hk hv=>by
   rw[show b+1+k=b+(k+1) by omega];exact hn (k+1) v ch (by simpa using hv))
  rw[show b+1+i=b+(i+1) by omega]at this;exact this
theorem PE{f:Rq->Nat->Nd}{P:Nd->Bool}:∀{l:List Rq} {b:Nat},(∀k u,l[k]?=some u->P (f u (b+k))=false)->(M3 f b l).find? P=none
 | [],_,_=>rfl
 |u::l,b,h=>by
  unfold M3;have h0:P (f u b)=false:=h 0 u rfl;rw[E8,h0];exact PE fun k v hv=>by rw[show b+1+k=b+(k+1) by omega];exact h (k+1) v (by simpa using hv)
def zNd:AV:=.agg [vs ⟨#[]⟩,nzA,vs ⟨#[]⟩,vi 0,vi 0]
def sX(o:Option Nd):AV:=match o with | some n=>.tup [.agg (BF n),vb true] | none=>.tup [zNd,vb false]
section
variable {dec:List Cd}{c:Cd}{i:Nat}
theorem kw(hi:i<c.rel.reqs.length)(hn:∀k q,k<i->c.rel.reqs[k]?=some q->WX (dec++[c]) q=false){j:Nat}(hj:j<(dec++[c]).length)(h1:(dec++[c])[j].rel.path=c.rel.reqs[i].path)(h2:has c.rel.reqs[i].set (dec++[c])[j].place=false) :
  Er dec c=some ⟨c.rel.reqs[i],c.rel.path,c.place,(i:Nat)⟩:=by
 have:=WH (f:=fun q i=>⟨q,c.rel.path,c.place,(i:Nat)⟩) (P:=fb (dec++[c])) (l:=c.rel.reqs) (b:=0) (i:=i) (q:=c.rel.reqs[i]) (Ge hi)
  (Bd.2 ⟨_,Aq hj,by rw[Ax h1,h2];rfl⟩) (fun k u hk hu=>hn k u hk hu)
 unfold Er Rm;rw[this,Bf]
theorem ky(hn:∀(k:Nat) (q:Rq),c.rel.reqs[k]?=some q->WX (dec++[c]) q=false):Er dec c=none:=by
 unfold Er Rm;exact PE fun k u hu=>hn k u hu
theorem mc{q:Rq}(h:∀(m:Nat) (d:Cd),(dec++[c])[m]?=some d->(decide (d.rel.path=q.path)&&!has q.set d.place)=false):WX (dec++[c]) q=false:=by
 unfold WX;rw[GD];intro d hd;obtain⟨m,hm⟩:=Ck.1 hd;rw[h m d hm];decide
end
theorem s87(c:Cd)(hq:B9 n.rq.set):PC 188 [.agg (BF n),.cptr (AT c)] (vb (!has n.rq.set c.place)):=by
 refine Ps (pC [2] []) Tryz.func188 rfl (Nz rfl) (B8 (Bt (has n.rq.set c.place)) (fun h1=>?_) (fun h1=>?_))
 .refine Xi .pure (Xi _ (Yi (cb h1 (km n.rq.set c.place hq)) ?_));exact .of_eq (show vb false=vb (!has n.rq.set c.place) by rw[h1];rfl)
 refine Xi .pure (Xi _ (Yi (cb h1 (km n.rq.set c.place hq)) ?_));exact .of_eq (show vb true=vb (!has n.rq.set c.place) by rw[h1];rfl)
theorem s69(hd:dec.length<=1073741823)(hr:c.rel.reqs.length<=1073741824)(hq:∀q∈c.rel.reqs,B9 q.set):A9 Tryz.prog 191 [.ref 1000 0,.agg (AT c)] (Ao (JK roots C A s dec st) Af) fun r h'=>r=sX (Er dec c)/\h'=Ao (JK roots C A s dec st) Af:=by
 have hdl:(dec++[c]).length=dec.length+1:=by simp
 refine Cq (MK ⟨[3],[],[],[],[],[],[],[],[(23,3)],[],[]⟩) [(1000,1000),(1001,1001),(1002,1002),(1003,1003),(1004,1004)] rfl CQ hm rfl Tryz.func191 Wk rfl (Nz rfl) Wk rfl (Xi {i:Nat // i<=c.rel.reqs.length/\∀k q,k<i->c.rel.reqs[k]?=some q->WX (dec++[c]) q=false} (Xi (fun q=>⟨[(0,.ref 1000 0),(3,.ref 3 0),(4,.ref 4 0),(12,sl Ba c.rel.reqs),(13,vi (c.rel.reqs.map Ba).length),(14,vi q.1)],[(3,.ro (AT c)),(4,.cells [vs ⟨#[]⟩,nzA,vs ⟨#[]⟩,vi 0,vi 0]),(1000,.cells (srM roots C A s dec 1004 st.length)),(1001,.tok 6 s.infs.length),(1002,.tok 1 s.drv.length),(1003,.map FI (FN 0 s.infs)),(1004,.arr 1 (st.map Bn))],Af⟩) (Xi (fun q=>c.rel.reqs.length-q.1) (Yi (Xi ⟨0,AE _,fun k q h=>absurd h (NM k)⟩ ?_) ?_))))
 .exact⟨Z6,Z7,Fh,BN Wk⟩
 intro⟨i,i1,i2⟩;refine Yi (fun h1=>?_) (fun h1=>?_)
 .have h1:(i:Int)<((c.rel.reqs.map Ba).length:Int):=h1;have n1:=FW h1;refine Xi (Ba c.rel.reqs[i]) (Yi (LH n1) (Yi rfl (yN (yN (Xi _ (Xi _ (Yi Wk (Yi (yJ dec (AJ hd Cl)) (yN ?_)))))))));have b2:Cn 10 [(AT c)]/\(dec.map AT).length=(dec.map AT).length/\((dec.map AT).length+([(AT c)]:List (List AV)).length)*128<=140737488355328/\(dec.map AT).length+([(AT c)]:List (List AV)).length<=9223372036854775807:=⟨⟨rfl,trivial⟩,rfl,(by simp only[Lm,Ak,At];omega),(by simp only[Lm,Ak,At];omega)⟩;refine Yi b2 (Yi Wk (Xi {j:Nat // j<=(dec++[c]).length/\∀m d,m<j->(dec++[c])[m]?=some d->(decide (d.rel.path=c.rel.reqs[i].path)&&!has c.rel.reqs[i].set d.place)=false} (Xi (fun q=>⟨[(0,.ref 1000 0),(3,.ref 3 0),(4,.ref 4 0),(6,vi i),(7,.ref 7 0),(12,sl Ba c.rel.reqs),(13,vi (c.rel.reqs.map Ba).length),(14,vi i),(26,.slice (.id 12300 10) ((dec++[c]).map AT)),(27,vi ((dec++[c]).map AT).length),(28,vi q.1)],[(3,.ro (AT c)),(4,.cells [vs ⟨#[]⟩,nzA,vs ⟨#[]⟩,vi 0,vi 0]),(7,.cells (Ba c.rel.reqs[i])),(1000,.cells (srM roots C A s dec 1004 st.length)),(1001,.tok 6 s.infs.length),(1002,.tok 1 s.drv.length),(1003,.map FI (FN 0 s.infs)),(1004,.arr 1 (st.map Bn)),(12300,.tok 10 ((dec++[c]).map AT).length)],Af⟩) (Xi (fun q=>(dec++[c]).length-q.1) (Yi (Xi ⟨0,AE _,fun k q h=>absurd h (NM k)⟩ ?_) ?_)))))
  .exact⟨⟨Zr,Zr,Zr,Zr,Zr,Zr,Zr,Zr,⟨tkA,rfl⟩,⟨(show vi ((dec.map AT++[AT c]:List (List AV)).length:Int)=vi (((dec++[c]).map AT).length:Int) by rw[Ar];rfl),rfl⟩,Zr,Tv⟩,⟨Zr,Zr,Zr,Zr,Zr,Zr,Zr,Zr,⟨(show HO.tok 10 ((dec.map AT).length+[AT c].length)=.tok 10 ((dec++[c]).map AT).length by simp),rfl⟩,Tv⟩,Fh,BN Wk⟩
  intro⟨j,j1,j2⟩;refine Yi (fun h3=>?_) (fun h3=>?_)
  .have h3:(j:Int)<(((dec++[c]).map AT).length:Int):=h3;have n3:=FW h3;refine Xi (AT ((dec++[c])[j])) (Yi (LH n3) (Yi rfl (yN (yN (Yi (fun h4=>?_) (fun h4=>?_))))))
   .have h4:(((dec++[c])[j]).rel.path:ByteArray)=c.rel.reqs[i].path:=h4;refine B8 (Bt (has c.rel.reqs[i].set (dec++[c])[j].place)) (fun h5=>?_) (fun h5=>?_)
    .have h5:(has c.rel.reqs[i].set (dec++[c])[j].place)=true:=h5;refine Xi .pure (Xi _ (Yi (cb h5 (km c.rel.reqs[i].set (dec++[c])[j].place (hq _ (Aq _)))) (Yi (Ii j ch) ?_)));refine Xi ⟨j+1,by omega,fun m d hm hd=>by
       by_cases e:m=j
       .subst e;rw[Ge n3]at hd;cases hd;exact by rw[h5];simp
       .exact j2 m d ch hd⟩ ?_
     exact⟨by show(dec++[c]).length-(j+1)<(dec++[c]).length-j;omega,Z11,Z9,Fh,BN Wk⟩
    have h5:(has c.rel.reqs[i].set (dec++[c])[j].place)=false:=h5;refine Xi .pure (Xi _ (Yi (cb h5 (km c.rel.reqs[i].set (dec++[c])[j].place (hq _ (Aq _)))) (yN (yN (yN ?_)))));have eC:=kw (dec:=dec) (c:=c) n1 i2 n3 h4 h5;exact Xi _ (Yi (.refl _) (Yi (show AV.tup [.agg (BF ⟨c.rel.reqs[i],c.rel.path,c.place,(i:Nat)⟩),vb true]=sX (Er dec c) by rw[eC];rfl) rfl))
   have h4:¬(((dec++[c])[j]).rel.path:ByteArray)=c.rel.reqs[i].path:=h4;refine Yi (Ii j ch) ?_;refine Xi ⟨j+1,by omega,fun m d hm hd=>by
     by_cases e:m=j
     .subst e;rw[Ge n3]at hd;cases hd;exact by rw[AB h4];rfl
     .exact j2 m d ch hd⟩ ?_
   exact⟨by show(dec++[c]).length-(j+1)<(dec++[c]).length-j;omega,Z11,Z9,Fh,BN Wk⟩
  have h3:¬((j:Int)<(((dec++[c]).map AT).length:Int)):=h3;have n3:=DT h3;refine Yi (Ii i ch) ?_;have hmq:WX (dec++[c]) c.rel.reqs[i]=false:=mc fun m d hd=>j2 m d (by have:=(Au.1 hd).1;have q:=h3;rw[Lm]at q;omega) hd;refine Xi ⟨i+1,by omega,fun k q hk hq0=>by
    by_cases e:k=i
    .subst e;rw[Ge n1]at hq0;cases hq0;exact hmq
    .exact i2 k q ch hq0⟩ ?_
  exact⟨Dl c.rel.reqs.length i ch,Z6,Z7,Fh,BN Wk⟩
 have h1:¬((i:Int)<((c.rel.reqs.map Ba).length:Int)):=h1;have n1:=DT h1;refine yN (yN ?_);have eC:=ky (dec:=dec) (c:=c) fun k q hk=>i2 k q (by have:=(Au.1 hk).1;have q:=h1;rw[Lm]at q;omega) hk;exact Xi _ (Yi (.refl _) (Yi (show AV.tup [zNd,vb false]=sX (Er dec c) by rw[eC];rfl) rfl))
theorem Pq{x:List Rl}{roots:List Rq}{l0:List Nf}:∀{l:List Nf} {d d' : List (List Tm)},(∀i∈l,i∈l0)->(∀t∈d,VZ (K3 x roots l0) t)->Dp x roots l d=some d'->∀t∈d',VZ (K3 x roots l0) t
 | [],d,d',_,hd,h=>by cases h;exact hd
 |i::l,d,d',hl,hd,h=>by
  unfold Dp at h;cases hi:Ec x roots d i with
  |none=>rw[hi]at h;cases h
  |some t =>
   rw[hi]at h;refine Pq (fun j hj=>hl j (Ah _ hj)) (fun u hu=>?_) h;rcases AO.1 hu with hu | hu
   .exact hd u hu
   .rw[Ap.1 hu];exact iu (hl i (Ab ..)) hd hi
section
variable {x:List Rl}{roots:List Rq}{s:SS}
theorem FE.few(hx:A4 x=0)(hr:BI roots=0)(h:FE x roots s):∀t∈s.drv,sc t:=fun t ht =>
 (Pq (l0:=s.infs) (fun _ h=>h) (fun _ h=>by cases h) h.der t ht).fewI (df hx hr h.len)
theorem ID{l:List Tm}(h:s.infs.Nodup):(E5 s i l).2.infs.Nodup:=by
 cases hk:My i 0 s.infs with
 |some k=>rw[Zd hk];exact h
 |none =>
  by_cases hf:65536<=s.infs.length
  .rw[Wh hk hf];exact h
  .rw[Zc hk hf];show(s.infs++[i]).Nodup;rw[FG];refine⟨h,by simp,fun a ha b hb e=>?_⟩;rw[Ap.1 hb]at e;exact Ri hk (e▸ha)
theorem LJ.add(h:LJ x roots s){l:List Tm}(hi:Ec x roots s.drv i=some l):LJ x roots (E5 s i l).2/\(E5 s i l).1<(E5 s i l).2.drv.length/\s.drv.length<=(E5 s i l).2.drv.length :=
 ⟨⟨(Lj h.der hi).1,ID h.nodup⟩,(Lj h.der hi).2.1,(Lk s i l).len⟩
theorem LJ.dl(h:LJ x roots s):s.infs.length<=65536/\s.drv.length=s.infs.length/\s.drv.length<=65536:=by
 have h1:=h.der.dlen;have h2:=h.der.len;exact⟨h2,h1,by omega⟩
theorem mo(hx:A4 x=0)(p:ByteArray):∀d,Ec x roots d ⟨2,p,0,0,0,0⟩=some (IA p (Ch x p)):=fun d=>by
 obtain⟨u,u0,u1,hu⟩:=fR hx p;have hV:Gu []:=fun _ h=>by cases h
 have ou:Y7 [] p (KZ [] p (Qy u)):=.ver hV (Fl ⟨u0,u1⟩);have h1:Bl [(⟨p,false,ES (Ch x p)⟩:Tm)] (KZ [] p (Qy u))=true:=by
  rw[BJ];intro t ht;rw[Ap.1 ht];show Du _ (BY (KZ [] p (Qy u)) p)=true;rw[IN rfl];show(Ct (Qy u)&&has (ES (Ch x p)) (place (Qy u)))=true;rw[Fl ⟨u0,u1⟩,HH,FV,hu];unfold Mx;simp[u0,u1]
 have h2:Bl [(⟨p,false,ES (Ch x p)⟩:Tm)] []=false:=rfl;have Dy:IA p (Ch x p)≠[]:=by
  have c1:=Dk (l:=[(⟨p,false,ES (Ch x p)⟩:Tm)]) ou.val;have c2:=Dk (l:=[(⟨p,false,ES (Ch x p)⟩:Tm)]) hV;rw[h1]at c1;rw[h2]at c2;unfold IA Rf;cases hc:C3 [(⟨p,false,ES (Ch x p)⟩:Tm)]with
  |none=>rw[hc]at c1;cases c1
  |some c =>
   rw[hc]at c2;intro e;have e:c=[]:=e;rw[e]at c2;cases c2
 unfold Ec;rw[Ai (show ¬((2:Int)=0) by decide),Ai (show ¬((2:Int)=1) by decide),Al rfl,Al ⟨rfl,rfl,rfl,rfl⟩];unfold iE;rw[Ai (by rw[Hk];exact Dy)]
theorem Fm(h:k<s.drv.length):s.drv[k]?=some (EJ s k):=by
 unfold EJ;rw[B5,Ge h];rfl
theorem UH{p:ByteArray}{L:List Nat}(hj:j<L.length)(h:s.full=true\/D6 (EJ s k) p=false):CA p (L.drop j) k s=(k,s):=by
 rw[AH hj];unfold CA;rw[Al h]
theorem cN{p:ByteArray}{L:List Nat}(hj:j<L.length)(h1:¬(s.full=true\/D6 (EJ s k) p=false))(h:L[j]=k):CA p (L.drop j) k s=CA p (L.drop (j+1)) k s:=by
 rw[AH hj]
 conv=>lhs;unfold CA
 rw[Ai h1,Al h]
theorem iA{p:ByteArray}{L:List Nat}(hj:j<L.length)(h1:¬(s.full=true\/D6 (EJ s k) p=false))(h2:¬L[j]=k)(h:(BX (EJ s k) (EJ s L[j]) p).2≠0):CA p (L.drop j) k s=CA p (L.drop (j+1)) k s:=by
 rw[AH hj]
 conv=>lhs;unfold CA
 rw[Ai h1,Ai h2,Al h]
theorem iz{p:ByteArray}{L:List Nat}(hj:j<L.length)(h1:¬(s.full=true\/D6 (EJ s k) p=false))(h2:¬L[j]=k)(h:(BX (EJ s k) (EJ s L[j]) p).2=0) :
  CA p (L.drop j) k s=CA p (L.drop (j+1)) (E5 s ⟨3,p,0,0,(k:Nat),(L[j]:Nat)⟩ (BX (EJ s k) (EJ s L[j]) p).1).1 (E5 s ⟨3,p,0,0,(k:Nat),(L[j]:Nat)⟩ (BX (EJ s k) (EJ s L[j]) p).1).2:=by
 rw[AH hj]
 conv=>lhs;unfold CA
 rw[Ai h1,Ai h2,Ai (fun h3=>h3 h)]
end
theorem Fr{t:List Tm}(h:sc t):B9 t:=by have:=h.1;unfold B9;omega
theorem s91(x:List Rl)(roots:List Rq)(C A:List (Value×AV))(s:SS)(dec:List Cd)(st:List (List Sk))(p:ByteArray)(n:Nd)(rs:List Nat)(V:AV)(hx:A4 x=0)(hr:BI roots=0)(hs:LJ x roots s)(tv:∀d,Ec x roots d (UA n)=some (JH n))(vJ:∀r∈rs,r<s.drv.length)(hrl:rs.length<=1073741823)(hnq:B9 n.rq.set)(hnp:A7 (n.place+1))
  (wR:∀a,(Value.string p,a)∈A->a=V) (wS:(∀a,(Value.string p,a)∉A)->V=nzA) (wT:∀h,PC 261 [vs p,str h V] (sl AN (IA p (Ch x p)))):A9 Tryz.prog 194 [.ref 1000 0,vs p,.agg (BF n),sl CU rs] (Ao (JK roots C A s dec st) Af) fun r h'=>sa roots C A dec st (Eh x p n rs s) r h':=by
 have hw:=hs.dl;obtain⟨lJ,ly,VL⟩:=hs.add (tv s.drv)
 change LJ x roots (BU s n).2 at lJ
 change (BU s n).1<(BU s n).2.drv.length at ly
 change s.drv.length<=(BU s n).2.drv.length at VL
 have LG:=lJ.dl;obtain⟨pD,IH,lw⟩:=lJ.add (mo hx p (BU s n).2.drv)
 change LJ x roots (EO x p (BU s n).2).2 at pD
 change (EO x p (BU s n).2).1<(EO x p (BU s n).2).2.drv.length at IH
 change (BU s n).2.drv.length<=(EO x p (BU s n).2).2.drv.length at lw
 obtain⟨L,hL⟩:∃L,L=(EO x p (BU s n).2).1::rs:=⟨_,rfl⟩;have hLr:∀r∈L,r<(EO x p (BU s n).2).2.drv.length:=fun r pB=>by
  rw[hL]at pB;rcases Az.1 pB with rfl | h
  .exact IH
  .have:=vJ r h;omega
 have hLl:L.length=rs.length+1:=by rw[hL];rfl
 have ly:(BU s n).1<(EO x p (BU s n).2).2.drv.length:=by omega
 refine Cq (MK (pC [6] [3,7,8,10])) [(1000,1000),(1001,1001),(1002,1002),(1003,1003),(1004,1004)] rfl CQ hm rfl Tryz.func194 Wk rfl (Nz rfl) Wk rfl (yN (Xi (.gen bC 0) (Yi rfl (A9.imp (s88 roots C A s dec st n hw.1 hw.2.1 hs.nodup hnq hnp) ?_))));intro v1 g1 q1;have qq:=q1.1;have qr:=q1.2;subst qq;subst qr;refine PL V nzA wR wS (fun h=>h) (Xi .pure (Xi _ (Yi (wT _) (Xi (.gen bC 0) (Yi rfl (A9.imp (qx roots C A (BU s n).2 dec st ⟨2,p,0,0,0,0⟩ (IA p (Ch x p)) LG.1 LG.2.1 lJ.nodup) ?_))))));intro v2 g2 q2;have q2a:=q2.1;have q2b:=q2.2;subst q2a;subst q2b;refine cU [(0,.ref 1000 0),(1,vs p),(3,sl CU rs),(9,vi (((BU s n).1:Nat):Int)),(10,vi (((EO x p (BU s n).2).1:Nat):Int))] [(1000,.cells [sl Ba roots,.cmap Cm C,.cmap Cm A,.slice (.id 1001 6) ((EO x p (BU s n).2).2.infs.map Dq),.slice (.id 1002 1) ((EO x p (BU s n).2).2.drv.map Dg),.mref 1003,vb (EO x p (BU s n).2).2.full,sl AT dec,sl Am (AR dec),.msl 1004 st.length]),(1001,.tok 6 (EO x p (BU s n).2).2.infs.length),(1002,.tok 1 (EO x p (BU s n).2).2.drv.length),(1003,.map FI (FN 0 (EO x p (BU s n).2).2.infs)),(1004,.arr 1 (st.map Bn))] Z5 Z5 ?_
 have b3:Cn 1 (rs.map CU)/\([[vi (((EO x p (BU s n).2).1:Nat):Int)]]:List (List AV)).length=1/\(([[vi (((EO x p (BU s n).2).1:Nat):Int)]]:List (List AV)).length+(rs.map CU).length)*8<=140737488355328/\([[vi (((EO x p (BU s n).2).1:Nat):Int)]]:List (List AV)).length+(rs.map CU).length<=9223372036854775807:=⟨(DZ (enc:=CU) (n:=1) (fun _=>rfl) rs),(by first | (simp;done) | (rw[Lm];assumption)),(by simp only[Lm,Ak,At];omega),(by simp only[Lm,Ak,At];omega)⟩
 refine Yi b3 (Xi {q:Nat×Nat×SS // q.1<=L.length/\CA p (L.drop q.1) q.2.1 q.2.2=CA p L (BU s n).1 (EO x p (BU s n).2).2/\LJ x roots q.2.2/\q.2.1<q.2.2.drv.length/\∀r∈L,r<q.2.2.drv.length} (Xi (fun q=>⟨[(0,.ref 1000 0),(1,vs p),(9,vi q.1.2.1),(33,.slice (.id 31 1) (L.map CU)),(34,vi (L.map CU).length),(35,vi q.1.1)],[(31,.tok 1 (L.map CU).length),(1000,.cells (srM roots C A q.1.2.2 dec 1004 st.length)),(1001,.tok 6 q.1.2.2.infs.length),(1002,.tok 1 q.1.2.2.drv.length),(1003,.map FI (FN 0 q.1.2.2.infs)),(1004,.arr 1 (st.map Bn))],Af⟩) (Xi (fun q=>L.length-q.1.1) (Yi (Xi ⟨(0,(BU s n).1,(EO x p (BU s n).2).2),AE _,by rw[List.drop_zero],pD,ly,hLr⟩ ?_) ?_))))
 .exact⟨⟨Zr,Zr,Zr,⟨(show AV.slice (.id 31 1) ([[vi (((EO x p (BU s n).2).1:Nat):Int)]]++rs.map CU)=.slice (.id 31 1) (L.map CU) by rw[hL];rfl),rfl⟩,⟨(show vi (([[vi (((EO x p (BU s n).2).1:Nat):Int)]]++rs.map CU:List (List AV)).length:Int)=vi ((L.map CU).length:Int) by rw[hL];rfl),rfl⟩,Zr,Tv⟩,⟨⟨(show HO.tok 1 (([[vi (((EO x p (BU s n).2).1:Nat):Int)]]:List (List AV)).length+(rs.map CU).length)=.tok 1 (L.map CU).length by rw[hL];simp[Nat.add_comm]),rfl⟩,Zr,Zr,Zr,Zr,Zr,Tv⟩,Fh,BN Wk⟩
 intro⟨⟨j,k,S⟩,j1,j2,j3,j4,j5⟩;have hw3:=j3.dl;have zD:=j3.der.few hx hr;have gk:S.drv[k]?=some (EJ S k):=Fm j4;refine Yi (fun h4=>?_) (fun h4=>?_)
 .have h4:(j:Int)<((L.map CU).length:Int):=h4;have n4:=FW h4;refine Xi (CU L[j]) (Yi (LH n4) (Yi rfl (Yi (fun h5=>?_) (fun h5=>?_))))
  .refine cU [(9,vi k)] [(1000,.cells (srM roots C A S dec 1004 st.length)),(1001,.tok 6 S.infs.length),(1002,.tok 1 S.drv.length),(1003,.map FI (FN 0 S.infs)),(1004,.arr 1 (st.map Bn))] Z1 Z5 ?_
   have eR:CA p L (BU s n).1 (EO x p (BU s n).2).2=(k,S):=by rw[<-j2];exact UH n4 (.inl h5)
   have eL:Eh x p n rs s=(k,S):=by unfold Eh;rw[<-hL];exact eR
   exact Xi _ (Yi (.refl _) (Yi (show vi (k:Int)=vi (((Eh x p n rs s).1:Nat):Int) by rw[eL]) (show Ao (JK roots C A S dec st) Af=Ao (JK roots C A (Eh x p n rs s).2 dec st) Af by rw[eL])))
  refine Xi (Dg (EJ S k)) (Yi (Yi (Nn k) (Ed gk)) (Yi rfl (B8 (Bt (D6 (EJ S k) p)) (fun h7=>?_) (fun h7=>?_))))
  .refine Xi .pure (Xi _ (Yi (cb h7 (oy (EJ S k) p (Fr (zD _ (Aw (Fm j4)))))) (cU [(0,.ref 1000 0),(1,vs p),(9,vi k),(12,vi (L[j]:Nat)),(33,.slice (.id 31 1) (L.map CU)),(34,vi (L.map CU).length),(35,vi j)] [(31,.tok 1 (L.map CU).length),(1000,.cells (srM roots C A S dec 1004 st.length)),(1001,.tok 6 S.infs.length),(1002,.tok 1 S.drv.length),(1003,.map FI (FN 0 S.infs)),(1004,.arr 1 (st.map Bn))] Z7 Z6 (Yi (fun h8=>?_) (fun h8=>?_)))))
   .refine Yi (Ii j ch) (Xi ⟨(j+1,k,S),FH n4,by rw[<-(cN (s:=S) (p:=p) (L:=L) (j:=j) (k:=k) n4 (by rw[h5,h7];simp) (by have q:=h8;omega))];exact j2,j3,j4,j5⟩ ?_);exact⟨Dl L.length j ch,Z6,Z6,Fh,BN Wk⟩
   refine Xi (Dg (EJ S k)) (Yi (Yi (Nn k) (Ed gk)) (Yi rfl (Xi (Dg (EJ S L[j])) (Yi (Yi (show(0:Int)<=(L[j]:Nat) by omega) (Ed (Fm (j5 _ (Aq n4))))) (Yi rfl ?_)))));have fk:=zD _ (Aw (Fm j4));have fr:=zD _ (Aw (Fm (j5 _ (Aq n4))));refine Xi _ (Yi (AaD (EJ S k) (EJ S L[j]) p fk.1 fr.1 fk.2 fr.2) (Yi Wk (cU [(0,.ref 1000 0),(1,vs p),(9,vi k),(12,vi (L[j]:Nat)),(13,sl AN (BX (EJ S k) (EJ S L[j]) p).1),(14,vi (BX (EJ S k) (EJ S L[j]) p).2),(33,.slice (.id 31 1) (L.map CU)),(34,vi (L.map CU).length),(35,vi j)] [(31,.tok 1 (L.map CU).length),(1000,.cells (srM roots C A S dec 1004 st.length)),(1001,.tok 6 S.infs.length),(1002,.tok 1 S.drv.length),(1003,.map FI (FN 0 S.infs)),(1004,.arr 1 (st.map Bn))] Z9 Z6 (Yi (fun d8=>?_) (fun d8=>?_)))))
   .refine Yi (Ii j ch) (Xi ⟨(j+1,k,S),FH n4,by rw[<-(iA (s:=S) (p:=p) (L:=L) (j:=j) (k:=k) n4 (by rw[h5,h7];simp) (by have q:=h8;omega) d8)];exact j2,j3,j4,j5⟩ ?_);exact⟨Dl L.length j ch,Z6,Z6,Fh,BN Wk⟩
   have d8:((BX (EJ S k) (EJ S L[j]) p).2:Int)=(0:Int):=AL d8;refine Xi (.gen bC 0) (Yi rfl (A9.imp (qx roots C A S dec st ⟨3,p,0,0,(k:Nat),(L[j]:Nat)⟩ (BX (EJ S k) (EJ S L[j]) p).1 hw3.1 hw3.2.1 j3.nodup) ?_));intro v12 g12 qo;have uk:=qo.1;have ul:=qo.2;subst uk;subst ul;refine Yi (Ii j ch) ?_;obtain⟨a1,a2,a3⟩:=j3.add (WO (x:=x) (roots:=roots) (p:=p) j4 (j5 _ (Aq n4)) d8);refine Xi ⟨(j+1,(E5 S ⟨3,p,0,0,(k:Nat),(L[j]:Nat)⟩ (BX (EJ S k) (EJ S L[j]) p).1).1,(E5 S ⟨3,p,0,0,(k:Nat),(L[j]:Nat)⟩ (BX (EJ S k) (EJ S L[j]) p).1).2),FH n4,by rw[<-(iz (s:=S) (p:=p) (L:=L) (j:=j) (k:=k) n4 (by rw[h5,h7];simp) (by have q:=h8;omega) d8)];exact j2,a1,a2,fun r hr=>By (j5 r hr) a3⟩ ?_;exact⟨Dl L.length j ch,Z6,Z6,Fh,BN Wk⟩
  refine Xi .pure (Xi _ (Yi (cb h7 (oy (EJ S k) p (Fr (zD _ (Aw (Fm j4)))))) (cU [(9,vi k)] [(1000,.cells (srM roots C A S dec 1004 st.length)),(1001,.tok 6 S.infs.length),(1002,.tok 1 S.drv.length),(1003,.map FI (FN 0 S.infs)),(1004,.arr 1 (st.map Bn))] Z1 Z5 ?_)))
  have eR:CA p L (BU s n).1 (EO x p (BU s n).2).2=(k,S):=by rw[<-j2];exact UH n4 (.inr h7)
  have eL:Eh x p n rs s=(k,S):=by unfold Eh;rw[<-hL];exact eR
  exact Xi _ (Yi (.refl _) (Yi (show vi (k:Int)=vi (((Eh x p n rs s).1:Nat):Int) by rw[eL]) (show Ao (JK roots C A S dec st) Af=Ao (JK roots C A (Eh x p n rs s).2 dec st) Af by rw[eL])))
 have n4:=DT h4;have hj:¬j<L.length:=by have q:=h4;rw[Lm]at q;omega
 have eR:CA p L (BU s n).1 (EO x p (BU s n).2).2=(k,S):=by rw[<-j2,Cr ch];rfl
 have eL:Eh x p n rs s=(k,S):=by unfold Eh;rw[<-hL];exact eR
 exact Xi _ (Yi (.refl _) (Yi (show vi (k:Int)=vi (((Eh x p n rs s).1:Nat):Int) by rw[eL]) (show Ao (JK roots C A S dec st) Af=Ao (JK roots C A (Eh x p n rs s).2 dec st) Af by rw[eL])))
abbrev bD:JA:=[(1000,1000),(1001,1001),(1002,1002),(1003,1003),(500,1004)]
abbrev z8:List (Nat×HO) :=
 [(1000,.cells (srM roots C A s dec 2000 st.length)),(1001,.tok 6 s.infs.length),(1002,.tok 1 s.drv.length),(1003,.map FI (FN 0 s.infs)),(1004,.dead),(2000,.arr 1 (st.map Bn))]
abbrev bE(o:KO)(r:AV)(h' : Nat->HO):Prop:=r=.tup [vi (o.res:Nat),vb o.found]/\h'=Ao (z8 roots C A o.ss o.dec o.stack) Af
def H64:Prop:=∀(s:SS) (dec:List Cd) (st:List (List Sk)),dec.length<=1000->(∀c∈dec,c.rel.reqs.length<=1073741824) ->
 A9 Tryz.prog 186 [.ref 1000 0] (Ao (JK roots C A s dec st) Af) fun r h'=>r=.tup [vs (G8 roots dec).1,sl BF (G8 roots dec).2]/\h'=Ao (JK roots C A s dec st) Af
theorem Oe{roots:List Rq}{C A:List (Value×AV)}{o:KO}{b:Bool}{s:SS}{dec:List Cd}{st:List (List Sk)}(e:o=⟨k,b,s,dec,st⟩) :
  AV.tup [vi (k:Nat),vb b]=.tup [vi (o.res:Nat),vb o.found]/\Ao (z8 roots C A s dec st) Af=Ao (z8 roots C A o.ss o.dec o.stack) Af:=by rw[e];exact Zr
end Go.Eng
