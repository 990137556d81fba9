/- Lemmas 24. -/
import Derived.Test.YteaiieomnhbmgaaGreatDoorAA03
import Derived.Test.YteaiieomnhbmgaaGreatDoorAA22
namespace Go.Proofs
open Go.Shelf Go.RowKit Go.Lib Go.Sort
abbrev OneC:Type:={v:Value // v.oneCell'=true}
def SlA:Type:=ByteArray×OneC×OneC×OneC
instance:Inhabited SlA:=⟨⟨ByteArray.empty,⟨.bool false,rfl⟩,⟨.bool false,rfl⟩,⟨.bool false,rfl⟩⟩⟩
def encSlA(x:SlA):List Value:=[.string x.1,x.2.1.1,x.2.2.1.1,x.2.2.2.1]
def cfSlA(x y:SlA):Int:=Lib.compareBytes x.1.data.toList y.1.data.toList
abbrev CmpSlG(cf:SlA->SlA->Int)(k:Nat):Prop:=∀(x y:SlA) (W:World),Calls Tryz.prog k #[.agg #[.string x.1,x.2.1.1,x.2.2.1.1,x.2.2.2.1],.agg #[.string y.1,y.2.1.1,y.2.2.1.1,y.2.2.2.1]] W fun e w'=>e=.returned (.int .i64 (cf x y))/\∃q os',w'=grow (W.drewN q) os'
abbrev CmpSlA(k:Nat):Prop:=CmpSlG cfSlA k
theorem Tryz.closure139:CmpSlA 139:=fun x y W=>by
 have hcon:=fun W'=>Any.strings_Compare Tryz.layCompare x.1 y.1 W';obtain⟨a,⟨b,hb⟩,⟨c,hc⟩,⟨d,hd⟩⟩:=x;obtain⟨a',⟨b',sE⟩,⟨c',uw⟩,⟨d',pq⟩⟩:=y;dsimp only at hcon
 change ∀W',Calls Tryz.prog 140 _ _ _ at hcon
 unfold cfSlA;dsimp only;generalize Lib.compareBytes a.data.toList a'.data.toList=r at hcon⊢
 go_enter Tryz.func139,Tryz.ntmps139
 go_wp2_with (go_at_call 140;refine(hcon _).mono ?_;rintro e w' ⟨rfl,rfl⟩)
 go_ret
 exact⟨rfl,0,_,by rw[alloc_eq_grow,alloc_eq_grow,grow_grow];rfl⟩
end Go.Proofs
set_option maxHeartbeats 4000000
namespace Go.Eng
open Go.Proofs Go.Shelf Go.RowKit Go.Lib Go.Sort
theorem zj(x y:SlA):ltOf cfSlA x y=Ek x.1 y.1:=Vj _ _
section
variable {cf:SlA->SlA->Int}(Du:∀x y,ltOf cf x y=Ek x.1 y.1)
include Du
theorem oE:SWO (ltOf cf) where
 irrefl x:=by rw[Du];exact Dn _
 trans x y z h1 h2:=by rw[Du]at *;exact Ed h1 h2
 ntrans x y z h1 h2:=by
  rw[Du]at *
  rw[AM];intro h;cases w9:Ek y.1 x.1 with
  |true=>have:=Ed w9 h;rw[h2]at this;cases this
  |false=>
   have e:=Ir h1 w9;rw[e]at h;rw[h2]at h;cases h
theorem Aeq(k:Nat)(hc:CmpSlG cf k)(eg:∀args w,(callFunc k args).run Tryz.prog w=.ok (.enter k args) w)(l:List Sl)(hl:Cb l)(lim:Nat)(aT:lim<100) :
  Ba Tryz.prog 184 [.msl 1000 l.length,vi 0,vi l.length,vi lim,.v (YQ k)] (Ap [(1000,.arr 4 (l.map Am))] Ae) fun r h'=>
   r=.tup []/\∃l' : List Sl,l'.Perm l/\l'.Pairwise (fun x y=>Ek y.path x.path=false)/\h'=Ap [(1000,.arr 4 (l'.map Am))] Ae:=by
 have hl:l.length<=1073741824:=hl;have hE:F6 Tryz.prog 184:=au 184 Tryz.func184 Wk rfl;have Ia:=Ke (P:=Tryz.prog) (f:=184) (α:=SlA) (rest:=[.int .i64 0,.int .i64 l.length,.int .i64 lim,YQ k]) hE Am encSlA (k:=4) (fun _=>rfl) (fun _=>rfl) (ltOf cf) (fun x a=>a.1=x.path) l ch ?_ ?_ ?_
 .refine⟨hE,fun g w vals q1 q2 q3=>(Ia.2 g w vals q1 q2 q3).mono fun _ _ ⟨v,r,h',g',e1,⟨e2,l',p1,⟨al,a1,a2,a3⟩,p2⟩,rest⟩=>⟨v,r,h',g',e1,⟨e2,l',p1,?_,p2⟩,rest⟩⟩;rw[AY]at a3⊢;intro i j hi hj Qs
  have:=a3 i j ch ch Qs
  rw[Du]at this;have e1:=a2 i _ _ (Ge hi) (Ge ch);have e2:=a2 j _ _ (Ge hj) (Ge ch);rw[<-e1,<-e2];exact this
 .intro x hx g w vs hr
  match vs,hr with
  | [a,b,c,d],hr=>
   have h1:=(hr.2.2 0 (Go.Eng.vs x.path) a rfl rfl).v_eq;subst h1;exact⟨⟨x.path,⟨b,hr.2.1 b B0⟩,⟨c,hr.2.1 c B0⟩,⟨d,hr.2.1 d B0⟩⟩,rfl,rfl⟩
  | [],hr=>have:=hr.1;simp at this
  | [_],hr=>have:=hr.1;simp at this
  | [_,_],hr=>have:=hr.1;simp at this
  | [_,_,_],hr=>have:=hr.1;simp at this
  |_::_::_::_::_::_,hr=>have:=hr.1;simp at this
 .intro w b cap d hH hb EZ hdl;have my:CmpLays Tryz.prog k #[] encSlA 4 cf b 0 d.size w:=fun _ _ _ _ x y=>hc x y _;have hp:=AnyQ.pdqsortCmpFunc_all Tryz.layPdqSel 4 Tryz.isAgg48 Tryz.sizeOf48 encSlA cf k #[] (oE Du) b 0 cap d w eg my ⟨fun _=>rfl,fun x v hv=>by
    simp only[encSlA,AA,MR,or_false]at hv;rcases hv with rfl | rfl | rfl | rfl
    .rfl
    .exact x.2.1.2
    .exact x.2.2.1.2
    .exact x.2.2.2.2,hH,hb⟩ (d.size+1) 0 d.size lim d w ch rfl (SWK.start hH) (Ax _) (Ak _) EZ ch (Or.inl rfl)
  rw[hdl]at hp⊢;refine hp.mono ?_
  rintro e w' ⟨rfl,n,os,rfl⟩
  have h:=pdq_sorts (ltOf cf) (oE Du) d 0 d.size lim true true (Ax _) (Ak _) (Or.inl rfl);rw[hdl]at h;exact⟨rfl,_,n,os,h.1,h.2,rfl⟩
 .intro e w;subst e;exact AnyF.pdqsortCmpFunc_none Tryz.layPdqSel none 0 lim (YQ k) w
end
theorem Lq{l l' : List Sl}(h1:Yk l)(h2:Yk l')(hm:∀y,y∈l↔y∈l'):l=l':=by
 induction l generalizing l' with
 |nil=>
  cases l' with
  |nil=>rfl
  |cons y l'=>have:=(hm y).2 (Ab ..);cases this
 |cons x l ih=>
  cases l' with
  |nil=>have:=(hm x).1 (Ab ..);cases this
  |cons y l'=>
   obtain⟨a1,a2⟩:=BR.1 h1;obtain⟨b1,b2⟩:=BR.1 h2;have e:x=y:=by
    rcases AA.1 ((hm x).1 (Ab ..))with e | e
    .exact e
    .rcases AA.1 ((hm y).2 (Ab ..))with e2 | e2
     .exact e2.symm
     .have c1:=b1 x e;have c2:=a1 y e2
      have:=Ed c1 c2
      rw[Dn]at this;cases this
   subst e
   congr 1
   refine ih a2 b2 fun z=>⟨fun hz=>?_,fun hz=>?_⟩
   .rcases AA.1 ((hm z).1 (Ah _ hz))with e | e
    .subst e
     have:=a1 z hz
     rw[Dn]at this;cases this
    .exact e
   .rcases AA.1 ((hm z).2 (Ah _ hz))with e | e
    .subst e
     have:=b1 z hz
     rw[Dn]at this;cases this
    .exact e
theorem oz{l l' : List Sl}(hn:(l.map (·.path)).Nodup)(hp:l'.Perm l)(hs:l'.Pairwise fun x y=>Ek y.path x.path=false):l'=Ec l:=by
 refine Lq ?_ (LZ hn) fun y=>by rw[hp.mem_iff,GH]
 have aV : (l'.map (·.path)).Nodup:=(hp.map (·.path)).nodup_iff.2 hn;show l'.Pairwise _;rw[AY]at hs⊢;intro i j hi hj Qs;cases hb:Ek l'[i].path l'[j].path with
 |true=>rfl
 |false=>
  have e:=Ir hb (hs i j hi hj Qs)
  have:=(AY.1 aV) i j (by simpa using hi) (by simpa using hj) Qs
  simp at this;exact absurd e this
theorem z7{cf:SlA->SlA->Int}(Du:∀x y,ltOf cf x y=Ek x.1 y.1)(k:Nat)(hc:CmpSlG cf k)(eg:∀args w,(callFunc k args).run Tryz.prog w=.ok (.enter k args) w)(l:List Sl)(hl:Cb l)(hn:(l.map (·.path)).Nodup) :
  Ba Tryz.prog 133 [.msl 1000 l.length,.v (YQ k)] (Ap [(1000,.arr 4 (l.map Am))] Ae) fun r h'=>
   r=.tup []/\h'=Ap [(1000,.arr 4 ((Ec l).map Am))] Ae:=by
 obtain⟨lim,aT,hb⟩:=lw l.length hl;refine Cu (M7 El) [(1000,1000)] rfl Da hm rfl Tryz.func133 Wk rfl (Nz rfl) Wk rfl (Xi .pure (Xi _ (Yi (hb) (Xi (.gen [(1000,1000)] 0) (Yi rfl ((Aeq Du k hc eg l hl lim aT).imp ?_))))));intro r h' hq;refine CT hq.2 (fun l' RD=>?_);have e:=oz hn RD.1 RD.2.1;refine Xi (.tup []) (Yi ?_ (Yi rfl ?_))
 .exact .refl _
 .rw[RD.2.2,e];rfl
theorem s47(k:Nat)(hc:CmpSlA k)(eg:∀args w,(callFunc k args).run Tryz.prog w=.ok (.enter k args) w)(l:List Sl)(hl:Cb l)(hn:(l.map (·.path)).Nodup) :
  Ba Tryz.prog 133 [.msl 1000 l.length,.v (YQ k)] (Ap [(1000,.arr 4 (l.map Am))] Ae) fun r h'=>
   r=.tup []/\h'=Ap [(1000,.arr 4 ((Ec l).map Am))] Ae:=
 z7 zj k hc eg l hl hn
end Go.Eng
namespace Go.Eng
open Go.Proofs
variable {k:Nat}{i:Nf}{l:List Nf}{caps:List AV}{j fF:Nat}(roots:List Rq)(C A:List (Value×AV))(s:SS)(dec:List Cd)(st:List (List Sk))(c:Cd)(S:List Sl)(p:ByteArray)(n:Nd)
abbrev AT:List AV:=vi c.place::AF c.rel
abbrev BH:List AV:=[vs n.rq.path,sl AE n.rq.set,vs n.path,vi n.place,vi n.number]
abbrev Bq(l:List Sk):List AV:=[sl CB l]
abbrev Dd(i:Nat):List AV:=[vi (i:Nat)]
def FY:Fg:=⟨true,[.int .i64,.str,.int .i64,.int .i64,.int .i64,.int .i64]⟩
def MM(i:Nf):Value:=.agg [.int .i64 i.kind,.string i.path,.int .i64 i.place,.int .i64 i.number,.int .i64 i.left,.int .i64 i.right].toArray
def F3:Nat->List Nf->List (Value×AV)
 |_,[]=>[]
 |k,i::l=>(MM i,vi (k:Nat))::F3 (k+1) l
abbrev srC(n:Nat):List AV:=
 [sl Bb roots,.cmap Cq C,.cmap Cq A,.slice (.id 1001 6) (s.infs.map Dz),.slice (.id 1002 1) (s.drv.map Do),.mref 1003,vb s.full,sl AT dec,sl Am (AR dec),.msl 1004 n]
abbrev srM(k n:Nat):List AV:=
 [sl Bb roots,.cmap Cq C,.cmap Cq A,.slice (.id 1001 6) (s.infs.map Dz),.slice (.id 1002 1) (s.drv.map Do),.mref 1003,vb s.full,sl AT dec,sl Am (AR dec),.msl k n]
abbrev J4:List (Nat×HO):=
 [(1000,.cells (srC roots C A s dec st.length)),(1001,.tok 6 s.infs.length),(1002,.tok 1 s.drv.length),(1003,.map FY (F3 0 s.infs)),(1004,.arr 1 (st.map Bq))]
theorem Aei(hs:De caps)(l:List (Cd))(p:Cd->Bool)(hF:∀x∈l,PC fF ([.agg (AT x)]++caps) (vb (p x)))(hl:l.length<9223372036854775807) :
  PC 339 [sl AT l,.clo fF caps] (vi (JK p l 0)):=by
 refine Ps El Tryz.func339 rfl (Nz rfl) (Xi {i:Nat // i<=l.length/\∀j (hj:j<l.length),j<i->p l[j]=false} (Xi (fun i=>⟨[(0,sl AT l),(1,.clo fF caps),(7,vi (l.map AT).length),(8,vi i.1)],[],Ae⟩) (Xi (fun i=>l.length-i.1) (Yi (Xi ⟨0,by simp⟩ ?_) ?_))))
 .exact⟨⟨Zr,⟨rfl,hs.ids _⟩,Zr,Zr,Tv⟩,Tv,Fh,Tv⟩
 .intro⟨i,h1,h2⟩;refine Yi ?_ ?_
  .intro h;have h:i<l.length:=by simpa using h
   have hg:l[i]?=some l[i]:=Ge h;refine Xi (AT l[i]) (Yi (Yi (Nn i) (by simp[hg])) (Yi rfl (yN ?_)));have Cg:∀h,PC fF ([.agg (AT l[i])]++caps.map (str0 h)) (vb (p l[i])):=fun h=>by rw[hs.map];exact hF l[i] (Aq _)
   cases hp:p l[i]with
   |true=>
    rw[hp]at Cg;refine Xi .pure (Xi (vb true) (Yi (Cg _) ?_));rw[HT h (fun j hj JX=>h2 j hj JX) hp,EI];exact .refl _
   |false=>
    rw[hp]at Cg;refine Xi .pure (Xi (vb false) (Yi (Cg _) (Yi (Ii i ch) (Xi ⟨i+1,by omega,fun j hj JX=>?_⟩ ?_))))
    .by_cases e:j=i
     .subst e;exact hp
     .exact h2 j hj ch
    .exact⟨Dl l.length i ch,⟨Zr,⟨rfl,hs.ids _⟩,Zr,Zr,Tv⟩,Tv,Fh,Tv⟩
  .intro h;have h:¬i<l.length:=by simpa using h
   rw[GA fun j hj=>h2 j hj ch];exact .refl _
theorem s86(hs:De caps)(l:List (Nd))(p:Nd->Bool)(hF:∀x∈l,PC fF ([.agg (BH x)]++caps) (vb (p x)))(hl:l.length<9223372036854775807) :
  PC 187 [sl BH l,.clo fF caps] (vi (JK p l 0)):=by
 refine Ps El Tryz.func187 rfl (Nz rfl) (Xi {i:Nat // i<=l.length/\∀j (hj:j<l.length),j<i->p l[j]=false} (Xi (fun i=>⟨[(0,sl BH l),(1,.clo fF caps),(7,vi (l.map BH).length),(8,vi i.1)],[],Ae⟩) (Xi (fun i=>l.length-i.1) (Yi (Xi ⟨0,by simp⟩ ?_) ?_))))
 .exact⟨⟨Zr,⟨rfl,hs.ids _⟩,Zr,Zr,Tv⟩,Tv,Fh,Tv⟩
 .intro⟨i,h1,h2⟩;refine Yi ?_ ?_
  .intro h;have h:i<l.length:=by simpa using h
   have hg:l[i]?=some l[i]:=Ge h;refine Xi (BH l[i]) (Yi (Yi (Nn i) (by simp[hg])) (Yi rfl (yN ?_)));have Cg:∀h,PC fF ([.agg (BH l[i])]++caps.map (str0 h)) (vb (p l[i])):=fun h=>by rw[hs.map];exact hF l[i] (Aq _)
   cases hp:p l[i]with
   |true=>
    rw[hp]at Cg;refine Xi .pure (Xi (vb true) (Yi (Cg _) ?_));rw[HT h (fun j hj JX=>h2 j hj JX) hp,EI];exact .refl _
   |false=>
    rw[hp]at Cg;refine Xi .pure (Xi (vb false) (Yi (Cg _) (Yi (Ii i ch) (Xi ⟨i+1,by omega,fun j hj JX=>?_⟩ ?_))))
    .by_cases e:j=i
     .subst e;exact hp
     .exact h2 j hj ch
    .exact⟨Dl l.length i ch,⟨Zr,⟨rfl,hs.ids _⟩,Zr,Zr,Tv⟩,Tv,Fh,Tv⟩
  .intro h;have h:¬i<l.length:=by simpa using h
   rw[GA fun j hj=>h2 j hj ch];exact .refl _
theorem zZ(hs:De caps)(l:List (Cd))(p:Cd->Bool)(hF:∀x∈l,PC fF ([.agg (AT x)]++caps) (vb (p x)))(hl:Cb l) :
  PC 302 [sl AT l,.clo fF caps] (vb (l.any p)):=by
 refine Ps El Tryz.func302 rfl (Nz rfl) ?_;have hi:=Aei hs l p hF (by unfold Cb at hl;omega);have Cg:∀h,PC 339 [sl AT l,.clo fF (caps.map (str0 h))] (vi (JK p l 0)):=fun h=>by rw[hs.map];exact hi
 refine Xi .pure (Xi _ (Yi (Cg _) ?_));have ha:=HN (p:=p) l 0 (Bu 0);refine Yi ?_ ?_
 .intro h;rw[<-ha,Ay h];exact .refl _
 .intro h;rw[<-ha,AD h];exact .refl _
theorem z8(l:List Cd)(hl:Cb l):Ba Tryz.prog 192 [sl AT l] (Ap [] Ae) fun r h'=>r=.slice (.id 2000 10) (l.map AT)/\h'=Ap [(2000,.tok 10 (l.map AT).length)] Ae:=by
 refine Cu (M7 (plT 10)) [(2,2000)] rfl Da hm rfl Tryz.func192 Wk rfl (Nz rfl) Wk rfl ?_;have HC:B5 10 (l.map AT)/\([]:List (List AV)).length=0/\(([]:List (List AV)).length+(l.map AT).length)*128<=140737488355328/\([]:List (List AV)).length+(l.map AT).length<=9223372036854775807:=by
  refine⟨Ea (enc:=AT) (n:=10) (fun _=>rfl) l,rfl,?_,?_⟩<;>simp only[Ao,Lm]<;>unfold Cb at hl<;>omega
 have e2:HO.tok 10 (([]:List (List AV)).length+(l.map AT).length)=.tok 10 (l.map AT).length:=by rw[Ao,Bg]
 have e3:AV.slice (.id 2000 10) ([]++l.map AT)=.slice (.id 2000 10) (l.map AT):=rfl;have full:∀st:St,(∃s:LS,St.le (M7 (plT 10)) st s/\True)->True:=fun _ _=>trivial;refine Xi 0 (Xi 0 (Yi ?_ ?_))
 .intro _;refine cU [(0,sl AT l)] [] Z1 Tv (Xi 2 (Yi HC ?_));exact Xi _ (Yi (.refl _) (Yi e3 (Aa (fun o=>Ap [(2000,o)] Ae) e2)))
 .intro h;refine Yi ?_ ?_
  .refine Xi ⟨[],[],Ae⟩ (Yi ⟨trivial,trivial,fun _=>.inl rfl,BT Wk⟩ ?_);refine Xi 0 ?_;exact Xi _ (Yi (.refl _) (Yi (show AV.slice (.id 2000 10) []=_ by rw[h]) (show Ap [(2000,HO.tok 10 0)] Ae=_ by rw[h];rfl)))
  .refine cU [(0,sl AT l)] [] Z1 Tv (Xi 2 (Yi HC ?_));exact Xi _ (Yi (.refl _) (Yi e3 (Aa (fun o=>Ap [(2000,o)] Ae) e2)))
theorem TN:∀{l:List Nf} {k:Nat} {kx:Value} {a:AV},(kx,a)∈F3 k l↔∃j i,l[j]?=some i/\kx=MM i/\a=vi ((k+j:Nat):Int)
 | [],k,kx,a=>by simp[F3]
 |y::l,k,kx,a=>by
  unfold F3;rw[AA,TN];constructor
  .rintro(h | ⟨j,i,h1,h2,h3⟩)
   .cases h;exact⟨0,y,rfl,rfl,rfl⟩
   .exact⟨j+1,i,h1,h2,by rw[h3,show k+1+j=k+(j+1) by omega]⟩
  .rintro⟨j,i,h1,h2,h3⟩
   cases j with
   |zero=>cases h1;exact .inl (by rw[h2,h3];rfl)
   |succ j=>exact .inr ⟨j,i,h1,h2,by rw[h3,show k+1+j=k+(j+1) by omega]⟩
theorem XG{a b:Nf}(h:MM a=MM b):a=b:=by
 obtain⟨a1,a2,a3,a4,a5,a6⟩:=a;obtain⟨b1,b2,b3,b4,b5,b6⟩:=b;unfold MM at h;simp at h;obtain⟨rfl,rfl,rfl,rfl,rfl,rfl⟩:=h
 rfl
theorem zh(h:MV i 0 l=some k):(MM i,vi (k:Nat))∈F3 0 l:=by
 obtain⟨j,e,hj⟩:=N7 h;exact TN.2 ⟨j,i,hj,rfl,by rw[e]⟩
theorem qN(hn:l.Nodup)(h:MV i 0 l=some k):∀b,(MM i,b)∈F3 0 l->b=vi (k:Nat):=fun b hb=>by
 obtain⟨j,e,hj⟩:=N7 h;obtain⟨j',i',h1,h2,h3⟩:=TN.1 hb
 have:=XG h2
 subst this;obtain⟨a1,a2⟩:=Av.1 hj;obtain⟨b1,b2⟩:=Av.1 h1
 have:j'=j:=(List.getElem_inj hn).1 (b2.trans a2.symm)
 subst this;rw[h3,e]
theorem sY(h:MV i 0 l=none):∀a,(MM i,a)∉F3 0 l:=fun a ha=>by
 obtain⟨j,i',h1,h2,_⟩:=TN.1 ha
 have:=XG h2
 subst this;exact RT h (Aw h1)
theorem fU:∀(l:List Nf) (k:Nat) (i:Nf),F3 k (l++[i])=F3 k l++[(MM i,vi ((k+l.length:Nat):Int))]
 | [],k,i=>by simp[F3]
 |y::l,k,i=>by
  show(MM y,_)::F3 (k+1) (l++[i])=_;rw[fU l (k+1) i];simp[F3,show k+1+l.length=k+(l.length+1) by omega]
theorem u6(h:MV i 0 l=none):Fa (F3 0 l) (MM i) (vi ((l.map Dz).length:Int))=F3 0 (l++[i]):=by
 rw[Ns (sY h),fU,Lm,Bg]
theorem ZT{s:SS}{l:List Tm}(h:MV i 0 s.infs=some k):Fk s i l=(k,s):=by unfold Fk;rw[h]
theorem WX{s:SS}{l:List Tm}(h:MV i 0 s.infs=none)(hf:65536<=s.infs.length):Fk s i l=(s.infs.length-1,⟨s.infs,s.drv,true⟩):=by unfold Fk;rw[h];exact Al hf
theorem ZS{s:SS}{l:List Tm}(h:MV i 0 s.infs=none)(hf:¬65536<=s.infs.length):Fk s i l=(s.infs.length,⟨s.infs++[i],s.drv++[l],s.full⟩):=by unfold Fk;rw[h];exact Aj hf
section
variable {roots:List Rq}{C A:List (Value×AV)}{s s' : SS}{dec:List Cd}{st:List (List Sk)}{i:Nf}{l:List Tm}
theorem kY{z:Int}(e:Fk s i l=(k,s'))(hz:z=k):vi z=vi ((Fk s i l).1:Nat)/\Ap (J4 roots C A s' dec st) Ae=Ap (J4 roots C A (Fk s i l).2 dec st) Ae:=by rw[e,hz];exact Zr
theorem xh(h:MV i 0 s.infs=none):Ap [(1000,.cells [sl Bb roots,.cmap Cq C,.cmap Cq A,.slice (.id 1001 6) (s.infs.map Dz++[Dz i]),.slice (.id 1002 1) (s.drv.map Do++[Do l]),.mref 1003,vb s.full,sl AT dec,sl Am (AR dec),.msl 1004 st.length]),
      (1001,.tok 6 ((s.infs.map Dz).length+[Dz i].length)),(1002,.tok 1 ((s.drv.map Do).length+[Do l].length)),(1003,.map FY (Fa (F3 0 s.infs) (MM i) (vi ((s.infs.map Dz).length:Int)))),(1004,.arr 1 (st.map Bq))] Ae=Ap (J4 roots C A ⟨s.infs++[i],s.drv++[l],s.full⟩ dec st) Ae:=by
  have e1:s.infs.map Dz++[Dz i]=(s.infs++[i]).map Dz:=by simp
  have e2:s.drv.map Do++[Do l]=(s.drv++[l]).map Do:=by simp
  have e3:(s.infs.map Dz).length+[Dz i].length=(s.infs++[i]).length:=by simp
  have e4:(s.drv.map Do).length+[Do l].length=(s.drv++[l]).length:=by simp
  rw[e1,e2,e3,e4,u6 h]
end
theorem z6:PC 303 [.agg (AT c),.cptr [vs p]] (vb (decide (c.rel.path=p))):=by
 refine Ps (pC [2] []) Tryz.func303 rfl (Nz rfl) (Yi (fun h1=>?_) (fun h1=>?_))
 .exact .of_eq (show vb true=vb (decide (c.rel.path=p)) by rw[Ay h1])
 exact .of_eq (show vb false=vb (decide (c.rel.path=p)) by rw[AD h1])
theorem zX(t:Tm)(p:ByteArray):PC 260 [.agg (AN t),.cptr [vs p]] (vb (decide (t.path=p))):=by
 refine Ps (pC [2] []) Tryz.func260 rfl (Nz rfl) (Yi (fun h1=>?_) (fun h1=>?_))
 .exact .of_eq (show vb true=vb (decide (t.path=p)) by rw[Ay h1])
 exact .of_eq (show vb false=vb (decide (t.path=p)) by rw[AD h1])
theorem pH(l:List Tm)(p:ByteArray)(hl:Cb l):PC 193 [sl AN l,vs p] (vb (Eh l p)):=by
 refine Ps (pC [3] []) Tryz.func193 rfl (Nz rfl) (Cf (Bt (Eh l p)) (fun h1=>?_) (fun h1=>?_))
 .refine Xi .pure (Xi _ (Yi (cb h1 (show PC 259 [sl AN l,.clo 260 [.cptr [vs p]]] (vb (Eh l p))from tX (fF:=260) (caps:=[.cptr [vs p]]) (fun c hc=>by obtain rfl:=Ar.1 hc;intro h;rfl) l (fun t=>decide (t.path=p)) (fun t _=>zX t p) hl)) ?_));exact .of_eq (show vb true=vb (Eh l p) by rw[h1])
 refine Xi .pure (Xi _ (Yi (cb h1 (show PC 259 [sl AN l,.clo 260 [.cptr [vs p]]] (vb (Eh l p))from tX (fF:=260) (caps:=[.cptr [vs p]]) (fun c hc=>by obtain rfl:=Ar.1 hc;intro h;rfl) l (fun t=>decide (t.path=p)) (fun t _=>zX t p) hl)) ?_));exact .of_eq (show vb false=vb (Eh l p) by rw[h1])
theorem zW(hl:Cb dec):Ba Tryz.prog 254 [.ref 1000 0,vs p] (Ap (J4 roots C A s dec st) Ae) fun r h'=>r=vb (DU dec p)/\h'=Ap (J4 roots C A s dec st) Ae:=by
 refine Cu (M7 (pC [3] [])) [(1000,1000),(1001,1001),(1002,1002),(1003,1003),(1004,1004)] rfl Da hm rfl Tryz.func254 Wk rfl (Nz rfl) Wk rfl (Cf (Bt (DU dec p)) (fun h1=>?_) (fun h1=>?_))
 .refine Xi .pure (Xi _ (Yi (cb h1 (show PC 302 [sl AT dec,.clo 303 [.cptr [vs p]]] (vb (DU dec p))from zZ (fF:=303) (caps:=[.cptr [vs p]]) (fun c hc=>by obtain rfl:=Ar.1 hc;intro h;rfl) dec (fun c=>decide (c.rel.path=p)) (fun c _=>z6 c p) hl)) ?_));exact Xi _ (Yi (.refl _) (Yi (show vb true=vb (DU dec p) by rw[h1]) rfl))
 refine Xi .pure (Xi _ (Yi (cb h1 (show PC 302 [sl AT dec,.clo 303 [.cptr [vs p]]] (vb (DU dec p))from zZ (fF:=303) (caps:=[.cptr [vs p]]) (fun c hc=>by obtain rfl:=Ar.1 hc;intro h;rfl) dec (fun c=>decide (c.rel.path=p)) (fun c _=>z6 c p) hl)) ?_));exact Xi _ (Yi (.refl _) (Yi (show vb false=vb (DU dec p) by rw[h1]) rfl))
theorem rH(i:Nf)(l:List Tm)(k:Nat)(hk:MV i 0 s.infs=some k)(Tu:s.infs.Nodup):Ba Tryz.prog 255 [.ref 1000 0,.agg (Dz i),sl AN l] (Ap (J4 roots C A s dec st) Ae) fun r h'=>r=vi ((Fk s i l).1:Nat)/\h'=Ap (J4 roots C A (Fk s i l).2 dec st) Ae:=by
 refine Cu (M7 (pC [4] [])) [(1000,1000),(1001,1001),(1002,1002),(1003,1003),(1004,1004)] rfl Da hm rfl Tryz.func255 Wk rfl (Nz rfl) Wk rfl (yN ?_);refine Or.inl (Xi (vi (k:Nat)) (Yi (Yi (zh hk) (qN Tu hk)) ?_));refine Yi Wk ?_;exact Xi _ (Yi (.refl _) (kY (ZT hk) rfl))
theorem rG(i:Nf)(l:List Tm)(hk:MV i 0 s.infs=none)(hn:s.infs.length<=65536)(hdl:s.drv.length=s.infs.length):Ba Tryz.prog 255 [.ref 1000 0,.agg (Dz i),sl AN l] (Ap (J4 roots C A s dec st) Ae) fun r h'=>r=vi ((Fk s i l).1:Nat)/\h'=Ap (J4 roots C A (Fk s i l).2 dec st) Ae:=by
 have hdn:s.drv.length<=65536:=by omega
 have hml:(s.infs.map Dz).length=s.infs.length:=Lm _;refine Cu (M7 (pC [4] [])) [(1000,1000),(1001,1001),(1002,1002),(1003,1003),(1004,1004)] rfl Da hm rfl Tryz.func255 Wk rfl (Nz rfl) Wk rfl (yN ?_);refine Or.inr (Yi (sY hk) ?_);refine Yi Wk (Yi (fun h1=>?_) (fun h1=>?_))
 .refine yN (Yi (by show AX (((s.infs.map Dz).length:Int)-(1:Int));unfold AX;omega) ?_);exact Xi _ (Yi (.refl _) (kY (WX hk (by have q:=h1;rw[Lm]at q;omega)) (by have q:=h1;rw[Lm]at q⊢;omega)))
 refine yN (Yi Wk (yN (Yi (kF rfl ch Cl) (yN (Yi Wk (Yi (kF rfl ch Cl) (yN ?_)))))));have hq:=kY (roots:=roots) (C:=C) (A:=A) (dec:=dec) (st:=st) (z:=((s.infs.map Dz).length:Int)) (ZS (l:=l) hk (by have q:=h1;rw[Lm]at q;omega)) (by rw[Lm]);exact Xi _ (Yi (.refl _) (Yi hq.1 ((xh hk).trans hq.2)))
structure L6(x:List Rl)(roots:List Rq)(s:SS):Prop where
 der:FU x roots s
 nodup:s.infs.Nodup
abbrev tq(o:Nat×SS)(r:AV)(h' : Nat->HO):Prop:=r=vi (o.1:Nat)/\h'=Ap (J4 roots C A o.2 dec st) Ae
theorem rF(i:Nf)(l:List Tm)(hn:s.infs.length<=65536)(hdl:s.drv.length=s.infs.length)(Tu:s.infs.Nodup) :
  Ba Tryz.prog 255 [.ref 1000 0,.agg (Dz i),sl AN l] (Ap (J4 roots C A s dec st) Ae) (tq roots C A dec st (Fk s i l)):=by
 cases hk:MV i 0 s.infs with
 |some k=>exact rH roots C A s dec st i l k hk Tu
 |none=>exact rG roots C A s dec st i l hk hn hdl
abbrev cB:JR:=[(1000,1000),(1001,1001),(1002,1002),(1003,1003),(1004,1004)]
theorem xR{h2:Nat->HO}{cs:List AV}{o1 o2 o3 o4:HO}(e0:h2 1000=.cells cs)(e1:h2 1001=o1)(e2:h2 1002=o2)(e3:h2 1003=o3)(e4:h2 1004=o4) :
  F4 cB h2=Ap [(1000,.cells (cs.map (ren1 (CF cB) h2))),(1001,o1.ren (CF cB) h2),(1002,o2.ren (CF cB) h2),(1003,o3.ren (CF cB) h2),(1004,o4.ren (CF cB) h2)] Ae:=by
 unfold F4;simp only[Zj];rw[e0,e1,e2,e3,e4];rfl
theorem jj{s:SS}{n:Nd}(h:n.path=mt):Fk s ⟨0,mt,0,n.number,0,0⟩ (Kw n.rq)=BX s n:=by unfold BX Vb JY;rw[Al h,Al h]
theorem mU{s:SS}{n:Nd}(h:¬n.path=mt):Fk s ⟨1,n.path,n.place,n.number,0,0⟩ (EL n.path n.place n.rq)=BX s n:=by unfold BX Vb JY;rw[Aj h,Aj h]
abbrev YJ(d:List (List Tm))(S:List Sl):AV:=.tup [vi (((P0 d S).getD 0:Nat):Int),vb (P0 d S).isSome]
theorem aw{S:List Sl}:∀{l:List (List Tm)} {b i:Nat} {t:List Tm},l[i]?=some t->Di t S=true->(∀j u,j<i->l[j]?=some u->Di u S=false)->PZ S b l=some (b+i)
 | [],_,_,_,h,_,_=>by simp at h
 |u::l,b,0,t,h,he,_=>by cases h;unfold PZ;rw[Al he];rfl
 |u::l,b,i+1,t,h,he,hn=>by
  unfold PZ;rw[Aj (by rw[hn 0 u ch rfl];decide),aw (i:=i) (by simpa using h) he (fun j v hj hv=>hn (j+1) v ch (by simpa using hv))]
  congr 1;omega
theorem ax{S:List Sl}:∀{l:List (List Tm)} {b:Nat},(∀t∈l,Di t S=false)->PZ S b l=none
 | [],_,_=>rfl
 |u::l,b,h=>by
  unfold PZ;rw[Aj (by rw[h u (Ab ..)];decide)];exact ax fun t ht=>h t (Ah _ ht)
theorem s88(hn:s.infs.length<=65536)(hdl:s.drv.length=s.infs.length)(Tu:s.infs.Nodup)(hq:Cb n.rq.set)(hp:AX (n.place+1)):Ba Tryz.prog 189 [.ref 1000 0,.agg (BH n)] (Ap (J4 roots C A s dec st) Ae) fun r h'=>tq roots C A dec st (BX s n) r h':=by
 refine Cu (M7 ⟨[3],[],[],[],[],[],[],[],[(15,5),(31,5)],[],[]⟩) [(1000,1000),(1001,1001),(1002,1002),(1003,1003),(1004,1004)] rfl Da hm rfl Tryz.func189 Wk rfl (Nz rfl) Wk rfl (Yi (fun h1=>?_) (fun h1=>?_))
 .refine yN (Xi _ (Yi (AbL n.rq hq) (Xi cB (Xi [(1000,.cells (srM roots C A s dec 1004 st.length)),(1001,.tok 6 s.infs.length),(1002,.tok 1 s.drv.length),(1003,.map FY (F3 0 s.infs)),(1004,.arr 1 (st.map Bq))] (Xi (J4 roots C A (Fk s ⟨0,mt,0,n.number,0,0⟩ (Kw n.rq)).2 dec st) (Xi [.ref 1000 0,.agg [vi 0,vs ⟨#[]⟩,vi 0,vi n.number,vi 0,vi 0],sl AN (Kw n.rq)] (Xi (vi (((Fk s ⟨0,mt,0,n.number,0,0⟩ (Kw n.rq)).1:Nat):Int):AV) (Yi (fun h2 hh=>Yi ((xR (show h2 1000=.cells (srM roots C A s dec 1004 st.length)from hh 1000 Cl) (show h2 1001=.tok 6 s.infs.length from hh 1001 Cl) (show h2 1002=.tok 1 s.drv.length from hh 1002 Cl) (show h2 1003=.map FY (F3 0 s.infs)from hh 1003 Cl) (show h2 1004=.arr 1 (st.map Bq)from hh 1004 Cl)).trans rfl) rfl) (Yi Wk (Yi (rF roots C A s dec st ⟨0,mt,0,n.number,0,0⟩ (Kw n.rq) hn hdl Tu) (Yi Wk ?_)))))))))));have ei:=jj (s:=s) h1;exact Xi _ (Yi (.refl _) (Yi (show vi (((Fk s ⟨0,mt,0,n.number,0,0⟩ (Kw n.rq)).1:Nat):Int)=vi (((BX s n).1:Nat):Int) by rw[ei]) (show Ap (J4 roots C A (Fk s ⟨0,mt,0,n.number,0,0⟩ (Kw n.rq)).2 dec st) Ae=Ap (J4 roots C A (BX s n).2 dec st) Ae by rw[ei])))
 refine yN (Xi _ (Yi (AbM n.path n.place n.rq hp hq) (Xi cB (Xi [(1000,.cells (srM roots C A s dec 1004 st.length)),(1001,.tok 6 s.infs.length),(1002,.tok 1 s.drv.length),(1003,.map FY (F3 0 s.infs)),(1004,.arr 1 (st.map Bq))] (Xi (J4 roots C A (Fk s ⟨1,n.path,n.place,n.number,0,0⟩ (EL n.path n.place n.rq)).2 dec st) (Xi [.ref 1000 0,.agg [vi 1,vs n.path,vi n.place,vi n.number,vi 0,vi 0],sl AN (EL n.path n.place n.rq)] (Xi (vi (((Fk s ⟨1,n.path,n.place,n.number,0,0⟩ (EL n.path n.place n.rq)).1:Nat):Int):AV) (Yi (fun h2 hh=>Yi ((xR (show h2 1000=.cells (srM roots C A s dec 1004 st.length)from hh 1000 Cl) (show h2 1001=.tok 6 s.infs.length from hh 1001 Cl) (show h2 1002=.tok 1 s.drv.length from hh 1002 Cl) (show h2 1003=.map FY (F3 0 s.infs)from hh 1003 Cl) (show h2 1004=.arr 1 (st.map Bq)from hh 1004 Cl)).trans rfl) rfl) (Yi Wk (Yi (rF roots C A s dec st ⟨1,n.path,n.place,n.number,0,0⟩ (EL n.path n.place n.rq) hn hdl Tu) (Yi Wk ?_)))))))))));have ei:=mU (s:=s) h1;exact Xi _ (Yi (.refl _) (Yi (show vi (((Fk s ⟨1,n.path,n.place,n.number,0,0⟩ (EL n.path n.place n.rq)).1:Nat):Int)=vi (((BX s n).1:Nat):Int) by rw[ei]) (show Ap (J4 roots C A (Fk s ⟨1,n.path,n.place,n.number,0,0⟩ (EL n.path n.place n.rq)).2 dec st) Ae=Ap (J4 roots C A (BX s n).2 dec st) Ae by rw[ei])))
theorem s89(hd:s.drv.length<=65536)(ht:∀t∈s.drv,kU t)(hS:Cb S):Ba Tryz.prog 190 [.ref 1000 0,sl Am S] (Ap (J4 roots C A s dec st) Ae) fun r h'=>r=YJ s.drv S/\h'=Ap (J4 roots C A s dec st) Ae:=by
 refine Cu (M7 El) [(1000,1000),(1001,1001),(1002,1002),(1003,1003),(1004,1004)] rfl Da hm rfl Tryz.func190 Wk rfl (Nz rfl) Wk rfl (Xi {i:Nat // i<=s.drv.length/\∀j u,j<i->s.drv[j]?=some u->Di u S=false} (Xi (fun q=>⟨[(1,sl Am S),(11,.slice (.id 1002 1) (s.drv.map Do)),(12,vi (s.drv.map Do).length),(13,vi q.1)],[(1000,.cells (srM roots C A s dec 1004 st.length)),(1001,.tok 6 s.infs.length),(1002,.tok 1 s.drv.length),(1003,.map FY (F3 0 s.infs)),(1004,.arr 1 (st.map Bq))],Ae⟩) (Xi (fun q=>s.drv.length-q.1) (Yi (Xi ⟨0,Ax _,fun j u h=>absurd h (Ob j)⟩ ?_) ?_))))
 .exact⟨Z4,Z5,Fh,BT Wk⟩
 intro⟨i,i1,i2⟩;refine Yi (fun h1=>?_) (fun h1=>?_)
 .have h1:(i:Int)<((s.drv.map Do).length:Int):=h1;have n1:=FO h1;refine Xi (Do s.drv[i]) (Yi (JL n1) (Yi rfl (Cf (Bt (Di s.drv[i] S)) (fun h2=>?_) (fun h2=>?_))))
  .refine Xi .pure (Xi _ (Yi (cb h2 (c91 s.drv[i] S (ht _ (Aq _)) hS)) ?_));have eE:P0 s.drv S=some i:=by unfold P0;rw[aw (Ge n1) h2 i2,Bg]
   exact Xi _ (Yi (.refl _) (Yi (show AV.tup [vi (i:Int),vb true]=YJ s.drv S by unfold YJ;rw[eE];rfl) rfl))
  have h2:(Di s.drv[i] S)=false:=h2;refine Xi .pure (Xi _ (Yi (cb h2 (c91 s.drv[i] S (ht _ (Aq _)) hS)) (Yi (Ii i ch) ?_)));refine Xi ⟨i+1,by omega,fun j u hj hu=>by
    by_cases e:j=i
    .subst e;rw[Ge n1]at hu;cases hu;exact h2
    .exact i2 j u ch hu⟩ ?_
  exact⟨Dl s.drv.length i ch,Z4,Z5,Fh,BT Wk⟩
 have h1:¬((i:Int)<((s.drv.map Do).length:Int)):=h1;have n1:=DP h1;have eE:P0 s.drv S=none:=ax fun t ht=>by
  obtain⟨j,hj⟩:=Cp.1 ht
  have:=(Av.1 hj).1
  exact i2 j t (by have q:=h1;rw[Lm]at q;omega) hj
 exact Xi _ (Yi (.refl _) (Yi (show AV.tup [vi 0,vb false]=YJ s.drv S by unfold YJ;rw[eE];rfl) rfl))
def XL(l:List Cd)(q:Rq):Bool:=l.any fun d=>decide (d.rel.path=q.path)&&!has q.set d.place
theorem Xv{f:Rq->Nat->Nd}{P:Nd->Bool}:∀{l:List Rq} {b i:Nat} {q:Rq},l[i]?=some q->P (f q (b+i))=true->(∀k u,k<i->l[k]?=some u->P (f u (b+k))=false)->(Nu f b l).find? P=some (f q (b+i))
 | [],_,_,_,h,_,_=>by simp at h
 |u::l,b,0,q,h,he,_=>by
  cases h
  unfold Nu;rw[Fp,show P (f u b)=true from he];rfl
 |u::l,b,i+1,q,h,he,hn=>by
  unfold Nu;have h0:P (f u b)=false:=hn 0 u ch rfl;rw[Fp,h0]
  have:=Xv (f:=f) (P:=P) (l:=l) (b:=b+1) (i:=i) (q:=q) (by simpa using h) (by rw[show b+1+i=b+(i+1) by omega];exact he) (fun k v hk hv=>by
   rw[show b+1+k=b+(k+1) by omega];exact hn (k+1) v ch (by simpa using hv))
  rw[show b+1+i=b+(i+1) by omega]at this;exact this
theorem Qi{f:Rq->Nat->Nd}{P:Nd->Bool}:∀{l:List Rq} {b:Nat},(∀k u,l[k]?=some u->P (f u (b+k))=false)->(Nu f b l).find? P=none
 | [],_,_=>rfl
 |u::l,b,h=>by
  unfold Nu;have h0:P (f u b)=false:=h 0 u rfl;rw[Fp,h0];exact Qi fun k v hv=>by rw[show b+1+k=b+(k+1) by omega];exact h (k+1) v (by simpa using hv)
def zNd:AV:=.agg [vs ⟨#[]⟩,nzA,vs ⟨#[]⟩,vi 0,vi 0]
def uh(o:Option Nd):AV:=match o with | some n=>.tup [.agg (BH n),vb true] | none=>.tup [zNd,vb false]
section
variable {dec:List Cd}{c:Cd}{i:Nat}
theorem lH(hi:i<c.rel.reqs.length)(hn:∀k q,k<i->c.rel.reqs[k]?=some q->XL (dec++[c]) q=false){j:Nat}(hj:j<(dec++[c]).length)(h1:(dec++[c])[j].rel.path=c.rel.reqs[i].path)(h2:has c.rel.reqs[i].set (dec++[c])[j].place=false) :
  ED dec c=some ⟨c.rel.reqs[i],c.rel.path,c.place,(i:Nat)⟩:=by
 have:=Xv (f:=fun q i=>⟨q,c.rel.path,c.place,(i:Nat)⟩) (P:=gg (dec++[c])) (l:=c.rel.reqs) (b:=0) (i:=i) (q:=c.rel.reqs[i]) (Ge hi)
  (Be.2 ⟨_,Aq hj,by rw[Ay h1,h2];rfl⟩) (fun k u hk hu=>hn k u hk hu)
 unfold ED RW;rw[this,Bg]
theorem lI(hn:∀(k:Nat) (q:Rq),c.rel.reqs[k]?=some q->XL (dec++[c]) q=false):ED dec c=none:=by
 unfold ED RW;exact Qi fun k u hu=>hn k u hu
theorem ng{q:Rq}(h:∀(m:Nat) (d:Cd),(dec++[c])[m]?=some d->(decide (d.rel.path=q.path)&&!has q.set d.place)=false):XL (dec++[c]) q=false:=by
 unfold XL;rw[GT];intro d hd;obtain⟨m,hm⟩:=Cp.1 hd;rw[h m d hm];decide
end
theorem s87(c:Cd)(hq:Cb n.rq.set):PC 188 [.agg (BH n),.cptr (AT c)] (vb (!has n.rq.set c.place)):=by
 refine Ps (pC [2] []) Tryz.func188 rfl (Nz rfl) (Cf (Bt (has n.rq.set c.place)) (fun h1=>?_) (fun h1=>?_))
 .refine Xi .pure (Xi _ (Yi (cb h1 (lz n.rq.set c.place hq)) ?_));exact .of_eq (show vb false=vb (!has n.rq.set c.place) by rw[h1];rfl)
 refine Xi .pure (Xi _ (Yi (cb h1 (lz n.rq.set c.place hq)) ?_));exact .of_eq (show vb true=vb (!has n.rq.set c.place) by rw[h1];rfl)
theorem s69(hd:dec.length<=1073741823)(hr:c.rel.reqs.length<=1073741824)(hq:∀q∈c.rel.reqs,Cb q.set):Ba Tryz.prog 191 [.ref 1000 0,.agg (AT c)] (Ap (J4 roots C A s dec st) Ae) fun r h'=>r=uh (ED dec c)/\h'=Ap (J4 roots C A s dec st) Ae:=by
 have hdl:(dec++[c]).length=dec.length+1:=by simp
 refine Cu (M7 ⟨[3],[],[],[],[],[],[],[],[(23,3)],[],[]⟩) [(1000,1000),(1001,1001),(1002,1002),(1003,1003),(1004,1004)] rfl Da hm rfl Tryz.func191 Wk rfl (Nz rfl) Wk rfl (Xi {i:Nat // i<=c.rel.reqs.length/\∀k q,k<i->c.rel.reqs[k]?=some q->XL (dec++[c]) q=false} (Xi (fun q=>⟨[(0,.ref 1000 0),(3,.ref 3 0),(4,.ref 4 0),(12,sl Bb c.rel.reqs),(13,vi (c.rel.reqs.map Bb).length),(14,vi q.1)],[(3,.ro (AT c)),(4,.cells [vs ⟨#[]⟩,nzA,vs ⟨#[]⟩,vi 0,vi 0]),(1000,.cells (srM roots C A s dec 1004 st.length)),(1001,.tok 6 s.infs.length),(1002,.tok 1 s.drv.length),(1003,.map FY (F3 0 s.infs)),(1004,.arr 1 (st.map Bq))],Ae⟩) (Xi (fun q=>c.rel.reqs.length-q.1) (Yi (Xi ⟨0,Ax _,fun k q h=>absurd h (Ob k)⟩ ?_) ?_))))
 .exact⟨Z6,Z7,Fh,BT Wk⟩
 intro⟨i,i1,i2⟩;refine Yi (fun h1=>?_) (fun h1=>?_)
 .have h1:(i:Int)<((c.rel.reqs.map Bb).length:Int):=h1;have n1:=FO h1;refine Xi (Bb c.rel.reqs[i]) (Yi (JL n1) (Yi rfl (yN (yN (Xi _ (Xi _ (Yi Wk (Yi (z8 dec (AI hd Cl)) (yN ?_)))))))));have b2:B5 10 [(AT c)]/\(dec.map AT).length=(dec.map AT).length/\((dec.map AT).length+([(AT c)]:List (List AV)).length)*128<=140737488355328/\(dec.map AT).length+([(AT c)]:List (List AV)).length<=9223372036854775807:=⟨⟨rfl,trivial⟩,rfl,(by simp only[Lm,Ag,Ao];omega),(by simp only[Lm,Ag,Ao];omega)⟩;refine Yi b2 (Yi Wk (Xi {j:Nat // j<=(dec++[c]).length/\∀m d,m<j->(dec++[c])[m]?=some d->(decide (d.rel.path=c.rel.reqs[i].path)&&!has c.rel.reqs[i].set d.place)=false} (Xi (fun q=>⟨[(0,.ref 1000 0),(3,.ref 3 0),(4,.ref 4 0),(6,vi i),(7,.ref 7 0),(12,sl Bb c.rel.reqs),(13,vi (c.rel.reqs.map Bb).length),(14,vi i),(26,.slice (.id 12300 10) ((dec++[c]).map AT)),(27,vi ((dec++[c]).map AT).length),(28,vi q.1)],[(3,.ro (AT c)),(4,.cells [vs ⟨#[]⟩,nzA,vs ⟨#[]⟩,vi 0,vi 0]),(7,.cells (Bb c.rel.reqs[i])),(1000,.cells (srM roots C A s dec 1004 st.length)),(1001,.tok 6 s.infs.length),(1002,.tok 1 s.drv.length),(1003,.map FY (F3 0 s.infs)),(1004,.arr 1 (st.map Bq)),(12300,.tok 10 ((dec++[c]).map AT).length)],Ae⟩) (Xi (fun q=>(dec++[c]).length-q.1) (Yi (Xi ⟨0,Ax _,fun k q h=>absurd h (Ob k)⟩ ?_) ?_)))))
  .exact⟨⟨Zr,Zr,Zr,Zr,Zr,Zr,Zr,Zr,⟨tkA,rfl⟩,⟨(show vi ((dec.map AT++[AT c]:List (List AV)).length:Int)=vi (((dec++[c]).map AT).length:Int) by rw[As];rfl),rfl⟩,Zr,Tv⟩,⟨Zr,Zr,Zr,Zr,Zr,Zr,Zr,Zr,⟨(show HO.tok 10 ((dec.map AT).length+[AT c].length)=.tok 10 ((dec++[c]).map AT).length by simp),rfl⟩,Tv⟩,Fh,BT Wk⟩
  intro⟨j,j1,j2⟩;refine Yi (fun h3=>?_) (fun h3=>?_)
  .have h3:(j:Int)<(((dec++[c]).map AT).length:Int):=h3;have n3:=FO h3;refine Xi (AT ((dec++[c])[j])) (Yi (JL n3) (Yi rfl (yN (yN (Yi (fun h4=>?_) (fun h4=>?_))))))
   .have h4:(((dec++[c])[j]).rel.path:ByteArray)=c.rel.reqs[i].path:=h4;refine Cf (Bt (has c.rel.reqs[i].set (dec++[c])[j].place)) (fun h5=>?_) (fun h5=>?_)
    .have h5:(has c.rel.reqs[i].set (dec++[c])[j].place)=true:=h5;refine Xi .pure (Xi _ (Yi (cb h5 (lz c.rel.reqs[i].set (dec++[c])[j].place (hq _ (Aq _)))) (Yi (Ii j ch) ?_)));refine Xi ⟨j+1,by omega,fun m d hm hd=>by
       by_cases e:m=j
       .subst e;rw[Ge n3]at hd;cases hd;exact by rw[h5];simp
       .exact j2 m d ch hd⟩ ?_
     exact⟨by show(dec++[c]).length-(j+1)<(dec++[c]).length-j;omega,Z11,Z9,Fh,BT Wk⟩
    have h5:(has c.rel.reqs[i].set (dec++[c])[j].place)=false:=h5;refine Xi .pure (Xi _ (Yi (cb h5 (lz c.rel.reqs[i].set (dec++[c])[j].place (hq _ (Aq _)))) (yN (yN (yN ?_)))));have eC:=lH (dec:=dec) (c:=c) n1 i2 n3 h4 h5;exact Xi _ (Yi (.refl _) (Yi (show AV.tup [.agg (BH ⟨c.rel.reqs[i],c.rel.path,c.place,(i:Nat)⟩),vb true]=uh (ED dec c) by rw[eC];rfl) rfl))
   have h4:¬(((dec++[c])[j]).rel.path:ByteArray)=c.rel.reqs[i].path:=h4;refine Yi (Ii j ch) ?_;refine Xi ⟨j+1,by omega,fun m d hm hd=>by
     by_cases e:m=j
     .subst e;rw[Ge n3]at hd;cases hd;exact by rw[AD h4];rfl
     .exact j2 m d ch hd⟩ ?_
   exact⟨by show(dec++[c]).length-(j+1)<(dec++[c]).length-j;omega,Z11,Z9,Fh,BT Wk⟩
  have h3:¬((j:Int)<(((dec++[c]).map AT).length:Int)):=h3;have n3:=DP h3;refine Yi (Ii i ch) ?_;have hmq:XL (dec++[c]) c.rel.reqs[i]=false:=ng fun m d hd=>j2 m d (by have:=(Av.1 hd).1;have q:=h3;rw[Lm]at q;omega) hd;refine Xi ⟨i+1,by omega,fun k q hk hq0=>by
    by_cases e:k=i
    .subst e;rw[Ge n1]at hq0;cases hq0;exact hmq
    .exact i2 k q ch hq0⟩ ?_
  exact⟨Dl c.rel.reqs.length i ch,Z6,Z7,Fh,BT Wk⟩
 have h1:¬((i:Int)<((c.rel.reqs.map Bb).length:Int)):=h1;have n1:=DP h1;refine yN (yN ?_);have eC:=lI (dec:=dec) (c:=c) fun k q hk=>i2 k q (by have:=(Av.1 hk).1;have q:=h1;rw[Lm]at q;omega) hk;exact Xi _ (Yi (.refl _) (Yi (show AV.tup [zNd,vb false]=uh (ED dec c) by rw[eC];rfl) rfl))
theorem PX{x:List Rl}{roots:List Rq}{l0:List Nf}:∀{l:List Nf} {d d' : List (List Tm)},(∀i∈l,i∈l0)->(∀t∈d,WS (Lo x roots l0) t)->Dy x roots l d=some d'->∀t∈d',WS (Lo x roots l0) t
 | [],d,d',_,hd,h=>by cases h;exact hd
 |i::l,d,d',hl,hd,h=>by
  unfold Dy at h;cases hi:En x roots d i with
  |none=>rw[hi]at h;cases h
  |some t=>
   rw[hi]at h;refine PX (fun j hj=>hl j (Ah _ hj)) (fun u hu=>?_) h;rcases AO.1 hu with hu | hu
   .exact hd u hu
   .rw[Ar.1 hu];exact jk (hl i (Ab ..)) hd hi
section
variable {x:List Rl}{roots:List Rq}{s:SS}
theorem FU.few(hx:A5 x=0)(hr:BN roots=0)(h:FU x roots s):∀t∈s.drv,tu t:=fun t ht=>
 (PX (l0:=s.infs) (fun _ h=>h) (fun _ h=>by cases h) h.der t ht).fewI (d6 hx hr h.len)
theorem IT{l:List Tm}(h:s.infs.Nodup):(Fk s i l).2.infs.Nodup:=by
 cases hk:MV i 0 s.infs with
 |some k=>rw[ZT hk];exact h
 |none=>
  by_cases hf:65536<=s.infs.length
  .rw[WX hk hf];exact h
  .rw[ZS hk hf];show(s.infs++[i]).Nodup;rw[FW];refine⟨h,by simp,fun a ha b hb e=>?_⟩;rw[Ar.1 hb]at e;exact RT hk (e▸ha)
theorem L6.add(h:L6 x roots s){l:List Tm}(hi:En x roots s.drv i=some l):L6 x roots (Fk s i l).2/\(Fk s i l).1<(Fk s i l).2.drv.length/\s.drv.length<=(Fk s i l).2.drv.length:=
 ⟨⟨(LC h.der hi).1,IT h.nodup⟩,(LC h.der hi).2.1,(LD s i l).len⟩
theorem L6.dl(h:L6 x roots s):s.infs.length<=65536/\s.drv.length=s.infs.length/\s.drv.length<=65536:=by
 have h1:=h.der.dlen;have h2:=h.der.len;exact⟨h2,h1,by omega⟩
theorem nx(hx:A5 x=0)(p:ByteArray):∀d,En x roots d ⟨2,p,0,0,0,0⟩=some (IR p (Cn x p)):=fun d=>by
 obtain⟨u,u0,u1,hu⟩:=gR hx p;have hV:GK []:=fun _ h=>by cases h
 have ou:ZN [] p (Ln [] p (Rf u)):=.ver hV (FA ⟨u0,u1⟩);have h1:Bo [(⟨p,false,E6 (Cn x p)⟩:Tm)] (Ln [] p (Rf u))=true:=by
  rw[BO];intro t ht;rw[Ar.1 ht];show DE _ (B1 (Ln [] p (Rf u)) p)=true;rw[I2 rfl];show(Cw (Rf u)&&has (E6 (Cn x p)) (place (Rf u)))=true;rw[FA ⟨u0,u1⟩,H1,Ga,hu];unfold MT;simp[u0,u1]
 have h2:Bo [(⟨p,false,E6 (Cn x p)⟩:Tm)] []=false:=rfl;have DH:IR p (Cn x p)≠[]:=by
  have c1:=Ds (l:=[(⟨p,false,E6 (Cn x p)⟩:Tm)]) ou.val;have c2:=Ds (l:=[(⟨p,false,E6 (Cn x p)⟩:Tm)]) hV;rw[h1]at c1;rw[h2]at c2;unfold IR RQ;cases hc:Dh [(⟨p,false,E6 (Cn x p)⟩:Tm)]with
  |none=>rw[hc]at c1;cases c1
  |some c=>
   rw[hc]at c2;intro e;have e:c=[]:=e;rw[e]at c2;cases c2
 unfold En;rw[Aj (show ¬((2:Int)=0) by decide),Aj (show ¬((2:Int)=1) by decide),Al rfl,Al ⟨rfl,rfl,rfl,rfl⟩];unfold jv;rw[Aj (by rw[Hz];exact DH)]
theorem FB(h:k<s.drv.length):s.drv[k]?=some (EW s k):=by
 unfold EW;rw[B9,Ge h];rfl
theorem Vi{p:ByteArray}{L:List Nat}(hj:j<L.length)(h:s.full=true\/Eh (EW s k) p=false):CD p (L.drop j) k s=(k,s):=by
 rw[AH hj];unfold CD;rw[Al h]
theorem dN{p:ByteArray}{L:List Nat}(hj:j<L.length)(h1:¬(s.full=true\/Eh (EW s k) p=false))(h:L[j]=k):CD p (L.drop j) k s=CD p (L.drop (j+1)) k s:=by
 rw[AH hj]
 conv=>lhs;unfold CD
 rw[Aj h1,Al h]
theorem jq{p:ByteArray}{L:List Nat}(hj:j<L.length)(h1:¬(s.full=true\/Eh (EW s k) p=false))(h2:¬L[j]=k)(h:(BZ (EW s k) (EW s L[j]) p).2≠0):CD p (L.drop j) k s=CD p (L.drop (j+1)) k s:=by
 rw[AH hj]
 conv=>lhs;unfold CD
 rw[Aj h1,Aj h2,Al h]
theorem jp{p:ByteArray}{L:List Nat}(hj:j<L.length)(h1:¬(s.full=true\/Eh (EW s k) p=false))(h2:¬L[j]=k)(h:(BZ (EW s k) (EW s L[j]) p).2=0) :
  CD p (L.drop j) k s=CD p (L.drop (j+1)) (Fk s ⟨3,p,0,0,(k:Nat),(L[j]:Nat)⟩ (BZ (EW s k) (EW s L[j]) p).1).1 (Fk s ⟨3,p,0,0,(k:Nat),(L[j]:Nat)⟩ (BZ (EW s k) (EW s L[j]) p).1).2:=by
 rw[AH hj]
 conv=>lhs;unfold CD
 rw[Aj h1,Aj h2,Aj (fun h3=>h3 h)]
end
theorem FG{t:List Tm}(h:tu t):Cb t:=by have:=h.1;unfold Cb;omega
theorem s91(x:List Rl)(roots:List Rq)(C A:List (Value×AV))(s:SS)(dec:List Cd)(st:List (List Sk))(p:ByteArray)(n:Nd)(rs:List Nat)(V:AV)(hx:A5 x=0)(hr:BN roots=0)(hs:L6 x roots s)(uD:∀d,En x roots d (Vb n)=some (JY n))(w7:∀r∈rs,r<s.drv.length)(hrl:rs.length<=1073741823)(hnq:Cb n.rq.set)(hnp:AX (n.place+1))
  (x8:∀a,(Value.string p,a)∈A->a=V) (x9:(∀a,(Value.string p,a)∉A)->V=nzA) (ya:∀h,PC 261 [vs p,str h V] (sl AN (IR p (Cn x p)))):Ba Tryz.prog 194 [.ref 1000 0,vs p,.agg (BH n),sl Dd rs] (Ap (J4 roots C A s dec st) Ae) fun r h'=>tq roots C A dec st (Es x p n rs s) r h':=by
 have hw:=hs.dl;obtain⟨uN,yB,WB⟩:=hs.add (uD s.drv)
 change L6 x roots (BX s n).2 at uN
 change (BX s n).1<(BX s n).2.drv.length at yB
 change s.drv.length<=(BX s n).2.drv.length at WB
 have L4:=uN.dl;obtain⟨uO,IQ,mA⟩:=uN.add (nx hx p (BX s n).2.drv)
 change L6 x roots (E1 x p (BX s n).2).2 at uO
 change (E1 x p (BX s n).2).1<(E1 x p (BX s n).2).2.drv.length at IQ
 change (BX s n).2.drv.length<=(E1 x p (BX s n).2).2.drv.length at mA
 obtain⟨L,hL⟩:∃L,L=(E1 x p (BX s n).2).1::rs:=⟨_,rfl⟩;have hLr:∀r∈L,r<(E1 x p (BX s n).2).2.drv.length:=fun r qE=>by
  rw[hL]at qE;rcases AA.1 qE with rfl | h
  .exact IQ
  .have:=w7 r h;omega
 have hLl:L.length=rs.length+1:=by rw[hL];rfl
 have yB:(BX s n).1<(E1 x p (BX s n).2).2.drv.length:=by omega
 refine Cu (M7 (pC [6] [3,7,8,10])) [(1000,1000),(1001,1001),(1002,1002),(1003,1003),(1004,1004)] rfl Da hm rfl Tryz.func194 Wk rfl (Nz rfl) Wk rfl (yN (Xi (.gen cB 0) (Yi rfl (Ba.imp (s88 roots C A s dec st n hw.1 hw.2.1 hs.nodup hnq hnp) ?_))));intro v1 g1 q1;have ry:=q1.1;have rz:=q1.2;subst ry;subst rz;refine Qp V nzA x8 x9 (fun h=>h) (Xi .pure (Xi _ (Yi (ya _) (Xi (.gen cB 0) (Yi rfl (Ba.imp (rF roots C A (BX s n).2 dec st ⟨2,p,0,0,0,0⟩ (IR p (Cn x p)) L4.1 L4.2.1 uN.nodup) ?_))))));intro v2 g2 q2;have q2a:=q2.1;have q2b:=q2.2;subst q2a;subst q2b;refine cU [(0,.ref 1000 0),(1,vs p),(3,sl Dd rs),(9,vi (((BX s n).1:Nat):Int)),(10,vi (((E1 x p (BX s n).2).1:Nat):Int))] [(1000,.cells [sl Bb roots,.cmap Cq C,.cmap Cq A,.slice (.id 1001 6) ((E1 x p (BX s n).2).2.infs.map Dz),.slice (.id 1002 1) ((E1 x p (BX s n).2).2.drv.map Do),.mref 1003,vb (E1 x p (BX s n).2).2.full,sl AT dec,sl Am (AR dec),.msl 1004 st.length]),(1001,.tok 6 (E1 x p (BX s n).2).2.infs.length),(1002,.tok 1 (E1 x p (BX s n).2).2.drv.length),(1003,.map FY (F3 0 (E1 x p (BX s n).2).2.infs)),(1004,.arr 1 (st.map Bq))] Z5 Z5 ?_
 have b3:B5 1 (rs.map Dd)/\([[vi (((E1 x p (BX s n).2).1:Nat):Int)]]:List (List AV)).length=1/\(([[vi (((E1 x p (BX s n).2).1:Nat):Int)]]:List (List AV)).length+(rs.map Dd).length)*8<=140737488355328/\([[vi (((E1 x p (BX s n).2).1:Nat):Int)]]:List (List AV)).length+(rs.map Dd).length<=9223372036854775807:=⟨(Ea (enc:=Dd) (n:=1) (fun _=>rfl) rs),(by first | (simp;done) | (rw[Lm];assumption)),(by simp only[Lm,Ag,Ao];omega),(by simp only[Lm,Ag,Ao];omega)⟩
 refine Yi b3 (Xi {q:Nat×Nat×SS // q.1<=L.length/\CD p (L.drop q.1) q.2.1 q.2.2=CD p L (BX s n).1 (E1 x p (BX s n).2).2/\L6 x roots q.2.2/\q.2.1<q.2.2.drv.length/\∀r∈L,r<q.2.2.drv.length} (Xi (fun q=>⟨[(0,.ref 1000 0),(1,vs p),(9,vi q.1.2.1),(33,.slice (.id 31 1) (L.map Dd)),(34,vi (L.map Dd).length),(35,vi q.1.1)],[(31,.tok 1 (L.map Dd).length),(1000,.cells (srM roots C A q.1.2.2 dec 1004 st.length)),(1001,.tok 6 q.1.2.2.infs.length),(1002,.tok 1 q.1.2.2.drv.length),(1003,.map FY (F3 0 q.1.2.2.infs)),(1004,.arr 1 (st.map Bq))],Ae⟩) (Xi (fun q=>L.length-q.1.1) (Yi (Xi ⟨(0,(BX s n).1,(E1 x p (BX s n).2).2),Ax _,by rw[List.drop_zero],uO,yB,hLr⟩ ?_) ?_))))
 .exact⟨⟨Zr,Zr,Zr,⟨(show AV.slice (.id 31 1) ([[vi (((E1 x p (BX s n).2).1:Nat):Int)]]++rs.map Dd)=.slice (.id 31 1) (L.map Dd) by rw[hL];rfl),rfl⟩,⟨(show vi (([[vi (((E1 x p (BX s n).2).1:Nat):Int)]]++rs.map Dd:List (List AV)).length:Int)=vi ((L.map Dd).length:Int) by rw[hL];rfl),rfl⟩,Zr,Tv⟩,⟨⟨(show HO.tok 1 (([[vi (((E1 x p (BX s n).2).1:Nat):Int)]]:List (List AV)).length+(rs.map Dd).length)=.tok 1 (L.map Dd).length by rw[hL];simp[Nat.add_comm]),rfl⟩,Zr,Zr,Zr,Zr,Zr,Tv⟩,Fh,BT Wk⟩
 intro⟨⟨j,k,S⟩,j1,j2,j3,j4,j5⟩;have hw3:=j3.dl;have hfw:=j3.der.few hx hr;have gk:S.drv[k]?=some (EW S k):=FB j4;refine Yi (fun h4=>?_) (fun h4=>?_)
 .have h4:(j:Int)<((L.map Dd).length:Int):=h4;have n4:=FO h4;refine Xi (Dd L[j]) (Yi (JL n4) (Yi rfl (Yi (fun h5=>?_) (fun h5=>?_))))
  .refine cU [(9,vi k)] [(1000,.cells (srM roots C A S dec 1004 st.length)),(1001,.tok 6 S.infs.length),(1002,.tok 1 S.drv.length),(1003,.map FY (F3 0 S.infs)),(1004,.arr 1 (st.map Bq))] Z1 Z5 ?_
   have eR:CD p L (BX s n).1 (E1 x p (BX s n).2).2=(k,S):=by rw[<-j2];exact Vi n4 (.inl h5)
   have eL:Es x p n rs s=(k,S):=by unfold Es;rw[<-hL];exact eR
   exact Xi _ (Yi (.refl _) (Yi (show vi (k:Int)=vi (((Es x p n rs s).1:Nat):Int) by rw[eL]) (show Ap (J4 roots C A S dec st) Ae=Ap (J4 roots C A (Es x p n rs s).2 dec st) Ae by rw[eL])))
  refine Xi (Do (EW S k)) (Yi (Yi (Nn k) (Eo gk)) (Yi rfl (Cf (Bt (Eh (EW S k) p)) (fun h7=>?_) (fun h7=>?_))))
  .refine Xi .pure (Xi _ (Yi (cb h7 (pH (EW S k) p (FG (hfw _ (Aw (FB j4)))))) (cU [(0,.ref 1000 0),(1,vs p),(9,vi k),(12,vi (L[j]:Nat)),(33,.slice (.id 31 1) (L.map Dd)),(34,vi (L.map Dd).length),(35,vi j)] [(31,.tok 1 (L.map Dd).length),(1000,.cells (srM roots C A S dec 1004 st.length)),(1001,.tok 6 S.infs.length),(1002,.tok 1 S.drv.length),(1003,.map FY (F3 0 S.infs)),(1004,.arr 1 (st.map Bq))] Z7 Z6 (Yi (fun h8=>?_) (fun h8=>?_)))))
   .refine Yi (Ii j ch) (Xi ⟨(j+1,k,S),FX n4,by rw[<-(dN (s:=S) (p:=p) (L:=L) (j:=j) (k:=k) n4 (by rw[h5,h7];simp) (by have q:=h8;omega))];exact j2,j3,j4,j5⟩ ?_);exact⟨Dl L.length j ch,Z6,Z6,Fh,BT Wk⟩
   refine Xi (Do (EW S k)) (Yi (Yi (Nn k) (Eo gk)) (Yi rfl (Xi (Do (EW S L[j])) (Yi (Yi (show(0:Int)<=(L[j]:Nat) by omega) (Eo (FB (j5 _ (Aq n4))))) (Yi rfl ?_)))));have fk:=hfw _ (Aw (FB j4));have fr:=hfw _ (Aw (FB (j5 _ (Aq n4))));refine Xi _ (Yi (AbO (EW S k) (EW S L[j]) p fk.1 fr.1 fk.2 fr.2) (Yi Wk (cU [(0,.ref 1000 0),(1,vs p),(9,vi k),(12,vi (L[j]:Nat)),(13,sl AN (BZ (EW S k) (EW S L[j]) p).1),(14,vi (BZ (EW S k) (EW S L[j]) p).2),(33,.slice (.id 31 1) (L.map Dd)),(34,vi (L.map Dd).length),(35,vi j)] [(31,.tok 1 (L.map Dd).length),(1000,.cells (srM roots C A S dec 1004 st.length)),(1001,.tok 6 S.infs.length),(1002,.tok 1 S.drv.length),(1003,.map FY (F3 0 S.infs)),(1004,.arr 1 (st.map Bq))] Z9 Z6 (Yi (fun Wz=>?_) (fun Wz=>?_)))))
   .refine Yi (Ii j ch) (Xi ⟨(j+1,k,S),FX n4,by rw[<-(jq (s:=S) (p:=p) (L:=L) (j:=j) (k:=k) n4 (by rw[h5,h7];simp) (by have q:=h8;omega) Wz)];exact j2,j3,j4,j5⟩ ?_);exact⟨Dl L.length j ch,Z6,Z6,Fh,BT Wk⟩
   have Wz:((BZ (EW S k) (EW S L[j]) p).2:Int)=(0:Int):=AJ Wz;refine Xi (.gen cB 0) (Yi rfl (Ba.imp (rF roots C A S dec st ⟨3,p,0,0,(k:Nat),(L[j]:Nat)⟩ (BZ (EW S k) (EW S L[j]) p).1 hw3.1 hw3.2.1 j3.nodup) ?_));intro v12 g12 rx;have vC:=rx.1;have vD:=rx.2;subst vC;subst vD;refine Yi (Ii j ch) ?_;obtain⟨a1,a2,a3⟩:=j3.add (XC (x:=x) (roots:=roots) (p:=p) j4 (j5 _ (Aq n4)) Wz);refine Xi ⟨(j+1,(Fk S ⟨3,p,0,0,(k:Nat),(L[j]:Nat)⟩ (BZ (EW S k) (EW S L[j]) p).1).1,(Fk S ⟨3,p,0,0,(k:Nat),(L[j]:Nat)⟩ (BZ (EW S k) (EW S L[j]) p).1).2),FX n4,by rw[<-(jp (s:=S) (p:=p) (L:=L) (j:=j) (k:=k) n4 (by rw[h5,h7];simp) (by have q:=h8;omega) Wz)];exact j2,a1,a2,fun r hr=>BC (j5 r hr) a3⟩ ?_;exact⟨Dl L.length j ch,Z6,Z6,Fh,BT Wk⟩
  refine Xi .pure (Xi _ (Yi (cb h7 (pH (EW S k) p (FG (hfw _ (Aw (FB j4)))))) (cU [(9,vi k)] [(1000,.cells (srM roots C A S dec 1004 st.length)),(1001,.tok 6 S.infs.length),(1002,.tok 1 S.drv.length),(1003,.map FY (F3 0 S.infs)),(1004,.arr 1 (st.map Bq))] Z1 Z5 ?_)))
  have eR:CD p L (BX s n).1 (E1 x p (BX s n).2).2=(k,S):=by rw[<-j2];exact Vi n4 (.inr h7)
  have eL:Es x p n rs s=(k,S):=by unfold Es;rw[<-hL];exact eR
  exact Xi _ (Yi (.refl _) (Yi (show vi (k:Int)=vi (((Es x p n rs s).1:Nat):Int) by rw[eL]) (show Ap (J4 roots C A S dec st) Ae=Ap (J4 roots C A (Es x p n rs s).2 dec st) Ae by rw[eL])))
 have n4:=DP h4;have hj:¬j<L.length:=by have q:=h4;rw[Lm]at q;omega
 have eR:CD p L (BX s n).1 (E1 x p (BX s n).2).2=(k,S):=by rw[<-j2,Ce ch];rfl
 have eL:Es x p n rs s=(k,S):=by unfold Es;rw[<-hL];exact eR
 exact Xi _ (Yi (.refl _) (Yi (show vi (k:Int)=vi (((Es x p n rs s).1:Nat):Int) by rw[eL]) (show Ap (J4 roots C A S dec st) Ae=Ap (J4 roots C A (Es x p n rs s).2 dec st) Ae by rw[eL])))
abbrev cC:JR:=[(1000,1000),(1001,1001),(1002,1002),(1003,1003),(500,1004)]
abbrev srE:List (Nat×HO):=
 [(1000,.cells (srM roots C A s dec 2000 st.length)),(1001,.tok 6 s.infs.length),(1002,.tok 1 s.drv.length),(1003,.map FY (F3 0 s.infs)),(1004,.dead),(2000,.arr 1 (st.map Bq))]
abbrev cD(o:La)(r:AV)(h' : Nat->HO):Prop:=r=.tup [vi (o.res:Nat),vb o.found]/\h'=Ap (srE roots C A o.ss o.dec o.stack) Ae
def H64:Prop:=∀(s:SS) (dec:List Cd) (st:List (List Sk)),dec.length<=1000->(∀c∈dec,c.rel.reqs.length<=1073741824) ->
 Ba Tryz.prog 186 [.ref 1000 0] (Ap (J4 roots C A s dec st) Ae) fun r h'=>r=.tup [vs (Ho roots dec).1,sl BH (Ho roots dec).2]/\h'=Ap (J4 roots C A s dec st) Ae
theorem OJ{roots:List Rq}{C A:List (Value×AV)}{o:La}{b:Bool}{s:SS}{dec:List Cd}{st:List (List Sk)}(e:o=⟨k,b,s,dec,st⟩) :
  AV.tup [vi (k:Nat),vb b]=.tup [vi (o.res:Nat),vb o.found]/\Ap (srE roots C A s dec st) Ae=Ap (srE roots C A o.ss o.dec o.stack) Ae:=by rw[e];exact Zr
end Go.Eng
