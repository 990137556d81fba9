/- Lemmas 29. -/
import Derived.Test.YtkjhcikodmiceaaGreatDoorRA28
set_option maxHeartbeats 4000000
namespace Go.Eng
open Go.Proofs
variable {α:Type}{a b:List α}
instance:DecidableEq Rq:=fun x y=>decidable_of_iff (x.path=y.path/\x.set=y.set) ⟨fun⟨h1,h2⟩=>by cases x;cases y;simp_all,fun h=>by subst h;exact Zr⟩
theorem vf{a b:Rq}(h1:a.path=b.path)(h2:a.set=b.set):a=b:=by cases a;cases b;simp_all
theorem cd(hl:a.length=b.length)(h:∀j (hj:j<a.length),a[j]=b[j]'(hl▸hj)):a=b:=List.ext_getElem hl fun j h1 _=>h j h1
theorem gM{i:Nat}{ha:i<a.length}{hb:i<b.length}(h:a[i]≠b[i]):a≠b:=fun e=>by subst e;exact h rfl
theorem o69(a b:List Rq)(ha:Cz a)(hs:∀q∈a,Cz q.set):PC 42 [sl Af a,sl Af b] (vb (decide (a=b))):=by
 have yn:a.length<=1073741824:=ha;refine Ps Ea Tryz.func42 rfl (Nz rfl) (Yi (fun h1=>?_) (fun h1=>?_))
 .exact .of_eq (show vb false=vb (decide (a=b)) by rw[Au (fun e=>absurd (Ab (fun z=>((z.map Af).length:Int)) e) h1)])
 have h1:((a.map Af).length:Int)=((b.map Af).length:Int):=AY h1;have hl:a.length=b.length:=by have q:=h1;rw[Lm,Lm]at q;omega
 refine Xi {q:Nat // q<=a.length/\∀j (hj:j<a.length),j<q->a[j]=b[j]'(hl▸hj)} (Xi (fun q=>⟨[(0,sl Af a),(1,sl Af b),(5,vi q.1)],[],Ad⟩) (Xi (fun q=>a.length-q.1) (Yi (Xi ⟨0,Ao _,fun _ _ h=>absurd h (CR _)⟩ ?_) ?_)))
 .exact⟨Z3,Tv,Fh,Tv⟩
 intro⟨i,i1,i2⟩;refine Yi (fun h3=>?_) (fun h3=>?_)
 .have h3:(i:Int)<((a.map Af).length:Int):=h3;have n3:=IN h3;have qq:i<b.length:=by have q:=h3;rw[Lm]at q;omega
  refine Xi (Af a[i]) (Yi (LX n3) (Yi rfl (Xi (Af b[i]) (Yi (LX qq) (Yi rfl (Yi (fun h5=>?_) (fun h5=>?_)))))))
  .refine Yi aa3 ?_;exact .of_eq (show vb false=vb (decide (a=b)) by rw[Au (gM (i:=i) (ha:=n3) (hb:=qq) (fun e=>h5 (Ab Rq.path e)))])
  have h5:(a[i].path:ByteArray)=b[i].path:=AY h5;refine Xi (Af a[i]) (Yi (LX n3) (Yi rfl (Xi (Af b[i]) (Yi (LX qq) (Yi rfl (BK (Bt (decide (a[i].set=b[i].set))) (fun h7=>?_) (fun h7=>?_)))))))
  .refine Xi _ (Yi (cb h7 (c75 a[i].set b[i].set (hs _ (Am n3)))) (Yi aa3 (Yi (Ii i B0) ?_)));refine Xi ⟨i+1,n3,fun j hj JY=>if e:j<i then i2 j hj e else by
     have e:j=i:=B0
     subst e;exact vf h5 (BR h7)⟩ ?_
   exact⟨Dl a.length i B0,Z3,Tv,Fh,Tv⟩
  have h7:(decide (a[i].set=b[i].set))=false:=h7;refine Xi _ (Yi (cb h7 (c75 a[i].set b[i].set (hs _ (Am n3)))) (Yi aa3 ?_));exact .of_eq (show vb false=vb (decide (a=b)) by rw[Au (gM (i:=i) (ha:=n3) (hb:=qq) (fun e=>of_decide_eq_false h7 (Ab Rq.set e)))])
 have h3:¬((i:Int)<((a.map Af).length:Int)):=h3;have n3:=FH h3;exact .of_eq (show vb true=vb (decide (a=b)) by rw[Ay (cd hl fun j hj=>i2 j hj (by have q:=h3;rw[Lm]at q;omega))])
theorem vI(l:List Lo)(hl:l.length<=1000000):PC 22 [sl Cq l,sl Cq l] (vb true):=by
 refine Ps Ea Tryz.func22 rfl (Nz rfl) (Yi (fun h1=>?_) (fun h1=>?_))
 .exact absurd rfl h1
 have h1:((l.map Cq).length:Int)=((l.map Cq).length:Int):=AY h1;refine Xi {q:Nat // q<=l.length} (Xi (fun q=>⟨[(0,sl Cq l),(1,sl Cq l),(5,vi q.1)],[],Ad⟩) (Xi (fun q=>l.length-q.1) (Yi (Xi ⟨0,Ao _⟩ ?_) ?_)))
 .exact⟨Z3,Tv,Fh,Tv⟩
 intro⟨i,i1⟩;refine Yi (fun h2=>?_) (fun h2=>?_)
 .have h2:(i:Int)<((l.map Cq).length:Int):=h2;have n2:=IN h2;refine Xi (Cq l[i]) (Yi (LX n2) (Yi rfl (yN (Xi (Cq l[i]) (Yi (LX n2) (Yi rfl (yN (Yi (fun h3=>?_) (fun h3=>?_)))))))))
  .have h3:(l[i].path:ByteArray)=l[i].path/\(l[i].ver.a:Int)=l[i].ver.a/\(l[i].ver.b:Int)=l[i].ver.b/\(l[i].ver.c:Int)=l[i].ver.c/\(l[i].arch:ByteArray)=l[i].arch/\(l[i].ifc:ByteArray)=l[i].ifc/\True:=h3;refine Yi aa3 (Yi (Ii i B0) (Xi ⟨i+1,n2⟩ ?_));exact⟨Dl l.length i B0,Z3,Tv,Fh,Tv⟩
  have h3:¬((l[i].path:ByteArray)=l[i].path/\(l[i].ver.a:Int)=l[i].ver.a/\(l[i].ver.b:Int)=l[i].ver.b/\(l[i].ver.c:Int)=l[i].ver.c/\(l[i].arch:ByteArray)=l[i].arch/\(l[i].ifc:ByteArray)=l[i].ifc/\True):=h3;exact absurd ⟨rfl,rfl,rfl,rfl,rfl,rfl,trivial⟩ h3
 have h2:¬((i:Int)<((l.map Cq).length:Int)):=h2;have n2:=FH h2;exact .refl _
theorem vJ(l:List Nf)(hl:l.length<=1000000):PC 43 [sl AR l,sl AR l] (vb true):=by
 refine Ps Ea Tryz.func43 rfl (Nz rfl) (Yi (fun h1=>?_) (fun h1=>?_))
 .exact absurd rfl h1
 have h1:((l.map AR).length:Int)=((l.map AR).length:Int):=AY h1;refine Xi {q:Nat // q<=l.length} (Xi (fun q=>⟨[(0,sl AR l),(1,sl AR l),(5,vi q.1)],[],Ad⟩) (Xi (fun q=>l.length-q.1) (Yi (Xi ⟨0,Ao _⟩ ?_) ?_)))
 .exact⟨Z3,Tv,Fh,Tv⟩
 intro⟨i,i1⟩;refine Yi (fun h2=>?_) (fun h2=>?_)
 .have h2:(i:Int)<((l.map AR).length:Int):=h2;have n2:=IN h2;refine Xi (AR l[i]) (Yi (LX n2) (Yi rfl (yN (Xi (AR l[i]) (Yi (LX n2) (Yi rfl (yN (Yi (fun h3=>?_) (fun h3=>?_)))))))))
  .have h3:(l[i].kind:Int)=l[i].kind/\(l[i].path:ByteArray)=l[i].path/\(l[i].place:Int)=l[i].place/\(l[i].number:Int)=l[i].number/\(l[i].left:Int)=l[i].left/\(l[i].right:Int)=l[i].right/\True:=h3;refine Yi aa3 (Yi (Ii i B0) (Xi ⟨i+1,n2⟩ ?_));exact⟨Dl l.length i B0,Z3,Tv,Fh,Tv⟩
  have h3:¬((l[i].kind:Int)=l[i].kind/\(l[i].path:ByteArray)=l[i].path/\(l[i].place:Int)=l[i].place/\(l[i].number:Int)=l[i].number/\(l[i].left:Int)=l[i].left/\(l[i].right:Int)=l[i].right/\True):=h3;exact absurd ⟨rfl,rfl,rfl,rfl,rfl,rfl,trivial⟩ h3
 have h2:¬((i:Int)<((l.map AR).length:Int)):=h2;have n2:=FH h2;exact .refl _
theorem kZ(l:Lk)(hl:l.skips.length<=1000000/\l.roots.length<=1000000/\l.ents.length<=1000000/\l.infs.length<=1000000)(hq:∀q∈l.roots,Cz q.set):PC 13 [.agg (BH l),.agg (BH l)] (vb true):=by
 refine Ps (pC [2,3] []) Tryz.func13 rfl (Nz rfl) (Xi .pure (Xi _ (Yi (cb (Ay rfl) (o69 l.roots l.roots (AO hl.2.1 aa2) hq)) (Xi .pure (Xi _ (Yi (vI l.ents hl.2.2.1) (Xi .pure (Xi _ (Yi (vJ l.infs hl.2.2.2) (Yi (fun h1=>?_) (fun h1=>?_)))))))))))
 .exact absurd rfl h1
 have h1:((l.skips.map AJ).length:Int)=((l.skips.map AJ).length:Int):=AY h1;refine Xi {q:Nat // q<=l.skips.length} (Xi (fun q=>⟨[(2,.ref 2 0),(3,.ref 3 0),(5,vi q.1)],[(2,.ro (BH l)),(3,.ro (BH l))],Ad⟩) (Xi (fun q=>l.skips.length-q.1) (Yi (Xi ⟨0,Ao _⟩ ?_) ?_)))
 .exact⟨Z3,Z2,Fh,Tv⟩
 intro⟨i,i1⟩;refine Yi (fun h2=>?_) (fun h2=>?_)
 .have h2:(i:Int)<((l.skips.map AJ).length:Int):=h2;have n2:=IN h2;refine Xi (AJ l.skips[i]) (Yi (LX n2) (Yi rfl (yN (Xi (AJ l.skips[i]) (Yi (LX n2) (Yi rfl (yN (Yi (fun h3=>?_) (fun h3=>?_)))))))))
  .have h3:(l.skips[i].path:ByteArray)=l.skips[i].path/\(l.skips[i].place:Int)=l.skips[i].place/\(l.skips[i].inf:Int)=l.skips[i].inf/\True:=h3;refine Yi aa3 (Yi (Ii i B0) (Xi ⟨i+1,n2⟩ ?_));exact⟨Dl l.skips.length i B0,Z3,Z2,Fh,Tv⟩
  have h3:¬((l.skips[i].path:ByteArray)=l.skips[i].path/\(l.skips[i].place:Int)=l.skips[i].place/\(l.skips[i].inf:Int)=l.skips[i].inf/\True):=h3;exact absurd ⟨rfl,rfl,rfl,trivial⟩ h3
 have h2:¬((i:Int)<((l.skips.map AJ).length:Int)):=h2;have n2:=FH h2;exact .refl _
section
variable {x:List Rl}{ifs:List (List AV)}{l:Lk}
theorem sW(h:MR l):∀e∈l.ents,Fx e.path:=fun e he=>by
 have q:=A9.1 h.en e he;unfold bz at q;have q:=BR q;unfold Fx;omega
theorem ir(h:MR l):Y0 (N5 l)=true:=by
 unfold Y0;rw[Ay (show(N5 l).infs.length<=400 from AO h.il aa2),Ay (show(Pd l).length<=16 by rw[Lm];exact h.el),Ay (show(N5 l).skips.length<=100 from h.kl)];rfl
theorem qH(L:c8 x l.roots)(h:MR l):PC 48 [.agg (BH l)] (vb (DT l)):=
 Qu l L.rq (sW h) (AO h.el aa2) (AO h.il aa2) (AO h.kl aa2)
theorem uj(L:c8 x l.roots)(hs:(Qi x 16&&D8 l.roots)=true)(h:MR l):PC 18 [PK x ifs,.agg (BH l)] (vi (gt x l)):=
 vK x ifs l L.x L.ix (sD Uh x ifs L.x) (fun p v=>xO x ifs p v (L.c84 ifs) L.x) (qH L h) (L.c21 ifs hs (N5 l) (ir h)) (AO h.el aa2)
theorem lY{x:List Rl}{roots:List Rq}(h:(Qi x 16&&D8 roots)=true):roots.length<=1000000:=AO (UQ h) aa2
end
structure r8(l:Lk):Prop where
 el:l.ents.length<=1048576
 il:l.infs.length<=1048576
 kl:l.skips.length<=1048576
open Classical in
theorem ip{l:Lk}(h:QH l=true):MR l:=by unfold QH at h;exact BR h
end Go.Eng
namespace Go.Proofs
open Go.Shelf Go.RowKit Go.Lib Go.Sort
abbrev OneC:Type:={v:Value // v.oneCell'=true}
def SlA:Type:=ByteArray×OneC×OneC×OneC
instance:Inhabited SlA:=⟨⟨ByteArray.empty,⟨.bool false,rfl⟩,⟨.bool false,rfl⟩,⟨.bool false,rfl⟩⟩⟩
def encSlA(x:SlA):List Value:=[.string x.1,x.2.1.1,x.2.2.1.1,x.2.2.2.1]
def cfSlA(x y:SlA):Int:=Lib.compareBytes x.1.data.toList y.1.data.toList
abbrev CmpSlA(k:Nat):Prop:=∀(x y:SlA) (W:World),Calls Tryz.prog k #[.agg #[.string x.1,x.2.1.1,x.2.2.1.1,x.2.2.2.1],.agg #[.string y.1,y.2.1.1,y.2.2.1.1,y.2.2.2.1]] W fun e w'=>e=.returned (.int .i64 (cfSlA x y))/\∃q os',w'=grow (W.drewN q) os'
theorem Tryz.closure84:CmpSlA 84:=fun x y W=>by
 have hcon:=fun W'=>Any.strings_Compare Tryz.layCompare x.1 y.1 W';obtain⟨a,⟨b,hb⟩,⟨c,hc⟩,⟨d,hd⟩⟩:=x;obtain⟨a',⟨b',bJ⟩,⟨c',yx⟩,⟨d',ld⟩⟩:=y;dsimp only at hcon
 change ∀W',Calls Tryz.prog 85 _ _ _ at hcon
 unfold cfSlA;dsimp only;generalize Lib.compareBytes a.data.toList a'.data.toList=r at hcon⊢
 go_enter Tryz.func84,Tryz.ntmps84
 go_wp2_with (go_at_call 85;refine(hcon _).mono ?_;rintro e w' ⟨rfl,rfl⟩)
 go_ret
 exact⟨rfl,0,_,by rw[alloc_eq_grow,alloc_eq_grow,grow_grow];rfl⟩
end Go.Proofs
namespace Go.Eng
open Go.Proofs Go.Shelf Go.RowKit Go.Lib Go.Sort
theorem ce(x y:SlA):ltOf cfSlA x y=E0 x.1 y.1:=Th _ _
theorem kG:SWO (ltOf cfSlA) where
 irrefl x:=by rw[ce];exact CO _
 trans x y z h1 h2:=by rw[ce]at *;exact DZ h1 h2
 ntrans x y z h1 h2:=by
  rw[ce]at *
  rw[Bn];intro h;cases rW:E0 y.1 x.1 with
  |true=>have:=DZ rW h;rw[h2]at this;cases this
  |false=>
   have e:=HT h1 rW;rw[e]at h;rw[h2]at h;cases h
theorem s92(k:Nat)(hc:CmpSlA k)(eg:∀args w,(callFunc k args).run Tryz.prog w=.ok (.enter k args) w)(l:List Sl)(hl:Cz l)(lim:Nat)(XO:lim<100) :
  Bd Tryz.prog 157 [.msl 1000 l.length,vi 0,vi l.length,vi lim,.v (Gz k)] (Ag [(1000,.arr 4 (l.map Al))] Ad) fun r h'=>
   r=.tup []/\∃l' : List Sl,l'.Perm l/\l'.Pairwise (fun x y=>E0 y.path x.path=false)/\h'=Ag [(1000,.arr 4 (l'.map Al))] Ad:=by
 have hl:l.length<=1073741824:=hl;have hE:FN Tryz.prog 157:=dI 157 Tryz.func157 aa3 rfl;have Ix:=IY (P:=Tryz.prog) (f:=157) (α:=SlA) (rest:=[.int .i64 0,.int .i64 l.length,.int .i64 lim,Gz k]) hE Al encSlA (k:=4) (fun _=>rfl) (fun _=>rfl) (ltOf cfSlA) (fun x a=>a.1=x.path) l B0 ?_ ?_ ?_
 .refine⟨hE,fun g w vals q1 q2 q3=>(Ix.2 g w vals q1 q2 q3).mono fun _ _ ⟨v,r,h',g',e1,⟨e2,l',p1,⟨al,a1,a2,a3⟩,p2⟩,rest⟩=>⟨v,r,h',g',e1,⟨e2,l',p1,?_,p2⟩,rest⟩⟩;rw[BT]at a3⊢;intro i j hi hj Wd
  have:=a3 i j B0 B0 Wd
  rw[ce]at this;have e1:=a2 i _ _ (Ge hi) (Ge B0);have e2:=a2 j _ _ (Ge hj) (Ge B0);rw[<-e1,<-e2];exact this
 .intro x hx g w vs hr
  match vs,hr with
  | [a,b,c,d],hr=>
   have h1:=(hr.2.2 0 (Go.Eng.vs x.path) a rfl rfl).v_eq;subst h1;exact⟨⟨x.path,⟨b,hr.2.1 b aa0⟩,⟨c,hr.2.1 c aa0⟩,⟨d,hr.2.1 d aa0⟩⟩,rfl,rfl⟩
  | [],hr=>have:=hr.1;simp at this
  | [_],hr=>have:=hr.1;simp at this
  | [_,_],hr=>have:=hr.1;simp at this
  | [_,_,_],hr=>have:=hr.1;simp at this
  |_::_::_::_::_::_,hr=>have:=hr.1;simp at this
 .intro w b cap d hH hb EQ hdl;have iQ:CmpLays Tryz.prog k #[] encSlA 4 cfSlA b 0 d.size w:=fun _ _ _ _ x y=>hc x y _;have hp:=AnyQ.pdqsortCmpFunc_all Tryz.layPdqSel 4 Tryz.isAgg45 Tryz.sizeOf45 encSlA cfSlA k #[] kG b 0 cap d w eg iQ ⟨fun _=>rfl,fun x v hv=>by
    simp only[encSlA,AM,Lc,or_false]at hv;rcases hv with rfl | rfl | rfl | rfl
    .rfl
    .exact x.2.1.2
    .exact x.2.2.1.2
    .exact x.2.2.2.2,hH,hb⟩ (d.size+1) 0 d.size lim d w B0 rfl (SWK.start hH) (Ao _) (Ai _) EQ B0 (Or.inl rfl)
  rw[hdl]at hp⊢;refine hp.mono ?_
  rintro e w' ⟨rfl,n,os,rfl⟩
  have h:=pdq_sorts (ltOf cfSlA) kG d 0 d.size lim true true (Ao _) (Ai _) (Or.inl rfl);rw[hdl]at h;exact⟨rfl,_,n,os,h.1,h.2,rfl⟩
 .intro e w;subst e;exact AnyF.pdqsortCmpFunc_none Tryz.layPdqSel none 0 lim (Gz k) w
theorem Ut{l l' : List Sl}(h1:Ua l)(h2:Ua l')(hm:∀y,y∈l↔y∈l'):l=l':=by
 induction l generalizing l' with
 |nil=>
  cases l' with
  |nil=>rfl
  |cons y l'=>have:=(hm y).2 (Ae ..);cases this
 |cons x l ih=>
  cases l' with
  |nil=>have:=(hm x).1 (Ae ..);cases this
  |cons y l'=>
   obtain⟨a1,a2⟩:=DA.1 h1;obtain⟨b1,b2⟩:=DA.1 h2;have e:x=y:=by
    rcases AM.1 ((hm x).1 (Ae ..))with e | e
    .exact e
    .rcases AM.1 ((hm y).2 (Ae ..))with e2 | e2
     .exact e2.symm
     .have c1:=b1 x e;have c2:=a1 y e2
      have:=DZ c1 c2
      rw[CO]at this;cases this
   subst e
   congr 1
   refine ih a2 b2 fun z=>⟨fun hz=>?_,fun hz=>?_⟩
   .rcases AM.1 ((hm z).1 (Ah _ hz))with e | e
    .subst e
     have:=a1 z hz
     rw[CO]at this;cases this
    .exact e
   .rcases AM.1 ((hm z).2 (Ah _ hz))with e | e
    .subst e
     have:=b1 z hz
     rw[CO]at this;cases this
    .exact e
theorem kD{l l' : List Sl}(hn:(l.map (·.path)).Nodup)(hp:l'.Perm l)(hs:l'.Pairwise fun x y=>E0 y.path x.path=false):l'=Ev l:=by
 refine Ut ?_ (Ql hn) fun y=>by rw[hp.mem_iff,FL]
 have bS : (l'.map (·.path)).Nodup:=(hp.map (·.path)).nodup_iff.2 hn;show l'.Pairwise _;rw[BT]at hs⊢;intro i j hi hj Wd;cases hb:E0 l'[i].path l'[j].path with
 |true=>rfl
 |false=>
  have e:=HT hb (hs i j hi hj Wd)
  have:=(BT.1 bS) i j (by simpa using hi) (by simpa using hj) Wd
  simp at this;exact absurd e this
theorem s47(k:Nat)(hc:CmpSlA k)(eg:∀args w,(callFunc k args).run Tryz.prog w=.ok (.enter k args) w)(l:List Sl)(hl:Cz l)(hn:(l.map (·.path)).Nodup) :
  Bd Tryz.prog 83 [.msl 1000 l.length,.v (Gz k)] (Ag [(1000,.arr 4 (l.map Al))] Ad) fun r h'=>
   r=.tup []/\h'=Ag [(1000,.arr 4 ((Ev l).map Al))] Ad:=by
 obtain⟨lim,XO,hb⟩:=pF l.length hl;refine Bm (IF Ea) [(1000,1000)] rfl BB hm rfl Tryz.func83 aa3 rfl (Nz rfl) aa3 rfl (Xi .pure (Xi _ (Yi (hb) (Xi (.gen [(1000,1000)] 0) (Yi rfl ((s92 k hc eg l hl lim XO).imp ?_))))));intro r h' hq;refine A1 hq.2 (fun l' Pk=>?_);have e:=kD hn Pk.1 Pk.2.1;refine Xi (.tup []) (Yi ?_ (Yi rfl ?_))
 .exact .refl _
 .rw[Pk.2.2,e];rfl
end Go.Eng
namespace Go.Eng
open Go.Proofs
variable {l:List Nf}{i:Nf}{caps:List AV}{k fF:Nat}(roots:List Rq)(C A:List (Value×AV))(s:SS)(dec:List Cd)(st:List (List Sk))(S:List Sl)(n:Nd)(c:Cd)
abbrev AL:List AV:=vi c.place::At c.rel
abbrev Bi:List AV:=[vs n.rq.path,sl Ap n.rq.set,vs n.path,vi n.place,vi n.number]
abbrev A7(l:List Sk):List AV:=[sl AJ l]
abbrev Cm(i:Nat):List AV:=[vi (i:Nat)]
def E9:Er:=⟨true,[.int .i64,.str,.int .i64,.int .i64,.int .i64,.int .i64]⟩
def K3(i:Nf):Value:=.agg [.int .i64 i.kind,.string i.path,.int .i64 i.place,.int .i64 i.number,.int .i64 i.left,.int .i64 i.right].toArray
def Fe:Nat->List Nf->List (Value×AV)
 |_,[]=>[]
 |k,i::l=>(K3 i,vi (k:Nat))::Fe (k+1) l
abbrev wO(n:Nat):List AV:=
 [sl Af roots,.cmap Cc C,.cmap Cc A,.slice (.id 1001 6) (s.infs.map AR),.slice (.id 1002 1) (s.drv.map AD),.mref 1003,vb s.full,sl AL dec,sl Al (AH dec),.msl 1004 n]
abbrev srM(k n:Nat):List AV:=
 [sl Af roots,.cmap Cc C,.cmap Cc A,.slice (.id 1001 6) (s.infs.map AR),.slice (.id 1002 1) (s.drv.map AD),.mref 1003,vb s.full,sl AL dec,sl Al (AH dec),.msl k n]
abbrev IR:List (Nat×HO):=
 [(1000,.cells (wO roots C A s dec st.length)),(1001,.tok 6 s.infs.length),(1002,.tok 1 s.drv.length),(1003,.map E9 (Fe 0 s.infs)),(1004,.arr 1 (st.map A7))]
theorem Aas(hs:CN caps)(l:List (Cd))(p:Cd->Bool)(hF:∀x∈l,PC fF ([.agg (AL x)]++caps) (vb (p x)))(hl:l.length<9223372036854775807) :
  PC 340 [sl AL l,.clo fF caps] (vi (JI p l 0)):=by
 refine Ps Ea Tryz.func340 rfl (Nz rfl) (Xi {i:Nat // i<=l.length/\∀j (hj:j<l.length),j<i->p l[j]=false} (Xi (fun i=>⟨[(0,sl AL l),(1,.clo fF caps),(7,vi (l.map AL).length),(8,vi i.1)],[],Ad⟩) (Xi (fun i=>l.length-i.1) (Yi (Xi ⟨0,by simp⟩ ?_) ?_))))
 .exact⟨⟨Zr,⟨rfl,hs.ids _⟩,Zr,Zr,Tv⟩,Tv,Fh,Tv⟩
 .intro⟨i,h1,h2⟩;refine Yi ?_ ?_
  .intro h;have h:i<l.length:=by simpa using h
   have hg:l[i]?=some l[i]:=Ge h;refine Xi (AL l[i]) (Yi (Yi (Nn i) (by simp[hg])) (Yi rfl (yN ?_)));have Cj:∀h,PC fF ([.agg (AL l[i])]++caps.map (str0 h)) (vb (p l[i])):=fun h=>by rw[hs.map];exact hF l[i] (Am _)
   cases hp:p l[i]with
   |true=>
    rw[hp]at Cj;refine Xi .pure (Xi (vb true) (Yi (Cj _) ?_));rw[KC h (fun j hj JY=>h2 j hj JY) hp,F0];exact .refl _
   |false=>
    rw[hp]at Cj;refine Xi .pure (Xi (vb false) (Yi (Cj _) (Yi (Ii i B0) (Xi ⟨i+1,by omega,fun j hj JY=>?_⟩ ?_))))
    .by_cases e:j=i
     .subst e;exact hp
     .exact h2 j hj B0
    .exact⟨Dl l.length i B0,⟨Zr,⟨rfl,hs.ids _⟩,Zr,Zr,Tv⟩,Tv,Fh,Tv⟩
  .intro h;have h:¬i<l.length:=by simpa using h
   rw[Hs fun j hj=>h2 j hj B0];exact .refl _
theorem s86(hs:CN caps)(l:List (Nd))(p:Nd->Bool)(hF:∀x∈l,PC fF ([.agg (Bi x)]++caps) (vb (p x)))(hl:l.length<9223372036854775807) :
  PC 149 [sl Bi l,.clo fF caps] (vi (JI p l 0)):=by
 refine Ps Ea Tryz.func149 rfl (Nz rfl) (Xi {i:Nat // i<=l.length/\∀j (hj:j<l.length),j<i->p l[j]=false} (Xi (fun i=>⟨[(0,sl Bi l),(1,.clo fF caps),(7,vi (l.map Bi).length),(8,vi i.1)],[],Ad⟩) (Xi (fun i=>l.length-i.1) (Yi (Xi ⟨0,by simp⟩ ?_) ?_))))
 .exact⟨⟨Zr,⟨rfl,hs.ids _⟩,Zr,Zr,Tv⟩,Tv,Fh,Tv⟩
 .intro⟨i,h1,h2⟩;refine Yi ?_ ?_
  .intro h;have h:i<l.length:=by simpa using h
   have hg:l[i]?=some l[i]:=Ge h;refine Xi (Bi l[i]) (Yi (Yi (Nn i) (by simp[hg])) (Yi rfl (yN ?_)));have Cj:∀h,PC fF ([.agg (Bi l[i])]++caps.map (str0 h)) (vb (p l[i])):=fun h=>by rw[hs.map];exact hF l[i] (Am _)
   cases hp:p l[i]with
   |true=>
    rw[hp]at Cj;refine Xi .pure (Xi (vb true) (Yi (Cj _) ?_));rw[KC h (fun j hj JY=>h2 j hj JY) hp,F0];exact .refl _
   |false=>
    rw[hp]at Cj;refine Xi .pure (Xi (vb false) (Yi (Cj _) (Yi (Ii i B0) (Xi ⟨i+1,by omega,fun j hj JY=>?_⟩ ?_))))
    .by_cases e:j=i
     .subst e;exact hp
     .exact h2 j hj B0
    .exact⟨Dl l.length i B0,⟨Zr,⟨rfl,hs.ids _⟩,Zr,Zr,Tv⟩,Tv,Fh,Tv⟩
  .intro h;have h:¬i<l.length:=by simpa using h
   rw[Hs fun j hj=>h2 j hj B0];exact .refl _
theorem vl(hs:CN caps)(l:List (Cd))(p:Cd->Bool)(hF:∀x∈l,PC fF ([.agg (AL x)]++caps) (vb (p x)))(hl:Cz l) :
  PC 290 [sl AL l,.clo fF caps] (vb (l.any p)):=by
 refine Ps Ea Tryz.func290 rfl (Nz rfl) ?_;have hi:=Aas hs l p hF (by unfold Cz at hl;omega);have Cj:∀h,PC 340 [sl AL l,.clo fF (caps.map (str0 h))] (vi (JI p l 0)):=fun h=>by rw[hs.map];exact hi
 refine Xi .pure (Xi _ (Yi (Cj _) ?_));have ha:=Jr (p:=p) l 0 (Cp 0);refine Yi ?_ ?_
 .intro h;rw[<-ha,Ay h];exact .refl _
 .intro h;rw[<-ha,Au h];exact .refl _
theorem vq(l:List Cd)(hl:Cz l):Bd Tryz.prog 154 [sl AL l] (Ag [] Ad) fun r h'=>r=.slice (.id 2000 10) (l.map AL)/\h'=Ag [(2000,.tok 10 (l.map AL).length)] Ad:=by
 refine Bm (IF (uE 10)) [(2,2000)] rfl BB hm rfl Tryz.func154 aa3 rfl (Nz rfl) aa3 rfl ?_;have DG:BX 10 (l.map AL)/\([]:List (List AV)).length=0/\(([]:List (List AV)).length+(l.map AL).length)*128<=140737488355328/\([]:List (List AV)).length+(l.map AL).length<=9223372036854775807:=by
  refine⟨DK (enc:=AL) (n:=10) (fun _=>rfl) l,rfl,?_,?_⟩<;>simp only[A0,Lm]<;>unfold Cz at hl<;>omega
 have e2:HO.tok 10 (([]:List (List AV)).length+(l.map AL).length)=.tok 10 (l.map AL).length:=by rw[A0,Bz]
 have e3:AV.slice (.id 2000 10) ([]++l.map AL)=.slice (.id 2000 10) (l.map AL):=rfl;have full:∀st:St,(∃s:LS,St.le (IF (uE 10)) st s/\True)->True:=fun _ _=>trivial;refine Xi 0 (Xi 0 (Yi ?_ ?_))
 .intro _;refine cU [(0,sl AL l)] [] Z1 Tv (Xi 2 (Yi DG ?_));exact Xi _ (Yi (.refl _) (Yi e3 (Ab (fun o=>Ag [(2000,o)] Ad) e2)))
 .intro h;refine Yi ?_ ?_
  .refine Xi ⟨[],[],Ad⟩ (Yi ⟨trivial,trivial,fun _=>.inl rfl,Bp aa3⟩ ?_);refine Xi 0 ?_;exact Xi _ (Yi (.refl _) (Yi (show AV.slice (.id 2000 10) []=_ by rw[h]) (show Ag [(2000,HO.tok 10 0)] Ad=_ by rw[h];rfl)))
  .refine cU [(0,sl AL l)] [] Z1 Tv (Xi 2 (Yi DG ?_));exact Xi _ (Yi (.refl _) (Yi e3 (Ab (fun o=>Ag [(2000,o)] Ad) e2)))
theorem RG:∀{l:List Nf} {k:Nat} {kx:Value} {a:AV},(kx,a)∈Fe k l↔∃j i,l[j]?=some i/\kx=K3 i/\a=vi ((k+j:Nat):Int)
 | [],k,kx,a=>by simp[Fe]
 |y::l,k,kx,a=>by
  unfold Fe;rw[AM,RG];constructor
  .rintro(h | ⟨j,i,h1,h2,h3⟩)
   .cases h;exact⟨0,y,rfl,rfl,rfl⟩
   .exact⟨j+1,i,h1,h2,by rw[h3,show k+1+j=k+(j+1) by omega]⟩
  .rintro⟨j,i,h1,h2,h3⟩
   cases j with
   |zero=>cases h1;exact .inl (by rw[h2,h3];rfl)
   |succ j=>exact .inr ⟨j,i,h1,h2,by rw[h3,show k+1+j=k+(j+1) by omega]⟩
theorem U6{a b:Nf}(h:K3 a=K3 b):a=b:=by
 obtain⟨a1,a2,a3,a4,a5,a6⟩:=a;obtain⟨b1,b2,b3,b4,b5,b6⟩:=b;unfold K3 at h;simp at h;obtain⟨rfl,rfl,rfl,rfl,rfl,rfl⟩:=h
 rfl
theorem uk(h:Ln i 0 l=some k):(K3 i,vi (k:Nat))∈Fe 0 l:=by
 obtain⟨j,e,hj⟩:=MG h;exact RG.2 ⟨j,i,hj,rfl,by rw[e]⟩
theorem mQ(hn:l.Nodup)(h:Ln i 0 l=some k):∀b,(K3 i,b)∈Fe 0 l->b=vi (k:Nat):=fun b hb=>by
 obtain⟨j,e,hj⟩:=MG h;obtain⟨j',i',h1,h2,h3⟩:=RG.1 hb
 have:=U6 h2
 subst this;obtain⟨a1,a2⟩:=AE.1 hj;obtain⟨b1,b2⟩:=AE.1 h1
 have:j'=j:=(List.getElem_inj hn).1 (b2.trans a2.symm)
 subst this;rw[h3,e]
theorem oZ(h:Ln i 0 l=none):∀a,(K3 i,a)∉Fe 0 l:=fun a ha=>by
 obtain⟨j,i',h1,h2,_⟩:=RG.1 ha
 have:=U6 h2
 subst this;exact PX h (Ax h1)
theorem ca:∀(l:List Nf) (k:Nat) (i:Nf),Fe k (l++[i])=Fe k l++[(K3 i,vi ((k+l.length:Nat):Int))]
 | [],k,i=>by simp[Fe]
 |y::l,k,i=>by
  show(K3 y,_)::Fe (k+1) (l++[i])=_;rw[ca l (k+1) i];simp[Fe,show k+1+l.length=k+(l.length+1) by omega]
theorem qK(h:Ln i 0 l=none):EF (Fe 0 l) (K3 i) (vi ((l.map AR).length:Int))=Fe 0 (l++[i]):=by
 rw[Ib (oZ h),ca,Lm,Bz]
theorem W4{s:SS}{l:List Tm}(h:Ln i 0 s.infs=some k):DP s i l=(k,s):=by unfold DP;rw[h]
theorem Uv{s:SS}{l:List Tm}(h:Ln i 0 s.infs=none)(hf:65536<=s.infs.length):DP s i l=(s.infs.length-1,⟨s.infs,s.drv,true⟩):=by unfold DP;rw[h];exact As hf
theorem W2{s:SS}{l:List Tm}(h:Ln i 0 s.infs=none)(hf:¬65536<=s.infs.length):DP s i l=(s.infs.length,⟨s.infs++[i],s.drv++[l],s.full⟩):=by unfold DP;rw[h];exact AB hf
section
variable {roots:List Rq}{C A:List (Value×AV)}{s s' : SS}{dec:List Cd}{st:List (List Sk)}{i:Nf}{l:List Tm}
theorem gE{z:Int}(e:DP s i l=(k,s'))(hz:z=k):vi z=vi ((DP s i l).1:Nat)/\Ag (IR roots C A s' dec st) Ad=Ag (IR roots C A (DP s i l).2 dec st) Ad:=by rw[e,hz];exact Zr
theorem sb(h:Ln i 0 s.infs=none):Ag [(1000,.cells [sl Af roots,.cmap Cc C,.cmap Cc A,.slice (.id 1001 6) (s.infs.map AR++[AR i]),.slice (.id 1002 1) (s.drv.map AD++[AD l]),.mref 1003,vb s.full,sl AL dec,sl Al (AH dec),.msl 1004 st.length]),
      (1001,.tok 6 ((s.infs.map AR).length+[AR i].length)),(1002,.tok 1 ((s.drv.map AD).length+[AD l].length)),(1003,.map E9 (EF (Fe 0 s.infs) (K3 i) (vi ((s.infs.map AR).length:Int)))),(1004,.arr 1 (st.map A7))] Ad=Ag (IR roots C A ⟨s.infs++[i],s.drv++[l],s.full⟩ dec st) Ad:=by
  have e1:s.infs.map AR++[AR i]=(s.infs++[i]).map AR:=aa0
  have e2:s.drv.map AD++[AD l]=(s.drv++[l]).map AD:=aa0
  have e3:(s.infs.map AR).length+[AR i].length=(s.infs++[i]).length:=aa0
  have e4:(s.drv.map AD).length+[AD l].length=(s.drv++[l]).length:=aa0
  rw[e1,e2,e3,e4,qK h]
end
theorem vo(p:ByteArray):PC 291 [.agg (AL c),.cptr [vs p]] (vb (decide (c.rel.path=p))):=by
 refine Ps (pC [2] []) Tryz.func291 rfl (Nz rfl) (Yi (fun h1=>?_) (fun h1=>?_))
 .exact .of_eq (show vb true=vb (decide (c.rel.path=p)) by rw[Ay h1])
 exact .of_eq (show vb false=vb (decide (c.rel.path=p)) by rw[Au h1])
theorem vh(t:Tm)(p:ByteArray):PC 228 [.agg (Az t),.cptr [vs p]] (vb (decide (t.path=p))):=by
 refine Ps (pC [2] []) Tryz.func228 rfl (Nz rfl) (Yi (fun h1=>?_) (fun h1=>?_))
 .exact .of_eq (show vb true=vb (decide (t.path=p)) by rw[Ay h1])
 exact .of_eq (show vb false=vb (decide (t.path=p)) by rw[Au h1])
theorem lj(l:List Tm)(p:ByteArray)(hl:Cz l):PC 155 [sl Az l,vs p] (vb (Dr l p)):=by
 refine Ps (pC [3] []) Tryz.func155 rfl (Nz rfl) (BK (Bt (Dr l p)) (fun h1=>?_) (fun h1=>?_))
 .refine Xi .pure (Xi _ (Yi (cb h1 (show PC 227 [sl Az l,.clo 228 [.cptr [vs p]]] (vb (Dr l p))from pH (fF:=228) (caps:=[.cptr [vs p]]) (fun c hc=>by obtain rfl:=AC.1 hc;intro h;rfl) l (fun t=>decide (t.path=p)) (fun t _=>vh t p) hl)) ?_));exact .of_eq (show vb true=vb (Dr l p) by rw[h1])
 refine Xi .pure (Xi _ (Yi (cb h1 (show PC 227 [sl Az l,.clo 228 [.cptr [vs p]]] (vb (Dr l p))from pH (fF:=228) (caps:=[.cptr [vs p]]) (fun c hc=>by obtain rfl:=AC.1 hc;intro h;rfl) l (fun t=>decide (t.path=p)) (fun t _=>vh t p) hl)) ?_));exact .of_eq (show vb false=vb (Dr l p) by rw[h1])
theorem vg(p:ByteArray)(hl:Cz dec):Bd Tryz.prog 223 [.ref 1000 0,vs p] (Ag (IR roots C A s dec st) Ad) fun r h'=>r=vb (De dec p)/\h'=Ag (IR roots C A s dec st) Ad:=by
 refine Bm (IF (pC [3] [])) [(1000,1000),(1001,1001),(1002,1002),(1003,1003),(1004,1004)] rfl BB hm rfl Tryz.func223 aa3 rfl (Nz rfl) aa3 rfl (BK (Bt (De dec p)) (fun h1=>?_) (fun h1=>?_))
 .refine Xi .pure (Xi _ (Yi (cb h1 (show PC 290 [sl AL dec,.clo 291 [.cptr [vs p]]] (vb (De dec p))from vl (fF:=291) (caps:=[.cptr [vs p]]) (fun c hc=>by obtain rfl:=AC.1 hc;intro h;rfl) dec (fun c=>decide (c.rel.path=p)) (fun c _=>vo c p) hl)) ?_));exact Xi _ (Yi (.refl _) (Yi (show vb true=vb (De dec p) by rw[h1]) rfl))
 refine Xi .pure (Xi _ (Yi (cb h1 (show PC 290 [sl AL dec,.clo 291 [.cptr [vs p]]] (vb (De dec p))from vl (fF:=291) (caps:=[.cptr [vs p]]) (fun c hc=>by obtain rfl:=AC.1 hc;intro h;rfl) dec (fun c=>decide (c.rel.path=p)) (fun c _=>vo c p) hl)) ?_));exact Xi _ (Yi (.refl _) (Yi (show vb false=vb (De dec p) by rw[h1]) rfl))
theorem nP(i:Nf)(l:List Tm)(k:Nat)(hk:Ln i 0 s.infs=some k)(SU:s.infs.Nodup):Bd Tryz.prog 224 [.ref 1000 0,.agg (AR i),sl Az l] (Ag (IR roots C A s dec st) Ad) fun r h'=>r=vi ((DP s i l).1:Nat)/\h'=Ag (IR roots C A (DP s i l).2 dec st) Ad:=by
 refine Bm (IF (pC [4] [])) [(1000,1000),(1001,1001),(1002,1002),(1003,1003),(1004,1004)] rfl BB hm rfl Tryz.func224 aa3 rfl (Nz rfl) aa3 rfl (yN ?_);refine Or.inl (Xi (vi (k:Nat)) (Yi (Yi (uk hk) (mQ SU hk)) ?_));refine Yi aa3 ?_;exact Xi _ (Yi (.refl _) (gE (W4 hk) rfl))
theorem nO(i:Nf)(l:List Tm)(hk:Ln i 0 s.infs=none)(hn:s.infs.length<=65536)(hdl:s.drv.length=s.infs.length):Bd Tryz.prog 224 [.ref 1000 0,.agg (AR i),sl Az l] (Ag (IR roots C A s dec st) Ad) fun r h'=>r=vi ((DP s i l).1:Nat)/\h'=Ag (IR roots C A (DP s i l).2 dec st) Ad:=by
 have hdn:s.drv.length<=65536:=B0
 have wl:(s.infs.map AR).length=s.infs.length:=Lm _;refine Bm (IF (pC [4] [])) [(1000,1000),(1001,1001),(1002,1002),(1003,1003),(1004,1004)] rfl BB hm rfl Tryz.func224 aa3 rfl (Nz rfl) aa3 rfl (yN ?_);refine Or.inr (Yi (oZ hk) ?_);refine Yi aa3 (Yi (fun h1=>?_) (fun h1=>?_))
 .refine yN (Yi (by show A8 (((s.infs.map AR).length:Int)-(1:Int));unfold A8;omega) ?_);exact Xi _ (Yi (.refl _) (gE (Uv hk (by have q:=h1;rw[Lm]at q;omega)) (by have q:=h1;rw[Lm]at q⊢;omega)))
 refine yN (Yi aa3 (yN (Yi (Zm rfl B0 aa2) (yN (Yi aa3 (Yi (Zm rfl B0 aa2) (yN ?_)))))));have hq:=gE (roots:=roots) (C:=C) (A:=A) (dec:=dec) (st:=st) (z:=((s.infs.map AR).length:Int)) (W2 (l:=l) hk (by have q:=h1;rw[Lm]at q;omega)) (by rw[Lm]);exact Xi _ (Yi (.refl _) (Yi hq.1 ((sb hk).trans hq.2)))
structure Kj(x:List Rl)(roots:List Rq)(s:SS):Prop where
 der:Eo x roots s
 nodup:s.infs.Nodup
abbrev pk(o:Nat×SS)(r:AV)(h' : Nat->HO):Prop:=r=vi (o.1:Nat)/\h'=Ag (IR roots C A o.2 dec st) Ad
theorem nN(i:Nf)(l:List Tm)(hn:s.infs.length<=65536)(hdl:s.drv.length=s.infs.length)(SU:s.infs.Nodup) :
  Bd Tryz.prog 224 [.ref 1000 0,.agg (AR i),sl Az l] (Ag (IR roots C A s dec st) Ad) (pk roots C A dec st (DP s i l)):=by
 cases hk:Ln i 0 s.infs with
 |some k=>exact nP roots C A s dec st i l k hk SU
 |none=>exact nO roots C A s dec st i l hk hn hdl
abbrev Zt:IC:=[(1000,1000),(1001,1001),(1002,1002),(1003,1003),(1004,1004)]
theorem sY{h2:Nat->HO}{cs:List AV}{o1 o2 o3 o4:HO}(e0:h2 1000=.cells cs)(e1:h2 1001=o1)(e2:h2 1002=o2)(e3:h2 1003=o3)(e4:h2 1004=o4) :
  Ff Zt h2=Ag [(1000,.cells (cs.map (ren1 (Cn Zt) h2))),(1001,o1.ren (Cn Zt) h2),(1002,o2.ren (Cn Zt) h2),(1003,o3.ren (Cn Zt) h2),(1004,o4.ren (Cn Zt) h2)] Ad:=by
 unfold Ff;simp only[WA];rw[e0,e1,e2,e3,e4];rfl
theorem eI{s:SS}{n:Nd}(h:n.path=mt):DP s ⟨0,mt,0,n.number,0,0⟩ (Gt n.rq)=Bx s n:=by unfold Bx OH HI;rw[As h,As h]
theorem ji{s:SS}{n:Nd}(h:¬n.path=mt):DP s ⟨1,n.path,n.place,n.number,0,0⟩ (CW n.path n.place n.rq)=Bx s n:=by unfold Bx OH HI;rw[AB h,AB h]
abbrev VU(d:List (List Tm))(S:List Sl):AV:=.tup [vi (((Nu d S).getD 0:Nat):Int),vb (Nu d S).isSome]
theorem Xr{S:List Sl}:∀{l:List (List Tm)} {b i:Nat} {t:List Tm},l[i]?=some t->B7 t S=true->(∀j u,j<i->l[j]?=some u->B7 u S=false)->Oj S b l=some (b+i)
 | [],_,_,_,h,_,_=>by simp at h
 |u::l,b,0,t,h,he,_=>by cases h;unfold Oj;rw[As he];rfl
 |u::l,b,i+1,t,h,he,hn=>by
  unfold Oj;rw[AB (by rw[hn 0 u B0 rfl];decide),Xr (i:=i) (by simpa using h) he (fun j v hj hv=>hn (j+1) v B0 (by simpa using hv))]
  congr 1;omega
theorem Xs{S:List Sl}:∀{l:List (List Tm)} {b:Nat},(∀t∈l,B7 t S=false)->Oj S b l=none
 | [],_,_=>rfl
 |u::l,b,h=>by
  unfold Oj;rw[AB (by rw[h u (Ae ..)];decide)];exact Xs fun t ht=>h t (Ah _ ht)
theorem s88(hn:s.infs.length<=65536)(hdl:s.drv.length=s.infs.length)(SU:s.infs.Nodup)(hq:Cz n.rq.set)(hp:A8 (n.place+1)):Bd Tryz.prog 151 [.ref 1000 0,.agg (Bi n)] (Ag (IR roots C A s dec st) Ad) fun r h'=>pk roots C A dec st (Bx s n) r h':=by
 refine Bm (IF ⟨[3],[],[],[],[],[],[],[],[(15,5),(31,5)],[],[]⟩) [(1000,1000),(1001,1001),(1002,1002),(1003,1003),(1004,1004)] rfl BB hm rfl Tryz.func151 aa3 rfl (Nz rfl) aa3 rfl (Yi (fun h1=>?_) (fun h1=>?_))
 .refine yN (Xi _ (Yi (sr n.rq hq) (Xi Zt (Xi [(1000,.cells (srM roots C A s dec 1004 st.length)),(1001,.tok 6 s.infs.length),(1002,.tok 1 s.drv.length),(1003,.map E9 (Fe 0 s.infs)),(1004,.arr 1 (st.map A7))] (Xi (IR roots C A (DP s ⟨0,mt,0,n.number,0,0⟩ (Gt n.rq)).2 dec st) (Xi [.ref 1000 0,.agg [vi 0,vs ⟨#[]⟩,vi 0,vi n.number,vi 0,vi 0],sl Az (Gt n.rq)] (Xi (vi (((DP s ⟨0,mt,0,n.number,0,0⟩ (Gt n.rq)).1:Nat):Int):AV) (Yi (fun h2 hh=>Yi ((sY (show h2 1000=.cells (srM roots C A s dec 1004 st.length)from hh 1000 aa2) (show h2 1001=.tok 6 s.infs.length from hh 1001 aa2) (show h2 1002=.tok 1 s.drv.length from hh 1002 aa2) (show h2 1003=.map E9 (Fe 0 s.infs)from hh 1003 aa2) (show h2 1004=.arr 1 (st.map A7)from hh 1004 aa2)).trans rfl) rfl) (Yi aa3 (Yi (nN roots C A s dec st ⟨0,mt,0,n.number,0,0⟩ (Gt n.rq) hn hdl SU) (Yi aa3 ?_)))))))))));have ei:=eI (s:=s) h1;exact Xi _ (Yi (.refl _) (Yi (show vi (((DP s ⟨0,mt,0,n.number,0,0⟩ (Gt n.rq)).1:Nat):Int)=vi (((Bx s n).1:Nat):Int) by rw[ei]) (show Ag (IR roots C A (DP s ⟨0,mt,0,n.number,0,0⟩ (Gt n.rq)).2 dec st) Ad=Ag (IR roots C A (Bx s n).2 dec st) Ad by rw[ei])))
 refine yN (Xi _ (Yi (su n.path n.place n.rq hp hq) (Xi Zt (Xi [(1000,.cells (srM roots C A s dec 1004 st.length)),(1001,.tok 6 s.infs.length),(1002,.tok 1 s.drv.length),(1003,.map E9 (Fe 0 s.infs)),(1004,.arr 1 (st.map A7))] (Xi (IR roots C A (DP s ⟨1,n.path,n.place,n.number,0,0⟩ (CW n.path n.place n.rq)).2 dec st) (Xi [.ref 1000 0,.agg [vi 1,vs n.path,vi n.place,vi n.number,vi 0,vi 0],sl Az (CW n.path n.place n.rq)] (Xi (vi (((DP s ⟨1,n.path,n.place,n.number,0,0⟩ (CW n.path n.place n.rq)).1:Nat):Int):AV) (Yi (fun h2 hh=>Yi ((sY (show h2 1000=.cells (srM roots C A s dec 1004 st.length)from hh 1000 aa2) (show h2 1001=.tok 6 s.infs.length from hh 1001 aa2) (show h2 1002=.tok 1 s.drv.length from hh 1002 aa2) (show h2 1003=.map E9 (Fe 0 s.infs)from hh 1003 aa2) (show h2 1004=.arr 1 (st.map A7)from hh 1004 aa2)).trans rfl) rfl) (Yi aa3 (Yi (nN roots C A s dec st ⟨1,n.path,n.place,n.number,0,0⟩ (CW n.path n.place n.rq) hn hdl SU) (Yi aa3 ?_)))))))))));have ei:=ji (s:=s) h1;exact Xi _ (Yi (.refl _) (Yi (show vi (((DP s ⟨1,n.path,n.place,n.number,0,0⟩ (CW n.path n.place n.rq)).1:Nat):Int)=vi (((Bx s n).1:Nat):Int) by rw[ei]) (show Ag (IR roots C A (DP s ⟨1,n.path,n.place,n.number,0,0⟩ (CW n.path n.place n.rq)).2 dec st) Ad=Ag (IR roots C A (Bx s n).2 dec st) Ad by rw[ei])))
theorem s89(hd:s.drv.length<=65536)(ht:∀t∈s.drv,Vz t)(hS:Cz S):Bd Tryz.prog 152 [.ref 1000 0,sl Al S] (Ag (IR roots C A s dec st) Ad) fun r h'=>r=VU s.drv S/\h'=Ag (IR roots C A s dec st) Ad:=by
 refine Bm (IF Ea) [(1000,1000),(1001,1001),(1002,1002),(1003,1003),(1004,1004)] rfl BB hm rfl Tryz.func152 aa3 rfl (Nz rfl) aa3 rfl (Xi {i:Nat // i<=s.drv.length/\∀j u,j<i->s.drv[j]?=some u->B7 u S=false} (Xi (fun q=>⟨[(1,sl Al S),(11,.slice (.id 1002 1) (s.drv.map AD)),(12,vi (s.drv.map AD).length),(13,vi q.1)],[(1000,.cells (srM roots C A s dec 1004 st.length)),(1001,.tok 6 s.infs.length),(1002,.tok 1 s.drv.length),(1003,.map E9 (Fe 0 s.infs)),(1004,.arr 1 (st.map A7))],Ad⟩) (Xi (fun q=>s.drv.length-q.1) (Yi (Xi ⟨0,Ao _,fun j u h=>absurd h (CR j)⟩ ?_) ?_))))
 .exact⟨Z4,Z5,Fh,Bp aa3⟩
 intro⟨i,i1,i2⟩;refine Yi (fun h1=>?_) (fun h1=>?_)
 .have h1:(i:Int)<((s.drv.map AD).length:Int):=h1;have n1:=IN h1;refine Xi (AD s.drv[i]) (Yi (LX n1) (Yi rfl (BK (Bt (B7 s.drv[i] S)) (fun h2=>?_) (fun h2=>?_))))
  .refine Xi .pure (Xi _ (Yi (cb h2 (xS s.drv[i] S (ht _ (Am _)) hS)) ?_));have eE:Nu s.drv S=some i:=by unfold Nu;rw[Xr (Ge n1) h2 i2,Bz]
   exact Xi _ (Yi (.refl _) (Yi (show AV.tup [vi (i:Int),vb true]=VU s.drv S by unfold VU;rw[eE];rfl) rfl))
  have h2:(B7 s.drv[i] S)=false:=h2;refine Xi .pure (Xi _ (Yi (cb h2 (xS s.drv[i] S (ht _ (Am _)) hS)) (Yi (Ii i B0) ?_)));refine Xi ⟨i+1,by omega,fun j u hj hu=>by
    by_cases e:j=i
    .subst e;rw[Ge n1]at hu;cases hu;exact h2
    .exact i2 j u B0 hu⟩ ?_
  exact⟨Dl s.drv.length i B0,Z4,Z5,Fh,Bp aa3⟩
 have h1:¬((i:Int)<((s.drv.map AD).length:Int)):=h1;have n1:=FH h1;have eE:Nu s.drv S=none:=Xs fun t ht=>by
  obtain⟨j,hj⟩:=A6.1 ht
  have:=(AE.1 hj).1
  exact i2 j t (by have q:=h1;rw[Lm]at q;omega) hj
 exact Xi _ (Yi (.refl _) (Yi (show AV.tup [vi 0,vb false]=VU s.drv S by unfold VU;rw[eE];rfl) rfl))
def Vd(l:List Cd)(q:Rq):Bool:=l.any fun d=>decide (d.rel.path=q.path)&&!has q.set d.place
theorem UR{f:Rq->Nat->Nd}{P:Nd->Bool}:∀{l:List Rq} {b i:Nat} {q:Rq},l[i]?=some q->P (f q (b+i))=true->(∀k u,k<i->l[k]?=some u->P (f u (b+k))=false)->(L7 f b l).find? P=some (f q (b+i))
 | [],_,_,_,h,_,_=>by simp at h
 |u::l,b,0,q,h,he,_=>by
  cases h
  unfold L7;rw[Fb,show P (f u b)=true from he];rfl
 |u::l,b,i+1,q,h,he,hn=>by
  unfold L7;have h0:P (f u b)=false:=hn 0 u B0 rfl;rw[Fb,h0]
  have:=UR (f:=f) (P:=P) (l:=l) (b:=b+1) (i:=i) (q:=q) (by simpa using h) (by rw[show b+1+i=b+(i+1) by omega];exact he) (fun k v hk hv=>by
   rw[show b+1+k=b+(k+1) by omega];exact hn (k+1) v B0 (by simpa using hv))
  rw[show b+1+i=b+(i+1) by omega]at this;exact this
theorem Ot{f:Rq->Nat->Nd}{P:Nd->Bool}:∀{l:List Rq} {b:Nat},(∀k u,l[k]?=some u->P (f u (b+k))=false)->(L7 f b l).find? P=none
 | [],_,_=>rfl
 |u::l,b,h=>by
  unfold L7;have h0:P (f u b)=false:=h 0 u rfl;rw[Fb,h0];exact Ot fun k v hv=>by rw[show b+1+k=b+(k+1) by omega];exact h (k+1) v (by simpa using hv)
def zNd:AV:=.agg [vs ⟨#[]⟩,nzA,vs ⟨#[]⟩,vi 0,vi 0]
def p5(o:Option Nd):AV:=match o with | some n=>.tup [.agg (Bi n),vb true] | none=>.tup [zNd,vb false]
section
variable {dec:List Cd}{c:Cd}{i:Nat}
theorem g8(hi:i<c.rel.reqs.length)(hn:∀k q,k<i->c.rel.reqs[k]?=some q->Vd (dec++[c]) q=false){j:Nat}(hj:j<(dec++[c]).length)(h1:(dec++[c])[j].rel.path=c.rel.reqs[i].path)(h2:has c.rel.reqs[i].set (dec++[c])[j].place=false) :
  DL dec c=some ⟨c.rel.reqs[i],c.rel.path,c.place,(i:Nat)⟩:=by
 have:=UR (f:=fun q i=>⟨q,c.rel.path,c.place,(i:Nat)⟩) (P:=ci (dec++[c])) (l:=c.rel.reqs) (b:=0) (i:=i) (q:=c.rel.reqs[i]) (Ge hi)
  (CB.2 ⟨_,Am hj,by rw[Ay h1,h2];rfl⟩) (fun k u hk hu=>hn k u hk hu)
 unfold DL Qb;rw[this,Bz]
theorem g9(hn:∀(k:Nat) (q:Rq),c.rel.reqs[k]?=some q->Vd (dec++[c]) q=false):DL dec c=none:=by
 unfold DL Qb;exact Ot fun k u hu=>hn k u hu
theorem js{q:Rq}(h:∀(m:Nat) (d:Cd),(dec++[c])[m]?=some d->(decide (d.rel.path=q.path)&&!has q.set d.place)=false):Vd (dec++[c]) q=false:=by
 unfold Vd;rw[Qx];intro d hd;obtain⟨m,hm⟩:=A6.1 hd;rw[h m d hm];decide
end
theorem s87(hq:Cz n.rq.set):PC 150 [.agg (Bi n),.cptr (AL c)] (vb (!has n.rq.set c.place)):=by
 refine Ps (pC [2] []) Tryz.func150 rfl (Nz rfl) (BK (Bt (has n.rq.set c.place)) (fun h1=>?_) (fun h1=>?_))
 .refine Xi .pure (Xi _ (Yi (cb h1 (pZ n.rq.set c.place hq)) ?_));exact .of_eq (show vb false=vb (!has n.rq.set c.place) by rw[h1];rfl)
 refine Xi .pure (Xi _ (Yi (cb h1 (pZ n.rq.set c.place hq)) ?_));exact .of_eq (show vb true=vb (!has n.rq.set c.place) by rw[h1];rfl)
theorem s69(hd:dec.length<=1073741823)(hr:c.rel.reqs.length<=1073741824)(hq:∀q∈c.rel.reqs,Cz q.set):Bd Tryz.prog 153 [.ref 1000 0,.agg (AL c)] (Ag (IR roots C A s dec st) Ad) fun r h'=>r=p5 (DL dec c)/\h'=Ag (IR roots C A s dec st) Ad:=by
 have hdl:(dec++[c]).length=dec.length+1:=aa0
 refine Bm (IF ⟨[3],[],[],[],[],[],[],[],[(23,3)],[],[]⟩) [(1000,1000),(1001,1001),(1002,1002),(1003,1003),(1004,1004)] rfl BB hm rfl Tryz.func153 aa3 rfl (Nz rfl) aa3 rfl (Xi {i:Nat // i<=c.rel.reqs.length/\∀k q,k<i->c.rel.reqs[k]?=some q->Vd (dec++[c]) q=false} (Xi (fun q=>⟨[(0,.ref 1000 0),(3,.ref 3 0),(4,.ref 4 0),(12,sl Af c.rel.reqs),(13,vi (c.rel.reqs.map Af).length),(14,vi q.1)],[(3,.ro (AL c)),(4,.cells [vs ⟨#[]⟩,nzA,vs ⟨#[]⟩,vi 0,vi 0]),(1000,.cells (srM roots C A s dec 1004 st.length)),(1001,.tok 6 s.infs.length),(1002,.tok 1 s.drv.length),(1003,.map E9 (Fe 0 s.infs)),(1004,.arr 1 (st.map A7))],Ad⟩) (Xi (fun q=>c.rel.reqs.length-q.1) (Yi (Xi ⟨0,Ao _,fun k q h=>absurd h (CR k)⟩ ?_) ?_))))
 .exact⟨Z6,Z7,Fh,Bp aa3⟩
 intro⟨i,i1,i2⟩;refine Yi (fun h1=>?_) (fun h1=>?_)
 .have h1:(i:Int)<((c.rel.reqs.map Af).length:Int):=h1;have n1:=IN h1;refine Xi (Af c.rel.reqs[i]) (Yi (LX n1) (Yi rfl (yN (yN (Xi _ (Xi _ (Yi aa3 (Yi (vq dec (AO hd aa2)) (yN ?_)))))))));have b2:BX 10 [(AL c)]/\(dec.map AL).length=(dec.map AL).length/\((dec.map AL).length+([(AL c)]:List (List AV)).length)*128<=140737488355328/\(dec.map AL).length+([(AL c)]:List (List AV)).length<=9223372036854775807:=⟨⟨rfl,trivial⟩,rfl,(by simp only[Lm,AF,A0];omega),(by simp only[Lm,AF,A0];omega)⟩;refine Yi b2 (Yi aa3 (Xi {j:Nat // j<=(dec++[c]).length/\∀m d,m<j->(dec++[c])[m]?=some d->(decide (d.rel.path=c.rel.reqs[i].path)&&!has c.rel.reqs[i].set d.place)=false} (Xi (fun q=>⟨[(0,.ref 1000 0),(3,.ref 3 0),(4,.ref 4 0),(6,vi i),(7,.ref 7 0),(12,sl Af c.rel.reqs),(13,vi (c.rel.reqs.map Af).length),(14,vi i),(26,.slice (.id 12300 10) ((dec++[c]).map AL)),(27,vi ((dec++[c]).map AL).length),(28,vi q.1)],[(3,.ro (AL c)),(4,.cells [vs ⟨#[]⟩,nzA,vs ⟨#[]⟩,vi 0,vi 0]),(7,.cells (Af c.rel.reqs[i])),(1000,.cells (srM roots C A s dec 1004 st.length)),(1001,.tok 6 s.infs.length),(1002,.tok 1 s.drv.length),(1003,.map E9 (Fe 0 s.infs)),(1004,.arr 1 (st.map A7)),(12300,.tok 10 ((dec++[c]).map AL).length)],Ad⟩) (Xi (fun q=>(dec++[c]).length-q.1) (Yi (Xi ⟨0,Ao _,fun k q h=>absurd h (CR k)⟩ ?_) ?_)))))
  .exact⟨⟨Zr,Zr,Zr,Zr,Zr,Zr,Zr,Zr,⟨tkA,rfl⟩,⟨(show vi ((dec.map AL++[AL c]:List (List AV)).length:Int)=vi (((dec++[c]).map AL).length:Int) by rw[AG];rfl),rfl⟩,Zr,Tv⟩,⟨Zr,Zr,Zr,Zr,Zr,Zr,Zr,Zr,⟨(show HO.tok 10 ((dec.map AL).length+[AL c].length)=.tok 10 ((dec++[c]).map AL).length by simp),rfl⟩,Tv⟩,Fh,Bp aa3⟩
  intro⟨j,j1,j2⟩;refine Yi (fun h3=>?_) (fun h3=>?_)
  .have h3:(j:Int)<(((dec++[c]).map AL).length:Int):=h3;have n3:=IN h3;refine Xi (AL ((dec++[c])[j])) (Yi (LX n3) (Yi rfl (yN (yN (Yi (fun h4=>?_) (fun h4=>?_))))))
   .have h4:(((dec++[c])[j]).rel.path:ByteArray)=c.rel.reqs[i].path:=h4;refine BK (Bt (has c.rel.reqs[i].set (dec++[c])[j].place)) (fun h5=>?_) (fun h5=>?_)
    .have h5:(has c.rel.reqs[i].set (dec++[c])[j].place)=true:=h5;refine Xi .pure (Xi _ (Yi (cb h5 (pZ c.rel.reqs[i].set (dec++[c])[j].place (hq _ (Am _)))) (Yi (Ii j B0) ?_)));refine Xi ⟨j+1,by omega,fun m d hm hd=>by
       by_cases e:m=j
       .subst e;rw[Ge n3]at hd;cases hd;exact by rw[h5];simp
       .exact j2 m d B0 hd⟩ ?_
     exact⟨by show(dec++[c]).length-(j+1)<(dec++[c]).length-j;omega,Z11,Z9,Fh,Bp aa3⟩
    have h5:(has c.rel.reqs[i].set (dec++[c])[j].place)=false:=h5;refine Xi .pure (Xi _ (Yi (cb h5 (pZ c.rel.reqs[i].set (dec++[c])[j].place (hq _ (Am _)))) (yN (yN (yN ?_)))));have eC:=g8 (dec:=dec) (c:=c) n1 i2 n3 h4 h5;exact Xi _ (Yi (.refl _) (Yi (show AV.tup [.agg (Bi ⟨c.rel.reqs[i],c.rel.path,c.place,(i:Nat)⟩),vb true]=p5 (DL dec c) by rw[eC];rfl) rfl))
   have h4:¬(((dec++[c])[j]).rel.path:ByteArray)=c.rel.reqs[i].path:=h4;refine Yi (Ii j B0) ?_;refine Xi ⟨j+1,by omega,fun m d hm hd=>by
     by_cases e:m=j
     .subst e;rw[Ge n3]at hd;cases hd;exact by rw[Au h4];rfl
     .exact j2 m d B0 hd⟩ ?_
   exact⟨by show(dec++[c]).length-(j+1)<(dec++[c]).length-j;omega,Z11,Z9,Fh,Bp aa3⟩
  have h3:¬((j:Int)<(((dec++[c]).map AL).length:Int)):=h3;have n3:=FH h3;refine Yi (Ii i B0) ?_;have hmq:Vd (dec++[c]) c.rel.reqs[i]=false:=js fun m d hd=>j2 m d (by have:=(AE.1 hd).1;have q:=h3;rw[Lm]at q;omega) hd;refine Xi ⟨i+1,by omega,fun k q hk mG=>by
    by_cases e:k=i
    .subst e;rw[Ge n1]at mG;cases mG;exact hmq
    .exact i2 k q B0 mG⟩ ?_
  exact⟨Dl c.rel.reqs.length i B0,Z6,Z7,Fh,Bp aa3⟩
 have h1:¬((i:Int)<((c.rel.reqs.map Af).length:Int)):=h1;have n1:=FH h1;refine yN (yN ?_);have eC:=g9 (dec:=dec) (c:=c) fun k q hk=>i2 k q (by have:=(AE.1 hk).1;have q:=h1;rw[Lm]at q;omega) hk;exact Xi _ (Yi (.refl _) (Yi (show AV.tup [zNd,vb false]=p5 (DL dec c) by rw[eC];rfl) rfl))
end Go.Eng
