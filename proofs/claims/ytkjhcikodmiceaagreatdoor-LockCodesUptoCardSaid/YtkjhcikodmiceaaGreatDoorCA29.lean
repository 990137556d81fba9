/- Lemmas 29. -/
import Derived.Test.YtkjhcikodmiceaaGreatDoorCA28
set_option maxHeartbeats 4000000
namespace Go.Eng
abbrev At6:=List (Value×AV)
structure OC{α β:Type}(c:α->α->Int)(R:α->α->Prop)(key:α->β):Prop where
 lt:∀a b,c a b<0↔R a b
 eq:∀a b,c a b=0↔key a=key b
 tr:∀a b d,R a b->R b d->R a d
 irr:∀a b,key a=key b->¬R a b
 tri:∀a b,¬R a b->key a≠key b->R b a
 cl:∀a b d,key a=key b->R a d->R b d
section
variable {α β:Type}{c:α->α->Int}{R:α->α->Prop}{key:α->β}
theorem nX(h:OC c R key){a:List α}(ha:a.Pairwise R):(a.map key).Nodup:=by
 unfold List.Nodup;rw[List.pairwise_map];exact ha.imp fun q e=>h.irr _ _ e q
end
/-! The three comparisons. -/
abbrev ltP(a b:Sl):Prop:=E3 a.path b.path=true
theorem ocP:OC Ajn ltP (fun s:Sl=>s.path) where
 lt _ _:=qz
 eq _ _:=gU
 tr _ _ _:=D3
 irr a b e h:=by rw[ltP,e,CY]at h;cases h
 tri a b h e:=by
  cases q:E3 b.path a.path with
  |true=>exact q
  |false=>
   cases p:E3 a.path b.path with
   |true=>exact absurd p h
   |false=>exact absurd (Iz p q) e
 cl a b d e h:=by rw[ltP,<-e];exact h
/-! Pins. -/
/-! What the reference makes of a list. -/
theorem Oa{α:Type}{l:List α}{i:Nat}(h:i<l.length):l.take (i+1)=l.take i++[l[i]]:=Gr h
end Go.Eng
namespace Go.Eng
open Go.Proofs Go.Proofs.Tryz
variable {α:Type}{a b:List α}
instance:DecidableEq Rq:=fun x y=>decidable_of_iff (x.path=y.path/\x.set=y.set) ⟨fun⟨h1,h2⟩=>by cases x;cases y;simp_all,fun h=>by subst h;exact Z⟩
theorem Agx{a b:Rq}(h1:a.path=b.path)(h2:a.set=b.set):a=b:=by cases a;cases b;simp_all
theorem kY(hl:a.length=b.length)(h:∀j (hj:j<a.length),a[j]=b[j]'(hl▸hj)):a=b:=List.ext_getElem hl fun j h1 _=>h j h1
theorem qh{i:Nat}{ha:i<a.length}{hb:i<b.length}(h:a[i]≠b[i]):a≠b:=fun e=>by subst e;exact h rfl
theorem o69(a b:List Rq)(ha:CC a)(hs:∀q∈a,CC q.set):PC 42 [sl Ak a,sl Ak b] (Q (decide (a=b))):=by
 have hal:a.length<=2^30:=ha;refine Ps CF func42 rfl C4 (J (fun h1=>?_) (fun h1=>?_))
 .exact .of_eq (show Q false=Q (decide (a=b)) by rw[Al (fun e=>absurd (Aa (fun z=>((z.map Ak).length:Int)) e) h1)])
 have h1:((a.map Ak).length:Int)=((b.map Ak).length:Int):=AH h1;have hl:a.length=b.length:=by have q:=h1;rw[Lm,Lm]at q;omega
 refine M {q:Nat // q<=a.length/\∀j (hj:j<a.length),j<q->a[j]=b[j]'(hl▸hj)} (M (fun q=>⟨[(0,sl Ak a),(1,sl Ak b),(5,G q.1)],[],Ab⟩) (M (fun q=>a.length-q.1) (J (M ⟨0,Ai _,fun _ _ h=>absurd h (Cv _)⟩ ?_) ?_)))
 .exact⟨Z3,X,Fh,X⟩
 intro⟨i,i1,i2⟩;refine J (fun h3=>?_) (fun h3=>?_)
 .have h3:(i:Int)<((a.map Ak).length:Int):=h3;have n3:=Gj h3;have hib:i<b.length:=by have q:=h3;rw[Lm]at q;omega
  refine M (Ak a[i]) (J (IM n3) (J rfl (M (Ak b[i]) (J (IM hib) (J rfl (J (fun h5=>?_) (fun h5=>?_)))))))
  .refine J aa5 ?_;exact .of_eq (show Q false=Q (decide (a=b)) by rw[Al (qh (i:=i) (ha:=n3) (hb:=hib) (fun e=>h5 (Aa Rq.path e)))])
  have h5:(a[i].path:CS)=b[i].path:=AH h5;refine M (Ak a[i]) (J (IM n3) (J rfl (M (Ak b[i]) (J (IM hib) (J rfl (Be (Bt (decide (a[i].set=b[i].set))) (fun h7=>?_) (fun h7=>?_)))))))
  .refine H (cb h7 (c75 a[i].set b[i].set (hs _ (Am n3)))) (J aa5 (J (Ii i I) ?_));refine M ⟨i+1,n3,fun j hj IY=>if e:j<i then i2 j hj e else by
     have e:j=i:=I
     subst e;exact Agx h5 (B7 h7)⟩ ?_
   exact⟨Dl a.length i I,Z3,X,Fh,X⟩
  have h7:(decide (a[i].set=b[i].set))=false:=h7;refine H (cb h7 (c75 a[i].set b[i].set (hs _ (Am n3)))) (J aa5 ?_);exact .of_eq (show Q false=Q (decide (a=b)) by rw[Al (qh (i:=i) (ha:=n3) (hb:=hib) (fun e=>of_decide_eq_false h7 (Aa Rq.set e)))])
 have h3:¬((i:Int)<((a.map Ak).length:Int)):=h3;have n3:=D6 h3;exact .of_eq (show Q true=Q (decide (a=b)) by rw[Aq (kY hl fun j hj=>i2 j hj (by have q:=h3;rw[Lm]at q;omega))])
theorem Ah4(l:List Lo)(hl:l.length<=10^6):PC 22 [sl Cr l,sl Cr l] (Q true):=by
 refine Ps CF func22 rfl C4 (J (fun h1=>?_) (fun h1=>?_))
 .exact absurd rfl h1
 have h1:((l.map Cr).length:Int)=((l.map Cr).length:Int):=AH h1;refine M {q:Nat // q<=l.length} (M (fun q=>⟨[(0,sl Cr l),(1,sl Cr l),(5,G q.1)],[],Ab⟩) (M (fun q=>l.length-q.1) (J (M ⟨0,Ai _⟩ ?_) ?_)))
 .exact⟨Z3,X,Fh,X⟩
 intro⟨i,i1⟩;refine J (fun h2=>?_) (fun h2=>?_)
 .have n2:i<l.length:=Gj h2;refine M (Cr l[i]) (J (IM n2) (J rfl (U (M (Cr l[i]) (J (IM n2) (J rfl (U (J (fun h3=>?_) (fun h3=>?_)))))))))
  .have h3:(l[i].path:CS)=l[i].path/\(l[i].ver.a:Int)=l[i].ver.a/\(l[i].ver.b:Int)=l[i].ver.b/\(l[i].ver.c:Int)=l[i].ver.c/\(l[i].arch:CS)=l[i].arch/\(l[i].ifc:CS)=l[i].ifc/\True:=h3;refine J aa5 (J (Ii i I) (M ⟨i+1,n2⟩ ?_));exact⟨Dl l.length i I,Z3,X,Fh,X⟩
  have h3:¬((l[i].path:CS)=l[i].path/\(l[i].ver.a:Int)=l[i].ver.a/\(l[i].ver.b:Int)=l[i].ver.b/\(l[i].ver.c:Int)=l[i].ver.c/\(l[i].arch:CS)=l[i].arch/\(l[i].ifc:CS)=l[i].ifc/\True):=h3;exact absurd ⟨rfl,rfl,rfl,rfl,rfl,rfl,trivial⟩ h3
 have n2:¬i<l.length:=D6 h2;exact .refl _
theorem Ah5(l:List Nf)(hl:l.length<=10^6):PC 43 [sl A8 l,sl A8 l] (Q true):=by
 refine Ps CF func43 rfl C4 (J (fun h1=>?_) (fun h1=>?_))
 .exact absurd rfl h1
 have h1:((l.map A8).length:Int)=((l.map A8).length:Int):=AH h1;refine M {q:Nat // q<=l.length} (M (fun q=>⟨[(0,sl A8 l),(1,sl A8 l),(5,G q.1)],[],Ab⟩) (M (fun q=>l.length-q.1) (J (M ⟨0,Ai _⟩ ?_) ?_)))
 .exact⟨Z3,X,Fh,X⟩
 intro⟨i,i1⟩;refine J (fun h2=>?_) (fun h2=>?_)
 .have n2:i<l.length:=Gj h2;refine M (A8 l[i]) (J (IM n2) (J rfl (U (M (A8 l[i]) (J (IM n2) (J rfl (U (J (fun h3=>?_) (fun h3=>?_)))))))))
  .have h3:(l[i].kind:Int)=l[i].kind/\(l[i].path:CS)=l[i].path/\(l[i].place:Int)=l[i].place/\(l[i].number:Int)=l[i].number/\(l[i].left:Int)=l[i].left/\(l[i].right:Int)=l[i].right/\True:=h3;refine J aa5 (J (Ii i I) (M ⟨i+1,n2⟩ ?_));exact⟨Dl l.length i I,Z3,X,Fh,X⟩
  have h3:¬((l[i].kind:Int)=l[i].kind/\(l[i].path:CS)=l[i].path/\(l[i].place:Int)=l[i].place/\(l[i].number:Int)=l[i].number/\(l[i].left:Int)=l[i].left/\(l[i].right:Int)=l[i].right/\True):=h3;exact absurd ⟨rfl,rfl,rfl,rfl,rfl,rfl,trivial⟩ h3
 have n2:¬i<l.length:=D6 h2;exact .refl _
theorem uT(l:Lk)(hl:l.skips.length<=10^6/\l.roots.length<=10^6/\l.ents.length<=10^6/\l.infs.length<=10^6)(hq:∀q∈l.roots,CC q.set):PC 13 [.agg (Bu l),.agg (Bu l)] (Q true):=by
 refine Ps (pC [2,3] []) func13 rfl C4 (C1 (H (cb (Aq rfl) (o69 l.roots l.roots (Az hl.2.1 aa3) hq)) (C1 (H (Ah4 l.ents hl.2.2.1) (C1 (H (Ah5 l.infs hl.2.2.2) (J (fun h1=>?_) (fun h1=>?_))))))))
 .exact absurd rfl h1
 have h1:((l.skips.map AT).length:Int)=((l.skips.map AT).length:Int):=AH h1;refine M {q:Nat // q<=l.skips.length} (M (fun q=>⟨[(2,.ref 2 0),(3,.ref 3 0),(5,G q.1)],[(2,.ro (Bu l)),(3,.ro (Bu l))],Ab⟩) (M (fun q=>l.skips.length-q.1) (J (M ⟨0,Ai _⟩ ?_) ?_)))
 .exact⟨Z3,Z2,Fh,X⟩
 intro⟨i,i1⟩;refine J (fun h2=>?_) (fun h2=>?_)
 .have n2:i<l.skips.length:=Gj h2;refine M (AT l.skips[i]) (J (IM n2) (J rfl (U (M (AT l.skips[i]) (J (IM n2) (J rfl (U (J (fun h3=>?_) (fun h3=>?_)))))))))
  .have h3:(l.skips[i].path:CS)=l.skips[i].path/\(l.skips[i].place:Int)=l.skips[i].place/\(l.skips[i].inf:Int)=l.skips[i].inf/\True:=h3;refine J aa5 (J (Ii i I) (M ⟨i+1,n2⟩ ?_));exact⟨Dl l.skips.length i I,Z3,Z2,Fh,X⟩
  have h3:¬((l.skips[i].path:CS)=l.skips[i].path/\(l.skips[i].place:Int)=l.skips[i].place/\(l.skips[i].inf:Int)=l.skips[i].inf/\True):=h3;exact absurd ⟨rfl,rfl,rfl,trivial⟩ h3
 have n2:¬i<l.skips.length:=D6 h2;exact .refl _
section
variable {x:List F}{ifs:C0}{l:Lk}
theorem AeH(h:IE l):∀e∈l.ents,Er e.path:=fun e he=>by
 grind [j7,IE.en]
theorem qQ(h:IE l):fK (UZ l)=true:=by
 grind [fK,IE.il,IE.el,IE.kl]
theorem AbU(L:mD x l.roots)(h:IE l):PC 48 [.agg (Bu l)] (Q (Cz l)):=
 bP l L.rq (AeH h) (Az h.el aa3) (Az h.il aa3) (Az h.kl aa3)
theorem AfF(L:mD x l.roots)(hs:(SI x 16&&Ef l.roots)=true)(h:IE l):PC 18 [Sa x ifs,.agg (Bu l)] (G (pH x l)):=
 Ah6 x ifs l L.x L.ix (c64 Xp x ifs L.x) (fun p v=>c53 x ifs p v (L.c84 ifs) L.x) (AbU L h) (L.c21 ifs hs (UZ l) (qQ h)) (Az h.el aa3)
theorem wt{x:List F}{roots:List Rq}(h:(SI x 16&&Ef roots)=true):roots.length<=10^6:=Az (Ya h) aa3
end
structure pZ(l:Lk):Prop where
 el:l.ents.length<=1048576
 il:l.infs.length<=1048576
 kl:l.skips.length<=1048576
open Classical in
theorem qO{l:Lk}(h:Tz l=true):IE l:=by grind [Tz]
end Go.Eng
namespace Go.Proofs
open Go.Shelf Go.RowKit Go.Lib Go.Sort
abbrev Aao:Type:={v:Value // v.oneCell'=true}
def SlA:Type:=ByteArray×Aao×Aao×Aao
instance:Inhabited SlA:=⟨⟨ByteArray.empty,⟨.bool false,rfl⟩,⟨.bool false,rfl⟩,⟨.bool false,rfl⟩⟩⟩
def ZV(x:SlA):List Value:=[.string x.1,x.2.1.1,x.2.2.1.1,x.2.2.2.1]
def Tp(x y:SlA):Int:=Lib.compareBytes x.1.data.toList y.1.data.toList
abbrev gn(k:Nat):Prop:=∀(x y:SlA) (W:World),Calls Tryz.prog k #[.agg #[.string x.1,x.2.1.1,x.2.2.1.1,x.2.2.2.1],.agg #[.string y.1,y.2.1.1,y.2.2.1.1,y.2.2.2.1]] W fun e w'=>e=.returned (.int .i64 (Tp x y))/\∃q os',w'=grow (W.drewN q) os'
theorem Tryz.closure84:gn 84:=fun x y W=>by
 have hcon:=fun W'=>Any.strings_Compare Tryz.layCompare x.1 y.1 W';obtain⟨a,⟨b,hb⟩,⟨c,hc⟩,⟨d,hd⟩⟩:=x;obtain⟨a',⟨b',ky⟩,⟨c',hc'⟩,⟨d',vg⟩⟩:=y;dsimp only at hcon
 change ∀W',Calls Tryz.prog 85 _ _ _ at hcon
 unfold Tp;dsimp only;generalize Lib.compareBytes a.data.toList a'.data.toList=r at hcon⊢
 go_enter Tryz.func84,Tryz.ntmps84
 go_wp2_with (go_at_call 85;refine(hcon _).mono ?_;rintro e w' ⟨rfl,rfl⟩)
 go_ret
 exact⟨rfl,0,_,by rw[alloc_eq_grow,alloc_eq_grow,grow_grow];rfl⟩
end Go.Proofs
namespace Go.Eng
open Go.Proofs Go.Proofs.Tryz Go.Shelf Go.RowKit Go.Lib Go.Sort
theorem lf(x y:SlA):ltOf Tp x y=E3 x.1 y.1:=V5 _ _
theorem ul:SWO (ltOf Tp) where
 irrefl x:=by rw[lf];exact CY _
 trans x y z h1 h2:=by rw[lf]at *;exact D3 h1 h2
 ntrans x y z h1 h2:=by
  rw[lf]at *
  rw[Bg];intro h;cases hyx:E3 y.1 x.1 with
  |true=>have:=D3 hyx h;rw[h2]at this;cases this
  |false=>
   have e:=Iz h1 hyx;rw[e]at h;rw[h2]at h;cases h
theorem s92(k:Nat)(hc:gn k)(eg:∀args w,(callFunc k args).run prog w=.ok (.enter k args) w)(l:List Sl)(hl:CC l)(lim:Nat)(dv:lim<100) :
  A1 prog 157 [.msl 1000 l.length,G 0,G l.length,G lim,.v (TG k)] (Ah [(1000,.arr 4 (l.map Ar))] Ab) fun r h'=>
   r=.tup []/\∃l' : List Sl,l'.Perm l/\l'.Pairwise (fun x y=>E3 y.path x.path=false)/\h'=Ah [(1000,.arr 4 (l'.map Ar))] Ab:=by
 have hl:l.length<=2^30:=hl;have hE:Fx prog 157:=j9 157 func157 aa5 rfl;have Jc:=JC (P:=prog) (f:=157) (α:=SlA) (rest:=[.int .i64 0,.int .i64 l.length,.int .i64 lim,TG k]) hE Ar ZV (k:=4) (fun _=>rfl) (fun _=>rfl) (ltOf Tp) (fun x a=>a.1=x.path) l I ?_ ?_ ?_
 .refine⟨hE,fun g w vals q1 q2 q3=>(Jc.2 g w vals q1 q2 q3).mono fun _ _ ⟨v,r,h',g',e1,⟨e2,l',p1,⟨al,a1,a2,a3⟩,p2⟩,rest⟩=>⟨v,r,h',g',e1,⟨e2,l',p1,?_,p2⟩,rest⟩⟩;rw[Cn]at a3⊢;intro i j hi hj gi
  have:=a3 i j I I gi
  rw[lf]at this;have e1:=a2 i _ _ (Ge hi) (Ge I);have e2:=a2 j _ _ (Ge hj) (Ge I);rw[<-e1,<-e2];exact this
 .intro x hx g w vs hr
  match vs,hr with
  | [a,b,c,d],hr=>
   have h1:=(hr.2.2 0 (Go.Eng.vs x.path) a rfl rfl).v_eq;subst h1;exact⟨⟨x.path,⟨b,hr.2.1 b aa1⟩,⟨c,hr.2.1 c aa1⟩,⟨d,hr.2.1 d aa1⟩⟩,rfl,rfl⟩
  | [],hr=>have:=hr.1;simp at this
  | [_],hr=>have:=hr.1;simp at this
  | [_,_],hr=>have:=hr.1;simp at this
  | [_,_,_],hr=>have:=hr.1;simp at this
  |_::_::_::_::_::_,hr=>have:=hr.1;simp at this
 .intro w b cap d hH hb EC hdl;have rv:CmpLays prog k #[] ZV 4 Tp b 0 d.size w:=fun _ _ _ _ x y=>hc x y _;have hp:=AnyQ.pdqsortCmpFunc_all Tryz.layPdqSel 4 isAgg45 sizeOf45 ZV Tp k #[] ul b 0 cap d w eg rv ⟨fun _=>rfl,fun x v hv=>by
    simp only[ZV,AJ,My,or_false]at hv;rcases hv with rfl | rfl | rfl | rfl
    .rfl
    .exact x.2.1.2
    .exact x.2.2.1.2
    .exact x.2.2.2.2,hH,hb⟩ (d.size+1) 0 d.size lim d w I rfl (SWK.start hH) (Ai _) (Af _) EC I (Or.inl rfl)
  rw[hdl]at hp⊢;refine hp.mono ?_
  rintro e w' ⟨rfl,n,os,rfl⟩
  have h:=pdq_sorts (ltOf Tp) ul d 0 d.size lim true true (Ai _) (Af _) (Or.inl rfl);rw[hdl]at h;exact⟨rfl,_,n,os,h.1,h.2,rfl⟩
 .intro e w;subst e;exact AnyF.pdqsortCmpFunc_none Tryz.layPdqSel none 0 lim (TG k) w
theorem XH{l l' : List Sl}(h1:Xg l)(h2:Xg l')(hm:∀y,y∈l↔y∈l'):l=l':=by
 induction l generalizing l' with
 |nil=>
  cases l' with
  |nil=>rfl
  |cons y l'=>have:=(hm y).2 (Ad ..);cases this
 |cons x l ih=>
  cases l' with
  |nil=>have:=(hm x).1 (Ad ..);cases this
  |cons y l'=>
   obtain⟨a1,a2⟩:=Dz.1 h1;obtain⟨b1,b2⟩:=Dz.1 h2;have e:x=y:=by
    rcases AJ.1 ((hm x).1 (Ad ..))with e | e
    .exact e
    .rcases AJ.1 ((hm y).2 (Ad ..))with e2 | e2
     .exact e2.symm
     .have c1:=b1 x e;have c2:=a1 y e2
      have:=D3 c1 c2
      rw[CY]at this;cases this
   subst e
   congr 1
   refine ih a2 b2 fun z=>⟨fun hz=>?_,fun hz=>?_⟩
   .rcases AJ.1 ((hm z).1 (Aj _ hz))with e | e
    .subst e
     have:=a1 z hz
     rw[CY]at this;cases this
    .exact e
   .rcases AJ.1 ((hm z).2 (Aj _ hz))with e | e
    .subst e
     have:=b1 z hz
     rw[CY]at this;cases this
    .exact e
theorem uh{l l' : List Sl}(hn:(l.map (·.path)).Nodup)(hp:l'.Perm l)(hs:l'.Pairwise fun x y=>E3 y.path x.path=false):l'=E1 l:=by
 refine XH ?_ (SL hn) fun y=>by rw[hp.mem_iff,F1]
 have nI : (l'.map (·.path)).Nodup:=(hp.map (·.path)).nodup_iff.2 hn;show l'.Pairwise _;rw[Cn]at hs⊢;intro i j hi hj gi;cases hb:E3 l'[i].path l'[j].path with
 |true=>rfl
 |false=>
  have e:=Iz hb (hs i j hi hj gi)
  have:=(Cn.1 nI) i j (by simpa using hi) (by simpa using hj) gi
  simp at this;exact absurd e this
theorem s47(k:Nat)(hc:gn k)(eg:∀args w,(callFunc k args).run prog w=.ok (.enter k args) w)(l:List Sl)(hl:CC l)(hn:(l.map (·.path)).Nodup) :
  A1 prog 83 [.msl 1000 l.length,.v (TG k)] (Ah [(1000,.arr 4 (l.map Ar))] Ab) fun r h'=>
   r=.tup []/\h'=Ah [(1000,.arr 4 ((E1 l).map Ar))] Ab:=by
 obtain⟨lim,dv,hb⟩:=AaE l.length hl;refine Bv (Ky CF) [(1000,1000)] rfl BO hm rfl func83 aa5 rfl C4 aa5 rfl (C1 (H (hb) (M (.gen [(1000,1000)] 0) (J rfl ((s92 k hc eg l hl lim dv).imp ?_)))));intro r h' hq;refine AE hq.2 (fun l' RV=>?_);have e:=uh hn RV.1 RV.2.1;refine M (.tup []) (J ?_ (J rfl ?_))
 .exact .refl _
 .rw[RV.2.2,e];rfl
end Go.Eng
namespace Go.Eng
open Go.Proofs Go.Proofs.Tryz
variable {l:List Nf}{i:Nf}{caps:List AV}{k fF:Nat}(roots:List Rq)(C A:At6)(s:SS)(dec:List Cd)(st:List (List Sk))(S:List Sl)(n:Nd)(c:Cd)
abbrev A2:List AV:=G c.place::Ay c.rel
abbrev Br:List AV:=[vs n.rq.path,sl Y n.rq.set,vs n.path,G n.place,G n.number]
abbrev Bp(l:List Sk):List AV:=[sl AT l]
abbrev CM(i:Nat):List AV:=[G (i:Nat)]
def Hb:Ez:=⟨true,[.int .i64,.str,.int .i64,.int .i64,.int .i64,.int .i64]⟩
def Mq(i:Nf):Value:=.agg [.int .i64 i.kind,.string i.path,.int .i64 i.place,.int .i64 i.number,.int .i64 i.left,.int .i64 i.right].toArray
def GQ:Nat->List Nf->At6
 |_,[]=>[]
 |k,i::l=>(Mq i,G (k:Nat))::GQ (k+1) l
abbrev srC(n:Nat):List AV:=
 [sl Ak roots,.cmap CU C,.cmap CU A,.slice (.id 1001 6) (s.infs.map A8),.slice (.id 1002 1) (s.drv.map BD),.mref 1003,Q s.full,sl A2 dec,sl Ar (AM dec),.msl 1004 n]
abbrev srM(k n:Nat):List AV:=
 [sl Ak roots,.cmap CU C,.cmap CU A,.slice (.id 1001 6) (s.infs.map A8),.slice (.id 1002 1) (s.drv.map BD),.mref 1003,Q s.full,sl A2 dec,sl Ar (AM dec),.msl k n]
abbrev Jr:List (Nat×HO):=
 [(1000,.cells (srC roots C A s dec st.length)),(1001,.tok 6 s.infs.length),(1002,.tok 1 s.drv.length),(1003,.map Hb (GQ 0 s.infs)),(1004,.arr 1 (st.map Bp))]
theorem AlI(hs:CX caps)(l:List (Cd))(p:Cd->Bool)(hF:∀x∈l,PC fF ([.agg (A2 x)]++caps) (Q (p x)))(hl:l.length<2^63-1) :
  PC 340 [sl A2 l,.clo fF caps] (G (KI p l 0)):=by
 refine Ps CF func340 rfl C4 (M {i:Nat // i<=l.length/\∀j (hj:j<l.length),j<i->p l[j]=false} (M (fun i=>⟨[(0,sl A2 l),(1,.clo fF caps),(7,G (l.map A2).length),(8,G i.1)],[],Ab⟩) (M (fun i=>l.length-i.1) (J (M ⟨0,by simp⟩ ?_) ?_))))
 .exact⟨⟨Z,⟨rfl,hs.ids _⟩,Z,Z,X⟩,X,Fh,X⟩
 .intro⟨i,h1,h2⟩;refine J ?_ ?_
  .intro h;have h:i<l.length:=by simpa using h
   have hg:l[i]?=some l[i]:=Ge h;refine M (A2 l[i]) (J (J (Nn i) (by simp[hg])) (J rfl (U ?_)));have Cj:∀h,PC fF ([.agg (A2 l[i])]++caps.map (str0 h)) (Q (p l[i])):=fun h=>by rw[hs.map];exact hF l[i] (Am _)
   cases hp:p l[i]with
   |true=>
    rw[hp]at Cj;refine M .pure (M (Q true) (J (Cj _) ?_));rw[LX h (fun j hj IY=>h2 j hj IY) hp,Gq];exact .refl _
   |false=>
    rw[hp]at Cj;refine M .pure (M (Q false) (J (Cj _) (J (Ii i I) (M ⟨i+1,by omega,fun j hj IY=>?_⟩ ?_))))
    .by_cases e:j=i
     .subst e;exact hp
     .exact h2 j hj I
    .exact⟨Dl l.length i I,⟨Z,⟨rfl,hs.ids _⟩,Z,Z,X⟩,X,Fh,X⟩
  .intro h;have h:¬i<l.length:=by simpa using h
   rw[H5 fun j hj=>h2 j hj I];exact .refl _
theorem s86(hs:CX caps)(l:List (Nd))(p:Nd->Bool)(hF:∀x∈l,PC fF ([.agg (Br x)]++caps) (Q (p x)))(hl:l.length<2^63-1) :
  PC 149 [sl Br l,.clo fF caps] (G (KI p l 0)):=by
 refine Ps CF func149 rfl C4 (M {i:Nat // i<=l.length/\∀j (hj:j<l.length),j<i->p l[j]=false} (M (fun i=>⟨[(0,sl Br l),(1,.clo fF caps),(7,G (l.map Br).length),(8,G i.1)],[],Ab⟩) (M (fun i=>l.length-i.1) (J (M ⟨0,by simp⟩ ?_) ?_))))
 .exact⟨⟨Z,⟨rfl,hs.ids _⟩,Z,Z,X⟩,X,Fh,X⟩
 .intro⟨i,h1,h2⟩;refine J ?_ ?_
  .intro h;have h:i<l.length:=by simpa using h
   have hg:l[i]?=some l[i]:=Ge h;refine M (Br l[i]) (J (J (Nn i) (by simp[hg])) (J rfl (U ?_)));have Cj:∀h,PC fF ([.agg (Br l[i])]++caps.map (str0 h)) (Q (p l[i])):=fun h=>by rw[hs.map];exact hF l[i] (Am _)
   cases hp:p l[i]with
   |true=>
    rw[hp]at Cj;refine M .pure (M (Q true) (J (Cj _) ?_));rw[LX h (fun j hj IY=>h2 j hj IY) hp,Gq];exact .refl _
   |false=>
    rw[hp]at Cj;refine M .pure (M (Q false) (J (Cj _) (J (Ii i I) (M ⟨i+1,by omega,fun j hj IY=>?_⟩ ?_))))
    .by_cases e:j=i
     .subst e;exact hp
     .exact h2 j hj I
    .exact⟨Dl l.length i I,⟨Z,⟨rfl,hs.ids _⟩,Z,Z,X⟩,X,Fh,X⟩
  .intro h;have h:¬i<l.length:=by simpa using h
   rw[H5 fun j hj=>h2 j hj I];exact .refl _
theorem AgA(hs:CX caps)(l:List (Cd))(p:Cd->Bool)(hF:∀x∈l,PC fF ([.agg (A2 x)]++caps) (Q (p x)))(hl:CC l) :
  PC 290 [sl A2 l,.clo fF caps] (Q (l.any p)):=by
 refine Ps CF func290 rfl C4 ?_;have hi:=AlI hs l p hF (by unfold CC at hl;omega);have Cj:∀h,PC 340 [sl A2 l,.clo fF (caps.map (str0 h))] (G (KI p l 0)):=fun h=>by rw[hs.map];exact hi
 refine C1 (H (Cj _) ?_);have ha:=Km (p:=p) l 0 (B6 0);refine J ?_ ?_
 .intro h;rw[<-ha,Aq h];exact .refl _
 .intro h;rw[<-ha,Al h];exact .refl _
theorem AgC(l:List Cd)(hl:CC l):A1 prog 154 [sl A2 l] (Ah [] Ab) fun r h'=>r=.slice (.id 2000 10) (l.map A2)/\h'=Ah [(2000,.tok 10 (l.map A2).length)] Ab:=by
 refine Bv (Ky (plT 10)) [(2,2000)] rfl BO hm rfl func154 aa5 rfl C4 aa5 rfl ?_;have El:Cq 10 (l.map A2)/\([]:C0).length=0/\(([]:C0).length+(l.map A2).length)*128<=2^47/\([]:C0).length+(l.map A2).length<=2^63-1:=by
  refine⟨DK (enc:=A2) (n:=10) (fun _=>rfl) l,rfl,?_,?_⟩<;>simp only[A4,Lm]<;>unfold CC at hl<;>omega
 have e2:HO.tok 10 (([]:C0).length+(l.map A2).length)=.tok 10 (l.map A2).length:=by rw[A4,Dp]
 have e3:AV.slice (.id 2000 10) ([]++l.map A2)=.slice (.id 2000 10) (l.map A2):=rfl;have full:∀st:St,(∃s:LS,St.le (Ky (plT 10)) st s/\True)->True:=fun _ _=>trivial;refine M 0 (M 0 (J ?_ ?_))
 .intro _;refine cU [(0,sl A2 l)] [] Z1 X (M 2 (J El ?_));exact H (.refl _) (J e3 (Aa (fun o=>Ah [(2000,o)] Ab) e2))
 .intro h;refine J ?_ ?_
  .refine M ⟨[],[],Ab⟩ (J ⟨trivial,trivial,fun _=>.inl rfl,AX aa5⟩ ?_);refine M 0 ?_;exact H (.refl _) (J (show AV.slice (.id 2000 10) []=_ by rw[h]) (show Ah [(2000,HO.tok 10 0)] Ab=_ by rw[h];rfl))
  .refine cU [(0,sl A2 l)] [] Z1 X (M 2 (J El ?_));exact H (.refl _) (J e3 (Aa (fun o=>Ah [(2000,o)] Ab) e2))
theorem Uz:∀{l:List Nf} {k:Nat} {kx:Value} {a:AV},(kx,a)∈GQ k l↔∃j i,l[j]?=some i/\kx=Mq i/\a=G ((k+j:Nat):Int)
 | [],k,kx,a=>by simp[GQ]
 |y::l,k,kx,a=>by
  unfold GQ;rw[AJ,Uz];constructor
  .rintro(h | ⟨j,i,h1,h2,h3⟩)
   .cases h;exact⟨0,y,rfl,rfl,rfl⟩
   .exact⟨j+1,i,h1,h2,by rw[h3,show k+1+j=k+(j+1) by omega]⟩
  .rintro⟨j,i,h1,h2,h3⟩
   cases j with
   |zero=>cases h1;exact .inl (by rw[h2,h3];rfl)
   |succ j=>exact .inr ⟨j,i,h1,h2,by rw[h3,show k+1+j=k+(j+1) by omega]⟩
theorem Yr{a b:Nf}(h:Mq a=Mq b):a=b:=by
 obtain⟨a1,a2,a3,a4,a5,a6⟩:=a;obtain⟨b1,b2,b3,b4,b5,b6⟩:=b;unfold Mq at h;simp at h;obtain⟨rfl,rfl,rfl,rfl,rfl,rfl⟩:=h
 rfl
theorem AfG(h:MG i 0 l=some k):(Mq i,G (k:Nat))∈GQ 0 l:=by
 obtain⟨j,e,hj⟩:=N4 h;exact Uz.2 ⟨j,i,hj,rfl,by rw[e]⟩
theorem xq(hn:l.Nodup)(h:MG i 0 l=some k):∀b,(Mq i,b)∈GQ 0 l->b=G (k:Nat):=fun b hb=>by
 obtain⟨j,e,hj⟩:=N4 h;obtain⟨j',i',h1,h2,h3⟩:=Uz.1 hb
 have:=Yr h2
 subst this;obtain⟨a1,a2⟩:=AN.1 hj;obtain⟨b1,b2⟩:=AN.1 h1
 have:j'=j:=(List.getElem_inj hn).1 (b2.trans a2.symm)
 subst this;rw[h3,e]
theorem zW(h:MG i 0 l=none):∀a,(Mq i,a)∉GQ 0 l:=fun a ha=>by
 obtain⟨j,i',h1,h2,_⟩:=Uz.1 ha
 have:=Yr h2
 subst this;exact Su h (Ax h1)
theorem kU:∀(l:List Nf) (k:Nat) (i:Nf),GQ k (l++[i])=GQ k l++[(Mq i,G ((k+l.length:Nat):Int))]
 | [],k,i=>by simp[GQ]
 |y::l,k,i=>by
  show(Mq y,_)::GQ (k+1) (l++[i])=_;rw[kU l (k+1) i];simp[GQ,show k+1+l.length=k+(l.length+1) by omega]
theorem AbY(h:MG i 0 l=none):EN (GQ 0 l) (Mq i) (G ((l.map A8).length:Int))=GQ 0 (l++[i]):=by
 rw[IN (zW h),kU,Lm,Dp]
theorem cf{s:SS}{l:List V}(h:MG i 0 s.infs=some k):DT s i l=(k,s):=by unfold DT;rw[h]
theorem XQ{s:SS}{l:List V}(h:MG i 0 s.infs=none)(hf:65536<=s.infs.length):DT s i l=(s.infs.length-1,⟨s.infs,s.drv,true⟩):=by unfold DT;rw[h];exact AO hf
theorem cd{s:SS}{l:List V}(h:MG i 0 s.infs=none)(hf:¬65536<=s.infs.length):DT s i l=(s.infs.length,⟨s.infs++[i],s.drv++[l],s.full⟩):=by unfold DT;rw[h];exact AB hf
section
variable {roots:List Rq}{C A:At6}{s s' : SS}{dec:List Cd}{st:List (List Sk)}{i:Nf}{l:List V}
theorem p9{z:Int}(e:DT s i l=(k,s'))(hz:z=k):G z=G ((DT s i l).1:Nat)/\Ah (Jr roots C A s' dec st) Ab=Ah (Jr roots C A (DT s i l).2 dec st) Ab:=by rw[e,hz];exact Z
theorem Ae0(h:MG i 0 s.infs=none):Ah [(1000,.cells [sl Ak roots,.cmap CU C,.cmap CU A,.slice (.id 1001 6) (s.infs.map A8++[A8 i]),.slice (.id 1002 1) (s.drv.map BD++[BD l]),.mref 1003,Q s.full,sl A2 dec,sl Ar (AM dec),.msl 1004 st.length]),
      (1001,.tok 6 ((s.infs.map A8).length+[A8 i].length)),(1002,.tok 1 ((s.drv.map BD).length+[BD l].length)),(1003,.map Hb (EN (GQ 0 s.infs) (Mq i) (G ((s.infs.map A8).length:Int)))),(1004,.arr 1 (st.map Bp))] Ab=Ah (Jr roots C A ⟨s.infs++[i],s.drv++[l],s.full⟩ dec st) Ab:=by
  have e1:s.infs.map A8++[A8 i]=(s.infs++[i]).map A8:=aa1
  have e2:s.drv.map BD++[BD l]=(s.drv++[l]).map BD:=aa1
  have e3:(s.infs.map A8).length+[A8 i].length=(s.infs++[i]).length:=aa1
  have e4:(s.drv.map BD).length+[BD l].length=(s.drv++[l]).length:=aa1
  rw[e1,e2,e3,e4,AbY h]
end
theorem AgB(p:CS):PC 291 [.agg (A2 c),.cptr [vs p]] (Q (decide (c.rel.path=p))):=by
 refine Ps (pC [2] []) func291 rfl C4 (J (fun h1=>?_) (fun h1=>?_))
 .exact .of_eq (show Q true=Q (decide (c.rel.path=p)) by rw[Aq h1])
 exact .of_eq (show Q false=Q (decide (c.rel.path=p)) by rw[Al h1])
theorem Agz(t:V)(p:CS):PC 228 [.agg (E t),.cptr [vs p]] (Q (decide (t.path=p))):=by
 refine Ps (pC [2] []) func228 rfl C4 (J (fun h1=>?_) (fun h1=>?_))
 .exact .of_eq (show Q true=Q (decide (t.path=p)) by rw[Aq h1])
 exact .of_eq (show Q false=Q (decide (t.path=p)) by rw[Al h1])
theorem vv(l:List V)(p:CS)(hl:CC l):PC 155 [sl E l,vs p] (Q (Dq l p)):=by
 refine Ps (pC [3] []) func155 rfl C4 (Be (Bt (Dq l p)) (fun h1=>?_) (fun h1=>?_))
 .refine C1 (H (cb h1 (show PC 227 [sl E l,.clo 228 [.cptr [vs p]]] (Q (Dq l p))from AaG (fF:=228) (caps:=[.cptr [vs p]]) (fun c hc=>by obtain rfl:=AA.1 hc;intro h;rfl) l (fun t=>decide (t.path=p)) (fun t _=>Agz t p) hl)) ?_);exact .of_eq (show Q true=Q (Dq l p) by rw[h1])
 refine C1 (H (cb h1 (show PC 227 [sl E l,.clo 228 [.cptr [vs p]]] (Q (Dq l p))from AaG (fF:=228) (caps:=[.cptr [vs p]]) (fun c hc=>by obtain rfl:=AA.1 hc;intro h;rfl) l (fun t=>decide (t.path=p)) (fun t _=>Agz t p) hl)) ?_);exact .of_eq (show Q false=Q (Dq l p) by rw[h1])
theorem Agy(p:CS)(hl:CC dec):A1 prog 223 [.ref 1000 0,vs p] (Ah (Jr roots C A s dec st) Ab) fun r h'=>r=Q (Dg dec p)/\h'=Ah (Jr roots C A s dec st) Ab:=by
 refine Bv (Ky (pC [3] [])) [(1000,1000),(1001,1001),(1002,1002),(1003,1003),(1004,1004)] rfl BO hm rfl func223 aa5 rfl C4 aa5 rfl (Be (Bt (Dg dec p)) (fun h1=>?_) (fun h1=>?_))
 .refine C1 (H (cb h1 (show PC 290 [sl A2 dec,.clo 291 [.cptr [vs p]]] (Q (Dg dec p))from AgA (fF:=291) (caps:=[.cptr [vs p]]) (fun c hc=>by obtain rfl:=AA.1 hc;intro h;rfl) dec (fun c=>decide (c.rel.path=p)) (fun c _=>AgB c p) hl)) ?_);exact H (.refl _) (J (show Q true=Q (Dg dec p) by rw[h1]) rfl)
 refine C1 (H (cb h1 (show PC 290 [sl A2 dec,.clo 291 [.cptr [vs p]]] (Q (Dg dec p))from AgA (fF:=291) (caps:=[.cptr [vs p]]) (fun c hc=>by obtain rfl:=AA.1 hc;intro h;rfl) dec (fun c=>decide (c.rel.path=p)) (fun c _=>AgB c p) hl)) ?_);exact H (.refl _) (J (show Q false=Q (Dg dec p) by rw[h1]) rfl)
theorem yk(i:Nf)(l:List V)(k:Nat)(hk:MG i 0 s.infs=some k)(VN:s.infs.Nodup):A1 prog 224 [.ref 1000 0,.agg (A8 i),sl E l] (Ah (Jr roots C A s dec st) Ab) fun r h'=>r=G ((DT s i l).1:Nat)/\h'=Ah (Jr roots C A (DT s i l).2 dec st) Ab:=by
 refine Bv (Ky (pC [4] [])) [(1000,1000),(1001,1001),(1002,1002),(1003,1003),(1004,1004)] rfl BO hm rfl func224 aa5 rfl C4 aa5 rfl (U ?_);refine Or.inl (M (G (k:Nat)) (J (J (AfG hk) (xq VN hk)) ?_));refine J aa5 ?_;exact H (.refl _) (p9 (cf hk) rfl)
theorem yj(i:Nf)(l:List V)(hk:MG i 0 s.infs=none)(hn:s.infs.length<=65536)(hdl:s.drv.length=s.infs.length):A1 prog 224 [.ref 1000 0,.agg (A8 i),sl E l] (Ah (Jr roots C A s dec st) Ab) fun r h'=>r=G ((DT s i l).1:Nat)/\h'=Ah (Jr roots C A (DT s i l).2 dec st) Ab:=by
 have hdn:s.drv.length<=65536:=I
 have hml:(s.infs.map A8).length=s.infs.length:=Lm _;refine Bv (Ky (pC [4] [])) [(1000,1000),(1001,1001),(1002,1002),(1003,1003),(1004,1004)] rfl BO hm rfl func224 aa5 rfl C4 aa5 rfl (U ?_);refine Or.inr (J (zW hk) ?_);refine J aa5 (J (fun h1=>?_) (fun h1=>?_))
 .refine U (J (by show As (((s.infs.map A8).length:Int)-(1:Int));unfold As;omega) ?_);exact H (.refl _) (p9 (XQ hk (by have q:=h1;rw[Lm]at q;omega)) (by have q:=h1;rw[Lm]at q⊢;omega))
 refine U (J aa5 (U (J (cp rfl I aa3) (U (J aa5 (J (cp rfl I aa3) (U ?_)))))));have hq:=p9 (roots:=roots) (C:=C) (A:=A) (dec:=dec) (st:=st) (z:=((s.infs.map A8).length:Int)) (cd (l:=l) hk (by have q:=h1;rw[Lm]at q;omega)) (by rw[Lm]);exact H (.refl _) (J hq.1 ((Ae0 hk).trans hq.2))
structure Lx(x:List F)(roots:List Rq)(s:SS):Prop where
 der:Ew x roots s
 nodup:s.infs.Nodup
abbrev Aan(o:Nat×SS)(r:AV)(h' : Nat->HO):Prop:=r=G (o.1:Nat)/\h'=Ah (Jr roots C A o.2 dec st) Ab
theorem yi(i:Nf)(l:List V)(hn:s.infs.length<=65536)(hdl:s.drv.length=s.infs.length)(VN:s.infs.Nodup) :
  A1 prog 224 [.ref 1000 0,.agg (A8 i),sl E l] (Ah (Jr roots C A s dec st) Ab) (Aan roots C A dec st (DT s i l)):=by
 cases hk:MG i 0 s.infs with
 |some k=>exact yk roots C A s dec st i l k hk VN
 |none=>exact yj roots C A s dec st i l hk hn hdl
abbrev gt:I7:=[(1000,1000),(1001,1001),(1002,1002),(1003,1003),(1004,1004)]
theorem AeI{h2:Nat->HO}{cs:List AV}{o1 o2 o3 o4:HO}(e0:h2 1000=.cells cs)(e1:h2 1001=o1)(e2:h2 1002=o2)(e3:h2 1003=o3)(e4:h2 1004=o4) :
  Fv gt h2=Ah [(1000,.cells (cs.map (ren1 (Ck gt) h2))),(1001,o1.ren (Ck gt) h2),(1002,o2.ren (Ck gt) h2),(1003,o3.ren (Ck gt) h2),(1004,o4.ren (Ck gt) h2)] Ab:=by
 unfold Fv;simp only[bo];rw[e0,e1,e2,e3,e4];rfl
theorem nS{s:SS}{n:Nd}(h:n.path=mt):DT s ⟨0,mt,0,n.number,0,0⟩ (Ib n.rq)=Bx s n:=by unfold Bx QD It;rw[AO h,AO h]
theorem rW{s:SS}{n:Nd}(h:¬n.path=mt):DT s ⟨1,n.path,n.place,n.number,0,0⟩ (Dc n.path n.place n.rq)=Bx s n:=by unfold Bx QD It;rw[AB h,AB h]
abbrev ZY(d:List (List V))(S:List Sl):AV:=.tup [G (((OZ d S).getD 0:Nat):Int),Q (OZ d S).isSome]
theorem cO{S:List Sl}:∀{l:List (List V)} {b i:Nat} {t:List V},l[i]?=some t->BW t S=true->(∀j u,j<i->l[j]?=some u->BW u S=false)->Qk S b l=some (b+i)
 | [],_,_,_,h,_,_=>by simp at h
 |u::l,b,0,t,h,he,_=>by cases h;unfold Qk;rw[AO he];rfl
 |u::l,b,i+1,t,h,he,hn=>by
  unfold Qk;rw[AB (by rw[hn 0 u I rfl];decide),cO (i:=i) (by simpa using h) he (fun j v hj hv=>hn (j+1) v I (by simpa using hv))]
  congr 1;omega
theorem cP{S:List Sl}:∀{l:List (List V)} {b:Nat},(∀t∈l,BW t S=false)->Qk S b l=none
 | [],_,_=>rfl
 |u::l,b,h=>by
  unfold Qk;rw[AB (by rw[h u (Ad ..)];decide)];exact cP fun t ht=>h t (Aj _ ht)
abbrev qq32:=fun(roots:List Rq) (C:At6) (A:At6) (s:SS) (dec:List Cd) (st:List (List Sk))=>([(1000,.cells (srM roots C A s dec 1004 st.length)),(1001,.tok 6 s.infs.length),(1002,.tok 1 s.drv.length),(1003,.map Hb (GQ 0 s.infs)),(1004,.arr 1 (st.map Bp))]:List (Nat×HO))
theorem s88(hn:s.infs.length<=65536)(hdl:s.drv.length=s.infs.length)(VN:s.infs.Nodup)(hq:CC n.rq.set)(hp:As (n.place+1)):A1 prog 151 [.ref 1000 0,.agg (Br n)] (Ah (Jr roots C A s dec st) Ab) fun r h'=>Aan roots C A dec st (Bx s n) r h':=by
 refine Bv (Ky ⟨[3],[],[],[],[],[],[],[],[(15,5),(31,5)],[],[]⟩) [(1000,1000),(1001,1001),(1002,1002),(1003,1003),(1004,1004)] rfl BO hm rfl func151 aa5 rfl C4 aa5 rfl (J (fun h1=>?_) (fun h1=>?_))
 .refine U (H (Aee n.rq hq) (M gt (M (qq32 roots C A s dec st) (M (Jr roots C A (DT s ⟨0,mt,0,n.number,0,0⟩ (Ib n.rq)).2 dec st) (M [.ref 1000 0,.agg [G 0,vs ⟨#[]⟩,G 0,G n.number,G 0,G 0],sl E (Ib n.rq)] (M (G (((DT s ⟨0,mt,0,n.number,0,0⟩ (Ib n.rq)).1:Nat):Int):AV) (J (fun h2 hh=>J ((AeI (show h2 1000=.cells (srM roots C A s dec 1004 st.length)from hh 1000 aa3) (show h2 1001=.tok 6 s.infs.length from hh 1001 aa3) (show h2 1002=.tok 1 s.drv.length from hh 1002 aa3) (show h2 1003=.map Hb (GQ 0 s.infs)from hh 1003 aa3) (show h2 1004=.arr 1 (st.map Bp)from hh 1004 aa3)).trans rfl) rfl) (J aa5 (J (yi roots C A s dec st ⟨0,mt,0,n.number,0,0⟩ (Ib n.rq) hn hdl VN) (J aa5 ?_))))))))));have ei:=nS (s:=s) h1;exact H (.refl _) (J (show G (((DT s ⟨0,mt,0,n.number,0,0⟩ (Ib n.rq)).1:Nat):Int)=G (((Bx s n).1:Nat):Int) by rw[ei]) (show Ah (Jr roots C A (DT s ⟨0,mt,0,n.number,0,0⟩ (Ib n.rq)).2 dec st) Ab=Ah (Jr roots C A (Bx s n).2 dec st) Ab by rw[ei]))
 refine U (H (Aef n.path n.place n.rq hp hq) (M gt (M (qq32 roots C A s dec st) (M (Jr roots C A (DT s ⟨1,n.path,n.place,n.number,0,0⟩ (Dc n.path n.place n.rq)).2 dec st) (M [.ref 1000 0,.agg [G 1,vs n.path,G n.place,G n.number,G 0,G 0],sl E (Dc n.path n.place n.rq)] (M (G (((DT s ⟨1,n.path,n.place,n.number,0,0⟩ (Dc n.path n.place n.rq)).1:Nat):Int):AV) (J (fun h2 hh=>J ((AeI (show h2 1000=.cells (srM roots C A s dec 1004 st.length)from hh 1000 aa3) (show h2 1001=.tok 6 s.infs.length from hh 1001 aa3) (show h2 1002=.tok 1 s.drv.length from hh 1002 aa3) (show h2 1003=.map Hb (GQ 0 s.infs)from hh 1003 aa3) (show h2 1004=.arr 1 (st.map Bp)from hh 1004 aa3)).trans rfl) rfl) (J aa5 (J (yi roots C A s dec st ⟨1,n.path,n.place,n.number,0,0⟩ (Dc n.path n.place n.rq) hn hdl VN) (J aa5 ?_))))))))));have ei:=rW (s:=s) h1;exact H (.refl _) (J (show G (((DT s ⟨1,n.path,n.place,n.number,0,0⟩ (Dc n.path n.place n.rq)).1:Nat):Int)=G (((Bx s n).1:Nat):Int) by rw[ei]) (show Ah (Jr roots C A (DT s ⟨1,n.path,n.place,n.number,0,0⟩ (Dc n.path n.place n.rq)).2 dec st) Ab=Ah (Jr roots C A (Bx s n).2 dec st) Ab by rw[ei]))
theorem s89(hd:s.drv.length<=65536)(ht:∀t∈s.drv,ZE t)(hS:CC S):A1 prog 152 [.ref 1000 0,sl Ar S] (Ah (Jr roots C A s dec st) Ab) fun r h'=>r=ZY s.drv S/\h'=Ah (Jr roots C A s dec st) Ab:=by
 refine Bv (Ky CF) [(1000,1000),(1001,1001),(1002,1002),(1003,1003),(1004,1004)] rfl BO hm rfl func152 aa5 rfl C4 aa5 rfl (M {i:Nat // i<=s.drv.length/\∀j u,j<i->s.drv[j]?=some u->BW u S=false} (M (fun q=>⟨[(1,sl Ar S),(11,.slice (.id 1002 1) (s.drv.map BD)),(12,G (s.drv.map BD).length),(13,G q.1)],(qq32 roots C A s dec st),Ab⟩) (M (fun q=>s.drv.length-q.1) (J (M ⟨0,Ai _,fun j u h=>absurd h (Cv j)⟩ ?_) ?_))))
 .exact⟨Z4,Z5,Fh,AX aa5⟩
 intro⟨i,i1,i2⟩;refine J (fun h1=>?_) (fun h1=>?_)
 .have n1:i<s.drv.length:=Gj h1;refine M (BD s.drv[i]) (J (IM n1) (J rfl (Be (Bt (BW s.drv[i] S)) (fun h2=>?_) (fun h2=>?_))))
  .refine C1 (H (cb h2 (c91 s.drv[i] S (ht _ (Am _)) hS)) ?_);have eE:OZ s.drv S=some i:=by unfold OZ;rw[cO (Ge n1) h2 i2,Dp]
   exact H (.refl _) (J (show AV.tup [G (i:Int),Q true]=ZY s.drv S by unfold ZY;rw[eE];rfl) rfl)
  have h2:(BW s.drv[i] S)=false:=h2;refine C1 (H (cb h2 (c91 s.drv[i] S (ht _ (Am _)) hS)) (J (Ii i I) ?_));refine M ⟨i+1,by omega,fun j u hj hu=>by
    by_cases e:j=i
    .subst e;rw[Ge n1]at hu;cases hu;exact h2
    .exact i2 j u I hu⟩ ?_
  exact⟨Dl s.drv.length i I,Z4,Z5,Fh,AX aa5⟩
 have h1:¬((i:Int)<((s.drv.map BD).length:Int)):=h1;have n1:=D6 h1;have eE:OZ s.drv S=none:=cP fun t ht=>by
  obtain⟨j,hj⟩:=B4.1 ht
  have:=(AN.1 hj).1
  exact i2 j t (by have q:=h1;rw[Lm]at q;omega) hj
 exact H (.refl _) (J (show AV.tup [G 0,Q false]=ZY s.drv S by unfold ZY;rw[eE];rfl) rfl)
def YA(l:List Cd)(q:Rq):Bool:=l.any fun d=>decide (d.rel.path=q.path)&&!has q.set d.place
theorem Yb{f:Rq->Nat->Nd}{P:Nd->Bool}:∀{l:List Rq} {b i:Nat} {q:Rq},l[i]?=some q->P (f q (b+i))=true->(∀k u,k<i->l[k]?=some u->P (f u (b+k))=false)->(Np f b l).find? P=some (f q (b+i))
 | [],_,_,_,h,_,_=>by simp at h
 |u::l,b,0,q,h,he,_=>by
  cases h
  unfold Np;rw[Fu,show P (f u b)=true from he];rfl
 |u::l,b,i+1,q,h,he,hn=>by
  unfold Np;have h0:P (f u b)=false:=hn 0 u I rfl;rw[Fu,h0]
  have:=Yb (f:=f) (P:=P) (l:=l) (b:=b+1) (i:=i) (q:=q) (by simpa using h) (by rw[show b+1+i=b+(i+1) by omega];exact he) (fun k v hk hv=>by
   rw[show b+1+k=b+(k+1) by omega];exact hn (k+1) v I (by simpa using hv))
  rw[show b+1+i=b+(i+1) by omega]at this;exact this
theorem Qq{f:Rq->Nat->Nd}{P:Nd->Bool}:∀{l:List Rq} {b:Nat},(∀k u,l[k]?=some u->P (f u (b+k))=false)->(Np f b l).find? P=none
 | [],_,_=>rfl
 |u::l,b,h=>by
  unfold Np;have h0:P (f u b)=false:=h 0 u rfl;rw[Fu,h0];exact Qq fun k v hv=>by rw[show b+1+k=b+(k+1) by omega];exact h (k+1) v (by simpa using hv)
abbrev qq33:List AV:=[vs ⟨#[]⟩,nzA,vs ⟨#[]⟩,G 0,G 0]
def zNd:AV:=.agg qq33
def clV(o:Option Nd):AV:=match o with | some n=>.tup [.agg (Br n),Q true] | none=>.tup [zNd,Q false]
section
variable {dec:List Cd}{c:Cd}{i:Nat}
theorem qx(hi:i<c.rel.reqs.length)(hn:∀k q,k<i->c.rel.reqs[k]?=some q->YA (dec++[c]) q=false){j:Nat}(hj:j<(dec++[c]).length)(h1:(dec++[c])[j].rel.path=c.rel.reqs[i].path)(h2:has c.rel.reqs[i].set (dec++[c])[j].place=false) :
  DM dec c=some ⟨c.rel.reqs[i],c.rel.path,c.place,(i:Nat)⟩:=by
 have:=Yb (f:=fun q i=>⟨q,c.rel.path,c.place,(i:Nat)⟩) (P:=li (dec++[c])) (l:=c.rel.reqs) (b:=0) (i:=i) (q:=c.rel.reqs[i]) (Ge hi)
  (Cs.2 ⟨_,Am hj,by rw[Aq h1,h2];rfl⟩) (fun k u hk hu=>hn k u hk hu)
 unfold DM Sz;rw[this,Dp]
theorem qy(hn:∀(k:Nat) (q:Rq),c.rel.reqs[k]?=some q->YA (dec++[c]) q=false):DM dec c=none:=by
 unfold DM Sz;exact Qq fun k u hu=>hn k u hu
theorem su{q:Rq}(h:∀(m:Nat) (d:Cd),(dec++[c])[m]?=some d->(decide (d.rel.path=q.path)&&!has q.set d.place)=false):YA (dec++[c]) q=false:=by
 unfold YA;rw[Td];intro d hd;obtain⟨m,hm⟩:=B4.1 hd;rw[h m d hm];decide
end
theorem s87(hq:CC n.rq.set):PC 150 [.agg (Br n),.cptr (A2 c)] (Q (!has n.rq.set c.place)):=by
 refine Ps (pC [2] []) func150 rfl C4 (Be (Bt (has n.rq.set c.place)) (fun h1=>?_) (fun h1=>?_))
 .refine C1 (H (cb h1 (c87 n.rq.set c.place hq)) ?_);exact .of_eq (show Q false=Q (!has n.rq.set c.place) by rw[h1];rfl)
 refine C1 (H (cb h1 (c87 n.rq.set c.place hq)) ?_);exact .of_eq (show Q true=Q (!has n.rq.set c.place) by rw[h1];rfl)
theorem s69(hd:dec.length<=1073741823)(hr:c.rel.reqs.length<=2^30)(hq:∀q∈c.rel.reqs,CC q.set):A1 prog 153 [.ref 1000 0,.agg (A2 c)] (Ah (Jr roots C A s dec st) Ab) fun r h'=>r=clV (DM dec c)/\h'=Ah (Jr roots C A s dec st) Ab:=by
 have hdl:(dec++[c]).length=dec.length+1:=aa1
 refine Bv (Ky ⟨[3],[],[],[],[],[],[],[],[(23,3)],[],[]⟩) [(1000,1000),(1001,1001),(1002,1002),(1003,1003),(1004,1004)] rfl BO hm rfl func153 aa5 rfl C4 aa5 rfl (M {i:Nat // i<=c.rel.reqs.length/\∀k q,k<i->c.rel.reqs[k]?=some q->YA (dec++[c]) q=false} (M (fun q=>⟨[(0,.ref 1000 0),(3,.ref 3 0),(4,.ref 4 0),(12,sl Ak c.rel.reqs),(13,G (c.rel.reqs.map Ak).length),(14,G q.1)],[(3,.ro (A2 c)),(4,.cells qq33),(1000,.cells (srM roots C A s dec 1004 st.length)),(1001,.tok 6 s.infs.length),(1002,.tok 1 s.drv.length),(1003,.map Hb (GQ 0 s.infs)),(1004,.arr 1 (st.map Bp))],Ab⟩) (M (fun q=>c.rel.reqs.length-q.1) (J (M ⟨0,Ai _,fun k q h=>absurd h (Cv k)⟩ ?_) ?_))))
 .exact⟨Z6,Z7,Fh,AX aa5⟩
 intro⟨i,i1,i2⟩;refine J (fun h1=>?_) (fun h1=>?_)
 .have n1:i<c.rel.reqs.length:=Gj h1;refine M (Ak c.rel.reqs[i]) (J (IM n1) (J rfl (U (U (M _ (H aa5 (J (AgC dec (Az hd aa3)) (U ?_))))))));have b2:=bT (sz:=10) (k:=128) (n:=(dec.map A2).length) (l:=(dec.map A2)) (ys:=[(A2 c)]) ⟨rfl,trivial⟩ rfl (by simp only[Lm,AK,A4];omega);refine J b2 (J aa5 (M {j:Nat // j<=(dec++[c]).length/\∀m d,m<j->(dec++[c])[m]?=some d->(decide (d.rel.path=c.rel.reqs[i].path)&&!has c.rel.reqs[i].set d.place)=false} (M (fun q=>⟨[(0,.ref 1000 0),(3,.ref 3 0),(4,.ref 4 0),(6,G i),(7,.ref 7 0),(12,sl Ak c.rel.reqs),(13,G (c.rel.reqs.map Ak).length),(14,G i),(26,.slice (.id 12300 10) ((dec++[c]).map A2)),(27,G ((dec++[c]).map A2).length),(28,G q.1)],[(3,.ro (A2 c)),(4,.cells qq33),(7,.cells (Ak c.rel.reqs[i])),(1000,.cells (srM roots C A s dec 1004 st.length)),(1001,.tok 6 s.infs.length),(1002,.tok 1 s.drv.length),(1003,.map Hb (GQ 0 s.infs)),(1004,.arr 1 (st.map Bp)),(12300,.tok 10 ((dec++[c]).map A2).length)],Ab⟩) (M (fun q=>(dec++[c]).length-q.1) (J (M ⟨0,Ai _,fun k q h=>absurd h (Cv k)⟩ ?_) ?_)))))
  .exact⟨⟨Z,Z,Z,Z,Z,Z,Z,Z,⟨tkA,rfl⟩,⟨(show G ((dec.map A2++[A2 c]:C0).length:Int)=G (((dec++[c]).map A2).length:Int) by rw[Au];rfl),rfl⟩,Z,X⟩,⟨Z,Z,Z,Z,Z,Z,Z,Z,⟨(show HO.tok 10 ((dec.map A2).length+[A2 c].length)=.tok 10 ((dec++[c]).map A2).length by simp),rfl⟩,X⟩,Fh,AX aa5⟩
  intro⟨j,j1,j2⟩;refine J (fun h3=>?_) (fun h3=>?_)
  .have n3:j<(dec++[c]).length:=Gj h3;refine M (A2 ((dec++[c])[j])) (J (IM n3) (J rfl (U (U (J (fun h4=>?_) (fun h4=>?_))))))
   .have h4:(((dec++[c])[j]).rel.path:CS)=c.rel.reqs[i].path:=h4;refine Be (Bt (has c.rel.reqs[i].set (dec++[c])[j].place)) (fun h5=>?_) (fun h5=>?_)
    .have h5:(has c.rel.reqs[i].set (dec++[c])[j].place)=true:=h5;refine C1 (H (cb h5 (c87 c.rel.reqs[i].set (dec++[c])[j].place (hq _ (Am _)))) (J (Ii j I) ?_));refine M ⟨j+1,by omega,fun m d hm hd=>by
       by_cases e:m=j
       .subst e;rw[Ge n3]at hd;cases hd;exact by rw[h5];simp
       .exact j2 m d I hd⟩ ?_
     exact⟨by show(dec++[c]).length-(j+1)<(dec++[c]).length-j;omega,Z11,Z9,Fh,AX aa5⟩
    have h5:(has c.rel.reqs[i].set (dec++[c])[j].place)=false:=h5;refine C1 (H (cb h5 (c87 c.rel.reqs[i].set (dec++[c])[j].place (hq _ (Am _)))) (U (U (U ?_))));have eC:=qx (dec:=dec) (c:=c) n1 i2 n3 h4 h5;exact H (.refl _) (J (show AV.tup [.agg (Br ⟨c.rel.reqs[i],c.rel.path,c.place,(i:Nat)⟩),Q true]=clV (DM dec c) by rw[eC];rfl) rfl)
   have h4:¬(((dec++[c])[j]).rel.path:CS)=c.rel.reqs[i].path:=h4;refine J (Ii j I) ?_;refine M ⟨j+1,by omega,fun m d hm hd=>by
     by_cases e:m=j
     .subst e;rw[Ge n3]at hd;cases hd;exact by rw[Al h4];rfl
     .exact j2 m d I hd⟩ ?_
   exact⟨by show(dec++[c]).length-(j+1)<(dec++[c]).length-j;omega,Z11,Z9,Fh,AX aa5⟩
  have h3:¬((j:Int)<(((dec++[c]).map A2).length:Int)):=h3;have n3:=D6 h3;refine J (Ii i I) ?_;have hmq:YA (dec++[c]) c.rel.reqs[i]=false:=su fun m d hd=>j2 m d (by have:=(AN.1 hd).1;have q:=h3;rw[Lm]at q;omega) hd;refine M ⟨i+1,by omega,fun k q hk xf=>by
    by_cases e:k=i
    .subst e;rw[Ge n1]at xf;cases xf;exact hmq
    .exact i2 k q I xf⟩ ?_
  exact⟨Dl c.rel.reqs.length i I,Z6,Z7,Fh,AX aa5⟩
 have h1:¬((i:Int)<((c.rel.reqs.map Ak).length:Int)):=h1;have n1:=D6 h1;refine U (U ?_);have eC:=qy (dec:=dec) (c:=c) fun k q hk=>i2 k q (by have:=(AN.1 hk).1;have q:=h1;rw[Lm]at q;omega) hk;exact H (.refl _) (J (show AV.tup [zNd,Q false]=clV (DM dec c) by rw[eC];rfl) rfl)
end Go.Eng
