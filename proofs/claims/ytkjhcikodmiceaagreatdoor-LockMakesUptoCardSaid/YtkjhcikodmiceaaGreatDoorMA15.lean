/- Lemmas 15. -/
import Derived.Test.YtkjhcikodmiceaaGreatDoorMA14
import Derived.Test.YtkjhcikodmiceaaGreatDoorMA13
import Derived.Shelf.SlSortCmp.NoneTotal
namespace Go.Eng
open Go.Proofs Go.Proofs.Tryz
variable (l:List Tm)(s:List Sl)
theorem Adm(hl:Rb l)(hs:BF s):PC 251 [sl M l,sl Ae s] (I (AX l s)):=by
 have hc:∀i (h:i<l.length),PC 312 [.agg (M l[i]),sl Ae s] (I (E9 l[i] s)):=fun i h=>Adz l[i] s hs (hl.2 _ (Ag h));obtain⟨hl,_⟩:=hl;unfold BF at hl;refine Ps Dc func251 rfl C4 (Z {i:Nat // i<=l.length/\∀j (hj:j<l.length),j<i->E9 l[j] s=true} (Z (fun i=>⟨[(0,sl M l),(1,sl Ae s),(5,G i.1)],[],Af⟩) (Z (fun i=>l.length-i.1) (J (Z ⟨0,by simp⟩ ?_) ?_))))
 .exact⟨Z3,W,Fh,W⟩
 .intro⟨i,h1,h2⟩;refine J ?_ ?_
  .intro h;have h:(i:Int)<(l.map M).length:=h;have h:i<l.length:=aa0
   have hg:l[i]?=some l[i]:=Ge h;have gU:=hc i h;refine Z (M l[i]) (J (J Wk aa0) (J rfl (yN ?_)));refine Ay (Bt (E9 l[i] s)) (fun hp=>?_) (fun hp=>?_)
   .rw[hp]at gU;refine C1 (U gU (J (by grind [Au]) (Z ⟨i+1,by omega,fun j hj F6=>?_⟩ ?_)))
    .grind
    .exact⟨by grind,Z3,W,Fh,W⟩
   .rw[hp]at gU;refine C1 (U gU ?_);show CD (I false) (I (AX l s))
    grind [AX,CD.refl]
  .intro h;have h:¬(i:Int)<(l.map M).length:=h;have h:¬i<l.length:=aa0
   show CD (I true) (I (AX l s))
   grind [AX,Yc,CD.refl]
def JS:Bool:=l.all (fun t=>BP s t.path)&&AX l s
theorem Yw:JS l s=Bq l s:=by
 grind [JS,Bq]
theorem c96(hl:Rb l)(hs:BF s):PC 172 [sl M l,sl Ae s] (I (Bq l s)):=by
 have hc:∀i (h:i<l.length),PC 250 [sl Ae s,vs l[i].path] (I (BP s l[i].path)):=fun i h=>Adl s l[i].path hs;have hv:=Adm l s hl hs;obtain⟨hl,_⟩:=hl;unfold BF at hl;rw[<-Yw];refine Ps Dc func172 rfl C4 (Z {i:Nat // i<=l.length/\∀j (hj:j<l.length),j<i->BP s l[j].path=true} (Z (fun i=>⟨[(0,sl M l),(1,sl Ae s),(5,G i.1)],[],Af⟩) (Z (fun i=>l.length-i.1) (J (Z ⟨0,by simp⟩ ?_) ?_))))
 .exact⟨Z3,W,Fh,W⟩
 .intro⟨i,h1,h2⟩;refine J ?_ ?_
  .intro h;have h:(i:Int)<(l.map M).length:=h;have h:i<l.length:=aa0
   have hg:l[i]?=some l[i]:=Ge h;have gU:=hc i h;refine Z (M l[i]) (J (J Wk aa0) (J rfl ?_));refine Ay (Bt (BP s l[i].path)) (fun hp=>?_) (fun hp=>?_)
   .rw[hp]at gU;refine C1 (U gU (J (by grind [Au]) (Z ⟨i+1,by omega,fun j hj F6=>?_⟩ ?_)))
    .grind
    .exact⟨by grind,Z3,W,Fh,W⟩
   .rw[hp]at gU;refine C1 (U gU ?_);show CD (I false) (I (JS l s))
    grind [JS,CD.refl]
  .intro h;have h:¬(i:Int)<(l.map M).length:=h;have h:¬i<l.length:=aa0
   refine C1 (U hv ?_);show CD (I (AX l s)) (I (JS l s))
   grind [JS,Yc,CD.refl]
abbrev Gl(a:An):List AV:=[I a.found,sl Ae a.sel,sl AG a.infs,sl N a.skips]
theorem vF(r:Rl):PC 98 [.agg (V r)] (.agg (Ae ⟨r.path,r.ver⟩)):=by
 refine Ps Dc func98 rfl C4 ?_;exact J C4 (J C4 (J C4 (.refl _)))
theorem x8(p:CS)(hl:BF s):PC 241 [sl Ae s,vs p] (.tup [.agg (Ae ((AE s p).getD MA)),I (AE s p).isSome]):=by
 unfold BF at hl;refine Ps Dc func241 rfl C4 (Z {i:Nat // i<=s.length/\∀j (hj:j<s.length),j<i->decide (s[j].path=p)=false} (Z (fun i=>⟨[(0,sl Ae s),(1,vs p),(4,.ref 4 0),(6,G i.1)],[(4,.cells (Ae MA))],Af⟩) (Z (fun i=>s.length-i.1) (J (Z ⟨0,by simp⟩ ?_) ?_))))
 .exact⟨Z4,Z1,Fh,W⟩
 .intro⟨i,h1,h2⟩;refine J ?_ ?_
  .intro h;have h:i<s.length:=aa0
   have hg:s[i]?=some s[i]:=Ge h;refine Z (Ae s[i]) (J (J Wk aa0) (J rfl ?_));refine J ?_ ?_
   .intro h3;have hf:AE s p=some s[i]:=YA (p:=fun x:Sl=>decide (x.path=p)) h h2 (Ax h3);refine Z (Ae s[i]) (J (J Wk aa0) (J rfl (J C4 (J C4 (yN ?_)))));show CD (.tup [.agg (Ae s[i]),I true]) _
    grind [CD.refl]
   .intro h3;refine J (by grind [Au]) (Z ⟨i+1,by omega,fun j hj F6=>?_⟩ ?_)
    .grind
    .exact⟨by grind,Z4,Z1,Fh,W⟩
  .intro h;have h:¬i<s.length:=aa0
   have hf:AE s p=none:=W9 (p:=fun x:Sl=>decide (x.path=p)) h2 h;refine J C4 (yN ?_);show CD (.tup [.agg (Ae MA),I false]) _
   grind [CD.refl]
theorem c75(l m:List (Int×Int))(hl:BF l):PC 89 [sl Y l,sl Y m] (I (decide (l=m))):=by
 refine Ps Dc func89 rfl C4 (J ?_ ?_)
 .intro h
  have:l≠m:=fun e=>h (by rw[e])
  rw[At this];exact .refl _
 .intro h;have CN:l.length=m.length:=aa2
  refine Z {i:Nat // i<=l.length/\l.take i=m.take i} (Z (fun i=>⟨[(0,sl Y l),(1,sl Y m),(5,G i.1)],[],Af⟩) (Z (fun i=>l.length-i.1) (J (Z ⟨0,by simp⟩ ?_) ?_)))
  .exact⟨Z3,W,Fh,W⟩
  .intro⟨i,h1,h2⟩;refine J ?_ ?_
   .intro h;have h:i<l.length:=aa0
    have h' : i<m.length:=Wk
    have hg:l[i]?=some l[i]:=Ge h;have hg' : m[i]?=some m[i]:=Ge h';refine Z (Y l[i]) (J (J Wk aa0) (J rfl (yN ?_)));refine Z (Y m[i]) (J (J Wk aa0) (J rfl (yN ?_)));refine J ?_ ?_
    .intro h5;have e:l[i]=m[i]:=Tq.1 h5;refine J aa4 (J (by grind [Au]) (Z ⟨i+1,by omega,?_⟩ ?_))
     .grind [List.take_add_one]
     .exact⟨Dl l.length i Wk,Z3,W,Fh,W⟩
    .intro h5;refine J aa4 ?_
     have:l≠m:=fun e=>h5 (Tq.2 aa0)
     rw[At this];exact .refl _
   .intro h;have h:¬i<l.length:=aa0
    have e:l=m:=by
     grind
    rw[Ax e];exact .refl _
end Go.Eng
namespace Go.Eng
open Go.Proofs Go.Proofs.Tryz Go.Shelf Go.RowKit Go.Lib Go.Sort
variable (k:Nat)
theorem io(x y:SpA):ltOf cfSpA x y=decide (x.1.1<y.1.1):=by
 unfold ltOf cfSpA;rw[CI];simp only[A4];omega
theorem qb:SWO (ltOf cfSpA) where
 irrefl x:=by rw[io];simp
 trans x y z h1 h2:=by rw[io]at *;simp at *;omega
 ntrans x y z h1 h2:=by rw[io]at *;simp at *;omega
theorem Vc:∀x y:List UInt8,decide (Lib.compareBytes x y<0)=Lc x y
 | [],[]=>rfl
 | [],_::_=>rfl
 |_::_,[]=>rfl
 |a::x,b::y=>by
  unfold Lib.compareBytes Lc
  by_cases h:a<b
  .simp[h]
  .by_cases h2:b<a
   .have:¬a=b:=fun e=>by subst e;exact absurd h2 (UInt8.lt_irrefl a)
    simp[h,h2,this]
   .have e:a=b:=UInt8.le_antisymm (UInt8.not_lt.1 h2) (UInt8.not_lt.1 h);subst e;simp[UInt8.lt_irrefl,Vc x y]
theorem ip(x y:TmA):ltOf cfTmA x y=Ek x.1 y.1:=Vc _ _
theorem qc:SWO (ltOf cfTmA) where
 irrefl x:=by rw[ip];exact Dd _
 trans x y z h1 h2:=by rw[ip]at *;exact D2 h1 h2
 ntrans x y z h1 h2:=by
  rw[ip]at *
  rw[BC];intro h;cases hyx:Ek y.1 x.1 with
  |true=>have:=D2 hyx h;rw[h2]at this;cases this
  |false=>
   have e:=Ik h1 hyx;rw[e]at h;rw[h2]at h;cases h
abbrev Hs:Value:=.func (.func k) #[] #[]
theorem jG {fn : Func}{c : Code}(hf : prog.funcs[k]?=some fn)(hn : (fn.name == "runtime.NumGoroutine")=false)(hb : fn.body=some c) : Gt prog k:=jH hf hn hb
theorem AdB(l:List (Int×Int))(hl:BF l)(h:∀x∈l,0<=x.1/\x.1<=1000000)(lim:Nat)(bc:lim<100) :
  A6 prog 339 [.msl 1000 l.length,G 0,G l.length,G lim,.v (Hs 288)] (Ai [(1000,.arr 2 (l.map Y))] Af) fun r h'=>
   r=.tup []/\∃l' : List (Int×Int),l'.Perm l/\l'.Pairwise (fun x y=>x.1<=y.1)/\h'=Ai [(1000,.arr 2 (l'.map Y))] Af:=by
 have hl:l.length<=1073741824:=hl;have hE:Gt prog 339:=jG 339 func339 aa4 rfl;have eg:∀args w,(callFunc 288 args).run prog w=.ok (.enter 288 args) w:=enters_of func288 aa4 rfl;have Jx:=JY (P:=prog) (f:=339) (α:=SpA) (rest:=[.int .i64 0,.int .i64 l.length,.int .i64 lim,Hs 288]) hE Y encSpA (k:=2) (fun _=>rfl) (fun _=>rfl) (ltOf cfSpA) (fun x a=>a.1=x) l Wk ?_ ?_ ?_
 .refine⟨hE,fun g w vals q1 q2 q3=>(Jx.2 g w vals q1 q2 q3).mono fun _ _ ⟨v,r,h',g',e1,⟨e2,l',p1,⟨al,a1,a2,a3⟩,p2⟩,rest⟩=>⟨v,r,h',g',e1,⟨e2,l',p1,?_,p2⟩,rest⟩⟩;rw[Cy]at a3⊢;intro i j hi hj cX
  have:=a3 i j Wk Wk cX
  rw[io]at this;have e1:=a2 i _ _ (AT hi) (AT Wk);have e2:=a2 j _ _ (AT hj) (AT Wk);rw[<-e1,<-e2]
  have:=of_decide_eq_false this
  omega
 .intro x hx g w vs hr
  match vs,hr with
  | [a,b],hr=>
   have h1:=(hr.2.2 0 (G x.1) a rfl rfl).v_eq;have h2:=(hr.2.2 1 (G x.2) b rfl rfl).v_eq;subst h1;subst h2;exact⟨⟨x,h x hx⟩,rfl,rfl⟩
  | [],hr=>have:=hr.1;simp at this
  | [_],hr=>have:=hr.1;simp at this
  |_::_::_::_,hr=>have:=hr.1;simp at this
 .intro w b cap d hH hb FW hdl;have nO:CmpLays prog 288 #[] encSpA 2 cfSpA b 0 d.size w:=fun _ _ _ _ x y=>Tryz.closure288 x y _;have hp:=AnyQ.pdqsortCmpFunc_all Tryz.layPdqSpan 2 isAgg64 sizeOf64 encSpA cfSpA 288 #[] qb b 0 cap d w eg nO ⟨fun _=>rfl,fun x v hv=>by simp[encSpA]at hv;rcases hv with rfl | rfl<;>rfl,hH,hb⟩ (d.size+1) 0 d.size lim d w Wk rfl (SWK.start hH) (Ak _) (Ao _) FW Wk (Or.inl rfl)
  rw[hdl]at hp⊢;refine hp.mono ?_
  rintro e w' ⟨rfl,n,os,rfl⟩
  have h:=pdq_sorts (ltOf cfSpA) qb d 0 d.size lim true true (Ak _) (Ao _) (Or.inl rfl);rw[hdl]at h;exact⟨rfl,_,n,os,h.1,h.2,rfl⟩
 .intro e w;subst e;exact AnyF.pdqsortCmpFunc_none Tryz.layPdqSpan none 0 lim (Hs 288) w
theorem Ad8(l:List Tm)(hl:BF l)(lim:Nat)(bc:lim<100) :
  A6 prog 377 [.msl 1000 l.length,G 0,G l.length,G lim,.v (Hs 351)] (Ai [(1000,.arr 3 (l.map M))] Af) fun r h'=>
   r=.tup []/\∃l' : List Tm,l'.Perm l/\l'.Pairwise (fun x y=>Ek y.path x.path=false)/\h'=Ai [(1000,.arr 3 (l'.map M))] Af:=by
 have hl:l.length<=1073741824:=hl;have hE:Gt prog 377:=jG 377 func377 aa4 rfl;have eg:∀args w,(callFunc 351 args).run prog w=.ok (.enter 351 args) w:=enters_of func351 aa4 rfl;have Jx:=JY (P:=prog) (f:=377) (α:=TmA) (rest:=[.int .i64 0,.int .i64 l.length,.int .i64 lim,Hs 351]) hE M encTmA (k:=3) (fun _=>rfl) (fun _=>rfl) (ltOf cfTmA) (fun x a=>a.1=x.path) l Wk ?_ ?_ ?_
 .refine⟨hE,fun g w vals q1 q2 q3=>(Jx.2 g w vals q1 q2 q3).mono fun _ _ ⟨v,r,h',g',e1,⟨e2,l',p1,⟨al,a1,a2,a3⟩,p2⟩,rest⟩=>⟨v,r,h',g',e1,⟨e2,l',p1,?_,p2⟩,rest⟩⟩;rw[Cy]at a3⊢;intro i j hi hj cX
  have:=a3 i j Wk Wk cX
  rw[ip]at this;have e1:=a2 i _ _ (AT hi) (AT Wk);have e2:=a2 j _ _ (AT hj) (AT Wk);rw[<-e1,<-e2];exact this
 .intro x hx g w vs hr
  match vs,hr with
  | [a,b,c],hr=>
   have h1:=(hr.2.2 0 (Go.Eng.vs x.path) a rfl rfl).v_eq;subst h1;exact⟨⟨x.path,⟨b,hr.2.1 b aa1⟩,⟨c,hr.2.1 c aa1⟩⟩,rfl,rfl⟩
  | [],hr=>have:=hr.1;simp at this
  | [_],hr=>have:=hr.1;simp at this
  | [_,_],hr=>have:=hr.1;simp at this
  |_::_::_::_::_,hr=>have:=hr.1;simp at this
 .intro w b cap d hH hb FW hdl;have nO:CmpLays prog 351 #[] encTmA 3 cfTmA b 0 d.size w:=fun _ _ _ _ x y=>Tryz.closure351 x y _;have hp:=AnyQ.pdqsortCmpFunc_all Tryz.layPdqTerm 3 isAgg325 sizeOf325 encTmA cfTmA 351 #[] qc b 0 cap d w eg nO ⟨fun _=>rfl,fun x v hv=>by
    simp only[encTmA,AM,Mq,or_false]at hv;rcases hv with rfl | rfl | rfl
    .rfl
    .exact x.2.1.2
    .exact x.2.2.2,hH,hb⟩ (d.size+1) 0 d.size lim d w Wk rfl (SWK.start hH) (Ak _) (Ao _) FW Wk (Or.inl rfl)
  rw[hdl]at hp⊢;refine hp.mono ?_
  rintro e w' ⟨rfl,n,os,rfl⟩
  have h:=pdq_sorts (ltOf cfTmA) qc d 0 d.size lim true true (Ak _) (Ao _) (Or.inl rfl);rw[hdl]at h;exact⟨rfl,_,n,os,h.1,h.2,rfl⟩
 .intro e w;subst e;exact AnyF.pdqsortCmpFunc_none Tryz.layPdqTerm none 0 lim (Hs 351) w
end Go.Eng
namespace Go.Eng
open Go.Proofs Go.Proofs.Tryz
variable {h0:Nat->HO}{α:Type}{P:Program}{args:List AV}{f:Nat}(s:AN)(x:List Rl)(ifs:AV)(l:List (Int×Int))(j:AN)(roots:List Rq)(d:List (List Tm))(i:Nat)
-- the checker,and what reads it
abbrev Cz:List AV:=[sl V x,ifs,sl Ac roots,sl F d]
theorem c40(hd:BF d):PC 107 [.cptr (Cz x ifs roots d)] (I (EN d)):=by
 unfold BF at hd;refine Ps Dc func107 rfl C4 (J ?_ ?_)
 .intro h;have h:(0:Int)<(d.map F).length:=h;have h:0<d.length:=aa0
  have hg:d[d.length-1]?=some d[d.length-1]:=Ge Wk;have hl:d.getLast?=some d[d.length-1]:=aa2
  refine J (by grind [Au]) (Z (F d[d.length-1]) (J (J Wk (by rw[show(((d.map F).length:Int)-1).toNat=d.length-1 by simp_all];grind)) (J rfl ?_)));refine J ?_ ?_
  .intro h2;have h2:((d[d.length-1].map M).length:Int)=0:=h2;have h2:d[d.length-1]=[]:=aa0
   show CD (I true) (I (EN d))
   grind [EN,CD.refl]
  .intro h2;have h2:¬((d[d.length-1].map M).length:Int)=0:=h2;have h2:d[d.length-1]≠[]:=fun e=>h2 aa0;show CD (I false) (I (EN d))
   grind [EN,CD.refl]
 .intro h;have h:¬(0:Int)<(d.map F).length:=h;have h:d=[]:=Az aa0;subst h;exact .refl _
theorem bq:∀(s:List Sl) (i:Nat) (h:i+1<s.length),La (some s[i].path) (s.drop (i+1))=(Ek s[i].path s[i+1].path&&La (some s[i+1].path) (s.drop (i+2))):=fun s i h=>by
 rw[Bf h];rfl
theorem DZ(a b:CS):Ek a b=Op.bytesLess a.toList b.toList:=by
 have:∀x y:List UInt8,Lc x y=Op.bytesLess x y:=by
  intro x
  induction x with
  |nil=>intro y;cases y<;>rfl
  |cons a x ih=>
   intro y;cases y with
   |nil=>rfl
   |cons b y=>
    unfold Lc Op.bytesLess;rw[ih];rw[CI];simp
 grind [Ek,ByteArray.toList_eq]
theorem A6.imp{Q Q' : AV->(Nat->HO)->Prop}(h:A6 P f args h0 Q)(hq:∀r h',Q r h'->Q' r h'):A6 P f args h0 Q':=h.mono fun r h' q=>⟨r,.refl _,hq r h' q⟩
theorem A6.to{r0:AV}{p:α->Prop}{H:α->Nat->HO}{Q' : AV->(Nat->HO)->Prop}(h:A6 P f args h0 fun r h'=>r=r0/\∃x,p x/\h'=H x)(k:∀x,p x->Q' r0 (H x)):A6 P f args h0 Q':=
 h.imp fun r h' ⟨e1,x,e2,e3⟩=>by simp_all
theorem vE(n:Nat)(h:n<=1073741824):∃lim:Nat,lim<100/\PC 146 [.v (.int .u64 (IntKind.u64.wrap (n:Int)))] (G lim):=by
 refine⟨Lib.bitLen n,Nat.lt_of_le_of_lt (Lib.bitLen_le n 62 Wk Wk) Wk,?_⟩;have wr:IntKind.u64.wrap (n:Int)=n:=by grind [IntKind.wrap,IntKind.bits]
 rw[wr];refine L3 [.int .u64 n] (.int .i64 (Lib.bitLen n:Nat)) (jG 146 func146 aa4 rfl) rfl (fun _ _=>.v _ _) fun w _=>?_
 have:=Any.bits_Len Tryz.layBits (n:Int) w Wk Wk
 rw[GO]at this;exact this
theorem Ado(hl:BF l)(h:∀x∈l,0<=x.1/\x.1<=1000000) :
  A6 prog 287 [.msl 1000 l.length,.v (Hs 288)] (Ai [(1000,.arr 2 (l.map Y))] Af) fun r h'=>
   r=.tup []/\∃l' : List (Int×Int),(l'.Perm l/\l'.Pairwise (fun x y=>x.1<=y.1))/\h'=Ai [(1000,.arr 2 (l'.map Y))] Af:=by
 obtain⟨lim,bc,hb⟩:=vE l.length hl;refine Bi (IU Dc) [(1000,1000)] rfl BA hm rfl func287 aa4 rfl C4 aa4 rfl (C1 (U (hb) (Z (.gen [(1000,1000)] 0) (J rfl ((AdB l hl h lim bc).imp ?_)))));intro r h' hq;refine Al hq.2 (fun l' Tf=>?_);refine Z (.tup []) (J ?_ (J rfl (Z l' (J ⟨Tf.1,Tf.2.1⟩ ?_))))
 .exact .refl _
 .rw[Tf.2.2];rfl
theorem c61(l:List Tm)(hl:BF l) :
  A6 prog 350 [.msl 1000 l.length,.v (Hs 351)] (Ai [(1000,.arr 3 (l.map M))] Af) fun r h'=>
   r=.tup []/\∃l' : List Tm,(l'.Perm l/\l'.Pairwise (fun x y=>Ek y.path x.path=false))/\h'=Ai [(1000,.arr 3 (l'.map M))] Af:=by
 obtain⟨lim,bc,hb⟩:=vE l.length hl;refine Bi (IU Dc) [(1000,1000)] rfl BA hm rfl func350 aa4 rfl C4 aa4 rfl (C1 (U (hb) (Z (.gen [(1000,1000)] 0) (J rfl ((Ad8 l hl lim bc).imp ?_)))));intro r h' hq;refine Al hq.2 (fun l' Tf=>?_);refine Z (.tup []) (J ?_ (J rfl (Z l' (J ⟨Tf.1,Tf.2.1⟩ ?_))))
 .exact .refl _
 .rw[Tf.2.2];rfl
abbrev pla(l:List (Nat×Nat))(cut:List Nat):Ns:=⟨[],[],l,[],[],[],[],[],[],[],cut⟩
abbrev Hg:HO:=.arr 2 (l.map Y)
theorem Uf(l:AN)(i:Nat):(D8 (l.take i)).length<=i:=by
 grind [D8]
theorem Rn{l:AN}{i:Nat}(h:i<l.length)(h3:(Hm l[i]).1<(Hm l[i]).2):D8 (l.take (i+1))=D8 (l.take i)++[Hm l[i]]:=by
 grind [List.take_add_one,D8]
theorem Ue{l:AN}{i:Nat}(h:i<l.length)(h3:¬(Hm l[i]).1<(Hm l[i]).2):D8 (l.take (i+1))=D8 (l.take i):=by
 grind [List.take_add_one,D8]
abbrev arr2:AN:=(BD (s.take i)).reverse++(j++s.drop i)
theorem qQ(h:i<s.length)(hj:(BD (s.take i)).length+j.length=i):(arr2 s j i)[i]?=some s[i]:=by
 unfold arr2;rw[BO aa2,BO aa2,List.length_reverse,Gf]
 grind
theorem ml(h:i<=s.length)(hj:(BD (s.take i)).length+j.length=i):(arr2 s j i).length=s.length:=by
 grind
theorem gD(s:List α)(i:Nat)(h:i<s.length):s.drop i=s[i]::s.drop (i+1):=Bf h
theorem WN(h:i<s.length)(e:Ki (BD (s.take i)) s[i]=s[i]::BD (s.take i)) :
  (arr2 s j i).set (BD (s.take i)).length s[i]=arr2 s (j++[s[i]]).tail (i+1):=by
 unfold arr2;rw[FB s i h,e,List.reverse_cons,List.set_append_right _ _ aa0,List.length_reverse,Jj,KW,gD s i h]
 congr 1
 cases j<;>grind
theorem jl(h:i<s.length){y:Int×Int}{t:AN}(e:BD (s.take i)=y::t)(JP:s[i].1<=y.2) :
  (arr2 s j i).set t.length (y.1,max y.2 s[i].2)=arr2 s (j++[s[i]]) (i+1):=by
 unfold arr2;have e2:Ki (y::t) s[i]=(y.1,max y.2 s[i].2)::t:=by show(if s[i].1<=y.2 then _ else _)=_;simp_all
 rw[FB s i h,e,e2,List.reverse_cons,List.reverse_cons,KW,List.set_append_right _ _ aa0,List.length_reverse,Jj,gD s i h];simp
theorem Br{enc:α->List AV}{l:List α}{i:Nat}{x:α}(h:l[i]?=some x):(l.map enc)[i]?=some (enc x):=aa0
theorem af(hl:BF l):PC 221 [sl Y l] (sl Y (canon l)):=by
 refine Ff (dO (pla [(3,2)] [])) rfl BA hm rfl func221 aa4 rfl C4 aa4 (Z {i:Nat // i<=l.length} (Z (fun i=>⟨[(0,sl Y l),(3,.msl 3 (D8 (l.take i.1)).length),(9,sl Y l),(10,G (l.map Y).length),(11,G i.1)],[(3,Hg (D8 (l.take i.1)))],Af⟩) (Z (fun i=>l.length-i.1) (J (Z ⟨0,by simp⟩ ?_) ?_))))
 .exact⟨Z5,Z1,Fh,W⟩
 .intro⟨i,h1⟩;have hn:=Uf l i;refine J ?_ ?_
  .intro h;have h:i<l.length:=aa0
   have hg:l[i]?=some l[i]:=Ge h;refine Z (Y l[i]) (J (J Wk aa0) (J rfl ?_));refine J C4 (yN (yN (J ?_ ?_)))
   .intro h3;refine yN ?_;have De:A7 2 [[G (max l[i].1 0),G (min l[i].2 1000000)]]/\((D8 (l.take i)).map Y).length=(D8 (l.take i)).length/\(((D8 (l.take i)).map Y).length+[[G (max l[i].1 0),G (min l[i].2 1000000)]].length)*16<=140737488355328/\((D8 (l.take i)).map Y).length+[[G (max l[i].1 0),G (min l[i].2 1000000)]].length<=9223372036854775807:=
     ⟨⟨rfl,trivial⟩,by simp_all,by grind,by grind⟩
    refine J De (J (by grind [Au]) (Z ⟨i+1,by omega⟩ ?_));have e1:AV.msl 3 (((D8 (l.take i)).map Y).length+[[G (max l[i].1 0),G (min l[i].2 1000000)]].length)=.msl 3 (D8 (l.take (i+1))).length:=by rw[Rn h h3];simp
    have e2:HO.arr 2 ((D8 (l.take i)).map Y++[[G (max l[i].1 0),G (min l[i].2 1000000)]])=Hg (D8 (l.take (i+1))):=by rw[Rn h h3];simp[Hm]
    exact⟨by grind,⟨X,⟨e1,rfl⟩,X,X,X,W⟩,⟨⟨e2,rfl⟩,W⟩,Fh,W⟩
   .intro h3;refine J (by grind [Au]) (Z ⟨i+1,by omega⟩ ?_);have e1:AV.msl 3 (D8 (l.take i)).length=.msl 3 (D8 (l.take (i+1))).length:=by rw[Ue h h3]
    have e2:Hg (D8 (l.take i))=Hg (D8 (l.take (i+1))):=by rw[Ue h h3]
    exact⟨by grind,⟨X,⟨e1,rfl⟩,X,X,X,W⟩,⟨⟨e2,rfl⟩,W⟩,Fh,W⟩
  .intro h;have h:¬i<l.length:=aa0
   have ei:D8 (l.take i)=D8 l:=aa2
   have hN:(D8 (l.take i)).length=(D8 l).length:=by rw[ei]
   refine Z (.gen [(3,1000)] 0) (J rfl ((Ado (D8 (l.take i)) Wk (fun x hx=>by have:=W0 hx;omega)).to ?_));intro s hs;have Xk:s.length=(D8 (l.take i)).length:=hs.1.length_eq;have hsN:s.length<=1073741824:=Wk
   have fin:(BD s).reverse=canon l:=Mf aa0 hs.2;refine Z {p:Nat×AN // p.1<=s.length/\(BD (s.take p.1)).length+p.2.length=p.1} (Z (fun p=>⟨[(3,.msl 3 (D8 (l.take i)).length),(6,G (BD (s.take p.1.1)).length),(34,.msl 3 (D8 (l.take i)).length),(35,G (D8 (l.take i)).length),(36,G p.1.1)],[(3,Hg (arr2 s p.1.2 p.1.1))],Af⟩) (Z (fun p=>s.length-p.1.1) (J (Z ⟨(0,[]),Ak _,rfl⟩ ?_) ?_)))
   .exact⟨Z5,Z1,Fh,W⟩
   intro⟨⟨k,j⟩,k1,k2⟩;have k2:(BD (s.take k)).length+j.length=k:=k2;have CN:=ml s j k k1 k2;have UU:(D8 (l.take i)).length=((arr2 s j k).map Y).length:=aa0
   refine J ?_ ?_
   .intro h2;have h2:(k:Int)<(D8 (l.take i)).length:=h2;have hk:k<s.length:=Wk
    have OU:=Br (enc:=Y) (qQ s j k hk k2);refine J ⟨by omega,by omega⟩ ?_;refine J UU (Z (Y s[k]) (J OU (J C4 (yN ?_))));have hr:=Pf s k k1;refine Ay (Nat.eq_zero_or_pos k) (fun k0=>?_) (fun k0=>?_)
    .refine J ?_ ?_
     .intro h4;have h4:(0:Int)<k:=h4;omega
     .intro _;refine J aa4 ?_;have Iz:Ki (BD (s.take k)) s[k]=s[k]::BD (s.take k):=by subst k0;rfl
      have qy:(BD (s.take k)).length<(arr2 s j k).length:=Wk
      have hz:=Br (enc:=Y) (Ge qy);refine J C4 (J ⟨by omega,by simp_all⟩ ?_);refine J UU (Z (Y (arr2 s j k)[(BD (s.take k)).length]) (J hz (yN (J (by show Au (((BD (s.take k)).length:Int)+1);unfold Au;omega) ?_))));refine J (Ii k Wk) ?_;have hm:=FB s k hk;have e1:G (((BD (s.take k)).length:Int)+1)=G (BD (s.take (k+1))).length:=aa0
      have e2:HO.arr 2 (((arr2 s j k).map Y).set (BD (s.take k)).length [G s[k].1,G s[k].2])=Hg (arr2 s (j++[s[k]]).tail (k+1)):=by rw[<-WN s j k hk Iz];simp only[Hg,Wi]
      refine Z ⟨(k+1,(j++[s[k]]).tail),by omega,by simp_all⟩ ?_;exact⟨Dl s.length k Wk,⟨X,⟨e1,rfl⟩,X,X,X,W⟩,⟨⟨e2,rfl⟩,W⟩,Fh,W⟩
    .refine J ?_ ?_
     .intro _;obtain⟨y,t,e⟩:∃y t,BD (s.take k)=y::t:=by
       cases hc:BD (s.take k)with
       |nil=>simp_all
       |cons y t=>grind
      have ht:(((BD (s.take k)).length:Int)-1).toNat=t.length:=aa2
      have hy:((arr2 s j k).map Y)[(((BD (s.take k)).length:Int)-1).toNat]?=some (Y y):=by rw[ht];grind
      refine J (by show Au (((BD (s.take k)).length:Int)-1);unfold Au;omega) ?_;have AaI:=hr.2 k0;refine J ⟨by grind,by grind⟩ ?_;refine J UU (Z (Y y) (J hy (J ?_ ?_)))
      .intro h5;refine J aa4 (J (by show Au (((BD (s.take k)).length:Int)-1);unfold Au;omega) (J (by show Au (((BD (s.take k)).length:Int)-1);unfold Au;omega) ?_));refine J ⟨by grind,by grind⟩ ?_;refine J UU (Z (Y y) (J hy (J ⟨by grind,by grind⟩ ?_)));refine J UU (Z (Y y) (J hy (yN (J aa4 (J (Ii k Wk) ?_)))));have hm:=FB s k hk;have Iz:Ki (BD (s.take k)) s[k]=(y.1,max y.2 s[k].2)::t:=by rw[e];show(if s[k].1<=y.2 then _ else _)=_;grind
       have e1:G (BD (s.take k)).length=G (BD (s.take (k+1))).length:=by rw[hm,Iz,e];simp
       have e2:HO.arr 2 (((arr2 s j k).map Y).set (((BD (s.take k)).length:Int)-1).toNat [G y.1,G (max y.2 s[k].2)])=Hg (arr2 s (j++[s[k]]) (k+1)):=by rw[<-jl s j k hk e h5,ht];simp only[Hg,Wi]
       refine Z ⟨(k+1,j++[s[k]]),by omega,by show(BD (s.take (k+1))).length+(j++[s[k]]).length=k+1;rw[hm,Iz,AD,A8];grind⟩ ?_;exact⟨Dl s.length k Wk,⟨X,⟨e1,rfl⟩,X,X,X,W⟩,⟨⟨e2,rfl⟩,W⟩,Fh,W⟩
      .intro h5;refine J aa4 ?_;have Iz:Ki (BD (s.take k)) s[k]=s[k]::BD (s.take k):=by rw[e];show(if s[k].1<=y.2 then _ else _)=_;grind
       have qy:(BD (s.take k)).length<(arr2 s j k).length:=Wk
       have hz:=Br (enc:=Y) (Ge qy);refine J C4 (J ⟨by omega,by grind⟩ ?_);refine J UU (Z (Y (arr2 s j k)[(BD (s.take k)).length]) (J hz (yN (J (by show Au (((BD (s.take k)).length:Int)+1);unfold Au;omega) ?_))));refine J (Ii k Wk) ?_;have hm:=FB s k hk;have e1:G (((BD (s.take k)).length:Int)+1)=G (BD (s.take (k+1))).length:=by rw[hm,Iz];simp
       have e2:HO.arr 2 (((arr2 s j k).map Y).set (BD (s.take k)).length [G s[k].1,G s[k].2])=Hg (arr2 s (j++[s[k]]).tail (k+1)):=by rw[<-WN s j k hk Iz];simp only[Hg,Wi]
       refine Z ⟨(k+1,(j++[s[k]]).tail),by omega,by show(BD (s.take (k+1))).length+((j++[s[k]]).tail).length=k+1;rw[hm,Iz];simp;omega⟩ ?_;exact⟨Dl s.length k Wk,⟨X,⟨e1,rfl⟩,X,X,X,W⟩,⟨⟨e2,rfl⟩,W⟩,Fh,W⟩
     .intro h4;have h4:¬(0:Int)<k:=h4;omega
   .intro h2;have h2:¬(k:Int)<(D8 (l.take i)).length:=h2;have hk:k=s.length:=Wk
    have hr:=Pf s k k1;have AaM:((((arr2 s j k).map Y).take ((BD (s.take k)).length:Int).toNat).drop 0)=(canon l).map Y:=by
     rw[List.drop_zero,GO,<-List.map_take,<-fin]
     grind
    refine J ⟨UU,by simp_all,by simp_all,by grind,.inr ⟨rfl,by simp⟩⟩ ?_;exact E (AV.slice .none) AaM
end Go.Eng
namespace Go.Eng
open Go.Proofs Go.Sort
variable {m:List (Int×Int)}{S:AN}(zs:List Int)(z:Int)
abbrev G8:List AV:=[G z]
theorem RO{α:Type}[Inhabited α](enc:α->Value)(w:World)(b:Nat)(d:Array α):putRow enc w b 0 d=putRow id w b 0 (d.map enc):=by
 unfold putRow
 congr 1
 grind [putCells]
theorem Xb:(zs.map G8).flatten=(zs.map fun z=>Value.int .i64 z).map AV.v:=by
 induction zs<;>simp_all
theorem NW(g:D)(w:World)(U:Nat->Prop)(vs:List Value)(h:∀x∈vs,x.oneCell'=true):Ci g w U (vs.map .v) vs:=
 ⟨by simp,h,fun i av x q1 q2=>by
  grind [O.v]⟩
theorem L6{g:D}{w:World}{U:Nat->Prop}{vs us:List Value}(h:Ci g w U (vs.map .v) us):us=vs:=by
 apply C3;intro i;have hl:=h.1;rw[Lm]at hl
 by_cases hi:i<vs.length
 .have:=h.2.2 i (.v vs[i]) us[i] aa0 (Ge Wk)
  grind [O.v_eq]
 simp_all
theorem AdA(hl:BF zs)(ER:zs≠[]) :
  A6 Tryz.prog 375 [.msl 1000 zs.length] (Ai [(1000,.arr 1 (zs.map G8))] Af) fun r h'=>
   r=.tup []/\∃l' : List Int,(l'.Perm zs/\l'.Pairwise fun a b=>a<=b)/\h'=Ai [(1000,.arr 1 (l'.map G8))] Af:=by
 have hE:Gt Tryz.prog 375:=jG 375 Tryz.func375 aa4 rfl;have Jx:=Re (P:=Tryz.prog) (f:=375) (es:=zs.map G8) (sz:=1) (rest:=[]) (Q:=fun FX=>∃l' : List Int,(l'.Perm zs/\l'.Pairwise fun a b=>a<=b)/\FX=l'.map G8) hE ?_ ?_
 .grind
 .simp_all
 .intro g w b cap F hr hF hH hb;have hFl:F.toList=zs.map fun z=>Value.int .i64 z:=L6 (by rw[<-Xb];exact hr);have ut:F=zs.toArray.map fun z=>Value.int .i64 z:=TP.1 aa0;have zR:Holds (Value.int .i64) w b 0 zs.toArray:=fun j hj=>by
   have:=hH j aa0
   simp_all
  have hc:=Any.slices_Sort_int Tryz.laySortInts b 0 cap zs w zR hb Wk;rw[Lm];refine hc.mono ?_
  rintro e w' ⟨rfl,n,os,rfl⟩
  have Jz:(zs.mergeSort fun x y=>decide (x<=y)).Perm zs:=List.mergeSort_perm _ _;have CN:=Jz.length_eq;refine⟨rfl,(zs.mergeSort fun x y=>decide (x<=y)).toArray.map fun z=>Value.int .i64 z,(zs.mergeSort fun x y=>decide (x<=y)).map G8,n,os,?_,⟨_,⟨Jz,?_⟩,rfl⟩,by simp_all,fun cs hcs=>?_,fun g w _=>?_,by rw[RO]⟩
  .simp_all
  .grind [List.pairwise_mergeSort]
  .grind
  .rw[Xb];have e:((zs.mergeSort fun x y=>decide (x<=y)).toArray.map fun z=>Value.int .i64 z).toList=(zs.mergeSort fun x y=>decide (x<=y)).map fun z=>Value.int .i64 z:=aa1
   rw[e];exact NW _ _ _ _ fun x hx=>by
    obtain⟨z,_,rfl⟩:=Ar.1 hx;rfl
-- maps from numbers to numbers
abbrev Zx:E0:=⟨false,[.int .i64]⟩
abbrev kI:Value:=.int .i64 z
abbrev NJ(p:Int×Int):Value×AV:=(kI p.1,G p.2)
abbrev CY(s:AN):List AV:=[sl Y s]
theorem Za{k:Int}{a:AV}:(kI k,a)∈m.map NJ↔∃v,(k,v)∈m/\a=G v:=by
 grind
theorem TE(m:List (Int×Int))(k v:Int):Fc (m.map NJ) (kI k) (G v)=(L5 m k v).map NJ:=by
 unfold L5
 by_cases h:(m.any fun p=>decide (p.1=k))=true
 .rw[A1 h];obtain⟨p,h1,h2⟩:=Bs.1 h;have h2:=Db h2
  have:(kI k,G p.2)∈m.map NJ:=Za.2 ⟨p.2,by grind,rfl⟩
  rw[RE this,BH,BH]
  grind [List.map_congr_left]
 grind [Lh]
theorem Qk{T:G4}{e:Nat}{BZ:List (Value×AV)}{kx:Value}{K:AV->Prop}(a0 z0:AV)(h1:∀a,(kx,a)∈BZ->a=a0)(hz:(∀a,(kx,a)∉BZ)->a0=z0)(h2:K z0->KR T e K)(k:K a0) :
  (∀a,(kx,a)∈BZ->K a)/\((∀a,(kx,a)∉BZ)->KR T e K):=⟨fun a h=>by grind,fun hn=>h2 (hz hn▸k)⟩
theorem Se(m:List (Int×Int))(k:Int):(∀a,(kI k,a)∉m.map NJ)->G (FN m k)=G 0:=fun Qq=>by
 rw[qk fun hk=>by
  obtain⟨p,hp,e⟩:=Ar.1 hk;exact Qq (G p.2) (Za.2 ⟨p.2,by grind,rfl⟩)]
theorem Sd(hn:(Fr m).Nodup)(k:Int):∀a,(kI k,a)∈m.map NJ->a=G (FN m k):=fun a h=>by
 obtain⟨v,h1,rfl⟩:=Za.1 h;rw[qj hn h1]
theorem Gc.bound(h:Gc m S)(k:Int):-(S.length:Int)<=FN m k/\FN m k<=S.length:=by
 rw[h.val]
 grind [cF,cT]
theorem dU(l:List AN):(l.map canon).flatten.length<=l.length*1000000:=by
 induction l<;>grind [Fb,BE]
theorem Gc.few(h:Gc m S):m.length<=1000001:=by
 have:=CC (m:=(List.range 1000001).map Int.ofNat) h.nd fun k hk=>by
  have:=h.rng k hk
  grind [Int]
 grind [Fr]
theorem Xp(keep:Nat->Bool)(m:List (Int×Int))(B:List Int):∀n,(EM keep m B n).length<=n
 |0=>Ao _
 |n+1=>by
  unfold EM
  have:=Xp keep m B n
  grind
end Go.Eng
namespace Go.Eng
open Go.Proofs Go.Proofs.Tryz
variable {m:List Tm}(u:Tm)(n:Int)(l:List AN)(t:Tm)(p:Int)
abbrev plC:Ns:=⟨[],[(12,2)],[(44,1)],[],[],[],[],[],[],[],[8,9,15,23,25,26]⟩
theorem vL(F:AV)(keep:Nat->Bool)(l:List AN)(hl:BF l)(hs:∀s∈l,BF s)(hid:∀h,UX h F=true)(hF:∀h (n:Int),0<=n->n<=l.length->Rc prog (str h F) [G n] (I (keep n.toNat)))
  (R:AN) (hR:ED R) (hRh:∀p,has R p=(Qs p&&keep (mP l p))):PC 341 [F,sl CY l] (sl Y R):=by
 refine Ps plC func341 rfl C4 (Z {p:Nat×List (Int×Int) // p.1<=l.length/\Gc p.2 ((l.take p.1).map canon).flatten} (Z (fun p=>⟨[(0,F),(5,.mref 15),(17,sl CY l),(18,G (l.map CY).length),(19,G p.1.1)],[(15,.map Zx (p.1.2.map NJ))],Af⟩) (Z (fun p=>l.length-p.1.1) (J (Z ⟨(0,zv),Ak _,rg⟩ ?_) ?_))))
 .have e0:HO.map Zx (Fc (Fc [] (kI 0) (G 0)) (kI 1000000) (G 0))=.map Zx (zv.map NJ):=by
   have e1:=TE [] 0 0;have e2:=TE [(0,0)] 1000000 0;show HO.map Zx (Fc (Fc (List.map NJ []) (kI 0) (G 0)) (kI 1000000) (G 0))=_;rw[e1];show HO.map Zx (Fc (List.map NJ [(0,0)]) (kI 1000000) (G 0))=_;rw[e2];rfl
  exact⟨⟨⟨rfl,hid _⟩,X,X,X,X,W⟩,⟨⟨e0,rfl⟩,W⟩,Fh,W⟩
 intro⟨⟨i,cm⟩,i1,i2⟩;refine J ?_ ?_
 .intro h;have h:i<l.length:=aa0
  have hg:l[i]?=some l[i]:=Ge h;refine Z (CY l[i]) (J (J Wk aa0) (J rfl ?_));refine C1 (U (af l[i] (hs _ (Ag h))) (Z {p:Nat×List (Int×Int) // p.1<=(canon l[i]).length/\Gc p.2 (((l.take i).map canon).flatten++(canon l[i]).take p.1)} (Z (fun p=>⟨[(0,F),(5,.mref 15),(17,sl CY l),(18,G (l.map CY).length),(19,G i),(24,sl Y (canon l[i])),(25,G ((canon l[i]).map Y).length),(26,G p.1.1)],[(15,.map Zx (p.1.2.map NJ))],Af⟩) (Z (fun p=>(canon l[i]).length-p.1.1) (J (Z ⟨(0,cm),Ak _,by grind⟩ ?_) ?_)))))
  .exact⟨⟨⟨rfl,hid _⟩,X,X,X,X,X,X,X,W⟩,Z1,Fh,W⟩
  intro⟨⟨j,dm⟩,j1,j2⟩;have j2:Gc dm (((l.take i).map canon).flatten++(canon l[i]).take j):=j2;have hS:(((l.take i).map canon).flatten++(canon l[i]).take j).length<=1073741825000000:=by
   grind [dU,Fb,BE]
  refine J ?_ ?_
  .intro hj;have hj:j<(canon l[i]).length:=aa0
   have hgj:(canon l[i])[j]?=some (canon l[i])[j]:=Ge hj;have wY:=(BE l[i]).low _ (Ag hj);have j3:Gc (cL dm (canon l[i])[j]) (((l.take i).map canon).flatten++(canon l[i]).take (j+1)):=by
    grind [lH,List.take_add_one]
   generalize (canon l[i])[j]=x at hgj wY j3;have b1:=j2.bound x.1;have qy:=M0 j2.nd x.1 (FN dm x.1+1);refine Z (Y x) (J (J Wk aa0) (J rfl ?_));refine J C4 (yN (Z ⟨[(0,F),(5,.mref 15),(9,.ref 9 0),(17,sl CY l),(18,G (l.map CY).length),(19,G i),(24,sl Y (canon l[i])),(25,G ((canon l[i]).map Y).length),(26,G j)],[(9,.cells (Y x)),(15,.map Zx (dm.map NJ))],Af⟩ (J ⟨⟨⟨rfl,hid _⟩,X,X,X,X,X,X,X,X,W⟩,Z2,Fh,W⟩ (Qk (G (FN dm x.1)) (G 0) (Sd j2.nd x.1) (Se dm x.1) (fun q=>q) (J (by grind [Au]) ?_)))));have m1:HO.map Zx (Fc (dm.map NJ) (kI x.1) (G (FN dm x.1+1)))=.map Zx ((L5 dm x.1 (FN dm x.1+1)).map NJ):=by rw[TE]
   refine Z ⟨[(0,F),(5,.mref 15),(9,.ref 9 0),(17,sl CY l),(18,G (l.map CY).length),(19,G i),(24,sl Y (canon l[i])),(25,G ((canon l[i]).map Y).length),(26,G j)],[(9,.cells (Y x)),(15,.map Zx ((L5 dm x.1 (FN dm x.1+1)).map NJ))],Af⟩ (J ⟨⟨⟨rfl,hid _⟩,X,X,X,X,X,X,X,X,W⟩,⟨X,⟨m1,rfl⟩,W⟩,Fh,W⟩ ?_)
   have b2:-(1073741825000001:Int)<=FN (L5 dm x.1 (FN dm x.1+1)) x.2/\FN (L5 dm x.1 (FN dm x.1+1)) x.2<=1073741825000001:=by
    have b3:=j2.bound x.2
    grind [Q0]
   refine Qk (G (FN (L5 dm x.1 (FN dm x.1+1)) x.2)) (G 0) (Sd qy x.2) (Se _ x.2) (fun q=>q) (J (by show Au (FN (L5 dm x.1 (FN dm x.1+1)) x.2-1);grind [Au]) ?_);have hcl:=Fb (BE l[i]);refine J (by grind [Au]) ?_;have m2:HO.map Zx (Fc ((L5 dm x.1 (FN dm x.1+1)).map NJ) (kI x.2) (G (FN (L5 dm x.1 (FN dm x.1+1)) x.2-1)))=.map Zx ((cL dm x).map NJ):=by rw[TE];rfl
   refine Z ⟨(j+1,cL dm x),by omega,j3⟩ ?_;exact⟨by grind,⟨⟨rfl,hid _⟩,X,X,X,X,X,X,X,W⟩,⟨⟨m2,rfl⟩,W⟩,Fh,W⟩
  .intro hj;have hj:¬j<(canon l[i]).length:=aa0
   refine J (by grind [Au]) ?_;have i3:Gc dm ((l.take (i+1)).map canon).flatten:=by
    have e1:(canon l[i]).take j=canon l[i]:=A3 Wk;rw[e1]at j2;have e2:((l.take (i+1)).map canon).flatten=((l.take i).map canon).flatten++canon l[i]:=by
     rw[Dv,hg,Bl,Ej];simp_all
    simp_all
   refine Z ⟨(i+1,dm),by omega,i3⟩ ?_;exact⟨by grind,⟨⟨rfl,hid _⟩,X,X,X,X,W⟩,Z1,Fh,W⟩
 .intro h;have h:¬i<l.length:=aa0
  have i3:Gc cm (l.map canon).flatten:=by
   grind
  have wH:=i3.few;have hmk:(0:Int)<=0/\(0:Int)<=((cm.map NJ).length:Int)/\((cm.map NJ).length:Int)*((8:Nat):Int)<=140737488355328/\((cm.map NJ).length:Int)<=9223372036854775807:=aa2
  refine J hmk (Z {p:List (Value×AV)×List Int×Option (Value×AV) // ((p.2.1.map kI)++p.1.map (·.1)).Perm ((cm.map NJ).map (·.1))/\∀kv∈p.1,kv∈cm.map NJ} (Z (fun p=>⟨[(0,F),(5,.mref 15),(10,.msl 44 p.1.2.1.length),(46,.ref 46 0)],[(15,.rom Zx (cm.map NJ)),(44,.arr 1 (p.1.2.1.map G8)),(46,.iter (cm.map NJ) p.1.1 p.1.2.2)],Af⟩) (Z (fun p=>p.1.1.length) (J (Z ⟨(cm.map NJ,[],none),.refl _,fun _ h=>h⟩ ?_) ?_))))
  .exact⟨⟨⟨rfl,hid _⟩,X,X,X,W⟩,Z3,Fh,W⟩
  intro⟨⟨rem,bs,Ew⟩,r1,r2⟩;have hbl:bs.length<=1000001:=by
   grind [List.length_append,Lm,List.Perm.length_eq]
  refine J ?_ ?_
  .intro hr;subst hr;rw[Ji,Ey,BH]at r1;have hpk:bs.Perm (Fr cm):=by
    have r1:(bs.map kI).Perm ((Fr cm).map kI):=by unfold Fr;rw[BH];exact r1
    have:=r1.map (fun v:Value=>match v with | .int _ n=>n | _=>0)
    rw[BH,BH]at this;have e:((fun v:Value=>match v with | .int _ n=>n | _=>0) ∘ kI)=id:=rfl;simp_all
   have ER:bs≠[]:=fun e=>by
    subst e
    have:=hpk.length_eq
    have h0:=i3.keys.1;simp_all
   refine Z (.gen [(44,1000)] 0) (J rfl ((AdA bs Wk ER).to ?_));intro B hBs;have zP:B.length=bs.length:=hBs.1.length_eq;have hBn:B.Nodup:=(hBs.1.trans hpk).nodup_iff.2 i3.nd;have hB:qI B cm:=⟨hBs.1.trans hpk,by
    grind [List.pairwise_iff_getElem]⟩
   have Ahm:0<B.length:=by
    grind
   have hNE:bs.length=(B.map G8).length:=aa0
   refine J (by grind [Au]) (Z {k:Nat // k<=B.length-1} (Z (fun k=>⟨[(0,F),(5,.mref 15),(10,.msl 44 bs.length),(12,.slice (.id 12 2) ((EM keep cm B k.1).map Y)),(13,G (Jp cm (B.take k.1))),(59,G ((bs.length:Int)-1)),(60,G k.1)],[(12,.tok 2 ((EM keep cm B k.1).map Y).length),(15,.rom Zx (cm.map NJ)),(44,.arr 1 (B.map G8))],Af⟩) (Z (fun k=>B.length-k.1) (J (Z ⟨0,Ak _⟩ ?_) ?_))))
   .exact⟨⟨⟨rfl,hid _⟩,X,X,X,X,X,X,W⟩,Z3,Fh,W⟩
   intro⟨k,k1⟩;have r9:=Xp keep cm B k;refine J ?_ ?_
   .intro hk;have hk:(k:Int)<(bs.length:Int)-1:=hk;have SD:k+1<B.length:=Wk
    have j9:k<B.length:=Wk
    have OU:(B.map G8)[k]?=some (G8 B[k]):=Br (Ge j9);have Akk:(B.map G8)[k+1]?=some (G8 B[k+1]):=Br (Ge SD);have ki:=Sc cm B k j9;have Al4:=p9 i3 hB k j9;have uF:EM keep cm B (k+1)=EM keep cm B k++(if keep (Jp cm (B.take (k+1))).toNat then [(B[k],B[k+1])]else []):=by
     show _++(match B[k]?,B[k+1]? with | some a,some b=>if keep (Jp cm (B.take (k+1))).toNat then [(a,b)]else [] | _,_=>[])=_
     grind
    refine Z ⟨[(0,F),(5,.mref 15),(10,.msl 44 bs.length),(12,.slice (.id 12 2) ((EM keep cm B k).map Y)),(13,G (Jp cm (B.take k))),(14,G k),(59,G ((bs.length:Int)-1)),(60,G k)],[(12,.tok 2 ((EM keep cm B k).map Y).length),(15,.rom Zx (cm.map NJ)),(44,.arr 1 (B.map G8))],Af⟩ (J ⟨⟨⟨rfl,hid _⟩,X,X,X,X,X,X,X,W⟩,Z3,Fh,W⟩ (J ⟨by omega,by omega⟩ ?_));refine J hNE (Z (G8 B[k]) (J OU (Qk (G (FN cm B[k])) (G 0) (Sd i3.nd B[k]) (Se cm B[k]) (fun q=>q) (J (by grind [Au]) ?_))));have Cv:∀h,Rc prog (str h F) [G (Jp cm (B.take k)+FN cm B[k])] (I (keep (Jp cm (B.take (k+1))).toNat)):=fun h=>by
     grind
    refine Ay (Bt (keep (Jp cm (B.take (k+1))).toNat)) (fun hp=>?_) (fun hp=>?_)
    .rw[hp]at Cv;rw[hp,A1 rfl]at uF;refine Z .pure (Z (I true) (J (Cv _) (Z ⟨[(0,F),(5,.mref 15),(10,.msl 44 bs.length),(12,.slice (.id 12 2) ((EM keep cm B k).map Y)),(13,G (Jp cm (B.take k)+FN cm B[k])),(14,G k),(59,G ((bs.length:Int)-1)),(60,G k)],[(12,.tok 2 ((EM keep cm B k).map Y).length),(15,.rom Zx (cm.map NJ)),(44,.arr 1 (B.map G8))],Af⟩ (J ⟨⟨⟨rfl,hid _⟩,X,X,X,X,X,X,X,W⟩,Z3,Fh,W⟩ ?_))))
     have b1:(0:Int)<=(k:Int)+1/\(k:Int)+1<bs.length:=Wk
     have AeB:(B.map G8)[((k:Int)+1).toNat]?=some (G8 B[k+1]):=aa2
     refine J ⟨by omega,by omega⟩ ?_;refine J hNE (Z (G8 B[k]) (J OU (J (Ii k Wk) (J b1 (J hNE (Z (G8 B[k+1]) (J AeB ?_)))))));have De:A7 2 [[G B[k],G B[k+1]]]/\((EM keep cm B k).map Y).length=((EM keep cm B k).map Y).length/\(((EM keep cm B k).map Y).length+[[G B[k],G B[k+1]]].length)*16<=140737488355328/\((EM keep cm B k).map Y).length+[[G B[k],G B[k+1]]].length<=9223372036854775807:=
      ⟨⟨rfl,trivial⟩,rfl,by grind,by grind⟩
     refine J De (J aa4 (Z ⟨[(0,F),(5,.mref 15),(10,.msl 44 bs.length),(12,.slice (.id 12 2) ((EM keep cm B k).map Y++[[G B[k],G B[k+1]]])),(13,G (Jp cm (B.take k)+FN cm B[k])),(59,G ((bs.length:Int)-1)),(60,G k)],[(12,.tok 2 (((EM keep cm B k).map Y).length+[[G B[k],G B[k+1]]].length)),(15,.rom Zx (cm.map NJ)),(44,.arr 1 (B.map G8))],Af⟩ (J ⟨⟨⟨rfl,hid _⟩,X,X,X,X,X,X,W⟩,Z3,Fh,W⟩ (J (Ii k Wk) (Z ⟨k+1,by omega⟩ ?_)))));have e1:AV.slice (.id 12 2) ((EM keep cm B k).map Y++[[G B[k],G B[k+1]]])=.slice (.id 12 2) ((EM keep cm B (k+1)).map Y):=aa2
     have e2:G (Jp cm (B.take k)+FN cm B[k])=G (Jp cm (B.take (k+1))):=aa2
     have e3:HO.tok 2 (((EM keep cm B k).map Y).length+[[G B[k],G B[k+1]]].length)=.tok 2 ((EM keep cm B (k+1)).map Y).length:=aa2
     exact⟨by grind,⟨⟨rfl,hid _⟩,X,X,⟨e1,rfl⟩,⟨e2,rfl⟩,X,X,W⟩,⟨⟨e3,rfl⟩,X,X,W⟩,Fh,W⟩
    .rw[hp]at Cv;have uF:EM keep cm B (k+1)=EM keep cm B k:=aa2
     refine Z .pure (Z (I false) (J (Cv _) (Z ⟨[(0,F),(5,.mref 15),(10,.msl 44 bs.length),(12,.slice (.id 12 2) ((EM keep cm B k).map Y)),(13,G (Jp cm (B.take k)+FN cm B[k])),(59,G ((bs.length:Int)-1)),(60,G k)],[(12,.tok 2 ((EM keep cm B k).map Y).length),(15,.rom Zx (cm.map NJ)),(44,.arr 1 (B.map G8))],Af⟩ (J ⟨⟨⟨rfl,hid _⟩,X,X,X,X,X,X,W⟩,Z3,Fh,W⟩ (J (by grind [Au]) (Z ⟨k+1,by omega⟩ ?_))))));have e1:AV.slice (.id 12 2) ((EM keep cm B k).map Y)=.slice (.id 12 2) ((EM keep cm B (k+1)).map Y):=aa2
     have e2:G (Jp cm (B.take k)+FN cm B[k])=G (Jp cm (B.take (k+1))):=aa2
     have e3:HO.tok 2 ((EM keep cm B k).map Y).length=.tok 2 ((EM keep cm B (k+1)).map Y).length:=aa2
     exact⟨by grind,⟨⟨rfl,hid _⟩,X,X,⟨e1,rfl⟩,⟨e2,rfl⟩,X,X,W⟩,⟨⟨e3,rfl⟩,X,X,W⟩,Fh,W⟩
   .intro hk;have hk:¬(k:Int)<(bs.length:Int)-1:=hk;have SD:k=B.length-1:=Wk
    have AeI:canon (EM keep cm B k)=R:=by
     grind [Ua,oA]
    have hc:=af (EM keep cm B k) Wk;rw[AeI]at hc;refine C1 (U hc ?_);exact .refl _
  .intro kv QR hp;refine Al (Ar.1 (r2 kv (hp.mem_iff.2 (Ah ..)))) (fun q hq=>?_);have hq2:=hq.2;subst hq2;refine Z ⟨[(0,F),(5,.mref 15),(10,.msl 44 bs.length),(46,.ref 46 0)],[(15,.rom Zx (cm.map NJ)),(44,.arr 1 (bs.map G8)),(46,.iter (cm.map NJ) QR (some (NJ q)))],Af⟩ (J ⟨⟨⟨rfl,hid _⟩,X,X,X,W⟩,Z3,Fh,W⟩ ?_)
   have De:A7 1 [G8 q.1]/\(bs.map G8).length=bs.length/\((bs.map G8).length+[G8 q.1].length)*8<=140737488355328/\(bs.map G8).length+[G8 q.1].length<=9223372036854775807:=
    ⟨⟨rfl,trivial⟩,by simp_all,by grind,by grind⟩
   refine J De ?_;have e1:AV.msl 44 ((bs.map G8).length+[G8 q.1].length)=.msl 44 (bs++[q.1]).length:=aa1
   have e2:HO.arr 1 (bs.map G8++[G8 q.1])=.arr 1 ((bs++[q.1]).map G8):=aa1
   refine Z ⟨(QR,bs++[q.1],some (NJ q)),?_,fun kv ka=>r2 kv (hp.mem_iff.2 (Aj _ ka))⟩ ?_
   .grind [List.Perm.append_left,List.Perm.trans,List.Perm.symm]
   .exact⟨by show QR.length<rem.length;rw[hp.length_eq];simp,⟨⟨rfl,hid _⟩,X,⟨e1,rfl⟩,X,W⟩,⟨X,⟨e2,rfl⟩,X,W⟩,Fh,W⟩
theorem Adn:PC 390 [G n,.cptr [sl CY l]] (I (decide (n=l.length))):=by
 refine Ps Dc func390 rfl C4 ?_;have e:((l.map CY).length:Int)=l.length:=aa0
 refine J ?_ ?_
 .intro h;rw[show decide (n=(l.length:Int))=true from Ax (h.trans e)];exact .refl _
 .intro h;rw[show decide (n=(l.length:Int))=false from At (fun c=>h (c.trans e.symm))];exact .refl _
theorem Adp:PC 342 [G n] (I (decide (n=0))):=by
 refine Ps Dc func342 rfl C4 (J ?_ ?_)
 .intro h;rw[Ax h];exact .refl _
 .intro h;rw[At h];exact .refl _
theorem AdX:PC 378 [G n] (I (decide (0<n))):=by
 refine Ps Dc func378 rfl C4 (J ?_ ?_)
 .intro h;rw[Ax h];exact .refl _
 .intro h;rw[At h];exact .refl _
theorem oy:decide (mP l p=l.length)=l.all fun s=>has s p:=by
 grind [mP,List.countP_eq_length]
theorem oz:decide (0<mP l p)=l.any fun s=>has s p:=by
 grind [mP,List.countP_pos_iff]
theorem Ad7(hl:BF l)(hs:∀s∈l,BF s):PC 376 [sl CY l] (sl Y (MZ l)):=by
 have hc:=vL (.clo 390 [.cptr [sl CY l]]) (fun n=>decide (n=l.length)) l hl hs (fun _=>rfl) (fun h n h0 _=>by
  have:=Adn n l
  have e:decide (n=(l.length:Int))=decide (n.toNat=l.length):=aa2
  rw[e]at this;exact this) (MZ l) (YZ l) fun p=>by rw[UL,oy]
 refine Ps (px [1]) func376 rfl C4 (C1 (U (hc) ?_));exact .refl _
theorem vD(s:AN)(hs:BF s):PC 295 [sl Y s] (sl Y (BW s)):=by
 have hc:=vL (.v (Hs 342)) (fun n=>decide (n=0)) [s] aa0 (fun t ht=>by simp_all) (fun _=>rfl) (fun h n h0 _=>by
  have:=Adp n
  have e:decide (n=0)=decide (n.toNat=0):=aa2
  rw[e]at this;exact this) (BW s) (GT s) fun p=>by
   grind [Fu,mP]
 refine Ps Dc func295 rfl C4 (C1 (U (hc) ?_));exact .refl _
theorem AdT(hl:BF l)(hs:∀s∈l,BF s):PC 352 [sl CY l] (sl Y (Km l)):=by
 have hc:=vL (.v (Hs 378)) (fun n=>decide (0<n)) l hl hs (fun _=>rfl) (fun h n h0 _=>by
  have:=AdX n
  have e:decide (0<n)=decide (0<n.toNat):=aa0
  rw[e]at this;exact this) (Km l) (Md l) fun p=>by
   grind [UM,oz,OT,Qs]
 refine Ps Dc func352 rfl C4 (C1 (U (hc) ?_));exact .refl _
-- terms
theorem c59(ht:BF t.set):PC 348 [.agg (M t)] (I (!t.absent&&(canon t.set).isEmpty)):=by
 refine Ps Dc func348 rfl C4 (J ?_ ?_)
 .intro h;rw[h];exact .refl _
 .intro h;refine C1 (U (af t.set ht) (J ?_ ?_))
  .intro h2;have h2:canon t.set=[]:=Az aa0;rw[h,h2];exact .refl _
  .intro h2;have h2:(canon t.set).isEmpty=false:=by
    simp_all
   rw[h,h2];exact .refl _
theorem c60(ht:BF t.set):PC 349 [.agg (M t)] (I (t.absent&&(BW t.set).isEmpty)):=by
 refine Ps Dc func349 rfl C4 (J ?_ ?_)
 .intro h;refine C1 (U (vD t.set ht) (J ?_ ?_))
  .intro h2;have h2:BW t.set=[]:=Az aa0;rw[h,h2];exact .refl _
  .intro h2;have h2:(BW t.set).isEmpty=false:=by
    simp_all
   rw[h,h2];exact .refl _
 .intro h;rw[h];exact .refl _
abbrev DJ(l:List Nat):Ns:=⟨[],[],[],[],[],[],[],[],[],[],l⟩
theorem c58(hu:BF u.set)(ht:BF t.set):PC 347 [.agg (M u),.agg (M t)] (.agg (M (ET u t))):=by
 have hc:PC 376 [sl CY [u.set,t.set]] (sl Y (GC u.set t.set)):=Ad7 [u.set,t.set] aa0 (fun s hs=>by
  grind)
 refine Ps (DJ []) func347 rfl C4 (J ?_ ?_)
 .intro h;refine J ?_ ?_
  .intro h2;have e:[vs u.path,I true,sl Y (GC u.set t.set)]=M (ET u t):=by grind [ET]
   refine U (hc) (J C4 (J aa4 (yN ?_)));exact E AV.agg e
  .intro h2;have e:[vs u.path,I false,sl Y (GC u.set t.set)]=M (ET u t):=by grind [ET]
   refine U (hc) (J C4 (J aa4 (yN ?_)));exact E AV.agg e
 .intro h;have e:[vs u.path,I false,sl Y (GC u.set t.set)]=M (ET u t):=by grind [ET]
  refine U (hc) (J C4 (J aa4 (yN ?_)));exact E AV.agg e
theorem AdL(hu:BF u.set)(ht:BF t.set):PC 298 [.agg (M u),.agg (M t)] (.agg (M (CP u t))):=by
 have hc:PC 352 [sl CY [u.set,t.set]] (sl Y (E3 u.set t.set)):=AdT [u.set,t.set] aa0 (fun s hs=>by
  grind)
 refine Ps (DJ []) func298 rfl C4 (J ?_ ?_)
 .intro h;have e:[vs u.path,I true,sl Y (E3 u.set t.set)]=M (CP u t):=by grind [CP]
  refine U (hc) (J C4 (J aa4 (yN ?_)));exact E AV.agg e
 .intro h;refine J ?_ ?_
  .intro h2;have e:[vs u.path,I true,sl Y (E3 u.set t.set)]=M (CP u t):=by grind [CP]
   refine U (hc) (J C4 (J aa4 (yN ?_)));exact E AV.agg e
  .intro h2;have e:[vs u.path,I false,sl Y (E3 u.set t.set)]=M (CP u t):=by grind [CP]
   refine U (hc) (J C4 (J aa4 (yN ?_)));exact E AV.agg e
theorem zl(q:Rq)(hq:BF q.set):PC 293 [.agg (Ac q)] (.agg (M (DG q))):=by
 refine Ps Dc func293 rfl C4 (U (vD q.set hq) (J C4 (J aa4 (yN ?_))));exact .refl _
abbrev Ca:E0:=⟨false,[.str]⟩
abbrev U9:Value×AV:=(.string t.path,.agg (M t))
abbrev Abh(fin cut:List Nat):Ns:=⟨[],[],[],[],fin,[],[],[],[],[],cut⟩
theorem ij{p:CS}{a:AV}:(Value.string p,a)∈m.map U9↔∃t∈m,t.path=p/\a=.agg (M t):=by
 grind
theorem oN(m:List Tm)(t:Tm):Fc (m.map U9) (.string t.path) (.agg (M t))=(Zo m t).map U9:=by
 unfold Zo
 by_cases h:(m.any fun u=>decide (u.path=t.path))=true
 .rw[A1 h];obtain⟨u,h1,h2⟩:=Bs.1 h;have h2:=Db h2
  have:(Value.string t.path,AV.agg (M u))∈m.map U9:=ij.2 ⟨u,h1,h2,rfl⟩
  rw[RE this,BH,BH]
  grind [List.map_congr_left]
 grind [Lh]
theorem m9(hn:(E5 m).Nodup)(p:CS){K:AV->Prop}{Z:Prop}(hy:∀u,Dw m p=some u->K (.agg (M u)))(Qq:Dw m p=none->Z) :
  (∀a,(Value.string p,a)∈m.map U9->K a)/\((∀a,(Value.string p,a)∉m.map U9)->Z):=
 ⟨fun a h=>by
  grind [Sz],fun h=>Qq (by
  cases e:Dw m p with
  |none=>rfl
  |some u=>exact absurd (ij.2 ⟨u,Ha e,LL e,rfl⟩) (h _))⟩
theorem IX{t:Tm}(h:ED t.set):BF t.set:=by
 grind [Fb]
theorem c57(l:List Tm)(hl:BF l)(hs:∀t∈l,BF t.set):PC 346 [sl M l,.v (Hs 347)] (.cmap Ca ((DF l).map U9)):=by
 refine Ps (Abh [10] []) func346 rfl C4 (Z {i:Nat // i<=l.length} (Z (fun i=>⟨[(0,sl M l),(1,.v (Hs 347)),(5,.mref 10),(11,sl M l),(12,G (l.map M).length),(13,G i.1)],[(10,.map Ca ((DF (l.take i.1)).map U9))],Af⟩) (Z (fun i=>l.length-i.1) (J (Z ⟨0,Ak _⟩ ?_) ?_))))
 .exact⟨Z6,Z1,Fh,W⟩
 intro⟨i,h1⟩;have hn:=It (l.take i);refine J ?_ ?_
 .intro h;have h:i<l.length:=aa0
  have hg:l[i]?=some l[i]:=Ge h;refine Z (M l[i]) (J (J Wk aa0) (J rfl ?_));refine J C4 (yN ?_);have F5:=hs l[i] (Ag h);have tail:∀u:Tm,BF u.set->ET u l[i]=Ti (Dw (DF (l.take i)) l[i].path) l[i]->Fc ((DF (l.take i)).map U9) (.string l[i].path) (.agg (M (ET u l[i])))=(DF (l.take (i+1))).map U9:=fun u hu e=>by
   have hp:(Ti (Dw (DF (l.take i)) l[i].path) l[i]).path=l[i].path:=RM _ _ fun u h=>LL h;have e2:=oN (DF (l.take i)) (ET u l[i]);have e3:(ET u l[i]).path=l[i].path:=aa0
   rw[e3]at e2;rw[e2,SK l i h,e];rfl
  refine m9 hn l[i].path (fun u hu=>?_) (fun hu=>?_)
  .have Oa:BF u.set:=IX (Qz _ u (Ha hu));refine yN ?_;have AJ:=tail u Oa (by grind [iI]);refine J C4 (yN (U (c58 u l[i] Oa F5) (J aa4 (J (by show Au ((i:Int)+1);grind [Au]) (Z ⟨i+1,by omega⟩ ?_)))));have e1:HO.map Ca (Fc ((DF (l.take i)).map U9) (.string l[i].path) (.agg (M (ET u l[i]))))=.map Ca ((DF (l.take (i+1))).map U9):=aa0
   exact⟨by grind,Z6,⟨⟨e1,rfl⟩,W⟩,Fh,W⟩
  .refine yN (J C4 (yN ?_));have AJ:=tail l[i] F5 (by grind [iI]);refine J C4 (yN (U (c58 l[i] l[i] F5 F5) (J aa4 (J (by grind [Au]) (Z ⟨i+1,by omega⟩ ?_)))));have e1:HO.map Ca (Fc ((DF (l.take i)).map U9) (.string l[i].path) (.agg (M (ET l[i] l[i]))))=.map Ca ((DF (l.take (i+1))).map U9):=aa0
   exact⟨by grind,Z6,⟨⟨e1,rfl⟩,W⟩,Fh,W⟩
 .intro h;have h:¬i<l.length:=aa0
  have e:(DF (l.take i)).map U9=(DF l).map U9:=aa2
  exact E (AV.cmap Ca) e
end Go.Eng
