/- Lemmas 16. -/
import Derived.Test.YtkjhcikodmiceaaGreatDoorRA15
import Derived.Shelf.SlSortCmp.NoneTotal
namespace Go.Eng
open Go.Proofs
theorem c75(l m:List (Int×Int))(hl:Cz l):PC 89 [sl Ap l,sl Ap m] (vb (decide (l=m))):=by
 refine Ps Ea Tryz.func89 rfl (Nz rfl) (Yi ?_ ?_)
 .intro h
  have:l≠m:=fun e=>h (by rw[e])
  rw[Au this];exact .refl _
 .intro h;have CF:l.length=m.length:=aa1
  refine Xi {i:Nat // i<=l.length/\l.take i=m.take i} (Xi (fun i=>⟨[(0,sl Ap l),(1,sl Ap m),(5,vi i.1)],[],Ad⟩) (Xi (fun i=>l.length-i.1) (Yi (Xi ⟨0,by simp⟩ ?_) ?_)))
  .exact⟨Z3,Tv,Fh,Tv⟩
  .intro⟨i,h1,h2⟩;refine Yi ?_ ?_
   .intro h;have h:i<l.length:=Wk
    have h' : i<m.length:=B0
    have hg:l[i]?=some l[i]:=Ge h;have yL : m[i]?=some m[i]:=Ge h';refine Xi (Ap l[i]) (Yi (Yi B0 Wk) (Yi rfl (yN ?_)));refine Xi (Ap m[i]) (Yi (Yi B0 Wk) (Yi rfl (yN ?_)));refine Yi ?_ ?_
    .intro h5;have e:l[i]=m[i]:=RA.1 h5;refine Yi aa3 (Yi (by grind [A8]) (Xi ⟨i+1,by omega,?_⟩ ?_))
     .grind [List.take_add_one]
     .exact⟨Dl l.length i B0,Z3,Tv,Fh,Tv⟩
    .intro h5;refine Yi aa3 ?_
     have:l≠m:=fun e=>h5 (RA.2 Wk)
     rw[Au this];exact .refl _
   .intro h;have h:¬i<l.length:=Wk
    have e:l=m:=by
     grind
    rw[Ay e];exact .refl _
end Go.Eng
namespace Go.Eng
open Go.Proofs Go.Shelf Go.RowKit Go.Lib Go.Sort
variable (k:Nat)
theorem cf(x y:SpA):ltOf cfSpA x y=decide (x.1.1<y.1.1):=by
 unfold ltOf cfSpA;rw[Dd];simp only[AQ];omega
theorem kH:SWO (ltOf cfSpA) where
 irrefl x:=by rw[cf];simp
 trans x y z h1 h2:=by rw[cf]at *;simp at *;omega
 ntrans x y z h1 h2:=by rw[cf]at *;simp at *;omega
theorem Th:∀x y:List UInt8,decide (Lib.compareBytes x y<0)=J3 x y
 | [],[]=>rfl
 | [],_::_=>rfl
 |_::_,[]=>rfl
 |a::x,b::y=>by
  unfold Lib.compareBytes J3
  by_cases h:a<b
  .simp[h]
  .by_cases h2:b<a
   .have:¬a=b:=fun e=>by subst e;exact absurd h2 (UInt8.lt_irrefl a)
    simp[h,h2,this]
   .have e:a=b:=UInt8.le_antisymm (UInt8.not_lt.1 h2) (UInt8.not_lt.1 h);subst e;simp[UInt8.lt_irrefl,Th x y]
theorem cg(x y:TmA):ltOf cfTmA x y=E0 x.1 y.1:=Th _ _
theorem kJ:SWO (ltOf cfTmA) where
 irrefl x:=by rw[cg];exact CO _
 trans x y z h1 h2:=by rw[cg]at *;exact DZ h1 h2
 ntrans x y z h1 h2:=by
  rw[cg]at *
  rw[Bn];intro h;cases rW:E0 y.1 x.1 with
  |true=>have:=DZ rW h;rw[h2]at this;cases this
  |false=>
   have e:=HT h1 rW;rw[e]at h;rw[h2]at h;cases h
abbrev Gz:Value:=.func (.func k) #[] #[]
theorem dI {fn : Func}{c : Code}(hf : Tryz.prog.funcs[k]? = some fn)(hn : (fn.name == "runtime.NumGoroutine") = false)(hb : fn.body = some c) : FN Tryz.prog k := Py hf hn hb
theorem xx(l:List (Int×Int))(hl:Cz l)(h:∀x∈l,0<=x.1/\x.1<=1000000)(lim:Nat)(XO:lim<100) :
  Bd Tryz.prog 339 [.msl 1000 l.length,vi 0,vi l.length,vi lim,.v (Gz 288)] (Ag [(1000,.arr 2 (l.map Ap))] Ad) fun r h'=>
   r=.tup []/\∃l' : List (Int×Int),l'.Perm l/\l'.Pairwise (fun x y=>x.1<=y.1)/\h'=Ag [(1000,.arr 2 (l'.map Ap))] Ad:=by
 have hl:l.length<=1073741824:=hl;have hE:FN Tryz.prog 339:=dI 339 Tryz.func339 aa3 rfl;have eg:∀args w,(callFunc 288 args).run Tryz.prog w=.ok (.enter 288 args) w:=enters_of Tryz.func288 aa3 rfl;have Ix:=IY (P:=Tryz.prog) (f:=339) (α:=SpA) (rest:=[.int .i64 0,.int .i64 l.length,.int .i64 lim,Gz 288]) hE Ap encSpA (k:=2) (fun _=>rfl) (fun _=>rfl) (ltOf cfSpA) (fun x a=>a.1=x) l B0 ?_ ?_ ?_
 .refine⟨hE,fun g w vals q1 q2 q3=>(Ix.2 g w vals q1 q2 q3).mono fun _ _ ⟨v,r,h',g',e1,⟨e2,l',p1,⟨al,a1,a2,a3⟩,p2⟩,rest⟩=>⟨v,r,h',g',e1,⟨e2,l',p1,?_,p2⟩,rest⟩⟩;rw[BT]at a3⊢;intro i j hi hj Wd
  have:=a3 i j B0 B0 Wd
  rw[cf]at this;have e1:=a2 i _ _ (Aw hi) (Aw B0);have e2:=a2 j _ _ (Aw hj) (Aw B0);rw[<-e1,<-e2]
  have:=of_decide_eq_false this
  omega
 .intro x hx g w vs hr
  match vs,hr with
  | [a,b],hr=>
   have h1:=(hr.2.2 0 (vi x.1) a rfl rfl).v_eq;have h2:=(hr.2.2 1 (vi x.2) b rfl rfl).v_eq;subst h1;subst h2;exact⟨⟨x,h x hx⟩,rfl,rfl⟩
  | [],hr=>have:=hr.1;simp at this
  | [_],hr=>have:=hr.1;simp at this
  |_::_::_::_,hr=>have:=hr.1;simp at this
 .intro w b cap d hH hb EQ hdl;have iQ:CmpLays Tryz.prog 288 #[] encSpA 2 cfSpA b 0 d.size w:=fun _ _ _ _ x y=>Tryz.closure288 x y _;have hp:=AnyQ.pdqsortCmpFunc_all Tryz.layPdqSpan 2 Tryz.isAgg64 Tryz.sizeOf64 encSpA cfSpA 288 #[] kH b 0 cap d w eg iQ ⟨fun _=>rfl,fun x v hv=>by simp[encSpA]at hv;rcases hv with rfl | rfl<;>rfl,hH,hb⟩ (d.size+1) 0 d.size lim d w B0 rfl (SWK.start hH) (Ao _) (Ai _) EQ B0 (Or.inl rfl)
  rw[hdl]at hp⊢;refine hp.mono ?_
  rintro e w' ⟨rfl,n,os,rfl⟩
  have h:=pdq_sorts (ltOf cfSpA) kH d 0 d.size lim true true (Ao _) (Ai _) (Or.inl rfl);rw[hdl]at h;exact⟨rfl,_,n,os,h.1,h.2,rfl⟩
 .intro e w;subst e;exact AnyF.pdqsortCmpFunc_none Tryz.layPdqSpan none 0 lim (Gz 288) w
theorem xc(l:List Tm)(hl:Cz l)(lim:Nat)(XO:lim<100) :
  Bd Tryz.prog 377 [.msl 1000 l.length,vi 0,vi l.length,vi lim,.v (Gz 351)] (Ag [(1000,.arr 3 (l.map Az))] Ad) fun r h'=>
   r=.tup []/\∃l' : List Tm,l'.Perm l/\l'.Pairwise (fun x y=>E0 y.path x.path=false)/\h'=Ag [(1000,.arr 3 (l'.map Az))] Ad:=by
 have hl:l.length<=1073741824:=hl;have hE:FN Tryz.prog 377:=dI 377 Tryz.func377 aa3 rfl;have eg:∀args w,(callFunc 351 args).run Tryz.prog w=.ok (.enter 351 args) w:=enters_of Tryz.func351 aa3 rfl;have Ix:=IY (P:=Tryz.prog) (f:=377) (α:=TmA) (rest:=[.int .i64 0,.int .i64 l.length,.int .i64 lim,Gz 351]) hE Az encTmA (k:=3) (fun _=>rfl) (fun _=>rfl) (ltOf cfTmA) (fun x a=>a.1=x.path) l B0 ?_ ?_ ?_
 .refine⟨hE,fun g w vals q1 q2 q3=>(Ix.2 g w vals q1 q2 q3).mono fun _ _ ⟨v,r,h',g',e1,⟨e2,l',p1,⟨al,a1,a2,a3⟩,p2⟩,rest⟩=>⟨v,r,h',g',e1,⟨e2,l',p1,?_,p2⟩,rest⟩⟩;rw[BT]at a3⊢;intro i j hi hj Wd
  have:=a3 i j B0 B0 Wd
  rw[cg]at this;have e1:=a2 i _ _ (Aw hi) (Aw B0);have e2:=a2 j _ _ (Aw hj) (Aw B0);rw[<-e1,<-e2];exact this
 .intro x hx g w vs hr
  match vs,hr with
  | [a,b,c],hr=>
   have h1:=(hr.2.2 0 (Go.Eng.vs x.path) a rfl rfl).v_eq;subst h1;exact⟨⟨x.path,⟨b,hr.2.1 b aa0⟩,⟨c,hr.2.1 c aa0⟩⟩,rfl,rfl⟩
  | [],hr=>have:=hr.1;simp at this
  | [_],hr=>have:=hr.1;simp at this
  | [_,_],hr=>have:=hr.1;simp at this
  |_::_::_::_::_,hr=>have:=hr.1;simp at this
 .intro w b cap d hH hb EQ hdl;have iQ:CmpLays Tryz.prog 351 #[] encTmA 3 cfTmA b 0 d.size w:=fun _ _ _ _ x y=>Tryz.closure351 x y _;have hp:=AnyQ.pdqsortCmpFunc_all Tryz.layPdqTerm 3 Tryz.isAgg325 Tryz.sizeOf325 encTmA cfTmA 351 #[] kJ b 0 cap d w eg iQ ⟨fun _=>rfl,fun x v hv=>by
    simp only[encTmA,AM,Lc,or_false]at hv;rcases hv with rfl | rfl | rfl
    .rfl
    .exact x.2.1.2
    .exact x.2.2.2,hH,hb⟩ (d.size+1) 0 d.size lim d w B0 rfl (SWK.start hH) (Ao _) (Ai _) EQ B0 (Or.inl rfl)
  rw[hdl]at hp⊢;refine hp.mono ?_
  rintro e w' ⟨rfl,n,os,rfl⟩
  have h:=pdq_sorts (ltOf cfTmA) kJ d 0 d.size lim true true (Ao _) (Ai _) (Or.inl rfl);rw[hdl]at h;exact⟨rfl,_,n,os,h.1,h.2,rfl⟩
 .intro e w;subst e;exact AnyF.pdqsortCmpFunc_none Tryz.layPdqTerm none 0 lim (Gz 351) w
end Go.Eng
namespace Go.Eng
open Go.Proofs
variable {h0:Nat->HO}{α:Type}{P:Program}{args:List AV}{f:Nat}(s:Ba)(x:List Rl)(ifs:AV)(l:List (Int×Int))(j:Ba)(roots:List Rq)(d:List (List Tm))(i:Nat)
-- the checker,and what reads it
abbrev Ck:List AV:=[sl At x,ifs,sl Af roots,sl AD d]
theorem c40(hd:Cz d):PC 107 [.cptr (Ck x ifs roots d)] (vb (GG d)):=by
 unfold Cz at hd;refine Ps Ea Tryz.func107 rfl (Nz rfl) (Yi ?_ ?_)
 .intro h;have h:(0:Int)<(d.map AD).length:=h;have h:0<d.length:=Wk
  have hg:d[d.length-1]?=some d[d.length-1]:=Ge B0;have hl:d.getLast?=some d[d.length-1]:=aa1
  refine Yi (by grind [A8]) (Xi (AD d[d.length-1]) (Yi (Yi B0 (by rw[show(((d.map AD).length:Int)-1).toNat=d.length-1 by simp_all];grind)) (Yi rfl ?_)));refine Yi ?_ ?_
  .intro h2;have h2:((d[d.length-1].map Az).length:Int)=0:=h2;have h2:d[d.length-1]=[]:=Wk
   show DW (vb true) (vb (GG d))
   grind [GG,DW.refl]
  .intro h2;have h2:¬((d[d.length-1].map Az).length:Int)=0:=h2;have h2:d[d.length-1]≠[]:=fun e=>h2 Wk;show DW (vb false) (vb (GG d))
   grind [GG,DW.refl]
 .intro h;have h:¬(0:Int)<(d.map AD).length:=h;have h:d=[]:=AU Wk;subst h;exact .refl _
theorem jg:∀(s:List Sl) (i:Nat) (h:i+1<s.length),LU (some s[i].path) (s.drop (i+1))=(E0 s[i].path s[i+1].path&&LU (some s[i+1].path) (s.drop (i+2))):=fun s i h=>by
 rw[Bh h];rfl
theorem Gw(a b:ByteArray):E0 a b=Op.bytesLess a.toList b.toList:=by
 have:∀x y:List UInt8,J3 x y=Op.bytesLess x y:=by
  intro x
  induction x with
  |nil=>intro y;cases y<;>rfl
  |cons a x ih=>
   intro y;cases y with
   |nil=>rfl
   |cons b y=>
    unfold J3 Op.bytesLess;rw[ih];rw[Dd];simp
 grind [E0,ByteArray.toList_eq]
theorem Bd.imp{Q Q' : AV->(Nat->HO)->Prop}(h:Bd P f args h0 Q)(hq:∀r h',Q r h'->Q' r h'):Bd P f args h0 Q':=h.mono fun r h' q=>⟨r,.refl _,hq r h' q⟩
theorem Bd.to{r0:AV}{p:α->Prop}{H:α->Nat->HO}{Q' : AV->(Nat->HO)->Prop}(h:Bd P f args h0 fun r h'=>r=r0/\∃x,p x/\h'=H x)(k:∀x,p x->Q' r0 (H x)):Bd P f args h0 Q':=
 h.imp fun r h' ⟨e1,x,e2,e3⟩=>by simp_all
theorem pF(n:Nat)(h:n<=1073741824):∃lim:Nat,lim<100/\PC 146 [.v (.int .u64 (IntKind.u64.wrap (n:Int)))] (vi lim):=by
 refine⟨Lib.bitLen n,Nat.lt_of_le_of_lt (Lib.bitLen_le n 62 B0 B0) B0,?_⟩;have wr:IntKind.u64.wrap (n:Int)=n:=by grind [IntKind.wrap,IntKind.bits]
 rw[wr];refine KL [.int .u64 n] (.int .i64 (Lib.bitLen n:Nat)) (dI 146 Tryz.func146 aa3 rfl) rfl (fun _ _=>.v _ _) fun w _=>?_
 have:=Any.bits_Len Tryz.layBits (n:Int) w B0 B0
 rw[DQ]at this;exact this
theorem xl(hl:Cz l)(h:∀x∈l,0<=x.1/\x.1<=1000000) :
  Bd Tryz.prog 287 [.msl 1000 l.length,.v (Gz 288)] (Ag [(1000,.arr 2 (l.map Ap))] Ad) fun r h'=>
   r=.tup []/\∃l' : List (Int×Int),(l'.Perm l/\l'.Pairwise (fun x y=>x.1<=y.1))/\h'=Ag [(1000,.arr 2 (l'.map Ap))] Ad:=by
 obtain⟨lim,XO,hb⟩:=pF l.length hl;refine Bm (IF Ea) [(1000,1000)] rfl BB hm rfl Tryz.func287 aa3 rfl (Nz rfl) aa3 rfl (Xi .pure (Xi _ (Yi (hb) (Xi (.gen [(1000,1000)] 0) (Yi rfl ((xx l hl h lim XO).imp ?_))))));intro r h' hq;refine A1 hq.2 (fun l' Pk=>?_);refine Xi (.tup []) (Yi ?_ (Yi rfl (Xi l' (Yi ⟨Pk.1,Pk.2.1⟩ ?_))))
 .exact .refl _
 .rw[Pk.2.2];rfl
theorem c61(l:List Tm)(hl:Cz l) :
  Bd Tryz.prog 350 [.msl 1000 l.length,.v (Gz 351)] (Ag [(1000,.arr 3 (l.map Az))] Ad) fun r h'=>
   r=.tup []/\∃l' : List Tm,(l'.Perm l/\l'.Pairwise (fun x y=>E0 y.path x.path=false))/\h'=Ag [(1000,.arr 3 (l'.map Az))] Ad:=by
 obtain⟨lim,XO,hb⟩:=pF l.length hl;refine Bm (IF Ea) [(1000,1000)] rfl BB hm rfl Tryz.func350 aa3 rfl (Nz rfl) aa3 rfl (Xi .pure (Xi _ (Yi (hb) (Xi (.gen [(1000,1000)] 0) (Yi rfl ((xc l hl lim XO).imp ?_))))));intro r h' hq;refine A1 hq.2 (fun l' Pk=>?_);refine Xi (.tup []) (Yi ?_ (Yi rfl (Xi l' (Yi ⟨Pk.1,Pk.2.1⟩ ?_))))
 .exact .refl _
 .rw[Pk.2.2];rfl
abbrev pla(l:List (Nat×Nat))(cut:List Nat):Nm:=⟨[],[],l,[],[],[],[],[],[],[],cut⟩
abbrev Lu:HO:=.arr 2 (l.map Ap)
theorem ZO(l:Ba)(i:Nat):(DM (l.take i)).length<=i:=by
 grind [DM]
theorem UK{l:Ba}{i:Nat}(h:i<l.length)(h3:(Pu l[i]).1<(Pu l[i]).2):DM (l.take (i+1))=DM (l.take i)++[Pu l[i]]:=by
 grind [List.take_add_one,DM]
theorem Xe{l:Ba}{i:Nat}(h:i<l.length)(h3:¬(Pu l[i]).1<(Pu l[i]).2):DM (l.take (i+1))=DM (l.take i):=by
 grind [List.take_add_one,DM]
abbrev arr2:Ba:=(B3 (s.take i)).reverse++(j++s.drop i)
theorem lw(h:i<s.length)(hj:(B3 (s.take i)).length+j.length=i):(arr2 s j i)[i]?=some s[i]:=by
 unfold arr2;rw[Bf aa1,Bf aa1,List.length_reverse,ER]
 grind
theorem gL(h:i<=s.length)(hj:(B3 (s.take i)).length+j.length=i):(arr2 s j i).length=s.length:=by
 grind
theorem bx(s:List α)(i:Nat)(h:i<s.length):s.drop i=s[i]::s.drop (i+1):=Bh h
theorem Uz(h:i<s.length)(e:Kf (B3 (s.take i)) s[i]=s[i]::B3 (s.take i)) :
  (arr2 s j i).set (B3 (s.take i)).length s[i]=arr2 s (j++[s[i]]).tail (i+1):=by
 unfold arr2;rw[F8 s i h,e,List.reverse_cons,KV _ _ Wk,List.length_reverse,DF,AK,bx s i h]
 congr 1
 cases j<;>grind
theorem dk(h:i<s.length){y:Int×Int}{t:Ba}(e:B3 (s.take i)=y::t)(Ig:s[i].1<=y.2) :
  (arr2 s j i).set t.length (y.1,max y.2 s[i].2)=arr2 s (j++[s[i]]) (i+1):=by
 unfold arr2;have e2:Kf (y::t) s[i]=(y.1,max y.2 s[i].2)::t:=by show(if s[i].1<=y.2 then _ else _)=_;simp_all
 rw[F8 s i h,e,e2,List.reverse_cons,List.reverse_cons,AK,KV _ _ Wk,List.length_reverse,DF,bx s i h];simp
theorem Fj{enc:α->List AV}{l:List α}{i:Nat}{x:α}(h:l[i]?=some x):(l.map enc)[i]?=some (enc x):=Wk
theorem Xb(hl:Cz l):PC 221 [sl Ap l] (sl Ap (canon l)):=by
 refine CV (T4 (pla [(3,2)] [])) rfl BB hm rfl Tryz.func221 aa3 rfl (Nz rfl) aa3 (Xi {i:Nat // i<=l.length} (Xi (fun i=>⟨[(0,sl Ap l),(3,.msl 3 (DM (l.take i.1)).length),(9,sl Ap l),(10,vi (l.map Ap).length),(11,vi i.1)],[(3,Lu (DM (l.take i.1)))],Ad⟩) (Xi (fun i=>l.length-i.1) (Yi (Xi ⟨0,by simp⟩ ?_) ?_))))
 .exact⟨Z5,Z1,Fh,Tv⟩
 .intro⟨i,h1⟩;have hn:=ZO l i;refine Yi ?_ ?_
  .intro h;have h:i<l.length:=Wk
   have hg:l[i]?=some l[i]:=Ge h;refine Xi (Ap l[i]) (Yi (Yi B0 Wk) (Yi rfl ?_));refine Yi (Nz rfl) (yN (yN (Yi ?_ ?_)))
   .intro h3;refine yN ?_;have DG:BX 2 [[vi (max l[i].1 0),vi (min l[i].2 1000000)]]/\((DM (l.take i)).map Ap).length=(DM (l.take i)).length/\(((DM (l.take i)).map Ap).length+[[vi (max l[i].1 0),vi (min l[i].2 1000000)]].length)*16<=140737488355328/\((DM (l.take i)).map Ap).length+[[vi (max l[i].1 0),vi (min l[i].2 1000000)]].length<=9223372036854775807:=
     ⟨⟨rfl,trivial⟩,by simp_all,by grind,by grind⟩
    refine Yi DG (Yi (by grind [A8]) (Xi ⟨i+1,by omega⟩ ?_));have e1:AV.msl 3 (((DM (l.take i)).map Ap).length+[[vi (max l[i].1 0),vi (min l[i].2 1000000)]].length)=.msl 3 (DM (l.take (i+1))).length:=by rw[UK h h3];simp
    have e2:HO.arr 2 ((DM (l.take i)).map Ap++[[vi (max l[i].1 0),vi (min l[i].2 1000000)]])=Lu (DM (l.take (i+1))):=by rw[UK h h3];simp[Pu]
    exact⟨by grind,⟨Zr,⟨e1,rfl⟩,Zr,Zr,Zr,Tv⟩,⟨⟨e2,rfl⟩,Tv⟩,Fh,Tv⟩
   .intro h3;refine Yi (by grind [A8]) (Xi ⟨i+1,by omega⟩ ?_);have e1:AV.msl 3 (DM (l.take i)).length=.msl 3 (DM (l.take (i+1))).length:=by rw[Xe h h3]
    have e2:Lu (DM (l.take i))=Lu (DM (l.take (i+1))):=by rw[Xe h h3]
    exact⟨by grind,⟨Zr,⟨e1,rfl⟩,Zr,Zr,Zr,Tv⟩,⟨⟨e2,rfl⟩,Tv⟩,Fh,Tv⟩
  .intro h;have h:¬i<l.length:=Wk
   have ei:DM (l.take i)=DM l:=aa1
   have hN:(DM (l.take i)).length=(DM l).length:=by rw[ei]
   refine Xi (.gen [(3,1000)] 0) (Yi rfl ((xl (DM (l.take i)) B0 (fun x hx=>by have:=UJ hx;omega)).to ?_));intro s hs;have JZ:s.length=(DM (l.take i)).length:=hs.1.length_eq;have hsN:s.length<=1073741824:=B0
   have fin:(B3 s).reverse=canon l:=Rm Wk hs.2;refine Xi {p:Nat×Ba // p.1<=s.length/\(B3 (s.take p.1)).length+p.2.length=p.1} (Xi (fun p=>⟨[(3,.msl 3 (DM (l.take i)).length),(6,vi (B3 (s.take p.1.1)).length),(34,.msl 3 (DM (l.take i)).length),(35,vi (DM (l.take i)).length),(36,vi p.1.1)],[(3,Lu (arr2 s p.1.2 p.1.1))],Ad⟩) (Xi (fun p=>s.length-p.1.1) (Yi (Xi ⟨(0,[]),Ao _,rfl⟩ ?_) ?_)))
   .exact⟨Z5,Z1,Fh,Tv⟩
   intro⟨⟨k,j⟩,k1,k2⟩;have k2:(B3 (s.take k)).length+j.length=k:=k2;have CF:=gL s j k k1 k2;have SQ:(DM (l.take i)).length=((arr2 s j k).map Ap).length:=Wk
   refine Yi ?_ ?_
   .intro h2;have h2:(k:Int)<(DM (l.take i)).length:=h2;have hk:k<s.length:=B0
    have oC:=Fj (enc:=Ap) (lw s j k hk k2);refine Yi ⟨by omega,by omega⟩ ?_;refine Yi SQ (Xi (Ap s[k]) (Yi oC (Yi (Nz rfl) (yN ?_))));have hr:=Tn s k k1;refine BK (Nat.eq_zero_or_pos k) (fun k0=>?_) (fun k0=>?_)
    .refine Yi ?_ ?_
     .intro h4;have h4:(0:Int)<k:=h4;omega
     .intro _;refine Yi aa3 ?_;have IM:Kf (B3 (s.take k)) s[k]=s[k]::B3 (s.take k):=by subst k0;rfl
      have lg:(B3 (s.take k)).length<(arr2 s j k).length:=B0
      have hz:=Fj (enc:=Ap) (Ge lg);refine Yi (Nz rfl) (Yi ⟨by omega,by simp_all⟩ ?_);refine Yi SQ (Xi (Ap (arr2 s j k)[(B3 (s.take k)).length]) (Yi hz (yN (Yi (by show A8 (((B3 (s.take k)).length:Int)+1);unfold A8;omega) ?_))));refine Yi (Ii k B0) ?_;have hm:=F8 s k hk;have e1:vi (((B3 (s.take k)).length:Int)+1)=vi (B3 (s.take (k+1))).length:=Wk
      have e2:HO.arr 2 (((arr2 s j k).map Ap).set (B3 (s.take k)).length [vi s[k].1,vi s[k].2])=Lu (arr2 s (j++[s[k]]).tail (k+1)):=by rw[<-Uz s j k hk IM];simp only[Lu,List.map_set]
      refine Xi ⟨(k+1,(j++[s[k]]).tail),by omega,by simp_all⟩ ?_;exact⟨Dl s.length k B0,⟨Zr,⟨e1,rfl⟩,Zr,Zr,Zr,Tv⟩,⟨⟨e2,rfl⟩,Tv⟩,Fh,Tv⟩
    .refine Yi ?_ ?_
     .intro _;obtain⟨y,t,e⟩:∃y t,B3 (s.take k)=y::t:=by
       cases hc:B3 (s.take k)with
       |nil=>simp_all
       |cons y t=>grind
      have ht:(((B3 (s.take k)).length:Int)-1).toNat=t.length:=aa1
      have hy:((arr2 s j k).map Ap)[(((B3 (s.take k)).length:Int)-1).toNat]?=some (Ap y):=by rw[ht];grind
      refine Yi (by show A8 (((B3 (s.take k)).length:Int)-1);unfold A8;omega) ?_;have t6:=hr.2 k0;refine Yi ⟨by grind,by grind⟩ ?_;refine Yi SQ (Xi (Ap y) (Yi hy (Yi ?_ ?_)))
      .intro h5;refine Yi aa3 (Yi (by show A8 (((B3 (s.take k)).length:Int)-1);unfold A8;omega) (Yi (by show A8 (((B3 (s.take k)).length:Int)-1);unfold A8;omega) ?_));refine Yi ⟨by grind,by grind⟩ ?_;refine Yi SQ (Xi (Ap y) (Yi hy (Yi ⟨by grind,by grind⟩ ?_)));refine Yi SQ (Xi (Ap y) (Yi hy (yN (Yi aa3 (Yi (Ii k B0) ?_)))));have hm:=F8 s k hk;have IM:Kf (B3 (s.take k)) s[k]=(y.1,max y.2 s[k].2)::t:=by rw[e];show(if s[k].1<=y.2 then _ else _)=_;grind
       have e1:vi (B3 (s.take k)).length=vi (B3 (s.take (k+1))).length:=by rw[hm,IM,e];simp
       have e2:HO.arr 2 (((arr2 s j k).map Ap).set (((B3 (s.take k)).length:Int)-1).toNat [vi y.1,vi (max y.2 s[k].2)])=Lu (arr2 s (j++[s[k]]) (k+1)):=by rw[<-dk s j k hk e h5,ht];simp only[Lu,List.map_set]
       refine Xi ⟨(k+1,j++[s[k]]),by omega,by show(B3 (s.take (k+1))).length+(j++[s[k]]).length=k+1;rw[hm,IM,Aa,A5];grind⟩ ?_;exact⟨Dl s.length k B0,⟨Zr,⟨e1,rfl⟩,Zr,Zr,Zr,Tv⟩,⟨⟨e2,rfl⟩,Tv⟩,Fh,Tv⟩
      .intro h5;refine Yi aa3 ?_;have IM:Kf (B3 (s.take k)) s[k]=s[k]::B3 (s.take k):=by rw[e];show(if s[k].1<=y.2 then _ else _)=_;grind
       have lg:(B3 (s.take k)).length<(arr2 s j k).length:=B0
       have hz:=Fj (enc:=Ap) (Ge lg);refine Yi (Nz rfl) (Yi ⟨by omega,by grind⟩ ?_);refine Yi SQ (Xi (Ap (arr2 s j k)[(B3 (s.take k)).length]) (Yi hz (yN (Yi (by show A8 (((B3 (s.take k)).length:Int)+1);unfold A8;omega) ?_))));refine Yi (Ii k B0) ?_;have hm:=F8 s k hk;have e1:vi (((B3 (s.take k)).length:Int)+1)=vi (B3 (s.take (k+1))).length:=by rw[hm,IM];simp
       have e2:HO.arr 2 (((arr2 s j k).map Ap).set (B3 (s.take k)).length [vi s[k].1,vi s[k].2])=Lu (arr2 s (j++[s[k]]).tail (k+1)):=by rw[<-Uz s j k hk IM];simp only[Lu,List.map_set]
       refine Xi ⟨(k+1,(j++[s[k]]).tail),by omega,by show(B3 (s.take (k+1))).length+((j++[s[k]]).tail).length=k+1;rw[hm,IM];simp;omega⟩ ?_;exact⟨Dl s.length k B0,⟨Zr,⟨e1,rfl⟩,Zr,Zr,Zr,Tv⟩,⟨⟨e2,rfl⟩,Tv⟩,Fh,Tv⟩
     .intro h4;have h4:¬(0:Int)<k:=h4;omega
   .intro h2;have h2:¬(k:Int)<(DM (l.take i)).length:=h2;have hk:k=s.length:=B0
    have hr:=Tn s k k1;have ua:((((arr2 s j k).map Ap).take ((B3 (s.take k)).length:Int).toNat).drop 0)=(canon l).map Ap:=by
     rw[List.drop_zero,DQ,<-List.map_take,<-fin]
     grind
    refine Yi ⟨SQ,by simp_all,by simp_all,by grind,.inr ⟨rfl,by simp⟩⟩ ?_;exact .of_eq (Ab (AV.slice .none) ua)
end Go.Eng
namespace Go.Eng
open Go.Proofs Go.Sort
variable {m:List (Int×Int)}{S:Ba}(zs:List Int)(z:Int)
abbrev Gj:List AV:=[vi z]
theorem P0{α:Type}[Inhabited α](enc:α->Value)(w:World)(b:Nat)(d:Array α):putRow enc w b 0 d=putRow id w b 0 (d.map enc):=by
 unfold putRow
 congr 1
 grind [putCells]
theorem US:(zs.map Gj).flatten=(zs.map fun z=>Value.int .i64 z).map AV.v:=by
 induction zs<;>simp_all
theorem MH(g:Gh)(w:World)(U:Nat->Prop)(vs:List Value)(h:∀x∈vs,x.oneCell'=true):Cg g w U (vs.map .v) vs:=
 ⟨by simp,h,fun i av x q1 q2=>by
  grind [A3.v]⟩
theorem KN{g:Gh}{w:World}{U:Nat->Prop}{vs us:List Value}(h:Cg g w U (vs.map .v) us):us=vs:=by
 apply Cr;intro i;have hl:=h.1;rw[Lm]at hl
 by_cases hi:i<vs.length
 .have:=h.2.2 i (.v vs[i]) us[i] Wk (Ge B0)
  grind [A3.v_eq]
 simp_all
theorem xw(hl:Cz zs)(CU:zs≠[]) :
  Bd Tryz.prog 375 [.msl 1000 zs.length] (Ag [(1000,.arr 1 (zs.map Gj))] Ad) fun r h'=>
   r=.tup []/\∃l' : List Int,(l'.Perm zs/\l'.Pairwise fun a b=>a<=b)/\h'=Ag [(1000,.arr 1 (l'.map Gj))] Ad:=by
 have hE:FN Tryz.prog 375:=dI 375 Tryz.func375 aa3 rfl;have Ix:=Po (P:=Tryz.prog) (f:=375) (es:=zs.map Gj) (sz:=1) (rest:=[]) (Q:=fun Fp=>∃l' : List Int,(l'.Perm zs/\l'.Pairwise fun a b=>a<=b)/\Fp=l'.map Gj) hE ?_ ?_
 .grind
 .simp_all
 .intro g w b cap F hr hF hH hb;have vW:F.toList=zs.map fun z=>Value.int .i64 z:=KN (by rw[<-US];exact hr);have oz:F=zs.toArray.map fun z=>Value.int .i64 z:=K7.1 Wk;have tc:Holds (Value.int .i64) w b 0 zs.toArray:=fun j hj=>by
   have:=hH j Wk
   simp_all
  have hc:=Any.slices_Sort_int Tryz.laySortInts b 0 cap zs w tc hb B0;rw[Lm];refine hc.mono ?_
  rintro e w' ⟨rfl,n,os,rfl⟩
  have Iy:(zs.mergeSort fun x y=>decide (x<=y)).Perm zs:=List.mergeSort_perm _ _;have CF:=Iy.length_eq;refine⟨rfl,(zs.mergeSort fun x y=>decide (x<=y)).toArray.map fun z=>Value.int .i64 z,(zs.mergeSort fun x y=>decide (x<=y)).map Gj,n,os,?_,⟨_,⟨Iy,?_⟩,rfl⟩,by simp_all,fun cs hcs=>?_,fun g w _=>?_,by rw[P0]⟩
  .simp_all
  .grind [List.pairwise_mergeSort]
  .grind
  .rw[US];have e:((zs.mergeSort fun x y=>decide (x<=y)).toArray.map fun z=>Value.int .i64 z).toList=(zs.mergeSort fun x y=>decide (x<=y)).map fun z=>Value.int .i64 z:=aa0
   rw[e];exact MH _ _ _ _ fun x hx=>by
    obtain⟨z,_,rfl⟩:=Ar.1 hx;rfl
-- maps from numbers to numbers
abbrev WG:Er:=⟨false,[.int .i64]⟩
abbrev kI:Value:=.int .i64 z
abbrev My(p:Int×Int):Value×AV:=(kI p.1,vi p.2)
abbrev F4(s:Ba):List AV:=[sl Ap s]
theorem Wp{k:Int}{a:AV}:(kI k,a)∈m.map My↔∃v,(k,v)∈m/\a=vi v:=by
 grind
theorem RK(m:List (Int×Int))(k v:Int):EF (m.map My) (kI k) (vi v)=(KM m k v).map My:=by
 unfold KM
 by_cases h:(m.any fun p=>decide (p.1=k))=true
 .rw[As h];obtain⟨p,h1,h2⟩:=CB.1 h;have h2:=BR h2
  have:(kI k,vi p.2)∈m.map My:=Wp.2 ⟨p.2,by grind,rfl⟩
  rw[PP this,BI,BI]
  grind [List.map_congr_left]
 grind [J6]
theorem Ox{T:Gf}{e:Nat}{BU:List (Value×AV)}{kx:Value}{K:AV->Prop}(a0 z0:AV)(h1:∀a,(kx,a)∈BU->a=a0)(hz:(∀a,(kx,a)∉BU)->a0=z0)(h2:K z0->JH T e K)(k:K a0) :
  (∀a,(kx,a)∈BU->K a)/\((∀a,(kx,a)∉BU)->JH T e K):=⟨fun a h=>by grind,fun hn=>h2 (hz hn▸k)⟩
theorem Qs(m:List (Int×Int))(k:Int):(∀a,(kI k,a)∉m.map My)->vi (Fg m k)=vi 0:=fun OF=>by
 rw[kV fun hk=>by
  obtain⟨p,hp,e⟩:=Ar.1 hk;exact OF (vi p.2) (Wp.2 ⟨p.2,by grind,rfl⟩)]
theorem Qr(hn:(EU m).Nodup)(k:Int):∀a,(kI k,a)∈m.map My->a=vi (Fg m k):=fun a h=>by
 obtain⟨v,h1,rfl⟩:=Wp.1 h;rw[kU hn h1]
theorem FC.bound(h:FC m S)(k:Int):-(S.length:Int)<=Fg m k/\Fg m k<=S.length:=by
 rw[h.val]
 grind [cF,cT]
theorem ZX(l:List Ba):(l.map canon).flatten.length<=l.length*1000000:=by
 induction l<;>grind [HG,B6]
theorem FC.few(h:FC m S):m.length<=1000001:=by
 have:=Da (m:=(List.range 1000001).map Int.ofNat) h.nd fun k hk=>by
  have:=h.rng k hk
  grind [Int]
 grind [EU]
theorem U5(keep:Nat->Bool)(m:List (Int×Int))(B:List Int):∀n,(Ee keep m B n).length<=n
 |0=>Ai _
 |n+1=>by
  unfold Ee
  have:=U5 keep m B n
  grind
end Go.Eng
namespace Go.Eng
open Go.Proofs
variable {m:List Tm}{α:Type}(u:Tm)(n:Int)(l:List Tm)(p:ByteArray)(x:α)(s:Ba)(q:Rq)(t:Tm)
abbrev plC:Nm:=⟨[],[(12,2)],[(44,1)],[],[],[],[],[],[],[],[8,9,15,23,25,26]⟩
theorem pJ(F:AV)(keep:Nat->Bool)(l:List Ba)(hl:Cz l)(hs:∀s∈l,Cz s)(hid:∀h,SY h F=true)(hF:∀h (n:Int),0<=n->n<=l.length->Pm Tryz.prog (str h F) [vi n] (vb (keep n.toNat)))
  (R:Ba) (hR:En R) (hRh:∀p,has R p=(Ru p&&keep (ib l p))):PC 341 [F,sl F4 l] (sl Ap R):=by
 refine Ps plC Tryz.func341 rfl (Nz rfl) (Xi {p:Nat×List (Int×Int) // p.1<=l.length/\FC p.2 ((l.take p.1).map canon).flatten} (Xi (fun p=>⟨[(0,F),(5,.mref 15),(17,sl F4 l),(18,vi (l.map F4).length),(19,vi p.1.1)],[(15,.map WG (p.1.2.map My))],Ad⟩) (Xi (fun p=>l.length-p.1.1) (Yi (Xi ⟨(0,sL),Ao _,lN⟩ ?_) ?_))))
 .have e0:HO.map WG (EF (EF [] (kI 0) (vi 0)) (kI 1000000) (vi 0))=.map WG (sL.map My):=by
   have e1:=RK [] 0 0;have e2:=RK [(0,0)] 1000000 0;show HO.map WG (EF (EF (List.map My []) (kI 0) (vi 0)) (kI 1000000) (vi 0))=_;rw[e1];show HO.map WG (EF (List.map My [(0,0)]) (kI 1000000) (vi 0))=_;rw[e2];rfl
  exact⟨⟨⟨rfl,hid _⟩,Zr,Zr,Zr,Zr,Tv⟩,⟨⟨e0,rfl⟩,Tv⟩,Fh,Tv⟩
 intro⟨⟨i,cm⟩,i1,i2⟩;refine Yi ?_ ?_
 .intro h;have h:i<l.length:=Wk
  have hg:l[i]?=some l[i]:=Ge h;refine Xi (F4 l[i]) (Yi (Yi B0 Wk) (Yi rfl ?_));refine Xi .pure (Xi _ (Yi (Xb l[i] (hs _ (Am h))) (Xi {p:Nat×List (Int×Int) // p.1<=(canon l[i]).length/\FC p.2 (((l.take i).map canon).flatten++(canon l[i]).take p.1)} (Xi (fun p=>⟨[(0,F),(5,.mref 15),(17,sl F4 l),(18,vi (l.map F4).length),(19,vi i),(24,sl Ap (canon l[i])),(25,vi ((canon l[i]).map Ap).length),(26,vi p.1.1)],[(15,.map WG (p.1.2.map My))],Ad⟩) (Xi (fun p=>(canon l[i]).length-p.1.1) (Yi (Xi ⟨(0,cm),Ao _,by grind⟩ ?_) ?_))))))
  .exact⟨⟨⟨rfl,hid _⟩,Zr,Zr,Zr,Zr,Zr,Zr,Zr,Tv⟩,Z1,Fh,Tv⟩
  intro⟨⟨j,dm⟩,j1,j2⟩;have j2:FC dm (((l.take i).map canon).flatten++(canon l[i]).take j):=j2;have hS:(((l.take i).map canon).flatten++(canon l[i]).take j).length<=1073741825000000:=by
   grind [ZX,HG,B6]
  refine Yi ?_ ?_
  .intro hj;have hj:j<(canon l[i]).length:=Wk
   have hgj:(canon l[i])[j]?=some (canon l[i])[j]:=Ge hj;have qE:=(B6 l[i]).low _ (Am hj);have j3:FC (Zb dm (canon l[i])[j]) (((l.take i).map canon).flatten++(canon l[i]).take (j+1)):=by
    grind [gg,List.take_add_one]
   generalize (canon l[i])[j]=x at hgj qE j3;have b1:=j2.bound x.1;have lg:=LZ j2.nd x.1 (Fg dm x.1+1);refine Xi (Ap x) (Yi (Yi B0 Wk) (Yi rfl ?_));refine Yi (Nz rfl) (yN (Xi ⟨[(0,F),(5,.mref 15),(9,.ref 9 0),(17,sl F4 l),(18,vi (l.map F4).length),(19,vi i),(24,sl Ap (canon l[i])),(25,vi ((canon l[i]).map Ap).length),(26,vi j)],[(9,.cells (Ap x)),(15,.map WG (dm.map My))],Ad⟩ (Yi ⟨⟨⟨rfl,hid _⟩,Zr,Zr,Zr,Zr,Zr,Zr,Zr,Zr,Tv⟩,Z2,Fh,Tv⟩ (Ox (vi (Fg dm x.1)) (vi 0) (Qr j2.nd x.1) (Qs dm x.1) (fun q=>q) (Yi (by grind [A8]) ?_)))));have m1:HO.map WG (EF (dm.map My) (kI x.1) (vi (Fg dm x.1+1)))=.map WG ((KM dm x.1 (Fg dm x.1+1)).map My):=by rw[RK]
   refine Xi ⟨[(0,F),(5,.mref 15),(9,.ref 9 0),(17,sl F4 l),(18,vi (l.map F4).length),(19,vi i),(24,sl Ap (canon l[i])),(25,vi ((canon l[i]).map Ap).length),(26,vi j)],[(9,.cells (Ap x)),(15,.map WG ((KM dm x.1 (Fg dm x.1+1)).map My))],Ad⟩ (Yi ⟨⟨⟨rfl,hid _⟩,Zr,Zr,Zr,Zr,Zr,Zr,Zr,Zr,Tv⟩,⟨Zr,⟨m1,rfl⟩,Tv⟩,Fh,Tv⟩ ?_)
   have b2:-(1073741825000001:Int)<=Fg (KM dm x.1 (Fg dm x.1+1)) x.2/\Fg (KM dm x.1 (Fg dm x.1+1)) x.2<=1073741825000001:=by
    have b3:=j2.bound x.2
    grind [Ph]
   refine Ox (vi (Fg (KM dm x.1 (Fg dm x.1+1)) x.2)) (vi 0) (Qr lg x.2) (Qs _ x.2) (fun q=>q) (Yi (by show A8 (Fg (KM dm x.1 (Fg dm x.1+1)) x.2-1);grind [A8]) ?_);have hcl:=HG (B6 l[i]);refine Yi (by grind [A8]) ?_;have m2:HO.map WG (EF ((KM dm x.1 (Fg dm x.1+1)).map My) (kI x.2) (vi (Fg (KM dm x.1 (Fg dm x.1+1)) x.2-1)))=.map WG ((Zb dm x).map My):=by rw[RK];rfl
   refine Xi ⟨(j+1,Zb dm x),by omega,j3⟩ ?_;exact⟨by grind,⟨⟨rfl,hid _⟩,Zr,Zr,Zr,Zr,Zr,Zr,Zr,Tv⟩,⟨⟨m2,rfl⟩,Tv⟩,Fh,Tv⟩
  .intro hj;have hj:¬j<(canon l[i]).length:=Wk
   refine Yi (by grind [A8]) ?_;have i3:FC dm ((l.take (i+1)).map canon).flatten:=by
    have e1:(canon l[i]).take j=canon l[i]:=Bj B0;rw[e1]at j2;have e2:((l.take (i+1)).map canon).flatten=((l.take i).map canon).flatten++canon l[i]:=by
     rw[CE,hg,AG,CM];simp_all
    simp_all
   refine Xi ⟨(i+1,dm),by omega,i3⟩ ?_;exact⟨by grind,⟨⟨rfl,hid _⟩,Zr,Zr,Zr,Zr,Tv⟩,Z1,Fh,Tv⟩
 .intro h;have h:¬i<l.length:=Wk
  have i3:FC cm (l.map canon).flatten:=by
   grind
  have yJ:=i3.few;have hmk:(0:Int)<=0/\(0:Int)<=((cm.map My).length:Int)/\((cm.map My).length:Int)*((8:Nat):Int)<=140737488355328/\((cm.map My).length:Int)<=9223372036854775807:=aa1
  refine Yi hmk (Xi {p:List (Value×AV)×List Int×Option (Value×AV) // ((p.2.1.map kI)++p.1.map (·.1)).Perm ((cm.map My).map (·.1))/\∀kv∈p.1,kv∈cm.map My} (Xi (fun p=>⟨[(0,F),(5,.mref 15),(10,.msl 44 p.1.2.1.length),(46,.ref 46 0)],[(15,.rom WG (cm.map My)),(44,.arr 1 (p.1.2.1.map Gj)),(46,.iter (cm.map My) p.1.1 p.1.2.2)],Ad⟩) (Xi (fun p=>p.1.1.length) (Yi (Xi ⟨(cm.map My,[],none),.refl _,fun _ h=>h⟩ ?_) ?_))))
  .exact⟨⟨⟨rfl,hid _⟩,Zr,Zr,Zr,Tv⟩,Z3,Fh,Tv⟩
  intro⟨⟨rem,bs,Dn⟩,r1,r2⟩;have hbl:bs.length<=1000001:=by
   grind [List.length_append,Lm,List.Perm.length_eq]
  refine Yi ?_ ?_
  .intro hr;subst hr;rw[G4,B5,BI]at r1;have zp:bs.Perm (EU cm):=by
    have r1:(bs.map kI).Perm ((EU cm).map kI):=by unfold EU;rw[BI];exact r1
    have:=r1.map (fun v:Value=>match v with | .int _ n=>n | _=>0)
    rw[BI,BI]at this;have e:((fun v:Value=>match v with | .int _ n=>n | _=>0) ∘ kI)=id:=rfl;simp_all
   have CU:bs≠[]:=fun e=>by
    subst e
    have:=zp.length_eq
    have h0:=i3.keys.1;simp_all
   refine Xi (.gen [(44,1000)] 0) (Yi rfl ((xw bs B0 CU).to ?_));intro B vU;have hBl:B.length=bs.length:=vU.1.length_eq;have hBn:B.Nodup:=(vU.1.trans zp).nodup_iff.2 i3.nd;have hB:lm B cm:=⟨vU.1.trans zp,by
    grind [List.pairwise_iff_getElem]⟩
   have AaX:0<B.length:=by
    grind
   have yf:bs.length=(B.map Gj).length:=Wk
   refine Yi (by grind [A8]) (Xi {k:Nat // k<=B.length-1} (Xi (fun k=>⟨[(0,F),(5,.mref 15),(10,.msl 44 bs.length),(12,.slice (.id 12 2) ((Ee keep cm B k.1).map Ap)),(13,vi (Iq cm (B.take k.1))),(59,vi ((bs.length:Int)-1)),(60,vi k.1)],[(12,.tok 2 ((Ee keep cm B k.1).map Ap).length),(15,.rom WG (cm.map My)),(44,.arr 1 (B.map Gj))],Ad⟩) (Xi (fun k=>B.length-k.1) (Yi (Xi ⟨0,Ao _⟩ ?_) ?_))))
   .exact⟨⟨⟨rfl,hid _⟩,Zr,Zr,Zr,Zr,Zr,Zr,Tv⟩,Z3,Fh,Tv⟩
   intro⟨k,k1⟩;have qu:=U5 keep cm B k;refine Yi ?_ ?_
   .intro hk;have hk:(k:Int)<(bs.length:Int)-1:=hk;have Im:k+1<B.length:=B0
    have dY:k<B.length:=B0
    have oC:(B.map Gj)[k]?=some (Gj B[k]):=Fj (Ge dY);have Adk:(B.map Gj)[k+1]?=some (Gj B[k+1]):=Fj (Ge Im);have mK:=Qp cm B k dY;have Ae7:=kF i3 hB k dY;have oL:Ee keep cm B (k+1)=Ee keep cm B k++(if keep (Iq cm (B.take (k+1))).toNat then [(B[k],B[k+1])]else []):=by
     show _++(match B[k]?,B[k+1]? with | some a,some b=>if keep (Iq cm (B.take (k+1))).toNat then [(a,b)]else [] | _,_=>[])=_
     grind
    refine Xi ⟨[(0,F),(5,.mref 15),(10,.msl 44 bs.length),(12,.slice (.id 12 2) ((Ee keep cm B k).map Ap)),(13,vi (Iq cm (B.take k))),(14,vi k),(59,vi ((bs.length:Int)-1)),(60,vi k)],[(12,.tok 2 ((Ee keep cm B k).map Ap).length),(15,.rom WG (cm.map My)),(44,.arr 1 (B.map Gj))],Ad⟩ (Yi ⟨⟨⟨rfl,hid _⟩,Zr,Zr,Zr,Zr,Zr,Zr,Zr,Tv⟩,Z3,Fh,Tv⟩ (Yi ⟨by omega,by omega⟩ ?_));refine Yi yf (Xi (Gj B[k]) (Yi oC (Ox (vi (Fg cm B[k])) (vi 0) (Qr i3.nd B[k]) (Qs cm B[k]) (fun q=>q) (Yi (by grind [A8]) ?_))));have Cj:∀h,Pm Tryz.prog (str h F) [vi (Iq cm (B.take k)+Fg cm B[k])] (vb (keep (Iq cm (B.take (k+1))).toNat)):=fun h=>by
     grind
    refine BK (Bt (keep (Iq cm (B.take (k+1))).toNat)) (fun hp=>?_) (fun hp=>?_)
    .rw[hp]at Cj;rw[hp,As rfl]at oL;refine Xi .pure (Xi (vb true) (Yi (Cj _) (Xi ⟨[(0,F),(5,.mref 15),(10,.msl 44 bs.length),(12,.slice (.id 12 2) ((Ee keep cm B k).map Ap)),(13,vi (Iq cm (B.take k)+Fg cm B[k])),(14,vi k),(59,vi ((bs.length:Int)-1)),(60,vi k)],[(12,.tok 2 ((Ee keep cm B k).map Ap).length),(15,.rom WG (cm.map My)),(44,.arr 1 (B.map Gj))],Ad⟩ (Yi ⟨⟨⟨rfl,hid _⟩,Zr,Zr,Zr,Zr,Zr,Zr,Zr,Tv⟩,Z3,Fh,Tv⟩ ?_))))
     have b1:(0:Int)<=(k:Int)+1/\(k:Int)+1<bs.length:=B0
     have yr:(B.map Gj)[((k:Int)+1).toNat]?=some (Gj B[k+1]):=aa1
     refine Yi ⟨by omega,by omega⟩ ?_;refine Yi yf (Xi (Gj B[k]) (Yi oC (Yi (Ii k B0) (Yi b1 (Yi yf (Xi (Gj B[k+1]) (Yi yr ?_)))))));have DG:BX 2 [[vi B[k],vi B[k+1]]]/\((Ee keep cm B k).map Ap).length=((Ee keep cm B k).map Ap).length/\(((Ee keep cm B k).map Ap).length+[[vi B[k],vi B[k+1]]].length)*16<=140737488355328/\((Ee keep cm B k).map Ap).length+[[vi B[k],vi B[k+1]]].length<=9223372036854775807:=
      ⟨⟨rfl,trivial⟩,rfl,by grind,by grind⟩
     refine Yi DG (Yi aa3 (Xi ⟨[(0,F),(5,.mref 15),(10,.msl 44 bs.length),(12,.slice (.id 12 2) ((Ee keep cm B k).map Ap++[[vi B[k],vi B[k+1]]])),(13,vi (Iq cm (B.take k)+Fg cm B[k])),(59,vi ((bs.length:Int)-1)),(60,vi k)],[(12,.tok 2 (((Ee keep cm B k).map Ap).length+[[vi B[k],vi B[k+1]]].length)),(15,.rom WG (cm.map My)),(44,.arr 1 (B.map Gj))],Ad⟩ (Yi ⟨⟨⟨rfl,hid _⟩,Zr,Zr,Zr,Zr,Zr,Zr,Tv⟩,Z3,Fh,Tv⟩ (Yi (Ii k B0) (Xi ⟨k+1,by omega⟩ ?_)))));have e1:AV.slice (.id 12 2) ((Ee keep cm B k).map Ap++[[vi B[k],vi B[k+1]]])=.slice (.id 12 2) ((Ee keep cm B (k+1)).map Ap):=aa1
     have e2:vi (Iq cm (B.take k)+Fg cm B[k])=vi (Iq cm (B.take (k+1))):=aa1
     have e3:HO.tok 2 (((Ee keep cm B k).map Ap).length+[[vi B[k],vi B[k+1]]].length)=.tok 2 ((Ee keep cm B (k+1)).map Ap).length:=aa1
     exact⟨by grind,⟨⟨rfl,hid _⟩,Zr,Zr,⟨e1,rfl⟩,⟨e2,rfl⟩,Zr,Zr,Tv⟩,⟨⟨e3,rfl⟩,Zr,Zr,Tv⟩,Fh,Tv⟩
    .rw[hp]at Cj;have oL:Ee keep cm B (k+1)=Ee keep cm B k:=aa1
     refine Xi .pure (Xi (vb false) (Yi (Cj _) (Xi ⟨[(0,F),(5,.mref 15),(10,.msl 44 bs.length),(12,.slice (.id 12 2) ((Ee keep cm B k).map Ap)),(13,vi (Iq cm (B.take k)+Fg cm B[k])),(59,vi ((bs.length:Int)-1)),(60,vi k)],[(12,.tok 2 ((Ee keep cm B k).map Ap).length),(15,.rom WG (cm.map My)),(44,.arr 1 (B.map Gj))],Ad⟩ (Yi ⟨⟨⟨rfl,hid _⟩,Zr,Zr,Zr,Zr,Zr,Zr,Tv⟩,Z3,Fh,Tv⟩ (Yi (by grind [A8]) (Xi ⟨k+1,by omega⟩ ?_))))));have e1:AV.slice (.id 12 2) ((Ee keep cm B k).map Ap)=.slice (.id 12 2) ((Ee keep cm B (k+1)).map Ap):=aa1
     have e2:vi (Iq cm (B.take k)+Fg cm B[k])=vi (Iq cm (B.take (k+1))):=aa1
     have e3:HO.tok 2 ((Ee keep cm B k).map Ap).length=.tok 2 ((Ee keep cm B (k+1)).map Ap).length:=aa1
     exact⟨by grind,⟨⟨rfl,hid _⟩,Zr,Zr,⟨e1,rfl⟩,⟨e2,rfl⟩,Zr,Zr,Tv⟩,⟨⟨e3,rfl⟩,Zr,Zr,Tv⟩,Fh,Tv⟩
   .intro hk;have hk:¬(k:Int)<(bs.length:Int)-1:=hk;have Im:k=B.length-1:=B0
    have yz:canon (Ee keep cm B k)=R:=by
     grind [Sh,jl]
    have hc:=Xb (Ee keep cm B k) B0;rw[yz]at hc;refine Xi .pure (Xi _ (Yi hc ?_));exact .refl _
  .intro kv O0 hp;refine A1 (Ar.1 (r2 kv (hp.mem_iff.2 (Ae ..)))) (fun q hq=>?_);have ws:=hq.2;subst ws;refine Xi ⟨[(0,F),(5,.mref 15),(10,.msl 44 bs.length),(46,.ref 46 0)],[(15,.rom WG (cm.map My)),(44,.arr 1 (bs.map Gj)),(46,.iter (cm.map My) O0 (some (My q)))],Ad⟩ (Yi ⟨⟨⟨rfl,hid _⟩,Zr,Zr,Zr,Tv⟩,Z3,Fh,Tv⟩ ?_)
   have DG:BX 1 [Gj q.1]/\(bs.map Gj).length=bs.length/\((bs.map Gj).length+[Gj q.1].length)*8<=140737488355328/\(bs.map Gj).length+[Gj q.1].length<=9223372036854775807:=
    ⟨⟨rfl,trivial⟩,by simp_all,by grind,by grind⟩
   refine Yi DG ?_;have e1:AV.msl 44 ((bs.map Gj).length+[Gj q.1].length)=.msl 44 (bs++[q.1]).length:=aa0
   have e2:HO.arr 1 (bs.map Gj++[Gj q.1])=.arr 1 ((bs++[q.1]).map Gj):=aa0
   refine Xi ⟨(O0,bs++[q.1],some (My q)),?_,fun kv dZ=>r2 kv (hp.mem_iff.2 (Ah _ dZ))⟩ ?_
   .grind [List.Perm.append_left,List.Perm.trans,List.Perm.symm]
   .exact⟨by show O0.length<rem.length;rw[hp.length_eq];simp,⟨⟨rfl,hid _⟩,Zr,⟨e1,rfl⟩,Zr,Tv⟩,⟨Zr,⟨e2,rfl⟩,Zr,Tv⟩,Fh,Tv⟩
theorem xk(l:List Ba):PC 390 [vi n,.cptr [sl F4 l]] (vb (decide (n=l.length))):=by
 refine Ps Ea Tryz.func390 rfl (Nz rfl) ?_;have e:((l.map F4).length:Int)=l.length:=Wk
 refine Yi ?_ ?_
 .intro h;rw[show decide (n=(l.length:Int))=true from Ay (h.trans e)];exact .refl _
 .intro h;rw[show decide (n=(l.length:Int))=false from Au (fun c=>h (c.trans e.symm))];exact .refl _
theorem xm:PC 342 [vi n] (vb (decide (n=0))):=by
 refine Ps Ea Tryz.func342 rfl (Nz rfl) (Yi ?_ ?_)
 .intro h;rw[Ay h];exact .refl _
 .intro h;rw[Au h];exact .refl _
theorem xM:PC 378 [vi n] (vb (decide (0<n))):=by
 refine Ps Ea Tryz.func378 rfl (Nz rfl) (Yi ?_ ?_)
 .intro h;rw[Ay h];exact .refl _
 .intro h;rw[Au h];exact .refl _
theorem jj(l:List Ba)(p:Int):decide (ib l p=l.length)=l.all fun s=>has s p:=by
 grind [ib,List.countP_eq_length]
theorem jk(l:List Ba)(p:Int):decide (0<ib l p)=l.any fun s=>has s p:=by
 grind [ib,List.countP_pos_iff]
theorem xb(l:List Ba)(hl:Cz l)(hs:∀s∈l,Cz s):PC 376 [sl F4 l] (sl Ap (PJ l)):=by
 have hc:=pJ (.clo 390 [.cptr [sl F4 l]]) (fun n=>decide (n=l.length)) l hl hs (fun _=>rfl) (fun h n h0 _=>by
  have:=xk n l
  have e:decide (n=(l.length:Int))=decide (n.toNat=l.length):=aa1
  rw[e]at this;exact this) (PJ l) (Wm l) fun p=>by rw[SK,jj]
 refine Ps (li [1]) Tryz.func376 rfl (Nz rfl) (Xi .pure (Xi _ (Yi (hc) ?_)));exact .refl _
theorem pE(hs:Cz s):PC 295 [sl Ap s] (sl Ap (EB s)):=by
 have hc:=pJ (.v (Gz 342)) (fun n=>decide (n=0)) [s] Wk (fun t ht=>by simp_all) (fun _=>rfl) (fun h n h0 _=>by
  have:=xm n
  have e:decide (n=0)=decide (n.toNat=0):=aa1
  rw[e]at this;exact this) (EB s) (GW s) fun p=>by
   grind [FK,ib]
 refine Ps Ea Tryz.func295 rfl (Nz rfl) (Xi .pure (Xi _ (Yi (hc) ?_)));exact .refl _
theorem xJ(l:List Ba)(hl:Cz l)(hs:∀s∈l,Cz s):PC 352 [sl F4 l] (sl Ap (Qq l)):=by
 have hc:=pJ (.v (Gz 378)) (fun n=>decide (0<n)) l hl hs (fun _=>rfl) (fun h n h0 _=>by
  have:=xM n
  have e:decide (0<n)=decide (0<n.toNat):=Wk
  rw[e]at this;exact this) (Qq l) (WL l) fun p=>by
   grind [SL,jk,PE,Ru]
 refine Ps Ea Tryz.func352 rfl (Nz rfl) (Xi .pure (Xi _ (Yi (hc) ?_)));exact .refl _
-- terms
theorem c59(ht:Cz t.set):PC 348 [.agg (Az t)] (vb (!t.absent&&(canon t.set).isEmpty)):=by
 refine Ps Ea Tryz.func348 rfl (Nz rfl) (Yi ?_ ?_)
 .intro h;rw[h];exact .refl _
 .intro h;refine Xi .pure (Xi _ (Yi (Xb t.set ht) (Yi ?_ ?_)))
  .intro h2;have h2:canon t.set=[]:=AU Wk;rw[h,h2];exact .refl _
  .intro h2;have h2:(canon t.set).isEmpty=false:=by
    simp_all
   rw[h,h2];exact .refl _
theorem c60(ht:Cz t.set):PC 349 [.agg (Az t)] (vb (t.absent&&(EB t.set).isEmpty)):=by
 refine Ps Ea Tryz.func349 rfl (Nz rfl) (Yi ?_ ?_)
 .intro h;refine Xi .pure (Xi _ (Yi (pE t.set ht) (Yi ?_ ?_)))
  .intro h2;have h2:EB t.set=[]:=AU Wk;rw[h,h2];exact .refl _
  .intro h2;have h2:(EB t.set).isEmpty=false:=by
    simp_all
   rw[h,h2];exact .refl _
 .intro h;rw[h];exact .refl _
abbrev Eu(l:List Nat):Nm:=⟨[],[],[],[],[],[],[],[],[],[],l⟩
theorem c58(hu:Cz u.set)(ht:Cz t.set):PC 347 [.agg (Az u),.agg (Az t)] (.agg (Az (GC u t))):=by
 have hc:PC 376 [sl F4 [u.set,t.set]] (sl Ap (OI u.set t.set)):=xb [u.set,t.set] Wk (fun s hs=>by
  grind)
 refine Ps (Eu []) Tryz.func347 rfl (Nz rfl) (Yi ?_ ?_)
 .intro h;refine Yi ?_ ?_
  .intro h2;have e:[vs u.path,vb true,sl Ap (OI u.set t.set)]=Az (GC u t):=by grind [GC]
   refine Xi _ (Yi (hc) (Yi (Nz rfl) (Yi aa3 (yN ?_))));exact .of_eq (Ab AV.agg e)
  .intro h2;have e:[vs u.path,vb false,sl Ap (OI u.set t.set)]=Az (GC u t):=by grind [GC]
   refine Xi _ (Yi (hc) (Yi (Nz rfl) (Yi aa3 (yN ?_))));exact .of_eq (Ab AV.agg e)
 .intro h;have e:[vs u.path,vb false,sl Ap (OI u.set t.set)]=Az (GC u t):=by grind [GC]
  refine Xi _ (Yi (hc) (Yi (Nz rfl) (Yi aa3 (yN ?_))));exact .of_eq (Ab AV.agg e)
theorem xE(hu:Cz u.set)(ht:Cz t.set):PC 298 [.agg (Az u),.agg (Az t)] (.agg (Az (CX u t))):=by
 have hc:PC 352 [sl F4 [u.set,t.set]] (sl Ap (Pg u.set t.set)):=xJ [u.set,t.set] Wk (fun s hs=>by
  grind)
 refine Ps (Eu []) Tryz.func298 rfl (Nz rfl) (Yi ?_ ?_)
 .intro h;have e:[vs u.path,vb true,sl Ap (Pg u.set t.set)]=Az (CX u t):=by grind [CX]
  refine Xi _ (Yi (hc) (Yi (Nz rfl) (Yi aa3 (yN ?_))));exact .of_eq (Ab AV.agg e)
 .intro h;refine Yi ?_ ?_
  .intro h2;have e:[vs u.path,vb true,sl Ap (Pg u.set t.set)]=Az (CX u t):=by grind [CX]
   refine Xi _ (Yi (hc) (Yi (Nz rfl) (Yi aa3 (yN ?_))));exact .of_eq (Ab AV.agg e)
  .intro h2;have e:[vs u.path,vb false,sl Ap (Pg u.set t.set)]=Az (CX u t):=by grind [CX]
   refine Xi _ (Yi (hc) (Yi (Nz rfl) (Yi aa3 (yN ?_))));exact .of_eq (Ab AV.agg e)
theorem sA(hq:Cz q.set):PC 293 [.agg (Af q)] (.agg (Az (Dm q))):=by
 refine Ps Ea Tryz.func293 rfl (Nz rfl) (Xi _ (Yi (pE q.set hq) (Yi (Nz rfl) (Yi aa3 (yN ?_)))));exact .refl _
abbrev Cc:Er:=⟨false,[.str]⟩
abbrev Te:Value×AV:=(.string t.path,.agg (Az t))
abbrev uF(fin cut:List Nat):Nm:=⟨[],[],[],[],fin,[],[],[],[],[],cut⟩
theorem cc{p:ByteArray}{a:AV}:(Value.string p,a)∈m.map Te↔∃t∈m,t.path=p/\a=.agg (Az t):=by
 grind
theorem jt(m:List Tm)(t:Tm):EF (m.map Te) (.string t.path) (.agg (Az t))=(Wz m t).map Te:=by
 unfold Wz
 by_cases h:(m.any fun u=>decide (u.path=t.path))=true
 .rw[As h];obtain⟨u,h1,h2⟩:=CB.1 h;have h2:=BR h2
  have:(Value.string t.path,AV.agg (Az u))∈m.map Te:=cc.2 ⟨u,h1,h2,rfl⟩
  rw[PP this,BI,BI]
  grind [List.map_congr_left]
 grind [J6]
theorem iA(hn:(Ey m).Nodup)(p:ByteArray){K:AV->Prop}{Z:Prop}(hy:∀u,Df m p=some u->K (.agg (Az u)))(OF:Df m p=none->Z) :
  (∀a,(Value.string p,a)∈m.map Te->K a)/\((∀a,(Value.string p,a)∉m.map Te)->Z):=
 ⟨fun a h=>by
  grind [QL],fun h=>OF (by
  cases e:Df m p with
  |none=>rfl
  |some u=>exact absurd (cc.2 ⟨u,Gk e,Kw e,rfl⟩) (h _))⟩
theorem RD{t:Tm}(h:En t.set):Cz t.set:=by
 grind [HG]
theorem c57(hl:Cz l)(hs:∀t∈l,Cz t.set):PC 346 [sl Az l,.v (Gz 347)] (.cmap Cc ((Dc l).map Te)):=by
 refine Ps (uF [10] []) Tryz.func346 rfl (Nz rfl) (Xi {i:Nat // i<=l.length} (Xi (fun i=>⟨[(0,sl Az l),(1,.v (Gz 347)),(5,.mref 10),(11,sl Az l),(12,vi (l.map Az).length),(13,vi i.1)],[(10,.map Cc ((Dc (l.take i.1)).map Te))],Ad⟩) (Xi (fun i=>l.length-i.1) (Yi (Xi ⟨0,Ao _⟩ ?_) ?_))))
 .exact⟨Z6,Z1,Fh,Tv⟩
 intro⟨i,h1⟩;have hn:=Ht (l.take i);refine Yi ?_ ?_
 .intro h;have h:i<l.length:=Wk
  have hg:l[i]?=some l[i]:=Ge h;refine Xi (Az l[i]) (Yi (Yi B0 Wk) (Yi rfl ?_));refine Yi (Nz rfl) (yN ?_);have Fi:=hs l[i] (Am h);have tail:∀u:Tm,Cz u.set->GC u l[i]=Rv (Df (Dc (l.take i)) l[i].path) l[i]->EF ((Dc (l.take i)).map Te) (.string l[i].path) (.agg (Az (GC u l[i])))=(Dc (l.take (i+1))).map Te:=fun u hu e=>by
   have hp:(Rv (Df (Dc (l.take i)) l[i].path) l[i]).path=l[i].path:=PZ _ _ fun u h=>Kw h;have e2:=jt (Dc (l.take i)) (GC u l[i]);have e3:(GC u l[i]).path=l[i].path:=Wk
   rw[e3]at e2;rw[e2,QV l i h,e];rfl
  refine iA hn l[i].path (fun u hu=>?_) (fun hu=>?_)
  .have LQ:Cz u.set:=RD (OL _ u (Gk hu));refine yN ?_;have AP:=tail u LQ (by grind [cG]);refine Yi (Nz rfl) (yN (Xi _ (Yi (c58 u l[i] LQ Fi) (Yi aa3 (Yi (by show A8 ((i:Int)+1);grind [A8]) (Xi ⟨i+1,by omega⟩ ?_))))));have e1:HO.map Cc (EF ((Dc (l.take i)).map Te) (.string l[i].path) (.agg (Az (GC u l[i]))))=.map Cc ((Dc (l.take (i+1))).map Te):=Wk
   exact⟨by grind,Z6,⟨⟨e1,rfl⟩,Tv⟩,Fh,Tv⟩
  .refine yN (Yi (Nz rfl) (yN ?_));have AP:=tail l[i] Fi (by grind [cG]);refine Yi (Nz rfl) (yN (Xi _ (Yi (c58 l[i] l[i] Fi Fi) (Yi aa3 (Yi (by grind [A8]) (Xi ⟨i+1,by omega⟩ ?_))))));have e1:HO.map Cc (EF ((Dc (l.take i)).map Te) (.string l[i].path) (.agg (Az (GC l[i] l[i]))))=.map Cc ((Dc (l.take (i+1))).map Te):=Wk
   exact⟨by grind,Z6,⟨⟨e1,rfl⟩,Tv⟩,Fh,Tv⟩
 .intro h;have h:¬i<l.length:=Wk
  have e:(Dc (l.take i)).map Te=(Dc l).map Te:=aa1
  exact .of_eq (Ab (AV.cmap Cc) e)
abbrev Kl:AV:=.tup [sl Az (PT l),vb (CD l).isSome]
abbrev zO:Nm:=⟨[],[],[(4,3)],[],[],[],[],[],[],[(25,4)],[]⟩
abbrev br:HO:=.arr 3 (l.map Az)
abbrev Gs:List Tm:=l.filter fun t=>!GJ t
theorem m8{l:List Tm}{kv:Value×AV}{O0 : List (Value×AV)}(h:(l.map Te).Perm (kv::O0)):∃t r,kv=Te t/\O0=r.map Te/\l.Perm (t::r):=by
 obtain⟨ps,h1,h2⟩:=Ma h l rfl;cases ps<;>grind
theorem Xc{l:List Tm}{t:Tm}(h:t∈Dc l)(hn:Io t=true):CD l=none:=by
 grind [CD,IT]
theorem ZJ{l done s:List Tm}(h:done.Perm (Dc l))(hn:∀t∈done,Io t=false)(hp:s.Perm (Gs done))(hs:s.Pairwise fun x y=>E0 y.path x.path=false):CD l=some s:=by
 unfold CD;rw[AB]
 .congr 1
  exact(Pt _ (hp.trans (h.filter _)) hs).symm
 grind [IT]
theorem eJ:(Gs l).length<=l.length:=CL _ _
theorem vP(hl:Cz l)(hs:∀t∈l,Cz t.set):PC 297 [sl Az l] (Kl l):=by
 have d7:l.length<=1073741824:=hl;have wl:(Dc l).length<=l.length:=by grind [NL,List.take_length]
 refine Ps zO Tryz.func297 rfl (Nz rfl) (Xi .pure (Xi _ (Yi (c57 l hl hs) (Xi {p:List Tm×List Tm×Option (Value×AV) // (p.1++p.2.1).Perm (Dc l)/\∀t∈p.1,Io t=false} (Xi (fun p=>⟨[(4,.msl 4 (Gs p.1.1).length),(9,.ref 9 0)],[(4,br (Gs p.1.1)),(9,.iter ((Dc l).map Te) (p.1.2.1.map Te) p.1.2.2)],Ad⟩) (Xi (fun p=>p.1.2.1.length) (Yi (Xi ⟨([],Dc l,none),.refl _,fun t ht=>by cases ht⟩ ?_) ?_)))))))
 .exact⟨Z2,Z2,Fh,Tv⟩
 intro⟨⟨done,rem,Dn⟩,r1,r2⟩;have r1:(done++rem).Perm (Dc l):=r1;have hdl:done.length+rem.length<=l.length:=by grind [List.length_append,List.Perm.length_eq]
 have qu:=eJ done;refine Yi ?_ ?_
 .intro hr;have hr:rem=[]:=DO.1 hr;subst hr;rw[B5]at r1;refine Xi (.gen [(4,1000)] 0) (Yi rfl ((c61 (Gs done) B0).to ?_));intro s hq;have JZ:s.length=(Gs done).length:=hq.1.length_eq;have hc:=ZJ r1 r2 hq.1 hq.2;refine Yi Wk ?_;have e:AV.tup [sl Az s,vb true]=Kl l:=by grind [PT]
  exact .of_eq e
 .intro kv O0 hp;refine A1 (m8 hp) (fun t hp=>A1 hp (fun r hp=>?_));have e1:=hp.1;have e2:=hp.2.1;subst e1;subst e2;have hp:=hp.2.2;have wA:t∈Dc l:=r1.mem_iff.1 (Ca _ (hp.mem_iff.2 (Ae ..)));have zB:=OL l t wA;have htf:=RD zB;refine Yi (Nz rfl) (yN ?_);have hv:PC 348 [.agg (Az t)] (vb (Io t)):=jx zB▸c59 t htf;have ha:PC 349 [.agg (Az t)] (vb (GJ t)):=dh zB▸c60 t htf;refine BK (Bt (Io t)) (fun h=>?_) (fun h=>?_)
  .rw[h]at hv;refine Xi .pure (Xi _ (Yi (hv) ?_));have hc:=Xc wA h;have e:AV.tup [.slice .none [],vb false]=Kl l:=by grind [PT]
   have e0:DW (.tup [nzA,vb false]) (.tup [.slice .none [],vb false]):=DW.tup ⟨.nil,.refl _,trivial⟩;exact e0.trans (.of_eq e)
  .rw[h]at hv;refine Xi .pure (Xi _ (Yi (hv) (yN ?_)));have bT:((done++[t])++r).Perm (Dc l):=by
    grind
   have hnv:∀u∈done++[t],Io u=false:=fun u hu=>by
    grind
   have hrl:r.length<rem.length:=by grind [List.length_cons,List.Perm.length_eq]
   refine BK (Bt (GJ t)) (fun h2=>?_) (fun h2=>?_)
   rotate_left
   .rw[h2]at ha;refine Xi .pure (Xi _ (Yi (ha) ?_));have DG:BX 3 [Az t]/\((Gs done).map Az).length=(Gs done).length/\(((Gs done).map Az).length+[Az t].length)*48<=140737488355328/\((Gs done).map Az).length+[Az t].length<=9223372036854775807:=
     ⟨⟨rfl,trivial⟩,by simp_all,by grind,by grind⟩
    refine yN (Yi DG ?_);have hk:Gs (done++[t])=Gs done++[t]:=Wk
    have e1:AV.msl 4 (((Gs done).map Az).length+[Az t].length)=.msl 4 (Gs (done++[t])).length:=Wk
    have e2:HO.arr 3 ((Gs done).map Az++[Az t])=br (Gs (done++[t])):=Wk
    refine Xi ⟨(done++[t],r,some (Te t)),bT,hnv⟩ ?_;exact⟨hrl,⟨⟨e1,rfl⟩,Zr,Tv⟩,⟨⟨e2,rfl⟩,Zr,Tv⟩,Fh,Tv⟩
   .rw[h2]at ha;refine Xi .pure (Xi _ (Yi (ha) ?_));have hk:Gs (done++[t])=Gs done:=Wk
    have e1:AV.msl 4 (Gs done).length=.msl 4 (Gs (done++[t])).length:=by rw[hk]
    have e2:br (Gs done)=br (Gs (done++[t])):=by rw[hk]
    refine Xi ⟨(done++[t],r,some (Te t)),bT,hnv⟩ ?_;exact⟨hrl,⟨⟨e1,rfl⟩,Zr,Tv⟩,⟨⟨e2,rfl⟩,Zr,Tv⟩,Fh,Tv⟩
theorem pU(hl:Cz l)(hs:∀t∈l,Cz t.set):PC 292 [sl Az l] (sl Az (PT l)):=by
 refine Ps Ea Tryz.func292 rfl (Nz rfl) (Xi .pure (Xi _ (Yi (vP l hl hs) ?_)));exact .refl _
theorem PA:Cz (EB s):=by
 grind [HG,GW]
theorem sT:Cz [x]:=Wk
theorem x7(y:α):Cz [x,y]:=Wk
theorem sr(hq:Cz q.set):PC 225 [.agg (Af q)] (sl Az (Gt q)):=by
 have hc:PC 292 [sl Az [Dm q]] (sl Az (Gt q)):=pU [Dm q] (sT _) fun t ht=>by rw[AC.1 ht];exact PA _
 refine Ps Ea Tryz.func225 rfl (Nz rfl) (yN (Xi .pure (Xi _ (Yi (sA q hq) (Xi .pure (Xi _ (Yi (hc) ?_)))))));exact .refl _
theorem su(pl:Int)(q:Rq)(hp:A8 (pl+1))(hq:Cz q.set):PC 226 [vs p,vi pl,.agg (Af q)] (sl Az (CW p pl q)):=by
 have hc:PC 292 [sl Az [⟨p,false,[(pl,pl+1)]⟩,Dm q]] (sl Az (CW p pl q)):=pU [⟨p,false,[(pl,pl+1)]⟩,Dm q] (x7 _ _) fun t ht=>by
  rcases AM.1 ht with rfl | ht
  .simp_all
  .rw[AC.1 ht];exact PA _
 refine Ps Ea Tryz.func226 rfl (Nz rfl) (Yi hp (yN (Xi .pure (Xi _ (Yi (sA q hq) (Xi .pure (Xi _ (Yi (hc) ?_))))))));exact .refl _
theorem pP(hs:Cz s):PC 229 [vs p,sl Ap s] (sl Az (E3 p s)):=by
 have hc:PC 292 [sl Az [⟨p,false,EB s⟩]] (sl Az (E3 p s)):=pU [⟨p,false,EB s⟩] (sT _) fun t ht=>by grind [PA]
 refine Ps Ea Tryz.func229 rfl (Nz rfl) (Xi .pure (Xi _ (Yi (pE s hs) (Xi .pure (Xi _ (Yi (hc) ?_))))));exact .refl _
end Go.Eng
