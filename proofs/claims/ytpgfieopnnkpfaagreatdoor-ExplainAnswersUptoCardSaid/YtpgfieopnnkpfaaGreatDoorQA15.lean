/- Lemmas 15. -/
import Derived.Test.YtpgfieopnnkpfaaGreatDoorQA14
import Derived.Test.YtpgfieopnnkpfaaGreatDoorQA02
import Derived.Shelf.SlSortCmp.NoneTotal
namespace Go.Eng
open Go.Proofs
end Go.Eng
namespace Go.Eng
open Go.Proofs Go.Shelf Go.RowKit Go.Lib Go.Sort
variable (k:Nat)
theorem cI(x y:SpA):ltOf cfSpA x y=decide (x.1.1<y.1.1):=by
 unfold ltOf cfSpA;rw[Gn];simp only[Bg];omega
theorem lJ:SWO (ltOf cfSpA) where
 irrefl x:=by rw[cI];simp
 trans x y z h1 h2:=by rw[cI]at *;simp at *;omega
 ntrans x y z h1 h2:=by rw[cI]at *;simp at *;omega
theorem YF:∀x y:List UInt8,decide (Lib.compareBytes x y<0)=Ki x y
 | [],[]=>rfl
 | [],_::_=>rfl
 |_::_,[]=>rfl
 |a::x,b::y=>by
  unfold Lib.compareBytes Ki
  by_cases h:a<b
  .simp[h]
  .by_cases h2:b<a
   .have:¬a=b:=fun e=>by subst e;exact absurd h2 (UInt8.lt_irrefl a)
    simp[h,h2,this]
   .have e:a=b:=UInt8.le_antisymm (UInt8.not_lt.1 h2) (UInt8.not_lt.1 h);subst e;simp[UInt8.lt_irrefl,YF x y]
theorem cJ(x y:TmA):ltOf cfTmA x y=G1 x.1 y.1:=YF _ _
theorem lK:SWO (ltOf cfTmA) where
 irrefl x:=by rw[cJ];exact FF _
 trans x y z h1 h2:=by rw[cJ]at *;exact HT h1 h2
 ntrans x y z h1 h2:=by
  rw[cJ]at *
  rw[DQ];intro h;cases hyx:G1 y.1 x.1 with
  |true=>have:=HT hyx h;rw[h2]at this;cases this
  |false=>
   have e:=Q8 h1 hyx;rw[e]at h;rw[h2]at h;cases h
abbrev Hc:Value:=.func (.func k) #[] #[]
theorem iX {fn : Func}{c : Code}(hf : Tryz.prog.funcs[k]? = some fn)(hn : (fn.name == "runtime.NumGoroutine") = false)(hb : fn.body = some c) : GM Tryz.prog k := eD hf hn hb
theorem xT(l:List (Int×Int))(hl:BB l)(h:∀x∈l,0<=x.1/\x.1<=1000000)(lim:Nat)(jV:lim<100) :
  Cq Tryz.prog 257 [.msl 1000 l.length,vi 0,vi l.length,vi lim,.v (Hc 185)] (Ar [(1000,.arr 2 (l.map Ab))] Af) fun r h'=>
   r=.tup []/\∃l' : List (Int×Int),l'.Perm l/\l'.Pairwise (fun x y=>x.1<=y.1)/\h'=Ar [(1000,.arr 2 (l'.map Ab))] Af:=by
 have hl:l.length<=1073741824:=hl;have hE:GM Tryz.prog 257:=iX 257 Tryz.func257 aa3 rfl;have eg:∀args w,(callFunc 185 args).run Tryz.prog w=.ok (.enter 185 args) w:=enters_of Tryz.func185 aa3 rfl;have Qu:=Ly (P:=Tryz.prog) (f:=257) (α:=SpA) (rest:=[.int .i64 0,.int .i64 l.length,.int .i64 lim,Hc 185]) hE Ab encSpA (k:=2) (fun _=>rfl) (fun _=>rfl) (ltOf cfSpA) (fun x a=>a.1=x) l aa0 ?_ ?_ ?_
 .refine⟨hE,fun g w vals q1 q2 q3=>(Qu.2 g w vals q1 q2 q3).mono fun _ _ ⟨v,r,h',g',e1,⟨e2,l',p1,⟨al,a1,a2,a3⟩,p2⟩,rest⟩=>⟨v,r,h',g',e1,⟨e2,l',p1,?_,p2⟩,rest⟩⟩;rw[DM]at a3⊢;intro i j hi hj jT
  have:=a3 i j aa0 aa0 jT
  rw[cI]at this;have e1:=a2 i _ _ (AI hi) (AI aa0);have e2:=a2 j _ _ (AI hj) (AI aa0);rw[<-e1,<-e2]
  have:=of_decide_eq_false this
  omega
 .intro x hx g w vs hr
  match vs,hr with
  | [a,b],hr=>
   have h1:=(hr.2.2 0 (vi x.1) a rfl rfl).v_eq;have h2:=(hr.2.2 1 (vi x.2) b rfl rfl).v_eq;subst h1;subst h2;exact⟨⟨x,h x hx⟩,rfl,rfl⟩
  | [],hr=>have:=hr.1;simp at this
  | [_],hr=>have:=hr.1;simp at this
  |_::_::_::_,hr=>have:=hr.1;simp at this
 .intro w b cap d hH hb FM QY;have qR:CmpLays Tryz.prog 185 #[] encSpA 2 cfSpA b 0 d.size w:=fun _ _ _ _ x y=>Tryz.closure185 x y _;have hp:=AnyQ.pdqsortCmpFunc_all Tryz.layPdqSpan 2 Tryz.isAgg85 Tryz.sizeOf85 encSpA cfSpA 185 #[] lJ b 0 cap d w eg qR ⟨fun _=>rfl,fun x v hv=>by simp[encSpA]at hv;rcases hv with rfl | rfl<;>rfl,hH,hb⟩ (d.size+1) 0 d.size lim d w aa0 rfl (SWK.start hH) (Ao _) (Aq _) FM aa0 (Or.inl rfl)
  rw[QY]at hp⊢;refine hp.mono ?_
  rintro e w' ⟨rfl,n,os,rfl⟩
  have h:=pdq_sorts (ltOf cfSpA) lJ d 0 d.size lim true true (Ao _) (Aq _) (Or.inl rfl);rw[QY]at h;exact⟨rfl,_,n,os,h.1,h.2,rfl⟩
 .intro e w;subst e;exact AnyF.pdqsortCmpFunc_none Tryz.layPdqSpan none 0 lim (Hc 185) w
theorem xo(l:List Tm)(hl:BB l)(lim:Nat)(jV:lim<100) :
  Cq Tryz.prog 120 [.msl 1000 l.length,vi 0,vi l.length,vi lim,.v (Hc 70)] (Ar [(1000,.arr 3 (l.map Ac))] Af) fun r h'=>
   r=.tup []/\∃l' : List Tm,l'.Perm l/\l'.Pairwise (fun x y=>G1 y.path x.path=false)/\h'=Ar [(1000,.arr 3 (l'.map Ac))] Af:=by
 have hl:l.length<=1073741824:=hl;have hE:GM Tryz.prog 120:=iX 120 Tryz.func120 aa3 rfl;have eg:∀args w,(callFunc 70 args).run Tryz.prog w=.ok (.enter 70 args) w:=enters_of Tryz.func70 aa3 rfl;have Qu:=Ly (P:=Tryz.prog) (f:=120) (α:=TmA) (rest:=[.int .i64 0,.int .i64 l.length,.int .i64 lim,Hc 70]) hE Ac encTmA (k:=3) (fun _=>rfl) (fun _=>rfl) (ltOf cfTmA) (fun x a=>a.1=x.path) l aa0 ?_ ?_ ?_
 .refine⟨hE,fun g w vals q1 q2 q3=>(Qu.2 g w vals q1 q2 q3).mono fun _ _ ⟨v,r,h',g',e1,⟨e2,l',p1,⟨al,a1,a2,a3⟩,p2⟩,rest⟩=>⟨v,r,h',g',e1,⟨e2,l',p1,?_,p2⟩,rest⟩⟩;rw[DM]at a3⊢;intro i j hi hj jT
  have:=a3 i j aa0 aa0 jT
  rw[cJ]at this;have e1:=a2 i _ _ (AI hi) (AI aa0);have e2:=a2 j _ _ (AI hj) (AI aa0);rw[<-e1,<-e2];exact this
 .intro x hx g w vs hr
  match vs,hr with
  | [a,b,c],hr=>
   have h1:=(hr.2.2 0 (Go.Eng.vs x.path) a rfl rfl).v_eq;subst h1;exact⟨⟨x.path,⟨b,hr.2.1 b aa1⟩,⟨c,hr.2.1 c aa1⟩⟩,rfl,rfl⟩
  | [],hr=>have:=hr.1;simp at this
  | [_],hr=>have:=hr.1;simp at this
  | [_,_],hr=>have:=hr.1;simp at this
  |_::_::_::_::_,hr=>have:=hr.1;simp at this
 .intro w b cap d hH hb FM QY;have qR:CmpLays Tryz.prog 70 #[] encTmA 3 cfTmA b 0 d.size w:=fun _ _ _ _ x y=>Tryz.closure70 x y _;have hp:=AnyQ.pdqsortCmpFunc_all Tryz.layPdqTerm 3 Tryz.isAgg29 Tryz.sizeOf29 encTmA cfTmA 70 #[] lK b 0 cap d w eg qR ⟨fun _=>rfl,fun x v hv=>by
    simp only[encTmA,AN,Eb,L7]at hv;rcases hv with rfl | rfl | rfl
    .rfl
    .exact x.2.1.2
    .exact x.2.2.2,hH,hb⟩ (d.size+1) 0 d.size lim d w aa0 rfl (SWK.start hH) (Ao _) (Aq _) FM aa0 (Or.inl rfl)
  rw[QY]at hp⊢;refine hp.mono ?_
  rintro e w' ⟨rfl,n,os,rfl⟩
  have h:=pdq_sorts (ltOf cfTmA) lK d 0 d.size lim true true (Ao _) (Aq _) (Or.inl rfl);rw[QY]at h;exact⟨rfl,_,n,os,h.1,h.2,rfl⟩
 .intro e w;subst e;exact AnyF.pdqsortCmpFunc_none Tryz.layPdqTerm none 0 lim (Hc 70) w
end Go.Eng
namespace Go.Eng
open Go.Proofs
variable {h0:Nat->HO}{α:Type}{P:Program}{args:List AV}{f:Nat}(s:AF)(x:List Rl)(ifs:AV)(l:List (Int×Int))(j:AF)(roots:List Rq)(d:List (List Tm))(i:Nat)
-- the checker,and what reads it
abbrev BF:List AV:=[sl Ak x,ifs,sl Ad roots,sl Ap d]
theorem c40(hd:BB d):PC 64 [.cptr (BF x ifs roots d)] (vb (DW d)):=by
 unfold BB at hd;refine Ps Cu Tryz.func64 rfl (Nz rfl) (Yi ?_ ?_)
 .intro h;have h:(0:Int)<(d.map Ap).length:=h;have h:0<d.length:=by simp_all
  have hg:d[d.length-1]?=some d[d.length-1]:=Ge aa0;have hl:d.getLast?=some d[d.length-1]:=by grind
  refine Yi (by grind [Al]) (Xi (Ap d[d.length-1]) (Yi (Yi aa0 (by rw[show(((d.map Ap).length:Int)-1).toNat=d.length-1 by simp_all];grind)) (Yi rfl ?_)));refine Yi ?_ ?_
  .intro h2;have h2:((d[d.length-1].map Ac).length:Int)=0:=h2;have h2:d[d.length-1]=[]:=by simp_all
   show DC (vb true) (vb (DW d))
   grind [DW,DC.refl]
  .intro h2;have h2:¬((d[d.length-1].map Ac).length:Int)=0:=h2;have h2:d[d.length-1]≠[]:=fun e=>h2 (by simp_all);show DC (vb false) (vb (DW d))
   grind [DW,DC.refl]
 .intro h;have h:¬(0:Int)<(d.map Ap).length:=h;have h:d=[]:=Az (by simp_all);subst h;exact .refl _
theorem SK:∀(s:List Sl) (i:Nat) (h:i+1<s.length),Lg (some s[i].path) (s.drop (i+1))=(G1 s[i].path s[i+1].path&&Lg (some s[i+1].path) (s.drop (i+2))):=fun s i h=>by
 rw[Bd h];rfl
theorem Ed(a b:ByteArray):G1 a b=Op.bytesLess a.toList b.toList:=by
 have:∀x y:List UInt8,Ki x y=Op.bytesLess x y:=by
  intro x
  induction x with
  |nil=>intro y;cases y<;>rfl
  |cons a x ih=>
   intro y;cases y with
   |nil=>rfl
   |cons b y=>
    unfold Ki Op.bytesLess;rw[ih];rw[Gn];simp
 grind [G1,ByteArray.toList_eq]
theorem c41(s:List Sl)(hs:BB s):PC 88 [sl Ae s] (vb (Bb s)):=by
 unfold BB at hs;refine Ps Cu Tryz.func88 rfl (Nz rfl) ?_;refine Xi {i:Nat // 1<=i/\(s=[]\/i<=s.length)/\Bb s=(match s[i-1]? with | none=>true | some y=>Lg (some y.path) (s.drop i))} (Xi (fun i=>⟨[(0,sl Ae s),(3,vi i.1)],[],Af⟩) (Xi (fun i=>s.length-i.1) (Yi (Xi ⟨1,Aq _,by grind,by cases s<;>rfl⟩ ?_) ?_)))
 .exact⟨Z2,Tv,Fh,Tv⟩
 .intro⟨i,h1,h2,h3⟩;refine Yi ?_ ?_
  .intro h;have h:(i:Int)<(s.map Ae).length:=h;have h:i<s.length:=by simp_all
   have hg:s[i]?=some s[i]:=Ge h;have h' : i-1<s.length:=by omega
   have nQ : s[i-1]?=some s[i-1]:=Ge h';have e1:((i:Int)-1).toNat=i-1:=by omega
   have pN:Bb s=(G1 s[i-1].path s[i].path&&Lg (some s[i].path) (s.drop (i+1))):=by
    grind [SK]
   refine Yi (by grind [Al]) (Xi (Ae s[i-1]) (Yi (Yi (by grind) (by simp_all)) (Yi rfl ?_)));refine Xi (Ae s[i]) (Yi (Yi aa0 (by simp_all)) (Yi rfl ?_));refine Yi ?_ ?_
   .intro h4;have h4:Op.bytesLess s[i-1].path.toList s[i].path.toList=false:=h4;rw[<-Ed]at h4;refine Yi aa3 ?_;show DC (vb false) (vb (Bb s))
    grind [DC.refl]
   .intro h4;have h4:¬Op.bytesLess s[i-1].path.toList s[i].path.toList=false:=h4;rw[<-Ed,Bool.not_eq_false]at h4;refine Yi aa3 (Yi (by grind [Al]) (Xi ⟨i+1,by omega,.inr aa0,?_⟩ ?_))
    .simp_all
    .exact⟨Dl s.length i aa0,Z2,Tv,Fh,Tv⟩
  .intro h;have h:¬(i:Int)<(s.map Ae).length:=h;have h:¬i<s.length:=by simp_all
   show DC (vb true) (vb (Bb s))
   have:Bb s=true:=by
    rcases h2 with h2 | h2
    .grind
    .have e:i=s.length:=by omega
     rw[h3,e,List.drop_length];cases s[s.length-1]?<;>rfl
   grind [DC.refl]
theorem Cq.imp{Q Q' : AV->(Nat->HO)->Prop}(h:Cq P f args h0 Q)(hq:∀r h',Q r h'->Q' r h'):Cq P f args h0 Q':=h.mono fun r h' q=>⟨r,.refl _,hq r h' q⟩
theorem Cq.to{r0:AV}{p:α->Prop}{H:α->Nat->HO}{Q' : AV->(Nat->HO)->Prop}(h:Cq P f args h0 fun r h'=>r=r0/\∃x,p x/\h'=H x)(k:∀x,p x->Q' r0 (H x)):Cq P f args h0 Q':=
 h.imp fun r h' ⟨e1,x,e2,e3⟩=>by simp_all
theorem tf(n:Nat)(h:n<=1073741824):∃lim:Nat,lim<100/\PC 121 [.v (.int .u64 (IntKind.u64.wrap (n:Int)))] (vi lim):=by
 refine⟨Lib.bitLen n,Nat.lt_of_le_of_lt (Lib.bitLen_le n 62 aa0 aa0) aa0,?_⟩;have wr:IntKind.u64.wrap (n:Int)=n:=by grind [IntKind.wrap,IntKind.bits]
 rw[wr];refine KU [.int .u64 n] (.int .i64 (Lib.bitLen n:Nat)) (iX 121 Tryz.func121 aa3 rfl) rfl (fun _ _=>.v _ _) fun w _=>?_
 have:=Any.bits_Len Tryz.layBits (n:Int) w aa0 aa0
 rw[Cj]at this;exact this
theorem xH(hl:BB l)(h:∀x∈l,0<=x.1/\x.1<=1000000) :
  Cq Tryz.prog 184 [.msl 1000 l.length,.v (Hc 185)] (Ar [(1000,.arr 2 (l.map Ab))] Af) fun r h'=>
   r=.tup []/\∃l' : List (Int×Int),(l'.Perm l/\l'.Pairwise (fun x y=>x.1<=y.1))/\h'=Ar [(1000,.arr 2 (l'.map Ab))] Af:=by
 obtain⟨lim,jV,hb⟩:=tf l.length hl;refine BO (Mt Cu) [(1000,1000)] rfl B8 hm rfl Tryz.func184 aa3 rfl (Nz rfl) aa3 rfl (Xi .pure (Xi _ (Yi (hb) (Xi (.gen [(1000,1000)] 0) (Yi rfl ((xT l hl h lim jV).imp ?_))))));intro r h' hq;refine Am hq.2 (fun l' T1=>?_);refine Xi (.tup []) (Yi ?_ (Yi rfl (Xi l' (Yi ⟨T1.1,T1.2.1⟩ ?_))))
 .exact .refl _
 .rw[T1.2.2];rfl
theorem c61(l:List Tm)(hl:BB l) :
  Cq Tryz.prog 69 [.msl 1000 l.length,.v (Hc 70)] (Ar [(1000,.arr 3 (l.map Ac))] Af) fun r h'=>
   r=.tup []/\∃l' : List Tm,(l'.Perm l/\l'.Pairwise (fun x y=>G1 y.path x.path=false))/\h'=Ar [(1000,.arr 3 (l'.map Ac))] Af:=by
 obtain⟨lim,jV,hb⟩:=tf l.length hl;refine BO (Mt Cu) [(1000,1000)] rfl B8 hm rfl Tryz.func69 aa3 rfl (Nz rfl) aa3 rfl (Xi .pure (Xi _ (Yi (hb) (Xi (.gen [(1000,1000)] 0) (Yi rfl ((xo l hl lim jV).imp ?_))))));intro r h' hq;refine Am hq.2 (fun l' T1=>?_);refine Xi (.tup []) (Yi ?_ (Yi rfl (Xi l' (Yi ⟨T1.1,T1.2.1⟩ ?_))))
 .exact .refl _
 .rw[T1.2.2];rfl
abbrev pla(l:List (Nat×Nat))(cut:List Nat):Nm:=⟨[],[],l,[],[],[],[],[],[],[],cut⟩
abbrev GK:HO:=.arr 2 (l.map Ab)
theorem RP(l:AF)(i:Nat):(DG (l.take i)).length<=i:=by
 grind [DG]
theorem Pq{l:AF}{i:Nat}(h:i<l.length)(h3:(GP l[i]).1<(GP l[i]).2):DG (l.take (i+1))=DG (l.take i)++[GP l[i]]:=by
 grind [List.take_add_one,DG]
theorem RO{l:AF}{i:Nat}(h:i<l.length)(h3:¬(GP l[i]).1<(GP l[i]).2):DG (l.take (i+1))=DG (l.take i):=by
 grind [List.take_add_one,DG]
abbrev arr2:AF:=(BA (s.take i)).reverse++(j++s.drop i)
theorem mv(h:i<s.length)(hj:(BA (s.take i)).length+j.length=i):(arr2 s j i)[i]?=some s[i]:=by
 unfold arr2;rw[B7 (by grind),B7 (by grind),List.length_reverse,FO]
 grind
theorem il(h:i<=s.length)(hj:(BA (s.take i)).length+j.length=i):(arr2 s j i).length=s.length:=by
 grind
theorem bZ(s:List α)(i:Nat)(h:i<s.length):s.drop i=s[i]::s.drop (i+1):=Bd h
theorem Up(h:i<s.length)(e:Jk (BA (s.take i)) s[i]=s[i]::BA (s.take i)) :
  (arr2 s j i).set (BA (s.take i)).length s[i]=arr2 s (j++[s[i]]).tail (i+1):=by
 unfold arr2;rw[Fb s i h,e,List.reverse_cons,List.set_append_right _ _ (by simp_all),List.length_reverse,Io,CQ,bZ s i h]
 congr 1
 cases j<;>grind
theorem dA(h:i<s.length){y:Int×Int}{t:AF}(e:BA (s.take i)=y::t)(HB:s[i].1<=y.2) :
  (arr2 s j i).set t.length (y.1,max y.2 s[i].2)=arr2 s (j++[s[i]]) (i+1):=by
 unfold arr2;have e2:Jk (y::t) s[i]=(y.1,max y.2 s[i].2)::t:=by show(if s[i].1<=y.2 then _ else _)=_;simp_all
 rw[Fb s i h,e,e2,List.reverse_cons,List.reverse_cons,CQ,List.set_append_right _ _ (by simp_all),List.length_reverse,Io,bZ s i h];simp
theorem AM{enc:α->List AV}{l:List α}{i:Nat}{x:α}(h:l[i]?=some x):(l.map enc)[i]?=some (enc x):=by simp_all
theorem V1(hl:BB l):PC 119 [sl Ab l] (sl Ab (canon l)):=by
 refine EW (ab (pla [(3,2)] [])) rfl B8 hm rfl Tryz.func119 aa3 rfl (Nz rfl) aa3 (Xi {i:Nat // i<=l.length} (Xi (fun i=>⟨[(0,sl Ab l),(3,.msl 3 (DG (l.take i.1)).length),(9,sl Ab l),(10,vi (l.map Ab).length),(11,vi i.1)],[(3,GK (DG (l.take i.1)))],Af⟩) (Xi (fun i=>l.length-i.1) (Yi (Xi ⟨0,by simp⟩ ?_) ?_))))
 .exact⟨Z5,Z1,Fh,Tv⟩
 .intro⟨i,h1⟩;have hn:=RP l i;refine Yi ?_ ?_
  .intro h;have h:i<l.length:=by simp_all
   have hg:l[i]?=some l[i]:=Ge h;refine Xi (Ab l[i]) (Yi (Yi aa0 (by simp_all)) (Yi rfl ?_));refine Yi (Nz rfl) (yN (yN (Yi ?_ ?_)))
   .intro h3;refine yN ?_;have CM:AZ 2 [[vi (max l[i].1 0),vi (min l[i].2 1000000)]]/\((DG (l.take i)).map Ab).length=(DG (l.take i)).length/\(((DG (l.take i)).map Ab).length+[[vi (max l[i].1 0),vi (min l[i].2 1000000)]].length)*16<=140737488355328/\((DG (l.take i)).map Ab).length+[[vi (max l[i].1 0),vi (min l[i].2 1000000)]].length<=9223372036854775807:=
     ⟨⟨rfl,trivial⟩,by simp_all,by grind,by grind⟩
    refine Yi CM (Yi (by grind [Al]) (Xi ⟨i+1,by omega⟩ ?_));have e1:AV.msl 3 (((DG (l.take i)).map Ab).length+[[vi (max l[i].1 0),vi (min l[i].2 1000000)]].length)=.msl 3 (DG (l.take (i+1))).length:=by rw[Pq h h3];simp
    have e2:HO.arr 2 ((DG (l.take i)).map Ab++[[vi (max l[i].1 0),vi (min l[i].2 1000000)]])=GK (DG (l.take (i+1))):=by rw[Pq h h3];simp[GP]
    exact⟨by grind,⟨Zr,⟨e1,rfl⟩,Zr,Zr,Zr,Tv⟩,⟨⟨e2,rfl⟩,Tv⟩,Fh,Tv⟩
   .intro h3;refine Yi (by grind [Al]) (Xi ⟨i+1,by omega⟩ ?_);have e1:AV.msl 3 (DG (l.take i)).length=.msl 3 (DG (l.take (i+1))).length:=by rw[RO h h3]
    have e2:GK (DG (l.take i))=GK (DG (l.take (i+1))):=by rw[RO h h3]
    exact⟨by grind,⟨Zr,⟨e1,rfl⟩,Zr,Zr,Zr,Tv⟩,⟨⟨e2,rfl⟩,Tv⟩,Fh,Tv⟩
  .intro h;have h:¬i<l.length:=by simp_all
   have ei:DG (l.take i)=DG l:=by grind
   have hN:(DG (l.take i)).length=(DG l).length:=by rw[ei]
   refine Xi (.gen [(3,1000)] 0) (Yi rfl ((xH (DG (l.take i)) aa0 (fun x hx=>by have:=Uz hx;omega)).to ?_));intro s hs;have cB:s.length=(DG (l.take i)).length:=hs.1.length_eq;have hsN:s.length<=1073741824:=by omega
   have fin:(BA s).reverse=canon l:=K8 (by simp_all) hs.2;refine Xi {p:Nat×AF // p.1<=s.length/\(BA (s.take p.1)).length+p.2.length=p.1} (Xi (fun p=>⟨[(3,.msl 3 (DG (l.take i)).length),(6,vi (BA (s.take p.1.1)).length),(34,.msl 3 (DG (l.take i)).length),(35,vi (DG (l.take i)).length),(36,vi p.1.1)],[(3,GK (arr2 s p.1.2 p.1.1))],Af⟩) (Xi (fun p=>s.length-p.1.1) (Yi (Xi ⟨(0,[]),Ao _,rfl⟩ ?_) ?_)))
   .exact⟨Z5,Z1,Fh,Tv⟩
   intro⟨⟨k,j⟩,k1,k2⟩;have k2:(BA (s.take k)).length+j.length=k:=k2;have Cy:=il s j k k1 k2;have Sz:(DG (l.take i)).length=((arr2 s j k).map Ab).length:=by simp_all
   refine Yi ?_ ?_
   .intro h2;have h2:(k:Int)<(DG (l.take i)).length:=h2;have hk:k<s.length:=by omega
    have Mu:=AM (enc:=Ab) (mv s j k hk k2);refine Yi ⟨by omega,by omega⟩ ?_;refine Yi Sz (Xi (Ab s[k]) (Yi Mu (Yi (Nz rfl) (yN ?_))));have hr:=NL s k k1;refine AG (Nat.eq_zero_or_pos k) (fun k0=>?_) (fun k0=>?_)
    .refine Yi ?_ ?_
     .intro h4;have h4:(0:Int)<k:=h4;omega
     .intro _;refine Yi aa3 ?_;have IC:Jk (BA (s.take k)) s[k]=s[k]::BA (s.take k):=by subst k0;rfl
      have vl:(BA (s.take k)).length<(arr2 s j k).length:=by omega
      have hz:=AM (enc:=Ab) (Ge vl);refine Yi (Nz rfl) (Yi ⟨by omega,by simp_all⟩ ?_);refine Yi Sz (Xi (Ab (arr2 s j k)[(BA (s.take k)).length]) (Yi hz (yN (Yi (by show Al (((BA (s.take k)).length:Int)+1);unfold Al;omega) ?_))));refine Yi (Ii k aa0) ?_;have hm:=Fb s k hk;have e1:vi (((BA (s.take k)).length:Int)+1)=vi (BA (s.take (k+1))).length:=by simp_all
      have e2:HO.arr 2 (((arr2 s j k).map Ab).set (BA (s.take k)).length [vi s[k].1,vi s[k].2])=GK (arr2 s (j++[s[k]]).tail (k+1)):=by rw[<-Up s j k hk IC];simp only[GK,J5]
      refine Xi ⟨(k+1,(j++[s[k]]).tail),by omega,by simp_all⟩ ?_;exact⟨Dl s.length k aa0,⟨Zr,⟨e1,rfl⟩,Zr,Zr,Zr,Tv⟩,⟨⟨e2,rfl⟩,Tv⟩,Fh,Tv⟩
    .refine Yi ?_ ?_
     .intro _;obtain⟨y,t,e⟩:∃y t,BA (s.take k)=y::t:=by
       cases hc:BA (s.take k)with
       |nil=>simp_all
       |cons y t=>grind
      have ht:(((BA (s.take k)).length:Int)-1).toNat=t.length:=by grind
      have hy:((arr2 s j k).map Ab)[(((BA (s.take k)).length:Int)-1).toNat]?=some (Ab y):=by rw[ht];grind
      refine Yi (by show Al (((BA (s.take k)).length:Int)-1);unfold Al;omega) ?_;have vu:=hr.2 k0;refine Yi ⟨by grind,by grind⟩ ?_;refine Yi Sz (Xi (Ab y) (Yi hy (Yi ?_ ?_)))
      .intro h5;refine Yi aa3 (Yi (by show Al (((BA (s.take k)).length:Int)-1);unfold Al;omega) (Yi (by show Al (((BA (s.take k)).length:Int)-1);unfold Al;omega) ?_));refine Yi ⟨by grind,by grind⟩ ?_;refine Yi Sz (Xi (Ab y) (Yi hy (Yi ⟨by grind,by grind⟩ ?_)));refine Yi Sz (Xi (Ab y) (Yi hy (yN (Yi aa3 (Yi (Ii k aa0) ?_)))));have hm:=Fb s k hk;have IC:Jk (BA (s.take k)) s[k]=(y.1,max y.2 s[k].2)::t:=by rw[e];show(if s[k].1<=y.2 then _ else _)=_;grind
       have e1:vi (BA (s.take k)).length=vi (BA (s.take (k+1))).length:=by rw[hm,IC,e];simp
       have e2:HO.arr 2 (((arr2 s j k).map Ab).set (((BA (s.take k)).length:Int)-1).toNat [vi y.1,vi (max y.2 s[k].2)])=GK (arr2 s (j++[s[k]]) (k+1)):=by rw[<-dA s j k hk e h5,ht];simp only[GK,J5]
       refine Xi ⟨(k+1,j++[s[k]]),by omega,by show(BA (s.take (k+1))).length+(j++[s[k]]).length=k+1;rw[hm,IC,As,AS];grind⟩ ?_;exact⟨Dl s.length k aa0,⟨Zr,⟨e1,rfl⟩,Zr,Zr,Zr,Tv⟩,⟨⟨e2,rfl⟩,Tv⟩,Fh,Tv⟩
      .intro h5;refine Yi aa3 ?_;have IC:Jk (BA (s.take k)) s[k]=s[k]::BA (s.take k):=by rw[e];show(if s[k].1<=y.2 then _ else _)=_;grind
       have vl:(BA (s.take k)).length<(arr2 s j k).length:=by omega
       have hz:=AM (enc:=Ab) (Ge vl);refine Yi (Nz rfl) (Yi ⟨by omega,by grind⟩ ?_);refine Yi Sz (Xi (Ab (arr2 s j k)[(BA (s.take k)).length]) (Yi hz (yN (Yi (by show Al (((BA (s.take k)).length:Int)+1);unfold Al;omega) ?_))));refine Yi (Ii k aa0) ?_;have hm:=Fb s k hk;have e1:vi (((BA (s.take k)).length:Int)+1)=vi (BA (s.take (k+1))).length:=by rw[hm,IC];simp
       have e2:HO.arr 2 (((arr2 s j k).map Ab).set (BA (s.take k)).length [vi s[k].1,vi s[k].2])=GK (arr2 s (j++[s[k]]).tail (k+1)):=by rw[<-Up s j k hk IC];simp only[GK,J5]
       refine Xi ⟨(k+1,(j++[s[k]]).tail),by omega,by show(BA (s.take (k+1))).length+((j++[s[k]]).tail).length=k+1;rw[hm,IC];simp;omega⟩ ?_;exact⟨Dl s.length k aa0,⟨Zr,⟨e1,rfl⟩,Zr,Zr,Zr,Tv⟩,⟨⟨e2,rfl⟩,Tv⟩,Fh,Tv⟩
     .intro h4;have h4:¬(0:Int)<k:=h4;omega
   .intro h2;have h2:¬(k:Int)<(DG (l.take i)).length:=h2;have hk:k=s.length:=by omega
    have hr:=NL s k k1;have aL:((((arr2 s j k).map Ab).take ((BA (s.take k)).length:Int).toNat).drop 0)=(canon l).map Ab:=by
     rw[List.drop_zero,Cj,<-List.map_take,<-fin]
     grind
    refine Yi ⟨Sz,by simp_all,by simp_all,by grind,.inr ⟨rfl,by simp⟩⟩ ?_;exact .of_eq (Aa (AV.slice .none) aL)
end Go.Eng
namespace Go.Eng
open Go.Proofs Go.Sort
variable {m:List (Int×Int)}{S:AF}(zs:List Int)(z:Int)
abbrev GF:List AV:=[vi z]
theorem gg{α:Type}[Inhabited α](enc:α->Value)(w:World)(b:Nat)(d:Array α):putRow enc w b 0 d=putRow id w b 0 (d.map enc):=by
 unfold putRow
 congr 1
 grind [putCells]
theorem UJ:(zs.map GF).flatten=(zs.map fun z=>Value.int .i64 z).map AV.v:=by
 induction zs<;>simp_all
theorem Vm(g:Gh)(w:World)(U:Nat->Prop)(vs:List Value)(h:∀x∈vs,x.oneCell'=true):B2 g w U (vs.map .v) vs:=
 ⟨by simp,h,fun i av x q1 q2=>by
  grind [A5.v]⟩
theorem WZ{g:Gh}{w:World}{U:Nat->Prop}{vs us:List Value}(h:B2 g w U (vs.map .v) us):us=vs:=by
 apply CR;intro i;have hl:=h.1;rw[Lm]at hl
 by_cases hi:i<vs.length
 .have:=h.2.2 i (.v vs[i]) us[i] (by simp_all) (Ge aa0)
  grind [A5.v_eq]
 simp_all
theorem xS(hl:BB zs)(Fi:zs≠[]) :
  Cq Tryz.prog 162 [.msl 1000 zs.length] (Ar [(1000,.arr 1 (zs.map GF))] Af) fun r h'=>
   r=.tup []/\∃l' : List Int,(l'.Perm zs/\l'.Pairwise fun a b=>a<=b)/\h'=Ar [(1000,.arr 1 (l'.map GF))] Af:=by
 have hE:GM Tryz.prog 162:=iX 162 Tryz.func162 aa3 rfl;have Qu:=Ul (P:=Tryz.prog) (f:=162) (es:=zs.map GF) (sz:=1) (rest:=[]) (Q:=fun F6=>∃l' : List Int,(l'.Perm zs/\l'.Pairwise fun a b=>a<=b)/\F6=l'.map GF) hE ?_ ?_
 .grind
 .simp_all
 .intro g w b cap F hr hF hH hb;have hFl:F.toList=zs.map fun z=>Value.int .i64 z:=WZ (by rw[<-UJ];exact hr);have hFz:F=zs.toArray.map fun z=>Value.int .i64 z:=Array.toList_inj.1 (by simp_all);have hH2:Holds (Value.int .i64) w b 0 zs.toArray:=fun j hj=>by
   have:=hH j (by simp_all)
   simp_all
  have hc:=Any.slices_Sort_int Tryz.laySortInts b 0 cap zs w hH2 hb aa0;rw[Lm];refine hc.mono ?_
  rintro e w' ⟨rfl,n,os,rfl⟩
  have JI:(zs.mergeSort fun x y=>decide (x<=y)).Perm zs:=List.mergeSort_perm _ _;have Cy:=JI.length_eq;refine⟨rfl,(zs.mergeSort fun x y=>decide (x<=y)).toArray.map fun z=>Value.int .i64 z,(zs.mergeSort fun x y=>decide (x<=y)).map GF,n,os,?_,⟨_,⟨JI,?_⟩,rfl⟩,by simp_all,fun cs OE=>?_,fun g w _=>?_,by rw[gg]⟩
  .simp_all
  .grind [List.pairwise_mergeSort]
  .grind
  .rw[UJ];have e:((zs.mergeSort fun x y=>decide (x<=y)).toArray.map fun z=>Value.int .i64 z).toList=(zs.mergeSort fun x y=>decide (x<=y)).map fun z=>Value.int .i64 z:=by simp
   rw[e];exact Vm _ _ _ _ fun x hx=>by
    obtain⟨z,_,rfl⟩:=Ay.1 hx;rfl
-- maps from numbers to numbers
abbrev W4:EE:=⟨false,[.int .i64]⟩
abbrev kI:Value:=.int .i64 z
abbrev MB(p:Int×Int):Value×AV:=(kI p.1,vi p.2)
abbrev CC(s:AF):List AV:=[sl Ab s]
theorem WF{k:Int}{a:AV}:(kI k,a)∈m.map MB↔∃v,(k,v)∈m/\a=vi v:=by
 grind
theorem Ri(m:List (Int×Int))(k v:Int):FI (m.map MB) (kI k) (vi v)=(KW m k v).map MB:=by
 unfold KW
 by_cases h:(m.any fun p=>decide (p.1=k))=true
 .rw[AE h];obtain⟨p,h1,h2⟩:=BQ.1 h;have h2:=DR h2
  have:(kI k,vi p.2)∈m.map MB:=WF.2 ⟨p.2,by grind,rfl⟩
  rw[PK this,Cf,Cf]
  grind [List.map_congr_left]
 grind [PJ]
theorem Sp{T:GB}{e:Nat}{BN:List (Value×AV)}{kx:Value}{K:AV->Prop}(a0 z0:AV)(h1:∀a,(kx,a)∈BN->a=a0)(hz:(∀a,(kx,a)∉BN)->a0=z0)(h2:K z0->J0 T e K)(k:K a0) :
  (∀a,(kx,a)∈BN->K a)/\((∀a,(kx,a)∉BN)->J0 T e K):=⟨fun a h=>by grind,fun hn=>h2 (hz hn▸k)⟩
theorem Qg(m:List (Int×Int))(k:Int):(∀a,(kI k,a)∉m.map MB)->vi (Fo m k)=vi 0:=fun SA=>by
 rw[lQ fun hk=>by
  obtain⟨p,hp,e⟩:=Ay.1 hk;exact SA (vi p.2) (WF.2 ⟨p.2,by grind,rfl⟩)]
theorem Qf(hn:(EQ m).Nodup)(k:Int):∀a,(kI k,a)∈m.map MB->a=vi (Fo m k):=fun a h=>by
 obtain⟨v,h1,rfl⟩:=WF.1 h;rw[lP hn h1]
theorem FN.bound(h:FN m S)(k:Int):-(S.length:Int)<=Fo m k/\Fo m k<=S.length:=by
 rw[h.val]
 grind [cF,cT]
theorem ar(l:List AF):(l.map canon).flatten.length<=l.length*1000000:=by
 induction l<;>grind [CK,Bc]
theorem FN.few(h:FN m S):m.length<=1000001:=by
 have:=DJ (m:=(List.range 1000001).map Int.ofNat) h.nd fun k hk=>by
  have:=h.rng k hk
  grind [Int]
 grind [EQ]
theorem UX(keep:Nat->Bool)(m:List (Int×Int))(B:List Int):∀n,(Ef keep m B n).length<=n
 |0=>Aq _
 |n+1=>by
  unfold Ef
  have:=UX keep m B n
  grind
end Go.Eng
namespace Go.Eng
open Go.Proofs
variable {m:List Tm}{α:Type}(u:Tm)(n:Int)(l:List Tm)(p:ByteArray)(x:α)(s:AF)(q:Rq)(t:Tm)
abbrev plC:Nm:=⟨[],[(12,2)],[(44,1)],[],[],[],[],[],[],[],[8,9,15,23,25,26]⟩
theorem qh(F:AV)(keep:Nat->Bool)(l:List AF)(hl:BB l)(hs:∀s∈l,BB s)(hid:∀h,SF h F=true)(hF:∀h (n:Int),0<=n->n<=l.length->Ph Tryz.prog (str h F) [vi n] (vb (keep n.toNat)))
  (R:AF) (hR:EY R) (hRh:∀p,has R p=(SJ p&&keep (iK l p))):PC 100 [F,sl CC l] (sl Ab R):=by
 refine Ps plC Tryz.func100 rfl (Nz rfl) (Xi {p:Nat×List (Int×Int) // p.1<=l.length/\FN p.2 ((l.take p.1).map canon).flatten} (Xi (fun p=>⟨[(0,F),(5,.mref 15),(17,sl CC l),(18,vi (l.map CC).length),(19,vi p.1.1)],[(15,.map W4 (p.1.2.map MB))],Af⟩) (Xi (fun p=>l.length-p.1.1) (Yi (Xi ⟨(0,tR),Ao _,mO⟩ ?_) ?_))))
 .have e0:HO.map W4 (FI (FI [] (kI 0) (vi 0)) (kI 1000000) (vi 0))=.map W4 (tR.map MB):=by
   have e1:=Ri [] 0 0;have e2:=Ri [(0,0)] 1000000 0;show HO.map W4 (FI (FI (List.map MB []) (kI 0) (vi 0)) (kI 1000000) (vi 0))=_;rw[e1];show HO.map W4 (FI (List.map MB [(0,0)]) (kI 1000000) (vi 0))=_;rw[e2];rfl
  exact⟨⟨⟨rfl,hid _⟩,Zr,Zr,Zr,Zr,Tv⟩,⟨⟨e0,rfl⟩,Tv⟩,Fh,Tv⟩
 intro⟨⟨i,cm⟩,i1,i2⟩;refine Yi ?_ ?_
 .intro h;have h:i<l.length:=by simp_all
  have hg:l[i]?=some l[i]:=Ge h;refine Xi (CC l[i]) (Yi (Yi aa0 (by simp_all)) (Yi rfl ?_));refine Xi .pure (Xi _ (Yi (V1 l[i] (hs _ (Ah h))) (Xi {p:Nat×List (Int×Int) // p.1<=(canon l[i]).length/\FN p.2 (((l.take i).map canon).flatten++(canon l[i]).take p.1)} (Xi (fun p=>⟨[(0,F),(5,.mref 15),(17,sl CC l),(18,vi (l.map CC).length),(19,vi i),(24,sl Ab (canon l[i])),(25,vi ((canon l[i]).map Ab).length),(26,vi p.1.1)],[(15,.map W4 (p.1.2.map MB))],Af⟩) (Xi (fun p=>(canon l[i]).length-p.1.1) (Yi (Xi ⟨(0,cm),Ao _,by grind⟩ ?_) ?_))))))
  .exact⟨⟨⟨rfl,hid _⟩,Zr,Zr,Zr,Zr,Zr,Zr,Zr,Tv⟩,Z1,Fh,Tv⟩
  intro⟨⟨j,dm⟩,j1,j2⟩;have j2:FN dm (((l.take i).map canon).flatten++(canon l[i]).take j):=j2;have hS:(((l.take i).map canon).flatten++(canon l[i]).take j).length<=1073741825000000:=by
   grind [ar,CK,Bc]
  refine Yi ?_ ?_
  .intro hj;have hj:j<(canon l[i]).length:=by simp_all
   have hgj:(canon l[i])[j]?=some (canon l[i])[j]:=Ge hj;have vD:=(Bc l[i]).low _ (Ah hj);have j3:FN (Zq dm (canon l[i])[j]) (((l.take i).map canon).flatten++(canon l[i]).take (j+1)):=by
    grind [gE,List.take_add_one]
   generalize (canon l[i])[j]=x at hgj vD j3;have b1:=j2.bound x.1;have vl:=LX j2.nd x.1 (Fo dm x.1+1);refine Xi (Ab x) (Yi (Yi aa0 (by simp_all)) (Yi rfl ?_));refine Yi (Nz rfl) (yN (Xi ⟨[(0,F),(5,.mref 15),(9,.ref 9 0),(17,sl CC l),(18,vi (l.map CC).length),(19,vi i),(24,sl Ab (canon l[i])),(25,vi ((canon l[i]).map Ab).length),(26,vi j)],[(9,.cells (Ab x)),(15,.map W4 (dm.map MB))],Af⟩ (Yi ⟨⟨⟨rfl,hid _⟩,Zr,Zr,Zr,Zr,Zr,Zr,Zr,Zr,Tv⟩,Z2,Fh,Tv⟩ (Sp (vi (Fo dm x.1)) (vi 0) (Qf j2.nd x.1) (Qg dm x.1) (fun q=>q) (Yi (by grind [Al]) ?_)))));have m1:HO.map W4 (FI (dm.map MB) (kI x.1) (vi (Fo dm x.1+1)))=.map W4 ((KW dm x.1 (Fo dm x.1+1)).map MB):=by rw[Ri]
   refine Xi ⟨[(0,F),(5,.mref 15),(9,.ref 9 0),(17,sl CC l),(18,vi (l.map CC).length),(19,vi i),(24,sl Ab (canon l[i])),(25,vi ((canon l[i]).map Ab).length),(26,vi j)],[(9,.cells (Ab x)),(15,.map W4 ((KW dm x.1 (Fo dm x.1+1)).map MB))],Af⟩ (Yi ⟨⟨⟨rfl,hid _⟩,Zr,Zr,Zr,Zr,Zr,Zr,Zr,Zr,Tv⟩,⟨Zr,⟨m1,rfl⟩,Tv⟩,Fh,Tv⟩ ?_)
   have b2:-(1073741825000001:Int)<=Fo (KW dm x.1 (Fo dm x.1+1)) x.2/\Fo (KW dm x.1 (Fo dm x.1+1)) x.2<=1073741825000001:=by
    have b3:=j2.bound x.2
    grind [Pd]
   refine Sp (vi (Fo (KW dm x.1 (Fo dm x.1+1)) x.2)) (vi 0) (Qf vl x.2) (Qg _ x.2) (fun q=>q) (Yi (by show Al (Fo (KW dm x.1 (Fo dm x.1+1)) x.2-1);grind [Al]) ?_);have TY:=CK (Bc l[i]);refine Yi (by grind [Al]) ?_;have m2:HO.map W4 (FI ((KW dm x.1 (Fo dm x.1+1)).map MB) (kI x.2) (vi (Fo (KW dm x.1 (Fo dm x.1+1)) x.2-1)))=.map W4 ((Zq dm x).map MB):=by rw[Ri];rfl
   refine Xi ⟨(j+1,Zq dm x),by omega,j3⟩ ?_;exact⟨by grind,⟨⟨rfl,hid _⟩,Zr,Zr,Zr,Zr,Zr,Zr,Zr,Tv⟩,⟨⟨m2,rfl⟩,Tv⟩,Fh,Tv⟩
  .intro hj;have hj:¬j<(canon l[i]).length:=by simp_all
   refine Yi (by grind [Al]) ?_;have i3:FN dm ((l.take (i+1)).map canon).flatten:=by
    have e1:(canon l[i]).take j=canon l[i]:=AK aa0;rw[e1]at j2;have e2:((l.take (i+1)).map canon).flatten=((l.take i).map canon).flatten++canon l[i]:=by
     rw[B9,hg,AB,Eu];simp_all
    simp_all
   refine Xi ⟨(i+1,dm),by omega,i3⟩ ?_;exact⟨by grind,⟨⟨rfl,hid _⟩,Zr,Zr,Zr,Zr,Tv⟩,Z1,Fh,Tv⟩
 .intro h;have h:¬i<l.length:=by simp_all
  have i3:FN cm (l.map canon).flatten:=by
   grind
  have qU:=i3.few;have hmk:(0:Int)<=0/\(0:Int)<=((cm.map MB).length:Int)/\((cm.map MB).length:Int)*((8:Nat):Int)<=140737488355328/\((cm.map MB).length:Int)<=9223372036854775807:=by grind
  refine Yi hmk (Xi {p:List (Value×AV)×List Int×Option (Value×AV) // ((p.2.1.map kI)++p.1.map (·.1)).Perm ((cm.map MB).map (·.1))/\∀kv∈p.1,kv∈cm.map MB} (Xi (fun p=>⟨[(0,F),(5,.mref 15),(10,.msl 44 p.1.2.1.length),(46,.ref 46 0)],[(15,.rom W4 (cm.map MB)),(44,.arr 1 (p.1.2.1.map GF)),(46,.iter (cm.map MB) p.1.1 p.1.2.2)],Af⟩) (Xi (fun p=>p.1.1.length) (Yi (Xi ⟨(cm.map MB,[],none),.refl _,fun _ h=>h⟩ ?_) ?_))))
  .exact⟨⟨⟨rfl,hid _⟩,Zr,Zr,Zr,Tv⟩,Z3,Fh,Tv⟩
  intro⟨⟨rem,bs,D1⟩,r1,r2⟩;have zw:bs.length<=1000001:=by
   grind [List.length_append,Lm,List.Perm.length_eq]
  refine Yi ?_ ?_
  .intro hr;subst hr;rw[Fx,BC,Cf]at r1;have hpk:bs.Perm (EQ cm):=by
    have r1:(bs.map kI).Perm ((EQ cm).map kI):=by unfold EQ;rw[Cf];exact r1
    have:=r1.map (fun v:Value=>match v with | .int _ n=>n | _=>0)
    rw[Cf,Cf]at this;have e:((fun v:Value=>match v with | .int _ n=>n | _=>0) ∘ kI)=id:=rfl;simp_all
   have Fi:bs≠[]:=fun e=>by
    subst e
    have:=hpk.length_eq
    have h0:=i3.keys.1;simp_all
   refine Xi (.gen [(44,1000)] 0) (Yi rfl ((xS bs aa0 Fi).to ?_));intro B wM;have ur:B.length=bs.length:=wM.1.length_eq;have hBn:B.Nodup:=(wM.1.trans hpk).nodup_iff.2 i3.nd;have hB:mg B cm:=⟨wM.1.trans hpk,by
    grind [List.pairwise_iff_getElem]⟩
   have Abx:0<B.length:=by
    grind
   have ze:bs.length=(B.map GF).length:=by simp_all
   refine Yi (by grind [Al]) (Xi {k:Nat // k<=B.length-1} (Xi (fun k=>⟨[(0,F),(5,.mref 15),(10,.msl 44 bs.length),(12,.slice (.id 12 2) ((Ef keep cm B k.1).map Ab)),(13,vi (Iv cm (B.take k.1))),(59,vi ((bs.length:Int)-1)),(60,vi k.1)],[(12,.tok 2 ((Ef keep cm B k.1).map Ab).length),(15,.rom W4 (cm.map MB)),(44,.arr 1 (B.map GF))],Af⟩) (Xi (fun k=>B.length-k.1) (Yi (Xi ⟨0,Ao _⟩ ?_) ?_))))
   .exact⟨⟨⟨rfl,hid _⟩,Zr,Zr,Zr,Zr,Zr,Zr,Tv⟩,Z3,Fh,Tv⟩
   intro⟨k,k1⟩;have pF:=UX keep cm B k;refine Yi ?_ ?_
   .intro hk;have hk:(k:Int)<(bs.length:Int)-1:=hk;have N1:k+1<B.length:=by omega
    have T0:k<B.length:=by omega
    have Mu:(B.map GF)[k]?=some (GF B[k]):=AM (Ge T0);have AeF:(B.map GF)[k+1]?=some (GF B[k+1]):=AM (Ge N1);have aM:=Qd cm B k T0;have Afr:=lI i3 hB k T0;have cz:Ef keep cm B (k+1)=Ef keep cm B k++(if keep (Iv cm (B.take (k+1))).toNat then [(B[k],B[k+1])]else []):=by
     show _++(match B[k]?,B[k+1]? with | some a,some b=>if keep (Iv cm (B.take (k+1))).toNat then [(a,b)]else [] | _,_=>[])=_
     grind
    refine Xi ⟨[(0,F),(5,.mref 15),(10,.msl 44 bs.length),(12,.slice (.id 12 2) ((Ef keep cm B k).map Ab)),(13,vi (Iv cm (B.take k))),(14,vi k),(59,vi ((bs.length:Int)-1)),(60,vi k)],[(12,.tok 2 ((Ef keep cm B k).map Ab).length),(15,.rom W4 (cm.map MB)),(44,.arr 1 (B.map GF))],Af⟩ (Yi ⟨⟨⟨rfl,hid _⟩,Zr,Zr,Zr,Zr,Zr,Zr,Zr,Tv⟩,Z3,Fh,Tv⟩ (Yi ⟨by omega,by omega⟩ ?_));refine Yi ze (Xi (GF B[k]) (Yi Mu (Sp (vi (Fo cm B[k])) (vi 0) (Qf i3.nd B[k]) (Qg cm B[k]) (fun q=>q) (Yi (by grind [Al]) ?_))));have DV:∀h,Ph Tryz.prog (str h F) [vi (Iv cm (B.take k)+Fo cm B[k])] (vb (keep (Iv cm (B.take (k+1))).toNat)):=fun h=>by
     grind
    refine AG (Bt (keep (Iv cm (B.take (k+1))).toNat)) (fun hp=>?_) (fun hp=>?_)
    .rw[hp]at DV;rw[hp,AE rfl]at cz;refine Xi .pure (Xi (vb true) (Yi (DV _) (Xi ⟨[(0,F),(5,.mref 15),(10,.msl 44 bs.length),(12,.slice (.id 12 2) ((Ef keep cm B k).map Ab)),(13,vi (Iv cm (B.take k)+Fo cm B[k])),(14,vi k),(59,vi ((bs.length:Int)-1)),(60,vi k)],[(12,.tok 2 ((Ef keep cm B k).map Ab).length),(15,.rom W4 (cm.map MB)),(44,.arr 1 (B.map GF))],Af⟩ (Yi ⟨⟨⟨rfl,hid _⟩,Zr,Zr,Zr,Zr,Zr,Zr,Zr,Tv⟩,Z3,Fh,Tv⟩ ?_))))
     have b1:(0:Int)<=(k:Int)+1/\(k:Int)+1<bs.length:=by omega
     have zt:(B.map GF)[((k:Int)+1).toNat]?=some (GF B[k+1]):=by grind
     refine Yi ⟨by omega,by omega⟩ ?_;refine Yi ze (Xi (GF B[k]) (Yi Mu (Yi (Ii k aa0) (Yi b1 (Yi ze (Xi (GF B[k+1]) (Yi zt ?_)))))));have CM:AZ 2 [[vi B[k],vi B[k+1]]]/\((Ef keep cm B k).map Ab).length=((Ef keep cm B k).map Ab).length/\(((Ef keep cm B k).map Ab).length+[[vi B[k],vi B[k+1]]].length)*16<=140737488355328/\((Ef keep cm B k).map Ab).length+[[vi B[k],vi B[k+1]]].length<=9223372036854775807:=
      ⟨⟨rfl,trivial⟩,rfl,by grind,by grind⟩
     refine Yi CM (Yi aa3 (Xi ⟨[(0,F),(5,.mref 15),(10,.msl 44 bs.length),(12,.slice (.id 12 2) ((Ef keep cm B k).map Ab++[[vi B[k],vi B[k+1]]])),(13,vi (Iv cm (B.take k)+Fo cm B[k])),(59,vi ((bs.length:Int)-1)),(60,vi k)],[(12,.tok 2 (((Ef keep cm B k).map Ab).length+[[vi B[k],vi B[k+1]]].length)),(15,.rom W4 (cm.map MB)),(44,.arr 1 (B.map GF))],Af⟩ (Yi ⟨⟨⟨rfl,hid _⟩,Zr,Zr,Zr,Zr,Zr,Zr,Tv⟩,Z3,Fh,Tv⟩ (Yi (Ii k aa0) (Xi ⟨k+1,by omega⟩ ?_)))));have e1:AV.slice (.id 12 2) ((Ef keep cm B k).map Ab++[[vi B[k],vi B[k+1]]])=.slice (.id 12 2) ((Ef keep cm B (k+1)).map Ab):=by grind
     have e2:vi (Iv cm (B.take k)+Fo cm B[k])=vi (Iv cm (B.take (k+1))):=by grind
     have e3:HO.tok 2 (((Ef keep cm B k).map Ab).length+[[vi B[k],vi B[k+1]]].length)=.tok 2 ((Ef keep cm B (k+1)).map Ab).length:=by grind
     exact⟨by grind,⟨⟨rfl,hid _⟩,Zr,Zr,⟨e1,rfl⟩,⟨e2,rfl⟩,Zr,Zr,Tv⟩,⟨⟨e3,rfl⟩,Zr,Zr,Tv⟩,Fh,Tv⟩
    .rw[hp]at DV;have cz:Ef keep cm B (k+1)=Ef keep cm B k:=by grind
     refine Xi .pure (Xi (vb false) (Yi (DV _) (Xi ⟨[(0,F),(5,.mref 15),(10,.msl 44 bs.length),(12,.slice (.id 12 2) ((Ef keep cm B k).map Ab)),(13,vi (Iv cm (B.take k)+Fo cm B[k])),(59,vi ((bs.length:Int)-1)),(60,vi k)],[(12,.tok 2 ((Ef keep cm B k).map Ab).length),(15,.rom W4 (cm.map MB)),(44,.arr 1 (B.map GF))],Af⟩ (Yi ⟨⟨⟨rfl,hid _⟩,Zr,Zr,Zr,Zr,Zr,Zr,Tv⟩,Z3,Fh,Tv⟩ (Yi (by grind [Al]) (Xi ⟨k+1,by omega⟩ ?_))))));have e1:AV.slice (.id 12 2) ((Ef keep cm B k).map Ab)=.slice (.id 12 2) ((Ef keep cm B (k+1)).map Ab):=by grind
     have e2:vi (Iv cm (B.take k)+Fo cm B[k])=vi (Iv cm (B.take (k+1))):=by grind
     have e3:HO.tok 2 ((Ef keep cm B k).map Ab).length=.tok 2 ((Ef keep cm B (k+1)).map Ab).length:=by grind
     exact⟨by grind,⟨⟨rfl,hid _⟩,Zr,Zr,⟨e1,rfl⟩,⟨e2,rfl⟩,Zr,Zr,Tv⟩,⟨⟨e3,rfl⟩,Zr,Zr,Tv⟩,Fh,Tv⟩
   .intro hk;have hk:¬(k:Int)<(bs.length:Int)-1:=hk;have N1:k=B.length-1:=by omega
    have zB:canon (Ef keep cm B k)=R:=by
     grind [RM,kq]
    have hc:=V1 (Ef keep cm B k) aa0;rw[zB]at hc;refine Xi .pure (Xi _ (Yi hc ?_));exact .refl _
  .intro kv Uc hp;refine Am (Ay.1 (r2 kv (hp.mem_iff.2 (Ai ..)))) (fun q hq=>?_);have hq2:=hq.2;subst hq2;refine Xi ⟨[(0,F),(5,.mref 15),(10,.msl 44 bs.length),(46,.ref 46 0)],[(15,.rom W4 (cm.map MB)),(44,.arr 1 (bs.map GF)),(46,.iter (cm.map MB) Uc (some (MB q)))],Af⟩ (Yi ⟨⟨⟨rfl,hid _⟩,Zr,Zr,Zr,Tv⟩,Z3,Fh,Tv⟩ ?_)
   have CM:AZ 1 [GF q.1]/\(bs.map GF).length=bs.length/\((bs.map GF).length+[GF q.1].length)*8<=140737488355328/\(bs.map GF).length+[GF q.1].length<=9223372036854775807:=
    ⟨⟨rfl,trivial⟩,by simp_all,by grind,by grind⟩
   refine Yi CM ?_;have e1:AV.msl 44 ((bs.map GF).length+[GF q.1].length)=.msl 44 (bs++[q.1]).length:=by simp
   have e2:HO.arr 1 (bs.map GF++[GF q.1])=.arr 1 ((bs++[q.1]).map GF):=by simp
   refine Xi ⟨(Uc,bs++[q.1],some (MB q)),?_,fun kv eY=>r2 kv (hp.mem_iff.2 (At _ eY))⟩ ?_
   .grind [List.Perm.append_left,List.Perm.trans,List.Perm.symm]
   .exact⟨by show Uc.length<rem.length;rw[hp.length_eq];simp,⟨⟨rfl,hid _⟩,Zr,⟨e1,rfl⟩,Zr,Tv⟩,⟨Zr,⟨e2,rfl⟩,Zr,Tv⟩,Fh,Tv⟩
theorem xG(l:List AF):PC 183 [vi n,.cptr [sl CC l]] (vb (decide (n=l.length))):=by
 refine Ps Cu Tryz.func183 rfl (Nz rfl) ?_;have e:((l.map CC).length:Int)=l.length:=by simp_all
 refine Yi ?_ ?_
 .intro h;rw[show decide (n=(l.length:Int))=true from A4 (h.trans e)];exact .refl _
 .intro h;rw[show decide (n=(l.length:Int))=false from AU (fun c=>h (c.trans e.symm))];exact .refl _
theorem xI:PC 101 [vi n] (vb (decide (n=0))):=by
 refine Ps Cu Tryz.func101 rfl (Nz rfl) (Yi ?_ ?_)
 .intro h;rw[A4 h];exact .refl _
 .intro h;rw[AU h];exact .refl _
theorem yr:PC 352 [vi n] (vb (decide (0<n))):=by
 refine Ps Cu Tryz.func352 rfl (Nz rfl) (Yi ?_ ?_)
 .intro h;rw[A4 h];exact .refl _
 .intro h;rw[AU h];exact .refl _
theorem kn(l:List AF)(p:Int):decide (iK l p=l.length)=l.all fun s=>has s p:=by
 grind [iK,List.countP_eq_length]
theorem ko(l:List AF)(p:Int):decide (0<iK l p)=l.any fun s=>has s p:=by
 grind [iK,List.countP_pos_iff]
theorem xn(l:List AF)(hl:BB l)(hs:∀s∈l,BB s):PC 118 [sl CC l] (sl Ab (LW l)):=by
 have hc:=qh (.clo 183 [.cptr [sl CC l]]) (fun n=>decide (n=l.length)) l hl hs (fun _=>rfl) (fun h n h0 _=>by
  have:=xG n l
  have e:decide (n=(l.length:Int))=decide (n.toNat=l.length):=by grind
  rw[e]at this;exact this) (LW l) (WD l) fun p=>by rw[Sw,kn]
 refine Ps (lf [1]) Tryz.func118 rfl (Nz rfl) (Xi .pure (Xi _ (Yi (hc) ?_)));exact .refl _
theorem mH(hs:BB s):PC 46 [sl Ab s] (sl Ab (BJ s)):=by
 have hc:=qh (.v (Hc 101)) (fun n=>decide (n=0)) [s] (by simp_all) (fun t ht=>by simp_all) (fun _=>rfl) (fun h n h0 _=>by
  have:=xI n
  have e:decide (n=0)=decide (n.toNat=0):=by grind
  rw[e]at this;exact this) (BJ s) (E0 s) fun p=>by
   grind [IY,iK]
 refine Ps Cu Tryz.func46 rfl (Nz rfl) (Xi .pure (Xi _ (Yi (hc) ?_)));exact .refl _
theorem ym(l:List AF)(hl:BB l)(hs:∀s∈l,BB s):PC 349 [sl CC l] (sl Ab (Jq l)):=by
 have hc:=qh (.v (Hc 352)) (fun n=>decide (0<n)) l hl hs (fun _=>rfl) (fun h n h0 _=>by
  have:=yr n
  have e:decide (0<n)=decide (0<n.toNat):=by simp_all
  rw[e]at this;exact this) (Jq l) (K5 l) fun p=>by
   grind [aD,ko,aC,SJ]
 refine Ps Cu Tryz.func349 rfl (Nz rfl) (Xi .pure (Xi _ (Yi (hc) ?_)));exact .refl _
-- terms
theorem c59(ht:BB t.set):PC 67 [.agg (Ac t)] (vb (!t.absent&&(canon t.set).isEmpty)):=by
 refine Ps Cu Tryz.func67 rfl (Nz rfl) (Yi ?_ ?_)
 .intro h;rw[h];exact .refl _
 .intro h;refine Xi .pure (Xi _ (Yi (V1 t.set ht) (Yi ?_ ?_)))
  .intro h2;have h2:canon t.set=[]:=Az (by simp_all);rw[h,h2];exact .refl _
  .intro h2;have h2:(canon t.set).isEmpty=false:=by
    simp_all
   rw[h,h2];exact .refl _
theorem c60(ht:BB t.set):PC 68 [.agg (Ac t)] (vb (t.absent&&(BJ t.set).isEmpty)):=by
 refine Ps Cu Tryz.func68 rfl (Nz rfl) (Yi ?_ ?_)
 .intro h;refine Xi .pure (Xi _ (Yi (mH t.set ht) (Yi ?_ ?_)))
  .intro h2;have h2:BJ t.set=[]:=Az (by simp_all);rw[h,h2];exact .refl _
  .intro h2;have h2:(BJ t.set).isEmpty=false:=by
    simp_all
   rw[h,h2];exact .refl _
 .intro h;rw[h];exact .refl _
abbrev Dc(l:List Nat):Nm:=⟨[],[],[],[],[],[],[],[],[],[],l⟩
theorem c58(hu:BB u.set)(ht:BB t.set):PC 66 [.agg (Ac u),.agg (Ac t)] (.agg (Ac (EG u t))):=by
 have hc:PC 118 [sl CC [u.set,t.set]] (sl Ab (Gd u.set t.set)):=xn [u.set,t.set] (by simp_all) (fun s hs=>by
  grind)
 refine Ps (Dc []) Tryz.func66 rfl (Nz rfl) (Yi ?_ ?_)
 .intro h;refine Yi ?_ ?_
  .intro h2;have e:[vs u.path,vb true,sl Ab (Gd u.set t.set)]=Ac (EG u t):=by grind [EG]
   refine Xi _ (Yi (hc) (Yi (Nz rfl) (Yi aa3 (yN ?_))));exact .of_eq (Aa AV.agg e)
  .intro h2;have e:[vs u.path,vb false,sl Ab (Gd u.set t.set)]=Ac (EG u t):=by grind [EG]
   refine Xi _ (Yi (hc) (Yi (Nz rfl) (Yi aa3 (yN ?_))));exact .of_eq (Aa AV.agg e)
 .intro h;have e:[vs u.path,vb false,sl Ab (Gd u.set t.set)]=Ac (EG u t):=by grind [EG]
  refine Xi _ (Yi (hc) (Yi (Nz rfl) (Yi aa3 (yN ?_))));exact .of_eq (Aa AV.agg e)
theorem yd(hu:BB u.set)(ht:BB t.set):PC 338 [.agg (Ac u),.agg (Ac t)] (.agg (Ac (Dk u t))):=by
 have hc:PC 349 [sl CC [u.set,t.set]] (sl Ab (EM u.set t.set)):=ym [u.set,t.set] (by simp_all) (fun s hs=>by
  grind)
 refine Ps (Dc []) Tryz.func338 rfl (Nz rfl) (Yi ?_ ?_)
 .intro h;have e:[vs u.path,vb true,sl Ab (EM u.set t.set)]=Ac (Dk u t):=by grind [Dk]
  refine Xi _ (Yi (hc) (Yi (Nz rfl) (Yi aa3 (yN ?_))));exact .of_eq (Aa AV.agg e)
 .intro h;refine Yi ?_ ?_
  .intro h2;have e:[vs u.path,vb true,sl Ab (EM u.set t.set)]=Ac (Dk u t):=by grind [Dk]
   refine Xi _ (Yi (hc) (Yi (Nz rfl) (Yi aa3 (yN ?_))));exact .of_eq (Aa AV.agg e)
  .intro h2;have e:[vs u.path,vb false,sl Ab (EM u.set t.set)]=Ac (Dk u t):=by grind [Dk]
   refine Xi _ (Yi (hc) (Yi (Nz rfl) (Yi aa3 (yN ?_))));exact .of_eq (Aa AV.agg e)
theorem tG(hq:BB q.set):PC 336 [.agg (Ad q)] (.agg (Ac (JN q))):=by
 refine Ps Cu Tryz.func336 rfl (Nz rfl) (Xi _ (Yi (mH q.set hq) (Yi (Nz rfl) (Yi aa3 (yN ?_)))));exact .refl _
abbrev Fl:EE:=⟨false,[.str]⟩
abbrev SU:Value×AV:=(.string t.path,.agg (Ac t))
abbrev vW(fin cut:List Nat):Nm:=⟨[],[],[],[],fin,[],[],[],[],[],cut⟩
theorem cG{p:ByteArray}{a:AV}:(Value.string p,a)∈m.map SU↔∃t∈m,t.path=p/\a=.agg (Ac t):=by
 grind
theorem kD(m:List Tm)(t:Tm):FI (m.map SU) (.string t.path) (.agg (Ac t))=(WV m t).map SU:=by
 unfold WV
 by_cases h:(m.any fun u=>decide (u.path=t.path))=true
 .rw[AE h];obtain⟨u,h1,h2⟩:=BQ.1 h;have h2:=DR h2
  have:(Value.string t.path,AV.agg (Ac u))∈m.map SU:=cG.2 ⟨u,h1,h2,rfl⟩
  rw[PK this,Cf,Cf]
  grind [List.map_congr_left]
 grind [PJ]
theorem jh(hn:(EA m).Nodup)(p:ByteArray){K:AV->Prop}{Z:Prop}(hy:∀u,Db m p=some u->K (.agg (Ac u)))(SA:Db m p=none->Z) :
  (∀a,(Value.string p,a)∈m.map SU->K a)/\((∀a,(Value.string p,a)∉m.map SU)->Z):=
 ⟨fun a h=>by
  grind [Qs],fun h=>SA (by
  cases e:Db m p with
  |none=>rfl
  |some u=>exact absurd (cG.2 ⟨u,HV e,Nu e,rfl⟩) (h _))⟩
theorem GG{t:Tm}(h:EY t.set):BB t.set:=by
 grind [CK]
theorem c57(hl:BB l)(hs:∀t∈l,BB t.set):PC 65 [sl Ac l,.v (Hc 66)] (.cmap Fl ((Da l).map SU)):=by
 refine Ps (vW [10] []) Tryz.func65 rfl (Nz rfl) (Xi {i:Nat // i<=l.length} (Xi (fun i=>⟨[(0,sl Ac l),(1,.v (Hc 66)),(5,.mref 10),(11,sl Ac l),(12,vi (l.map Ac).length),(13,vi i.1)],[(10,.map Fl ((Da (l.take i.1)).map SU))],Af⟩) (Xi (fun i=>l.length-i.1) (Yi (Xi ⟨0,Ao _⟩ ?_) ?_))))
 .exact⟨Z6,Z1,Fh,Tv⟩
 intro⟨i,h1⟩;have hn:=HD (l.take i);refine Yi ?_ ?_
 .intro h;have h:i<l.length:=by simp_all
  have hg:l[i]?=some l[i]:=Ge h;refine Xi (Ac l[i]) (Yi (Yi aa0 (by simp_all)) (Yi rfl ?_));refine Yi (Nz rfl) (yN ?_);have GR:=hs l[i] (Ah h);have tail:∀u:Tm,BB u.set->EG u l[i]=WU (Db (Da (l.take i)) l[i].path) l[i]->FI ((Da (l.take i)).map SU) (.string l[i].path) (.agg (Ac (EG u l[i])))=(Da (l.take (i+1))).map SU:=fun u hu e=>by
   have hp:(WU (Db (Da (l.take i)) l[i].path) l[i]).path=l[i].path:=Vj _ _ fun u h=>Nu h;have e2:=kD (Da (l.take i)) (EG u l[i]);have e3:(EG u l[i]).path=l[i].path:=by simp_all
   rw[e3]at e2;rw[e2,QD l i h,e];rfl
  refine jh hn l[i].path (fun u hu=>?_) (fun hu=>?_)
  .have Ij:BB u.set:=GG (OO _ u (HV hu));refine yN ?_;have AJ:=tail u Ij (by grind [cZ]);refine Yi (Nz rfl) (yN (Xi _ (Yi (c58 u l[i] Ij GR) (Yi aa3 (Yi (by show Al ((i:Int)+1);grind [Al]) (Xi ⟨i+1,by omega⟩ ?_))))));have e1:HO.map Fl (FI ((Da (l.take i)).map SU) (.string l[i].path) (.agg (Ac (EG u l[i]))))=.map Fl ((Da (l.take (i+1))).map SU):=by simp_all
   exact⟨by grind,Z6,⟨⟨e1,rfl⟩,Tv⟩,Fh,Tv⟩
  .refine yN (Yi (Nz rfl) (yN ?_));have AJ:=tail l[i] GR (by grind [cZ]);refine Yi (Nz rfl) (yN (Xi _ (Yi (c58 l[i] l[i] GR GR) (Yi aa3 (Yi (by grind [Al]) (Xi ⟨i+1,by omega⟩ ?_))))));have e1:HO.map Fl (FI ((Da (l.take i)).map SU) (.string l[i].path) (.agg (Ac (EG l[i] l[i]))))=.map Fl ((Da (l.take (i+1))).map SU):=by simp_all
   exact⟨by grind,Z6,⟨⟨e1,rfl⟩,Tv⟩,Fh,Tv⟩
 .intro h;have h:¬i<l.length:=by simp_all
  have e:(Da (l.take i)).map SU=(Da l).map SU:=by grind
  exact .of_eq (Aa (AV.cmap Fl) e)
abbrev G4:AV:=.tup [sl Ac (BM l),vb (AW l).isSome]
abbrev Aau:Nm:=⟨[],[],[(4,3)],[],[],[],[],[],[],[(25,4)],[]⟩
abbrev bO:HO:=.arr 3 (l.map Ac)
abbrev GL:List Tm:=l.filter fun t=>!GC t
theorem oA{l:List Tm}{kv:Value×AV}{Uc : List (Value×AV)}(h:(l.map SU).Perm (kv::Uc)):∃t r,kv=SU t/\Uc=r.map SU/\l.Perm (t::r):=by
 obtain⟨ps,h1,h2⟩:=QI h l rfl;cases ps<;>grind
theorem XQ{l:List Tm}{t:Tm}(h:t∈Da l)(hn:GS t=true):AW l=none:=by
 grind [AW,IZ]
theorem ZU{l done s:List Tm}(h:done.Perm (Da l))(hn:∀t∈done,GS t=false)(hp:s.Perm (GL done))(hs:s.Pairwise fun x y=>G1 y.path x.path=false):AW l=some s:=by
 unfold AW;rw[Aw]
 .congr 1
  exact(Po _ (hp.trans (h.filter _)) hs).symm
 grind [IZ]
theorem fp:(GL l).length<=l.length:=Ca _ _
theorem tJ(hl:BB l)(hs:∀t∈l,BB t.set):PC 30 [sl Ac l] (G4 l):=by
 have eZ:l.length<=1073741824:=hl;have ZC:(Da l).length<=l.length:=by grind [NK,List.take_length]
 refine Ps Aau Tryz.func30 rfl (Nz rfl) (Xi .pure (Xi _ (Yi (c57 l hl hs) (Xi {p:List Tm×List Tm×Option (Value×AV) // (p.1++p.2.1).Perm (Da l)/\∀t∈p.1,GS t=false} (Xi (fun p=>⟨[(4,.msl 4 (GL p.1.1).length),(9,.ref 9 0)],[(4,bO (GL p.1.1)),(9,.iter ((Da l).map SU) (p.1.2.1.map SU) p.1.2.2)],Af⟩) (Xi (fun p=>p.1.2.1.length) (Yi (Xi ⟨([],Da l,none),.refl _,fun t ht=>by cases ht⟩ ?_) ?_)))))))
 .exact⟨Z2,Z2,Fh,Tv⟩
 intro⟨⟨done,rem,D1⟩,r1,r2⟩;have r1:(done++rem).Perm (Da l):=r1;have QY:done.length+rem.length<=l.length:=by grind [List.length_append,List.Perm.length_eq]
 have pF:=fp done;refine Yi ?_ ?_
 .intro hr;have hr:rem=[]:=List.map_eq_nil_iff.1 hr;subst hr;rw[BC]at r1;refine Xi (.gen [(4,1000)] 0) (Yi rfl ((c61 (GL done) aa0).to ?_));intro s hq;have cB:s.length=(GL done).length:=hq.1.length_eq;have hc:=ZU r1 r2 hq.1 hq.2;refine Yi (by simp_all) ?_;have e:AV.tup [sl Ac s,vb true]=G4 l:=by grind [BM]
  exact .of_eq e
 .intro kv Uc hp;refine Am (oA hp) (fun t hp=>Am hp (fun r hp=>?_));have e1:=hp.1;have e2:=hp.2.1;subst e1;subst e2;have hp:=hp.2.2;have SD:t∈Da l:=r1.mem_iff.1 (Bj _ (hp.mem_iff.2 (Ai ..)));have wU:=OO l t SD;have htf:=GG wU;refine Yi (Nz rfl) (yN ?_);have hv:PC 67 [.agg (Ac t)] (vb (GS t)):=kG wU▸c59 t htf;have ha:PC 68 [.agg (Ac t)] (vb (GC t)):=dw wU▸c60 t htf;refine AG (Bt (GS t)) (fun h=>?_) (fun h=>?_)
  .rw[h]at hv;refine Xi .pure (Xi _ (Yi (hv) ?_));have hc:=XQ SD h;have e:AV.tup [.slice .none [],vb false]=G4 l:=by grind [BM]
   have e0:DC (.tup [nzA,vb false]) (.tup [.slice .none [],vb false]):=DC.tup ⟨.nil,.refl _,trivial⟩;exact e0.trans (.of_eq e)
  .rw[h]at hv;refine Xi .pure (Xi _ (Yi (hv) (yN ?_)));have jZ:((done++[t])++r).Perm (Da l):=by
    grind
   have hnv:∀u∈done++[t],GS u=false:=fun u hu=>by
    grind
   have GH:r.length<rem.length:=by grind [List.length_cons,List.Perm.length_eq]
   refine AG (Bt (GC t)) (fun h2=>?_) (fun h2=>?_)
   rotate_left
   .rw[h2]at ha;refine Xi .pure (Xi _ (Yi (ha) ?_));have CM:AZ 3 [Ac t]/\((GL done).map Ac).length=(GL done).length/\(((GL done).map Ac).length+[Ac t].length)*48<=140737488355328/\((GL done).map Ac).length+[Ac t].length<=9223372036854775807:=
     ⟨⟨rfl,trivial⟩,by simp_all,by grind,by grind⟩
    refine yN (Yi CM ?_);have hk:GL (done++[t])=GL done++[t]:=by simp_all
    have e1:AV.msl 4 (((GL done).map Ac).length+[Ac t].length)=.msl 4 (GL (done++[t])).length:=by simp_all
    have e2:HO.arr 3 ((GL done).map Ac++[Ac t])=bO (GL (done++[t])):=by simp_all
    refine Xi ⟨(done++[t],r,some (SU t)),jZ,hnv⟩ ?_;exact⟨GH,⟨⟨e1,rfl⟩,Zr,Tv⟩,⟨⟨e2,rfl⟩,Zr,Tv⟩,Fh,Tv⟩
   .rw[h2]at ha;refine Xi .pure (Xi _ (Yi (ha) ?_));have hk:GL (done++[t])=GL done:=by simp_all
    have e1:AV.msl 4 (GL done).length=.msl 4 (GL (done++[t])).length:=by rw[hk]
    have e2:bO (GL done)=bO (GL (done++[t])):=by rw[hk]
    refine Xi ⟨(done++[t],r,some (SU t)),jZ,hnv⟩ ?_;exact⟨GH,⟨⟨e1,rfl⟩,Zr,Tv⟩,⟨⟨e2,rfl⟩,Zr,Tv⟩,Fh,Tv⟩
theorem qu(hl:BB l)(hs:∀t∈l,BB t.set):PC 335 [sl Ac l] (sl Ac (BM l)):=by
 refine Ps Cu Tryz.func335 rfl (Nz rfl) (Xi .pure (Xi _ (Yi (tJ l hl hs) ?_)));exact .refl _
theorem Pw:BB (BJ s):=by
 grind [CK,E0]
theorem uc:BB [x]:=by simp_all
theorem yY(y:α):BB [x,y]:=by simp_all
theorem xW(hq:BB q.set):PC 303 [.agg (Ad q)] (sl Ac (Li q)):=by
 have hc:PC 335 [sl Ac [JN q]] (sl Ac (Li q)):=qu [JN q] (uc _) fun t ht=>by rw[A9.1 ht];exact Pw _
 refine Ps Cu Tryz.func303 rfl (Nz rfl) (yN (Xi .pure (Xi _ (Yi (tG q hq) (Xi .pure (Xi _ (Yi (hc) ?_)))))));exact .refl _
theorem xY(pl:Int)(q:Rq)(hp:Al (pl+1))(hq:BB q.set):PC 305 [vs p,vi pl,.agg (Ad q)] (sl Ac (Cb p pl q)):=by
 have hc:PC 335 [sl Ac [⟨p,false,[(pl,pl+1)]⟩,JN q]] (sl Ac (Cb p pl q)):=qu [⟨p,false,[(pl,pl+1)]⟩,JN q] (yY _ _) fun t ht=>by
  rcases AN.1 ht with rfl | ht
  .simp_all
  .rw[A9.1 ht];exact Pw _
 refine Ps Cu Tryz.func305 rfl (Nz rfl) (Yi hp (yN (Xi .pure (Xi _ (Yi (tG q hq) (Xi .pure (Xi _ (Yi (hc) ?_))))))));exact .refl _
theorem xZ(hs:BB s):PC 306 [vs p,sl Ab s] (sl Ac (Gg p s)):=by
 have hc:PC 335 [sl Ac [⟨p,false,BJ s⟩]] (sl Ac (Gg p s)):=qu [⟨p,false,BJ s⟩] (uc _) fun t ht=>by grind [Pw]
 refine Ps Cu Tryz.func306 rfl (Nz rfl) (Xi .pure (Xi _ (Yi (mH s hs) (Xi .pure (Xi _ (Yi (hc) ?_))))));exact .refl _
end Go.Eng
