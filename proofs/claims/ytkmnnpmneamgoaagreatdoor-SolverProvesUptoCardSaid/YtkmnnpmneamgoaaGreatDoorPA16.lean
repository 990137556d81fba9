/- Lemmas 16. -/
import Derived.Test.YtkmnnpmneamgoaaGreatDoorPA15
import Derived.Test.YtkmnnpmneamgoaaGreatDoorPA02
import Derived.Shelf.SlSortCmp.NoneTotal
namespace Go.Eng
open Go.Proofs
variable (l:List Tm)(s:List Sl)
theorem Aag(hl:PT l)(hs:BL s):PC 162 [sl Ad l,sl Ag s] (vb (AT l s)):=by
 have hc:∀i (h:i<l.length),PC 210 [.agg (Ad l[i]),sl Ag s] (vb (E2 l[i] s)):=fun i h=>Aav l[i] s hs (hl.2 _ (Ak h));obtain⟨hl,_⟩:=hl;unfold BL at hl;refine Ps De Tryz.func162 rfl (Nz rfl) (Xi {i:Nat // i<=l.length/\∀j (hj:j<l.length),j<i->E2 l[j] s=true} (Xi (fun i=>⟨[(0,sl Ad l),(1,sl Ag s),(5,vi i.1)],[],Ae⟩) (Xi (fun i=>l.length-i.1) (Yi (Xi ⟨0,by simp⟩ ?_) ?_))))
 .exact⟨Z3,Tv,Fh,Tv⟩
 .intro⟨i,h1,h2⟩;refine Yi ?_ ?_
  .intro h;have h:(i:Int)<(l.map Ad).length:=h;have h:i<l.length:=by simp_all
   have hg:l[i]?=some l[i]:=Ge h;have dN:=hc i h;refine Xi (Ad l[i]) (Yi (Yi aa0 (by simp_all)) (Yi rfl (yN ?_)));refine AA (Bt (E2 l[i] s)) (fun hp=>?_) (fun hp=>?_)
   .rw[hp]at dN;refine Xi .pure (Xi _ (Yi dN (Yi (by grind [As]) (Xi ⟨i+1,by omega,fun j hj Hg=>?_⟩ ?_))))
    .grind
    .exact⟨by grind,Z3,Tv,Fh,Tv⟩
   .rw[hp]at dN;refine Xi .pure (Xi _ (Yi dN ?_));show Ea (vb false) (vb (AT l s))
    grind [AT,Ea.refl]
  .intro h;have h:¬(i:Int)<(l.map Ad).length:=h;have h:¬i<l.length:=by simp_all
   show Ea (vb true) (vb (AT l s))
   grind [AT,WY,Ea.refl]
def Jg:Bool:=l.all (fun t=>BS s t.path)&&AT l s
theorem Xf:Jg l s=Bm l s:=by
 grind [Jg,Bm]
theorem c96(hl:PT l)(hs:BL s):PC 110 [sl Ad l,sl Ag s] (vb (Bm l s)):=by
 have hc:∀i (h:i<l.length),PC 161 [sl Ag s,vs l[i].path] (vb (BS s l[i].path)):=fun i h=>Aaf s l[i].path hs;have hv:=Aag l s hl hs;obtain⟨hl,_⟩:=hl;unfold BL at hl;rw[<-Xf];refine Ps De Tryz.func110 rfl (Nz rfl) (Xi {i:Nat // i<=l.length/\∀j (hj:j<l.length),j<i->BS s l[j].path=true} (Xi (fun i=>⟨[(0,sl Ad l),(1,sl Ag s),(5,vi i.1)],[],Ae⟩) (Xi (fun i=>l.length-i.1) (Yi (Xi ⟨0,by simp⟩ ?_) ?_))))
 .exact⟨Z3,Tv,Fh,Tv⟩
 .intro⟨i,h1,h2⟩;refine Yi ?_ ?_
  .intro h;have h:(i:Int)<(l.map Ad).length:=h;have h:i<l.length:=by simp_all
   have hg:l[i]?=some l[i]:=Ge h;have dN:=hc i h;refine Xi (Ad l[i]) (Yi (Yi aa0 (by simp_all)) (Yi rfl ?_));refine AA (Bt (BS s l[i].path)) (fun hp=>?_) (fun hp=>?_)
   .rw[hp]at dN;refine Xi .pure (Xi _ (Yi dN (Yi (by grind [As]) (Xi ⟨i+1,by omega,fun j hj Hg=>?_⟩ ?_))))
    .grind
    .exact⟨by grind,Z3,Tv,Fh,Tv⟩
   .rw[hp]at dN;refine Xi .pure (Xi _ (Yi dN ?_));show Ea (vb false) (vb (Jg l s))
    grind [Jg,Ea.refl]
  .intro h;have h:¬(i:Int)<(l.map Ad).length:=h;have h:¬i<l.length:=by simp_all
   refine Xi .pure (Xi _ (Yi hv ?_));show Ea (vb (AT l s)) (vb (Jg l s))
   grind [Jg,WY,Ea.refl]
abbrev EM(a:An):List AV:=[vb a.found,sl Ag a.sel,sl AG a.infs,sl AN a.skips]
theorem sv(r:Rl):PC 113 [.agg (Am r)] (.agg (Ag ⟨r.path,r.ver⟩)):=by
 refine Ps De Tryz.func113 rfl (Nz rfl) ?_;exact Yi (Nz rfl) (Yi (Nz rfl) (Yi (Nz rfl) (.refl _)))
theorem uW(p:ByteArray)(hl:BL s):PC 127 [sl Ag s,vs p] (.tup [.agg (Ag ((AB s p).getD Mc)),vb (AB s p).isSome]):=by
 unfold BL at hl;refine Ps De Tryz.func127 rfl (Nz rfl) (Xi {i:Nat // i<=s.length/\∀j (hj:j<s.length),j<i->decide (s[j].path=p)=false} (Xi (fun i=>⟨[(0,sl Ag s),(1,vs p),(4,.ref 4 0),(6,vi i.1)],[(4,.cells (Ag Mc))],Ae⟩) (Xi (fun i=>s.length-i.1) (Yi (Xi ⟨0,by simp⟩ ?_) ?_))))
 .exact⟨Z4,Z1,Fh,Tv⟩
 .intro⟨i,h1,h2⟩;refine Yi ?_ ?_
  .intro h;have h:i<s.length:=by simp_all
   have hg:s[i]?=some s[i]:=Ge h;refine Xi (Ag s[i]) (Yi (Yi aa0 (by simp_all)) (Yi rfl ?_));refine Yi ?_ ?_
   .intro h3;have hf:AB s p=some s[i]:=Xk (p:=fun x:Sl=>decide (x.path=p)) h h2 (Bs h3);refine Xi (Ag s[i]) (Yi (Yi aa0 (by simp_all)) (Yi rfl (Yi (Nz rfl) (Yi (Nz rfl) (yN ?_)))));show Ea (.tup [.agg (Ag s[i]),vb true]) _
    grind [Ea.refl]
   .intro h3;refine Yi (by grind [As]) (Xi ⟨i+1,by omega,fun j hj Hg=>?_⟩ ?_)
    .grind
    .exact⟨by grind,Z4,Z1,Fh,Tv⟩
  .intro h;have h:¬i<s.length:=by simp_all
   have hf:AB s p=none:=VX (p:=fun x:Sl=>decide (x.path=p)) h2 h;refine Yi (Nz rfl) (yN ?_);show Ea (.tup [.agg (Ag Mc),vb false]) _
   grind [Ea.refl]
theorem c75(l m:List (Int×Int))(hl:BL l):PC 124 [sl Ab l,sl Ab m] (vb (decide (l=m))):=by
 refine Ps De Tryz.func124 rfl (Nz rfl) (Yi ?_ ?_)
 .intro h
  have:l≠m:=fun e=>h (by rw[e])
  rw[AP this];exact .refl _
 .intro h;have CD:l.length=m.length:=by grind
  refine Xi {i:Nat // i<=l.length/\l.take i=m.take i} (Xi (fun i=>⟨[(0,sl Ab l),(1,sl Ab m),(5,vi i.1)],[],Ae⟩) (Xi (fun i=>l.length-i.1) (Yi (Xi ⟨0,by simp⟩ ?_) ?_)))
  .exact⟨Z3,Tv,Fh,Tv⟩
  .intro⟨i,h1,h2⟩;refine Yi ?_ ?_
   .intro h;have h:i<l.length:=by simp_all
    have h' : i<m.length:=by omega
    have hg:l[i]?=some l[i]:=Ge h;have lA : m[i]?=some m[i]:=Ge h';refine Xi (Ab l[i]) (Yi (Yi aa0 (by simp_all)) (Yi rfl (yN ?_)));refine Xi (Ab m[i]) (Yi (Yi aa0 (by simp_all)) (Yi rfl (yN ?_)));refine Yi ?_ ?_
    .intro h5;have e:l[i]=m[i]:=Sf.1 h5;refine Yi aa3 (Yi (by grind [As]) (Xi ⟨i+1,by omega,?_⟩ ?_))
     .grind [List.take_add_one]
     .exact⟨Dl l.length i aa0,Z3,Tv,Fh,Tv⟩
    .intro h5;refine Yi aa3 ?_
     have:l≠m:=fun e=>h5 (Sf.2 (by simp_all))
     rw[AP this];exact .refl _
   .intro h;have h:¬i<l.length:=by simp_all
    have e:l=m:=by
     grind
    rw[Bs e];exact .refl _
end Go.Eng
namespace Go.Eng
open Go.Proofs Go.Shelf Go.RowKit Go.Lib Go.Sort
variable (k:Nat)
theorem dZ(x y:SpA):ltOf cfSpA x y=decide (x.1.1<y.1.1):=by
 unfold ltOf cfSpA;rw[Dh];simp only[A8];omega
theorem nI:SWO (ltOf cfSpA) where
 irrefl x:=by rw[dZ];simp
 trans x y z h1 h2:=by rw[dZ]at *;simp at *;omega
 ntrans x y z h1 h2:=by rw[dZ]at *;simp at *;omega
theorem T6:∀x y:List UInt8,decide (Lib.compareBytes x y<0)=KM x y
 | [],[]=>rfl
 | [],_::_=>rfl
 |_::_,[]=>rfl
 |a::x,b::y=>by
  unfold Lib.compareBytes KM
  by_cases h:a<b
  .simp[h]
  .by_cases h2:b<a
   .have:¬a=b:=fun e=>by subst e;exact absurd h2 (UInt8.lt_irrefl a)
    simp[h,h2,this]
   .have e:a=b:=UInt8.le_antisymm (UInt8.not_lt.1 h2) (UInt8.not_lt.1 h);subst e;simp[UInt8.lt_irrefl,T6 x y]
theorem d4(x y:TmA):ltOf cfTmA x y=Fp x.1 y.1:=T6 _ _
theorem nJ:SWO (ltOf cfTmA) where
 irrefl x:=by rw[d4];exact DQ _
 trans x y z h1 h2:=by rw[d4]at *;exact E5 h1 h2
 ntrans x y z h1 h2:=by
  rw[d4]at *
  rw[A2];intro h;cases vB:Fp y.1 x.1 with
  |true=>have:=E5 vB h;rw[h2]at this;cases this
  |false=>
   have e:=JW h1 vB;rw[e]at h;rw[h2]at h;cases h
abbrev Hf:Value:=.func (.func k) #[] #[]
theorem ku {fn : Func}{c : Code}(hf : Tryz.prog.funcs[k]? = some fn)(hn : (fn.name == "runtime.NumGoroutine") = false)(hb : fn.body = some c) : Gr Tryz.prog k := gi hf hn hb
theorem Aax(l:List (Int×Int))(hl:BL l)(h:∀x∈l,0<=x.1/\x.1<=1000000)(lim:Nat)(Y5:lim<100) :
  A6 Tryz.prog 216 [.msl 1000 l.length,vi 0,vi l.length,vi lim,.v (Hf 169)] (Af [(1000,.arr 2 (l.map Ab))] Ae) fun r h'=>
   r=.tup []/\∃l' : List (Int×Int),l'.Perm l/\l'.Pairwise (fun x y=>x.1<=y.1)/\h'=Af [(1000,.arr 2 (l'.map Ab))] Ae:=by
 have hl:l.length<=1073741824:=hl;have hE:Gr Tryz.prog 216:=ku 216 Tryz.func216 aa3 rfl;have eg:∀args w,(callFunc 169 args).run Tryz.prog w=.ok (.enter 169 args) w:=enters_of Tryz.func169 aa3 rfl;have KI:=Jm (P:=Tryz.prog) (f:=216) (α:=SpA) (rest:=[.int .i64 0,.int .i64 l.length,.int .i64 lim,Hf 169]) hE Ab encSpA (k:=2) (fun _=>rfl) (fun _=>rfl) (ltOf cfSpA) (fun x a=>a.1=x) l aa0 ?_ ?_ ?_
 .refine⟨hE,fun g w vals q1 q2 q3=>(KI.2 g w vals q1 q2 q3).mono fun _ _ ⟨v,r,h',g',e1,⟨e2,l',p1,⟨al,a1,a2,a3⟩,p2⟩,rest⟩=>⟨v,r,h',g',e1,⟨e2,l',p1,?_,p2⟩,rest⟩⟩;rw[Dm]at a3⊢;intro i j hi hj aC
  have:=a3 i j aa0 aa0 aC
  rw[dZ]at this;have e1:=a2 i _ _ (AR hi) (AR aa0);have e2:=a2 j _ _ (AR hj) (AR aa0);rw[<-e1,<-e2]
  have:=of_decide_eq_false this
  omega
 .intro x hx g w vs hr
  match vs,hr with
  | [a,b],hr=>
   have h1:=(hr.2.2 0 (vi x.1) a rfl rfl).v_eq;have h2:=(hr.2.2 1 (vi x.2) b rfl rfl).v_eq;subst h1;subst h2;exact⟨⟨x,h x hx⟩,rfl,rfl⟩
  | [],hr=>have:=hr.1;simp at this
  | [_],hr=>have:=hr.1;simp at this
  |_::_::_::_,hr=>have:=hr.1;simp at this
 .intro w b cap d hH hb FG hdl;have lu:CmpLays Tryz.prog 169 #[] encSpA 2 cfSpA b 0 d.size w:=fun _ _ _ _ x y=>Tryz.closure169 x y _;have hp:=AnyQ.pdqsortCmpFunc_all Tryz.layPdqSpan 2 Tryz.isAgg65 Tryz.sizeOf65 encSpA cfSpA 169 #[] nI b 0 cap d w eg lu ⟨fun _=>rfl,fun x v hv=>by simp[encSpA]at hv;rcases hv with rfl | rfl<;>rfl,hH,hb⟩ (d.size+1) 0 d.size lim d w aa0 rfl (SWK.start hH) (Ap _) (Ao _) FG aa0 (Or.inl rfl)
  rw[hdl]at hp⊢;refine hp.mono ?_
  rintro e w' ⟨rfl,n,os,rfl⟩
  have h:=pdq_sorts (ltOf cfSpA) nI d 0 d.size lim true true (Ap _) (Ao _) (Or.inl rfl);rw[hdl]at h;exact⟨rfl,_,n,os,h.1,h.2,rfl⟩
 .intro e w;subst e;exact AnyF.pdqsortCmpFunc_none Tryz.layPdqSpan none 0 lim (Hf 169) w
theorem Aa2(l:List Tm)(hl:BL l)(lim:Nat)(Y5:lim<100) :
  A6 Tryz.prog 263 [.msl 1000 l.length,vi 0,vi l.length,vi lim,.v (Hf 232)] (Af [(1000,.arr 3 (l.map Ad))] Ae) fun r h'=>
   r=.tup []/\∃l' : List Tm,l'.Perm l/\l'.Pairwise (fun x y=>Fp y.path x.path=false)/\h'=Af [(1000,.arr 3 (l'.map Ad))] Ae:=by
 have hl:l.length<=1073741824:=hl;have hE:Gr Tryz.prog 263:=ku 263 Tryz.func263 aa3 rfl;have eg:∀args w,(callFunc 232 args).run Tryz.prog w=.ok (.enter 232 args) w:=enters_of Tryz.func232 aa3 rfl;have KI:=Jm (P:=Tryz.prog) (f:=263) (α:=TmA) (rest:=[.int .i64 0,.int .i64 l.length,.int .i64 lim,Hf 232]) hE Ad encTmA (k:=3) (fun _=>rfl) (fun _=>rfl) (ltOf cfTmA) (fun x a=>a.1=x.path) l aa0 ?_ ?_ ?_
 .refine⟨hE,fun g w vals q1 q2 q3=>(KI.2 g w vals q1 q2 q3).mono fun _ _ ⟨v,r,h',g',e1,⟨e2,l',p1,⟨al,a1,a2,a3⟩,p2⟩,rest⟩=>⟨v,r,h',g',e1,⟨e2,l',p1,?_,p2⟩,rest⟩⟩;rw[Dm]at a3⊢;intro i j hi hj aC
  have:=a3 i j aa0 aa0 aC
  rw[d4]at this;have e1:=a2 i _ _ (AR hi) (AR aa0);have e2:=a2 j _ _ (AR hj) (AR aa0);rw[<-e1,<-e2];exact this
 .intro x hx g w vs hr
  match vs,hr with
  | [a,b,c],hr=>
   have h1:=(hr.2.2 0 (Go.Eng.vs x.path) a rfl rfl).v_eq;subst h1;exact⟨⟨x.path,⟨b,hr.2.1 b aa1⟩,⟨c,hr.2.1 c aa1⟩⟩,rfl,rfl⟩
  | [],hr=>have:=hr.1;simp at this
  | [_],hr=>have:=hr.1;simp at this
  | [_,_],hr=>have:=hr.1;simp at this
  |_::_::_::_::_,hr=>have:=hr.1;simp at this
 .intro w b cap d hH hb FG hdl;have lu:CmpLays Tryz.prog 232 #[] encTmA 3 cfTmA b 0 d.size w:=fun _ _ _ _ x y=>Tryz.closure232 x y _;have hp:=AnyQ.pdqsortCmpFunc_all Tryz.layPdqTerm 3 Tryz.isAgg208 Tryz.sizeOf208 encTmA cfTmA 232 #[] nJ b 0 cap d w eg lu ⟨fun _=>rfl,fun x v hv=>by
    simp only[encTmA,AF,L1,or_false]at hv;rcases hv with rfl | rfl | rfl
    .rfl
    .exact x.2.1.2
    .exact x.2.2.2,hH,hb⟩ (d.size+1) 0 d.size lim d w aa0 rfl (SWK.start hH) (Ap _) (Ao _) FG aa0 (Or.inl rfl)
  rw[hdl]at hp⊢;refine hp.mono ?_
  rintro e w' ⟨rfl,n,os,rfl⟩
  have h:=pdq_sorts (ltOf cfTmA) nJ d 0 d.size lim true true (Ap _) (Ao _) (Or.inl rfl);rw[hdl]at h;exact⟨rfl,_,n,os,h.1,h.2,rfl⟩
 .intro e w;subst e;exact AnyF.pdqsortCmpFunc_none Tryz.layPdqTerm none 0 lim (Hf 232) w
end Go.Eng
namespace Go.Eng
open Go.Proofs
variable {h0:Nat->HO}{α:Type}{P:Program}{args:List AV}{f:Nat}(s:AH)(x:List Rl)(ifs:AV)(l:List (Int×Int))(j:AH)(roots:List Rq)(d:List (List Tm))(i:Nat)
-- the checker,and what reads it
abbrev Cr:List AV:=[sl Am x,ifs,sl Ac roots,sl Aq d]
theorem c40(hd:BL d):PC 50 [.cptr (Cr x ifs roots d)] (vb (EP d)):=by
 unfold BL at hd;refine Ps De Tryz.func50 rfl (Nz rfl) (Yi ?_ ?_)
 .intro h;have h:(0:Int)<(d.map Aq).length:=h;have h:0<d.length:=by simp_all
  have hg:d[d.length-1]?=some d[d.length-1]:=Ge aa0;have hl:d.getLast?=some d[d.length-1]:=by grind
  refine Yi (by grind [As]) (Xi (Aq d[d.length-1]) (Yi (Yi aa0 (by rw[show(((d.map Aq).length:Int)-1).toNat=d.length-1 by simp_all];grind)) (Yi rfl ?_)));refine Yi ?_ ?_
  .intro h2;have h2:((d[d.length-1].map Ad).length:Int)=0:=h2;have h2:d[d.length-1]=[]:=by simp_all
   show Ea (vb true) (vb (EP d))
   grind [EP,Ea.refl]
  .intro h2;have h2:¬((d[d.length-1].map Ad).length:Int)=0:=h2;have h2:d[d.length-1]≠[]:=fun e=>h2 (by simp_all);show Ea (vb false) (vb (EP d))
   grind [EP,Ea.refl]
 .intro h;have h:¬(0:Int)<(d.map Aq).length:=h;have h:d=[]:=Aw (by simp_all);subst h;exact .refl _
theorem Zi:∀(s:List Sl) (i:Nat) (h:i+1<s.length),KK (some s[i].path) (s.drop (i+1))=(Fp s[i].path s[i+1].path&&KK (some s[i+1].path) (s.drop (i+2))):=fun s i h=>by
 rw[Ba h];rfl
theorem Ew(a b:ByteArray):Fp a b=Op.bytesLess a.toList b.toList:=by
 have:∀x y:List UInt8,KM x y=Op.bytesLess x y:=by
  intro x
  induction x with
  |nil=>intro y;cases y<;>rfl
  |cons a x ih=>
   intro y;cases y with
   |nil=>rfl
   |cons b y=>
    unfold KM Op.bytesLess;rw[ih];rw[Dh];simp
 grind [Fp,ByteArray.toList_eq]
theorem A6.imp{Q Q' : AV->(Nat->HO)->Prop}(h:A6 P f args h0 Q)(hq:∀r h',Q r h'->Q' r h'):A6 P f args h0 Q':=h.mono fun r h' q=>⟨r,.refl _,hq r h' q⟩
theorem A6.to{r0:AV}{p:α->Prop}{H:α->Nat->HO}{Q' : AV->(Nat->HO)->Prop}(h:A6 P f args h0 fun r h'=>r=r0/\∃x,p x/\h'=H x)(k:∀x,p x->Q' r0 (H x)):A6 P f args h0 Q':=
 h.imp fun r h' ⟨e1,x,e2,e3⟩=>by simp_all
theorem su(n:Nat)(h:n<=1073741824):∃lim:Nat,lim<100/\PC 93 [.v (.int .u64 (IntKind.u64.wrap (n:Int)))] (vi lim):=by
 refine⟨Lib.bitLen n,Nat.lt_of_le_of_lt (Lib.bitLen_le n 62 aa0 aa0) aa0,?_⟩;have wr:IntKind.u64.wrap (n:Int)=n:=by grind [IntKind.wrap,IntKind.bits]
 rw[wr];refine Ly [.int .u64 n] (.int .i64 (Lib.bitLen n:Nat)) (ku 93 Tryz.func93 aa3 rfl) rfl (fun _ _=>.v _ _) fun w _=>?_
 have:=Any.bits_Len Tryz.layBits (n:Int) w aa0 aa0
 rw[FI]at this;exact this
theorem Aaj(hl:BL l)(h:∀x∈l,0<=x.1/\x.1<=1000000) :
  A6 Tryz.prog 168 [.msl 1000 l.length,.v (Hf 169)] (Af [(1000,.arr 2 (l.map Ab))] Ae) fun r h'=>
   r=.tup []/\∃l' : List (Int×Int),(l'.Perm l/\l'.Pairwise (fun x y=>x.1<=y.1))/\h'=Af [(1000,.arr 2 (l'.map Ab))] Ae:=by
 obtain⟨lim,Y5,hb⟩:=su l.length hl;refine Bi (IB De) [(1000,1000)] rfl Bz hm rfl Tryz.func168 aa3 rfl (Nz rfl) aa3 rfl (Xi .pure (Xi _ (Yi (hb) (Xi (.gen [(1000,1000)] 0) (Yi rfl ((Aax l hl h lim Y5).imp ?_))))));intro r h' hq;refine Al hq.2 (fun l' RT=>?_);refine Xi (.tup []) (Yi ?_ (Yi rfl (Xi l' (Yi ⟨RT.1,RT.2.1⟩ ?_))))
 .exact .refl _
 .rw[RT.2.2];rfl
theorem c61(l:List Tm)(hl:BL l) :
  A6 Tryz.prog 231 [.msl 1000 l.length,.v (Hf 232)] (Af [(1000,.arr 3 (l.map Ad))] Ae) fun r h'=>
   r=.tup []/\∃l' : List Tm,(l'.Perm l/\l'.Pairwise (fun x y=>Fp y.path x.path=false))/\h'=Af [(1000,.arr 3 (l'.map Ad))] Ae:=by
 obtain⟨lim,Y5,hb⟩:=su l.length hl;refine Bi (IB De) [(1000,1000)] rfl Bz hm rfl Tryz.func231 aa3 rfl (Nz rfl) aa3 rfl (Xi .pure (Xi _ (Yi (hb) (Xi (.gen [(1000,1000)] 0) (Yi rfl ((Aa2 l hl lim Y5).imp ?_))))));intro r h' hq;refine Al hq.2 (fun l' RT=>?_);refine Xi (.tup []) (Yi ?_ (Yi rfl (Xi l' (Yi ⟨RT.1,RT.2.1⟩ ?_))))
 .exact .refl _
 .rw[RT.2.2];rfl
abbrev pla(l:List (Nat×Nat))(cut:List Nat):Md:=⟨[],[],l,[],[],[],[],[],[],[],cut⟩
abbrev G7:HO:=.arr 2 (l.map Ab)
theorem SY(l:AH)(i:Nat):(DZ (l.take i)).length<=i:=by
 grind [DZ]
theorem Qg{l:AH}{i:Nat}(h:i<l.length)(h3:(Ha l[i]).1<(Ha l[i]).2):DZ (l.take (i+1))=DZ (l.take i)++[Ha l[i]]:=by
 grind [List.take_add_one,DZ]
theorem SX{l:AH}{i:Nat}(h:i<l.length)(h3:¬(Ha l[i]).1<(Ha l[i]).2):DZ (l.take (i+1))=DZ (l.take i):=by
 grind [List.take_add_one,DZ]
abbrev arr2:AH:=(BE (s.take i)).reverse++(j++s.drop i)
theorem oC(h:i<s.length)(hj:(BE (s.take i)).length+j.length=i):(arr2 s j i)[i]?=some s[i]:=by
 unfold arr2;rw[BQ (by grind),BQ (by grind),List.length_reverse,F9]
 grind
theorem jP(h:i<=s.length)(hj:(BE (s.take i)).length+j.length=i):(arr2 s j i).length=s.length:=by
 grind
theorem dv(s:List α)(i:Nat)(h:i<s.length):s.drop i=s[i]::s.drop (i+1):=Ba h
theorem VD(h:i<s.length)(e:JG (BE (s.take i)) s[i]=s[i]::BE (s.take i)) :
  (arr2 s j i).set (BE (s.take i)).length s[i]=arr2 s (j++[s[i]]).tail (i+1):=by
 unfold arr2;rw[FE s i h,e,List.reverse_cons,List.set_append_right _ _ (by simp_all),List.length_reverse,IN,Kr,dv s i h]
 congr 1
 cases j<;>grind
theorem fH(h:i<s.length){y:Int×Int}{t:AH}(e:BE (s.take i)=y::t)(IF:s[i].1<=y.2) :
  (arr2 s j i).set t.length (y.1,max y.2 s[i].2)=arr2 s (j++[s[i]]) (i+1):=by
 unfold arr2;have e2:JG (y::t) s[i]=(y.1,max y.2 s[i].2)::t:=by show(if s[i].1<=y.2 then _ else _)=_;simp_all
 rw[FE s i h,e,e2,List.reverse_cons,List.reverse_cons,Kr,List.set_append_right _ _ (by simp_all),List.length_reverse,IN,dv s i h];simp
theorem Bk{enc:α->List AV}{l:List α}{i:Nat}{x:α}(h:l[i]?=some x):(l.map enc)[i]?=some (enc x):=by simp_all
theorem Yp(hl:BL l):PC 116 [sl Ab l] (sl Ab (canon l)):=by
 refine Fz (br (pla [(3,2)] [])) rfl Bz hm rfl Tryz.func116 aa3 rfl (Nz rfl) aa3 (Xi {i:Nat // i<=l.length} (Xi (fun i=>⟨[(0,sl Ab l),(3,.msl 3 (DZ (l.take i.1)).length),(9,sl Ab l),(10,vi (l.map Ab).length),(11,vi i.1)],[(3,G7 (DZ (l.take i.1)))],Ae⟩) (Xi (fun i=>l.length-i.1) (Yi (Xi ⟨0,by simp⟩ ?_) ?_))))
 .exact⟨Z5,Z1,Fh,Tv⟩
 .intro⟨i,h1⟩;have hn:=SY l i;refine Yi ?_ ?_
  .intro h;have h:i<l.length:=by simp_all
   have hg:l[i]?=some l[i]:=Ge h;refine Xi (Ab l[i]) (Yi (Yi aa0 (by simp_all)) (Yi rfl ?_));refine Yi (Nz rfl) (yN (yN (Yi ?_ ?_)))
   .intro h3;refine yN ?_;have CO:A7 2 [[vi (max l[i].1 0),vi (min l[i].2 1000000)]]/\((DZ (l.take i)).map Ab).length=(DZ (l.take i)).length/\(((DZ (l.take i)).map Ab).length+[[vi (max l[i].1 0),vi (min l[i].2 1000000)]].length)*16<=140737488355328/\((DZ (l.take i)).map Ab).length+[[vi (max l[i].1 0),vi (min l[i].2 1000000)]].length<=9223372036854775807:=
     ⟨⟨rfl,trivial⟩,by simp_all,by grind,by grind⟩
    refine Yi CO (Yi (by grind [As]) (Xi ⟨i+1,by omega⟩ ?_));have e1:AV.msl 3 (((DZ (l.take i)).map Ab).length+[[vi (max l[i].1 0),vi (min l[i].2 1000000)]].length)=.msl 3 (DZ (l.take (i+1))).length:=by rw[Qg h h3];simp
    have e2:HO.arr 2 ((DZ (l.take i)).map Ab++[[vi (max l[i].1 0),vi (min l[i].2 1000000)]])=G7 (DZ (l.take (i+1))):=by rw[Qg h h3];simp[Ha]
    exact⟨by grind,⟨Zr,⟨e1,rfl⟩,Zr,Zr,Zr,Tv⟩,⟨⟨e2,rfl⟩,Tv⟩,Fh,Tv⟩
   .intro h3;refine Yi (by grind [As]) (Xi ⟨i+1,by omega⟩ ?_);have e1:AV.msl 3 (DZ (l.take i)).length=.msl 3 (DZ (l.take (i+1))).length:=by rw[SX h h3]
    have e2:G7 (DZ (l.take i))=G7 (DZ (l.take (i+1))):=by rw[SX h h3]
    exact⟨by grind,⟨Zr,⟨e1,rfl⟩,Zr,Zr,Zr,Tv⟩,⟨⟨e2,rfl⟩,Tv⟩,Fh,Tv⟩
  .intro h;have h:¬i<l.length:=by simp_all
   have ei:DZ (l.take i)=DZ l:=by grind
   have hN:(DZ (l.take i)).length=(DZ l).length:=by rw[ei]
   refine Xi (.gen [(3,1000)] 0) (Yi rfl ((Aaj (DZ (l.take i)) aa0 (fun x hx=>by have:=VN hx;omega)).to ?_));intro s hs;have Zc:s.length=(DZ (l.take i)).length:=hs.1.length_eq;have hsN:s.length<=1073741824:=by omega
   have fin:(BE s).reverse=canon l:=LN (by simp_all) hs.2;refine Xi {p:Nat×AH // p.1<=s.length/\(BE (s.take p.1)).length+p.2.length=p.1} (Xi (fun p=>⟨[(3,.msl 3 (DZ (l.take i)).length),(6,vi (BE (s.take p.1.1)).length),(34,.msl 3 (DZ (l.take i)).length),(35,vi (DZ (l.take i)).length),(36,vi p.1.1)],[(3,G7 (arr2 s p.1.2 p.1.1))],Ae⟩) (Xi (fun p=>s.length-p.1.1) (Yi (Xi ⟨(0,[]),Ap _,rfl⟩ ?_) ?_)))
   .exact⟨Z5,Z1,Fh,Tv⟩
   intro⟨⟨k,j⟩,k1,k2⟩;have k2:(BE (s.take k)).length+j.length=k:=k2;have CD:=jP s j k k1 k2;have TO:(DZ (l.take i)).length=((arr2 s j k).map Ab).length:=by simp_all
   refine Yi ?_ ?_
   .intro h2;have h2:(k:Int)<(DZ (l.take i)).length:=h2;have hk:k<s.length:=by omega
    have Oa:=Bk (enc:=Ab) (oC s j k hk k2);refine Yi ⟨by omega,by omega⟩ ?_;refine Yi TO (Xi (Ab s[k]) (Yi Oa (Yi (Nz rfl) (yN ?_))));have hr:=On s k k1;refine AA (Nat.eq_zero_or_pos k) (fun k0=>?_) (fun k0=>?_)
    .refine Yi ?_ ?_
     .intro h4;have h4:(0:Int)<k:=h4;omega
     .intro _;refine Yi aa3 ?_;have Gw:JG (BE (s.take k)) s[k]=s[k]::BE (s.take k):=by subst k0;rfl
      have n9:(BE (s.take k)).length<(arr2 s j k).length:=by omega
      have hz:=Bk (enc:=Ab) (Ge n9);refine Yi (Nz rfl) (Yi ⟨by omega,by simp_all⟩ ?_);refine Yi TO (Xi (Ab (arr2 s j k)[(BE (s.take k)).length]) (Yi hz (yN (Yi (by show As (((BE (s.take k)).length:Int)+1);unfold As;omega) ?_))));refine Yi (Ii k aa0) ?_;have hm:=FE s k hk;have e1:vi (((BE (s.take k)).length:Int)+1)=vi (BE (s.take (k+1))).length:=by simp_all
      have e2:HO.arr 2 (((arr2 s j k).map Ab).set (BE (s.take k)).length [vi s[k].1,vi s[k].2])=G7 (arr2 s (j++[s[k]]).tail (k+1)):=by rw[<-VD s j k hk Gw];simp only[G7,U6]
      refine Xi ⟨(k+1,(j++[s[k]]).tail),by omega,by simp_all⟩ ?_;exact⟨Dl s.length k aa0,⟨Zr,⟨e1,rfl⟩,Zr,Zr,Zr,Tv⟩,⟨⟨e2,rfl⟩,Tv⟩,Fh,Tv⟩
    .refine Yi ?_ ?_
     .intro _;obtain⟨y,t,e⟩:∃y t,BE (s.take k)=y::t:=by
       cases hc:BE (s.take k)with
       |nil=>simp_all
       |cons y t=>grind
      have ht:(((BE (s.take k)).length:Int)-1).toNat=t.length:=by grind
      have hy:((arr2 s j k).map Ab)[(((BE (s.take k)).length:Int)-1).toNat]?=some (Ab y):=by rw[ht];grind
      refine Yi (by show As (((BE (s.take k)).length:Int)-1);unfold As;omega) ?_;have xZ:=hr.2 k0;refine Yi ⟨by grind,by grind⟩ ?_;refine Yi TO (Xi (Ab y) (Yi hy (Yi ?_ ?_)))
      .intro h5;refine Yi aa3 (Yi (by show As (((BE (s.take k)).length:Int)-1);unfold As;omega) (Yi (by show As (((BE (s.take k)).length:Int)-1);unfold As;omega) ?_));refine Yi ⟨by grind,by grind⟩ ?_;refine Yi TO (Xi (Ab y) (Yi hy (Yi ⟨by grind,by grind⟩ ?_)));refine Yi TO (Xi (Ab y) (Yi hy (yN (Yi aa3 (Yi (Ii k aa0) ?_)))));have hm:=FE s k hk;have Gw:JG (BE (s.take k)) s[k]=(y.1,max y.2 s[k].2)::t:=by rw[e];show(if s[k].1<=y.2 then _ else _)=_;grind
       have e1:vi (BE (s.take k)).length=vi (BE (s.take (k+1))).length:=by rw[hm,Gw,e];simp
       have e2:HO.arr 2 (((arr2 s j k).map Ab).set (((BE (s.take k)).length:Int)-1).toNat [vi y.1,vi (max y.2 s[k].2)])=G7 (arr2 s (j++[s[k]]) (k+1)):=by rw[<-fH s j k hk e h5,ht];simp only[G7,U6]
       refine Xi ⟨(k+1,j++[s[k]]),by omega,by show(BE (s.take (k+1))).length+(j++[s[k]]).length=k+1;rw[hm,Gw,Ay,AO];grind⟩ ?_;exact⟨Dl s.length k aa0,⟨Zr,⟨e1,rfl⟩,Zr,Zr,Zr,Tv⟩,⟨⟨e2,rfl⟩,Tv⟩,Fh,Tv⟩
      .intro h5;refine Yi aa3 ?_;have Gw:JG (BE (s.take k)) s[k]=s[k]::BE (s.take k):=by rw[e];show(if s[k].1<=y.2 then _ else _)=_;grind
       have n9:(BE (s.take k)).length<(arr2 s j k).length:=by omega
       have hz:=Bk (enc:=Ab) (Ge n9);refine Yi (Nz rfl) (Yi ⟨by omega,by grind⟩ ?_);refine Yi TO (Xi (Ab (arr2 s j k)[(BE (s.take k)).length]) (Yi hz (yN (Yi (by show As (((BE (s.take k)).length:Int)+1);unfold As;omega) ?_))));refine Yi (Ii k aa0) ?_;have hm:=FE s k hk;have e1:vi (((BE (s.take k)).length:Int)+1)=vi (BE (s.take (k+1))).length:=by rw[hm,Gw];simp
       have e2:HO.arr 2 (((arr2 s j k).map Ab).set (BE (s.take k)).length [vi s[k].1,vi s[k].2])=G7 (arr2 s (j++[s[k]]).tail (k+1)):=by rw[<-VD s j k hk Gw];simp only[G7,U6]
       refine Xi ⟨(k+1,(j++[s[k]]).tail),by omega,by show(BE (s.take (k+1))).length+((j++[s[k]]).tail).length=k+1;rw[hm,Gw];simp;omega⟩ ?_;exact⟨Dl s.length k aa0,⟨Zr,⟨e1,rfl⟩,Zr,Zr,Zr,Tv⟩,⟨⟨e2,rfl⟩,Tv⟩,Fh,Tv⟩
     .intro h4;have h4:¬(0:Int)<k:=h4;omega
   .intro h2;have h2:¬(k:Int)<(DZ (l.take i)).length:=h2;have hk:k=s.length:=by omega
    have hr:=On s k k1;have lM:((((arr2 s j k).map Ab).take ((BE (s.take k)).length:Int).toNat).drop 0)=(canon l).map Ab:=by
     rw[List.drop_zero,FI,<-List.map_take,<-fin]
     grind
    refine Yi ⟨TO,by simp_all,by simp_all,by grind,.inr ⟨rfl,by simp⟩⟩ ?_;exact .of_eq (Aa (AV.slice .none) lM)
end Go.Eng
namespace Go.Eng
open Go.Proofs Go.Sort
variable {m:List (Int×Int)}{S:AH}(zs:List Int)(z:Int)
abbrev B7:List AV:=[vi z]
theorem Ws{α:Type}[Inhabited α](enc:α->Value)(w:World)(b:Nat)(d:Array α):putRow enc w b 0 d=putRow id w b 0 (d.map enc):=by
 unfold putRow
 congr 1
 grind [putCells]
theorem M3:(zs.map B7).flatten=(zs.map fun z=>Value.int .i64 z).map AV.v:=by
 induction zs<;>simp_all
theorem QL(g:Gh)(w:World)(U:Nat->Prop)(vs:List Value)(h:∀x∈vs,x.oneCell'=true):Ca g w U (vs.map .v) vs:=
 ⟨by simp,h,fun i av x q1 q2=>by
  grind [AY.v]⟩
theorem PI{g:Gh}{w:World}{U:Nat->Prop}{vs us:List Value}(h:Ca g w U (vs.map .v) us):us=vs:=by
 apply CR;intro i;have hl:=h.1;rw[Lm]at hl
 by_cases hi:i<vs.length
 .have:=h.2.2 i (.v vs[i]) us[i] (by simp_all) (Ge aa0)
  grind [AY.v_eq]
 simp_all
theorem Aaw(hl:BL zs)(D8:zs≠[]) :
  A6 Tryz.prog 261 [.msl 1000 zs.length] (Af [(1000,.arr 1 (zs.map B7))] Ae) fun r h'=>
   r=.tup []/\∃l' : List Int,(l'.Perm zs/\l'.Pairwise fun a b=>a<=b)/\h'=Af [(1000,.arr 1 (l'.map B7))] Ae:=by
 have hE:Gr Tryz.prog 261:=ku 261 Tryz.func261 aa3 rfl;have KI:=Vz (P:=Tryz.prog) (f:=261) (es:=zs.map B7) (sz:=1) (rest:=[]) (Q:=fun E7=>∃l' : List Int,(l'.Perm zs/\l'.Pairwise fun a b=>a<=b)/\E7=l'.map B7) hE ?_ ?_
 .grind
 .simp_all
 .intro g w b cap F hr hF hH hb;have hFl:F.toList=zs.map fun z=>Value.int .i64 z:=PI (by rw[<-M3];exact hr);have zq:F=zs.toArray.map fun z=>Value.int .i64 z:=Array.toList_inj.1 (by simp_all);have hH2:Holds (Value.int .i64) w b 0 zs.toArray:=fun j hj=>by
   have:=hH j (by simp_all)
   simp_all
  have hc:=Any.slices_Sort_int Tryz.laySortInts b 0 cap zs w hH2 hb aa0;rw[Lm];refine hc.mono ?_
  rintro e w' ⟨rfl,n,os,rfl⟩
  have J6:(zs.mergeSort fun x y=>decide (x<=y)).Perm zs:=List.mergeSort_perm _ _;have CD:=J6.length_eq;refine⟨rfl,(zs.mergeSort fun x y=>decide (x<=y)).toArray.map fun z=>Value.int .i64 z,(zs.mergeSort fun x y=>decide (x<=y)).map B7,n,os,?_,⟨_,⟨J6,?_⟩,rfl⟩,by simp_all,fun cs hcs=>?_,fun g w _=>?_,by rw[Ws]⟩
  .simp_all
  .grind [List.pairwise_mergeSort]
  .grind
  .rw[M3];have e:((zs.mergeSort fun x y=>decide (x<=y)).toArray.map fun z=>Value.int .i64 z).toList=(zs.mergeSort fun x y=>decide (x<=y)).map fun z=>Value.int .i64 z:=by simp
   rw[e];exact QL _ _ _ _ fun x hx=>by
    obtain⟨z,_,rfl⟩:=Ar.1 hx;rfl
-- maps from numbers to numbers
abbrev XW:EL:=⟨false,[.int .i64]⟩
abbrev kI:Value:=.int .i64 z
abbrev M9(p:Int×Int):Value×AV:=(kI p.1,vi p.2)
abbrev CP(s:AH):List AV:=[sl Ab s]
theorem XD{k:Int}{a:AV}:(kI k,a)∈m.map M9↔∃v,(k,v)∈m/\a=vi v:=by
 grind
theorem Sq(m:List (Int×Int))(k v:Int):Fm (m.map M9) (kI k) (vi v)=(LA m k v).map M9:=by
 unfold LA
 by_cases h:(m.any fun p=>decide (p.1=k))=true
 .rw[AX h];obtain⟨p,h1,h2⟩:=Bu.1 h;have h2:=Ed h2
  have:(kI k,vi p.2)∈m.map M9:=XD.2 ⟨p.2,by grind,rfl⟩
  rw[Qz this,B2,B2]
  grind [List.map_congr_left]
 grind [Qy]
theorem Pb{T:G0}{e:Nat}{BV:List (Value×AV)}{kx:Value}{K:AV->Prop}(a0 z0:AV)(h1:∀a,(kx,a)∈BV->a=a0)(hz:(∀a,(kx,a)∉BV)->a0=z0)(h2:K z0->Kp T e K)(k:K a0) :
  (∀a,(kx,a)∈BV->K a)/\((∀a,(kx,a)∉BV)->Kp T e K):=⟨fun a h=>by grind,fun hn=>h2 (hz hn▸k)⟩
theorem QZ(m:List (Int×Int))(k:Int):(∀a,(kI k,a)∉m.map M9)->vi (FO m k)=vi 0:=fun Me=>by
 rw[nR fun hk=>by
  obtain⟨p,hp,e⟩:=Ar.1 hk;exact Me (vi p.2) (XD.2 ⟨p.2,by grind,rfl⟩)]
theorem QY(hn:(Fq m).Nodup)(k:Int):∀a,(kI k,a)∈m.map M9->a=vi (FO m k):=fun a h=>by
 obtain⟨v,h1,rfl⟩:=XD.1 h;rw[nQ hn h1]
theorem F8.bound(h:F8 m S)(k:Int):-(S.length:Int)<=FO m k/\FO m k<=S.length:=by
 rw[h.val]
 grind [cF,cT]
theorem bA(l:List AH):(l.map canon).flatten.length<=l.length*1000000:=by
 induction l<;>grind [E6,BG]
theorem F8.few(h:F8 m S):m.length<=1000001:=by
 have:=CM (m:=(List.range 1000001).map Int.ofNat) h.nd fun k hk=>by
  have:=h.rng k hk
  grind [Int]
 grind [Fq]
theorem V7(keep:Nat->Bool)(m:List (Int×Int))(B:List Int):∀n,(Ey keep m B n).length<=n
 |0=>Ao _
 |n+1=>by
  unfold Ey
  have:=V7 keep m B n
  grind
end Go.Eng
namespace Go.Eng
open Go.Proofs
variable {m:List Tm}(u:Tm)(n:Int)(l:List AH)(t:Tm)(p:Int)
abbrev plC:Md:=⟨[],[(12,2)],[(44,1)],[],[],[],[],[],[],[],[8,9,15,23,25,26]⟩
theorem sC(F:AV)(keep:Nat->Bool)(l:List AH)(hl:BL l)(hs:∀s∈l,BL s)(hid:∀h,TR h F=true)(hF:∀h (n:Int),0<=n->n<=l.length->PV Tryz.prog (str h F) [vi n] (vb (keep n.toNat)))
  (R:AH) (hR:Er R) (hRh:∀p,has R p=(Pj p&&keep (kk l p))):PC 222 [F,sl CP l] (sl Ab R):=by
 refine Ps plC Tryz.func222 rfl (Nz rfl) (Xi {p:Nat×List (Int×Int) // p.1<=l.length/\F8 p.2 ((l.take p.1).map canon).flatten} (Xi (fun p=>⟨[(0,F),(5,.mref 15),(17,sl CP l),(18,vi (l.map CP).length),(19,vi p.1.1)],[(15,.map XW (p.1.2.map M9))],Ae⟩) (Xi (fun p=>l.length-p.1.1) (Yi (Xi ⟨(0,wD),Ap _,oQ⟩ ?_) ?_))))
 .have e0:HO.map XW (Fm (Fm [] (kI 0) (vi 0)) (kI 1000000) (vi 0))=.map XW (wD.map M9):=by
   have e1:=Sq [] 0 0;have e2:=Sq [(0,0)] 1000000 0;show HO.map XW (Fm (Fm (List.map M9 []) (kI 0) (vi 0)) (kI 1000000) (vi 0))=_;rw[e1];show HO.map XW (Fm (List.map M9 [(0,0)]) (kI 1000000) (vi 0))=_;rw[e2];rfl
  exact⟨⟨⟨rfl,hid _⟩,Zr,Zr,Zr,Zr,Tv⟩,⟨⟨e0,rfl⟩,Tv⟩,Fh,Tv⟩
 intro⟨⟨i,cm⟩,i1,i2⟩;refine Yi ?_ ?_
 .intro h;have h:i<l.length:=by simp_all
  have hg:l[i]?=some l[i]:=Ge h;refine Xi (CP l[i]) (Yi (Yi aa0 (by simp_all)) (Yi rfl ?_));refine Xi .pure (Xi _ (Yi (Yp l[i] (hs _ (Ak h))) (Xi {p:Nat×List (Int×Int) // p.1<=(canon l[i]).length/\F8 p.2 (((l.take i).map canon).flatten++(canon l[i]).take p.1)} (Xi (fun p=>⟨[(0,F),(5,.mref 15),(17,sl CP l),(18,vi (l.map CP).length),(19,vi i),(24,sl Ab (canon l[i])),(25,vi ((canon l[i]).map Ab).length),(26,vi p.1.1)],[(15,.map XW (p.1.2.map M9))],Ae⟩) (Xi (fun p=>(canon l[i]).length-p.1.1) (Yi (Xi ⟨(0,cm),Ap _,by grind⟩ ?_) ?_))))))
  .exact⟨⟨⟨rfl,hid _⟩,Zr,Zr,Zr,Zr,Zr,Zr,Zr,Tv⟩,Z1,Fh,Tv⟩
  intro⟨⟨j,dm⟩,j1,j2⟩;have j2:F8 dm (((l.take i).map canon).flatten++(canon l[i]).take j):=j2;have hS:(((l.take i).map canon).flatten++(canon l[i]).take j).length<=1073741825000000:=by
   grind [bA,E6,BG]
  refine Yi ?_ ?_
  .intro hj;have hj:j<(canon l[i]).length:=by simp_all
   have hgj:(canon l[i])[j]?=some (canon l[i])[j]:=Ge hj;have tW:=(BG l[i]).low _ (Ak hj);have j3:F8 (ar dm (canon l[i])[j]) (((l.take i).map canon).flatten++(canon l[i]).take (j+1)):=by
    grind [jg,List.take_add_one]
   generalize (canon l[i])[j]=x at hgj tW j3;have b1:=j2.bound x.1;have n9:=MD j2.nd x.1 (FO dm x.1+1);refine Xi (Ab x) (Yi (Yi aa0 (by simp_all)) (Yi rfl ?_));refine Yi (Nz rfl) (yN (Xi ⟨[(0,F),(5,.mref 15),(9,.ref 9 0),(17,sl CP l),(18,vi (l.map CP).length),(19,vi i),(24,sl Ab (canon l[i])),(25,vi ((canon l[i]).map Ab).length),(26,vi j)],[(9,.cells (Ab x)),(15,.map XW (dm.map M9))],Ae⟩ (Yi ⟨⟨⟨rfl,hid _⟩,Zr,Zr,Zr,Zr,Zr,Zr,Zr,Zr,Tv⟩,Z2,Fh,Tv⟩ (Pb (vi (FO dm x.1)) (vi 0) (QY j2.nd x.1) (QZ dm x.1) (fun q=>q) (Yi (by grind [As]) ?_)))));have m1:HO.map XW (Fm (dm.map M9) (kI x.1) (vi (FO dm x.1+1)))=.map XW ((LA dm x.1 (FO dm x.1+1)).map M9):=by rw[Sq]
   refine Xi ⟨[(0,F),(5,.mref 15),(9,.ref 9 0),(17,sl CP l),(18,vi (l.map CP).length),(19,vi i),(24,sl Ab (canon l[i])),(25,vi ((canon l[i]).map Ab).length),(26,vi j)],[(9,.cells (Ab x)),(15,.map XW ((LA dm x.1 (FO dm x.1+1)).map M9))],Ae⟩ (Yi ⟨⟨⟨rfl,hid _⟩,Zr,Zr,Zr,Zr,Zr,Zr,Zr,Zr,Tv⟩,⟨Zr,⟨m1,rfl⟩,Tv⟩,Fh,Tv⟩ ?_)
   have b2:-(1073741825000001:Int)<=FO (LA dm x.1 (FO dm x.1+1)) x.2/\FO (LA dm x.1 (FO dm x.1+1)) x.2<=1073741825000001:=by
    have b3:=j2.bound x.2
    grind [PP]
   refine Pb (vi (FO (LA dm x.1 (FO dm x.1+1)) x.2)) (vi 0) (QY n9 x.2) (QZ _ x.2) (fun q=>q) (Yi (by show As (FO (LA dm x.1 (FO dm x.1+1)) x.2-1);grind [As]) ?_);have hcl:=E6 (BG l[i]);refine Yi (by grind [As]) ?_;have m2:HO.map XW (Fm ((LA dm x.1 (FO dm x.1+1)).map M9) (kI x.2) (vi (FO (LA dm x.1 (FO dm x.1+1)) x.2-1)))=.map XW ((ar dm x).map M9):=by rw[Sq];rfl
   refine Xi ⟨(j+1,ar dm x),by omega,j3⟩ ?_;exact⟨by grind,⟨⟨rfl,hid _⟩,Zr,Zr,Zr,Zr,Zr,Zr,Zr,Tv⟩,⟨⟨m2,rfl⟩,Tv⟩,Fh,Tv⟩
  .intro hj;have hj:¬j<(canon l[i]).length:=by simp_all
   refine Yi (by grind [As]) ?_;have i3:F8 dm ((l.take (i+1)).map canon).flatten:=by
    have e1:(canon l[i]).take j=canon l[i]:=Bd aa0;rw[e1]at j2;have e2:((l.take (i+1)).map canon).flatten=((l.take i).map canon).flatten++canon l[i]:=by
     rw[Ck,hg,BD,Df];simp_all
    simp_all
   refine Xi ⟨(i+1,dm),by omega,i3⟩ ?_;exact⟨by grind,⟨⟨rfl,hid _⟩,Zr,Zr,Zr,Zr,Tv⟩,Z1,Fh,Tv⟩
 .intro h;have h:¬i<l.length:=by simp_all
  have i3:F8 cm (l.map canon).flatten:=by
   grind
  have tv:=i3.few;have hmk:(0:Int)<=0/\(0:Int)<=((cm.map M9).length:Int)/\((cm.map M9).length:Int)*((8:Nat):Int)<=140737488355328/\((cm.map M9).length:Int)<=9223372036854775807:=by grind
  refine Yi hmk (Xi {p:List (Value×AV)×List Int×Option (Value×AV) // ((p.2.1.map kI)++p.1.map (·.1)).Perm ((cm.map M9).map (·.1))/\∀kv∈p.1,kv∈cm.map M9} (Xi (fun p=>⟨[(0,F),(5,.mref 15),(10,.msl 44 p.1.2.1.length),(46,.ref 46 0)],[(15,.rom XW (cm.map M9)),(44,.arr 1 (p.1.2.1.map B7)),(46,.iter (cm.map M9) p.1.1 p.1.2.2)],Ae⟩) (Xi (fun p=>p.1.1.length) (Yi (Xi ⟨(cm.map M9,[],none),.refl _,fun _ h=>h⟩ ?_) ?_))))
  .exact⟨⟨⟨rfl,hid _⟩,Zr,Zr,Zr,Tv⟩,Z3,Fh,Tv⟩
  intro⟨⟨rem,bs,Ej⟩,r1,r2⟩;have hbl:bs.length<=1000001:=by
   grind [List.length_append,Lm,List.Perm.length_eq]
  refine Yi ?_ ?_
  .intro hr;subst hr;rw[IM,DV,B2]at r1;have hpk:bs.Perm (Fq cm):=by
    have r1:(bs.map kI).Perm ((Fq cm).map kI):=by unfold Fq;rw[B2];exact r1
    have:=r1.map (fun v:Value=>match v with | .int _ n=>n | _=>0)
    rw[B2,B2]at this;have e:((fun v:Value=>match v with | .int _ n=>n | _=>0) ∘ kI)=id:=rfl;simp_all
   have D8:bs≠[]:=fun e=>by
    subst e
    have:=hpk.length_eq
    have h0:=i3.keys.1;simp_all
   refine Xi (.gen [(44,1000)] 0) (Yi rfl ((Aaw bs aa0 D8).to ?_));intro B zo;have wY:B.length=bs.length:=zo.1.length_eq;have hBn:B.Nodup:=(zo.1.trans hpk).nodup_iff.2 i3.nd;have hB:ot B cm:=⟨zo.1.trans hpk,by
    grind [List.pairwise_iff_getElem]⟩
   have Aeg:0<B.length:=by
    grind
   have hNE:bs.length=(B.map B7).length:=by simp_all
   refine Yi (by grind [As]) (Xi {k:Nat // k<=B.length-1} (Xi (fun k=>⟨[(0,F),(5,.mref 15),(10,.msl 44 bs.length),(12,.slice (.id 12 2) ((Ey keep cm B k.1).map Ab)),(13,vi (IU cm (B.take k.1))),(59,vi ((bs.length:Int)-1)),(60,vi k.1)],[(12,.tok 2 ((Ey keep cm B k.1).map Ab).length),(15,.rom XW (cm.map M9)),(44,.arr 1 (B.map B7))],Ae⟩) (Xi (fun k=>B.length-k.1) (Yi (Xi ⟨0,Ap _⟩ ?_) ?_))))
   .exact⟨⟨⟨rfl,hid _⟩,Zr,Zr,Zr,Zr,Zr,Zr,Tv⟩,Z3,Fh,Tv⟩
   intro⟨k,k1⟩;have lD:=V7 keep cm B k;refine Yi ?_ ?_
   .intro hk;have hk:(k:Int)<(bs.length:Int)-1:=hk;have U2:k+1<B.length:=by omega
    have gH:k<B.length:=by omega
    have Oa:(B.map B7)[k]?=some (B7 B[k]):=Bk (Ge gH);have Ah2:(B.map B7)[k+1]?=some (B7 B[k+1]):=Bk (Ge U2);have gP:=QX cm B k gH;have AhF:=nG i3 hB k gH;have rM:Ey keep cm B (k+1)=Ey keep cm B k++(if keep (IU cm (B.take (k+1))).toNat then [(B[k],B[k+1])]else []):=by
     show _++(match B[k]?,B[k+1]? with | some a,some b=>if keep (IU cm (B.take (k+1))).toNat then [(a,b)]else [] | _,_=>[])=_
     grind
    refine Xi ⟨[(0,F),(5,.mref 15),(10,.msl 44 bs.length),(12,.slice (.id 12 2) ((Ey keep cm B k).map Ab)),(13,vi (IU cm (B.take k))),(14,vi k),(59,vi ((bs.length:Int)-1)),(60,vi k)],[(12,.tok 2 ((Ey keep cm B k).map Ab).length),(15,.rom XW (cm.map M9)),(44,.arr 1 (B.map B7))],Ae⟩ (Yi ⟨⟨⟨rfl,hid _⟩,Zr,Zr,Zr,Zr,Zr,Zr,Zr,Tv⟩,Z3,Fh,Tv⟩ (Yi ⟨by omega,by omega⟩ ?_));refine Yi hNE (Xi (B7 B[k]) (Yi Oa (Pb (vi (FO cm B[k])) (vi 0) (QY i3.nd B[k]) (QZ cm B[k]) (fun q=>q) (Yi (by grind [As]) ?_))));have CV:∀h,PV Tryz.prog (str h F) [vi (IU cm (B.take k)+FO cm B[k])] (vb (keep (IU cm (B.take (k+1))).toNat)):=fun h=>by
     grind
    refine AA (Bt (keep (IU cm (B.take (k+1))).toNat)) (fun hp=>?_) (fun hp=>?_)
    .rw[hp]at CV;rw[hp,AX rfl]at rM;refine Xi .pure (Xi (vb true) (Yi (CV _) (Xi ⟨[(0,F),(5,.mref 15),(10,.msl 44 bs.length),(12,.slice (.id 12 2) ((Ey keep cm B k).map Ab)),(13,vi (IU cm (B.take k)+FO cm B[k])),(14,vi k),(59,vi ((bs.length:Int)-1)),(60,vi k)],[(12,.tok 2 ((Ey keep cm B k).map Ab).length),(15,.rom XW (cm.map M9)),(44,.arr 1 (B.map B7))],Ae⟩ (Yi ⟨⟨⟨rfl,hid _⟩,Zr,Zr,Zr,Zr,Zr,Zr,Zr,Tv⟩,Z3,Fh,Tv⟩ ?_))))
     have b1:(0:Int)<=(k:Int)+1/\(k:Int)+1<bs.length:=by omega
     have AbL:(B.map B7)[((k:Int)+1).toNat]?=some (B7 B[k+1]):=by grind
     refine Yi ⟨by omega,by omega⟩ ?_;refine Yi hNE (Xi (B7 B[k]) (Yi Oa (Yi (Ii k aa0) (Yi b1 (Yi hNE (Xi (B7 B[k+1]) (Yi AbL ?_)))))));have CO:A7 2 [[vi B[k],vi B[k+1]]]/\((Ey keep cm B k).map Ab).length=((Ey keep cm B k).map Ab).length/\(((Ey keep cm B k).map Ab).length+[[vi B[k],vi B[k+1]]].length)*16<=140737488355328/\((Ey keep cm B k).map Ab).length+[[vi B[k],vi B[k+1]]].length<=9223372036854775807:=
      ⟨⟨rfl,trivial⟩,rfl,by grind,by grind⟩
     refine Yi CO (Yi aa3 (Xi ⟨[(0,F),(5,.mref 15),(10,.msl 44 bs.length),(12,.slice (.id 12 2) ((Ey keep cm B k).map Ab++[[vi B[k],vi B[k+1]]])),(13,vi (IU cm (B.take k)+FO cm B[k])),(59,vi ((bs.length:Int)-1)),(60,vi k)],[(12,.tok 2 (((Ey keep cm B k).map Ab).length+[[vi B[k],vi B[k+1]]].length)),(15,.rom XW (cm.map M9)),(44,.arr 1 (B.map B7))],Ae⟩ (Yi ⟨⟨⟨rfl,hid _⟩,Zr,Zr,Zr,Zr,Zr,Zr,Tv⟩,Z3,Fh,Tv⟩ (Yi (Ii k aa0) (Xi ⟨k+1,by omega⟩ ?_)))));have e1:AV.slice (.id 12 2) ((Ey keep cm B k).map Ab++[[vi B[k],vi B[k+1]]])=.slice (.id 12 2) ((Ey keep cm B (k+1)).map Ab):=by grind
     have e2:vi (IU cm (B.take k)+FO cm B[k])=vi (IU cm (B.take (k+1))):=by grind
     have e3:HO.tok 2 (((Ey keep cm B k).map Ab).length+[[vi B[k],vi B[k+1]]].length)=.tok 2 ((Ey keep cm B (k+1)).map Ab).length:=by grind
     exact⟨by grind,⟨⟨rfl,hid _⟩,Zr,Zr,⟨e1,rfl⟩,⟨e2,rfl⟩,Zr,Zr,Tv⟩,⟨⟨e3,rfl⟩,Zr,Zr,Tv⟩,Fh,Tv⟩
    .rw[hp]at CV;have rM:Ey keep cm B (k+1)=Ey keep cm B k:=by grind
     refine Xi .pure (Xi (vb false) (Yi (CV _) (Xi ⟨[(0,F),(5,.mref 15),(10,.msl 44 bs.length),(12,.slice (.id 12 2) ((Ey keep cm B k).map Ab)),(13,vi (IU cm (B.take k)+FO cm B[k])),(59,vi ((bs.length:Int)-1)),(60,vi k)],[(12,.tok 2 ((Ey keep cm B k).map Ab).length),(15,.rom XW (cm.map M9)),(44,.arr 1 (B.map B7))],Ae⟩ (Yi ⟨⟨⟨rfl,hid _⟩,Zr,Zr,Zr,Zr,Zr,Zr,Tv⟩,Z3,Fh,Tv⟩ (Yi (by grind [As]) (Xi ⟨k+1,by omega⟩ ?_))))));have e1:AV.slice (.id 12 2) ((Ey keep cm B k).map Ab)=.slice (.id 12 2) ((Ey keep cm B (k+1)).map Ab):=by grind
     have e2:vi (IU cm (B.take k)+FO cm B[k])=vi (IU cm (B.take (k+1))):=by grind
     have e3:HO.tok 2 ((Ey keep cm B k).map Ab).length=.tok 2 ((Ey keep cm B (k+1)).map Ab).length:=by grind
     exact⟨by grind,⟨⟨rfl,hid _⟩,Zr,Zr,⟨e1,rfl⟩,⟨e2,rfl⟩,Zr,Zr,Tv⟩,⟨⟨e3,rfl⟩,Zr,Zr,Tv⟩,Fh,Tv⟩
   .intro hk;have hk:¬(k:Int)<(bs.length:Int)-1:=hk;have U2:k=B.length-1:=by omega
    have AbT:canon (Ey keep cm B k)=R:=by
     grind [SV,l7]
    have hc:=Yp (Ey keep cm B k) aa0;rw[AbT]at hc;refine Xi .pure (Xi _ (Yi hc ?_));exact .refl _
  .intro kv PG hp;refine Al (Ar.1 (r2 kv (hp.mem_iff.2 (Ah ..)))) (fun q hq=>?_);have hq2:=hq.2;subst hq2;refine Xi ⟨[(0,F),(5,.mref 15),(10,.msl 44 bs.length),(46,.ref 46 0)],[(15,.rom XW (cm.map M9)),(44,.arr 1 (bs.map B7)),(46,.iter (cm.map M9) PG (some (M9 q)))],Ae⟩ (Yi ⟨⟨⟨rfl,hid _⟩,Zr,Zr,Zr,Tv⟩,Z3,Fh,Tv⟩ ?_)
   have CO:A7 1 [B7 q.1]/\(bs.map B7).length=bs.length/\((bs.map B7).length+[B7 q.1].length)*8<=140737488355328/\(bs.map B7).length+[B7 q.1].length<=9223372036854775807:=
    ⟨⟨rfl,trivial⟩,by simp_all,by grind,by grind⟩
   refine Yi CO ?_;have e1:AV.msl 44 ((bs.map B7).length+[B7 q.1].length)=.msl 44 (bs++[q.1]).length:=by simp
   have e2:HO.arr 1 (bs.map B7++[B7 q.1])=.arr 1 ((bs++[q.1]).map B7):=by simp
   refine Xi ⟨(PG,bs++[q.1],some (M9 q)),?_,fun kv gI=>r2 kv (hp.mem_iff.2 (Ai _ gI))⟩ ?_
   .grind [List.Perm.append_left,List.Perm.trans,List.Perm.symm]
   .exact⟨by show PG.length<rem.length;rw[hp.length_eq];simp,⟨⟨rfl,hid _⟩,Zr,⟨e1,rfl⟩,Zr,Tv⟩,⟨Zr,⟨e2,rfl⟩,Zr,Tv⟩,Fh,Tv⟩
theorem Aai:PC 278 [vi n,.cptr [sl CP l]] (vb (decide (n=l.length))):=by
 refine Ps De Tryz.func278 rfl (Nz rfl) ?_;have e:((l.map CP).length:Int)=l.length:=by simp_all
 refine Yi ?_ ?_
 .intro h;rw[show decide (n=(l.length:Int))=true from Bs (h.trans e)];exact .refl _
 .intro h;rw[show decide (n=(l.length:Int))=false from AP (fun c=>h (c.trans e.symm))];exact .refl _
theorem Aak:PC 223 [vi n] (vb (decide (n=0))):=by
 refine Ps De Tryz.func223 rfl (Nz rfl) (Yi ?_ ?_)
 .intro h;rw[Bs h];exact .refl _
 .intro h;rw[AP h];exact .refl _
theorem AaV:PC 264 [vi n] (vb (decide (0<n))):=by
 refine Ps De Tryz.func264 rfl (Nz rfl) (Yi ?_ ?_)
 .intro h;rw[Bs h];exact .refl _
 .intro h;rw[AP h];exact .refl _
theorem l5:decide (kk l p=l.length)=l.all fun s=>has s p:=by
 grind [kk,List.countP_eq_length]
theorem l6:decide (0<kk l p)=l.any fun s=>has s p:=by
 grind [kk,List.countP_pos_iff]
theorem Aa1(hl:BL l)(hs:∀s∈l,BL s):PC 262 [sl CP l] (sl Ab (MC l)):=by
 have hc:=sC (.clo 278 [.cptr [sl CP l]]) (fun n=>decide (n=l.length)) l hl hs (fun _=>rfl) (fun h n h0 _=>by
  have:=Aai n l
  have e:decide (n=(l.length:Int))=decide (n.toNat=l.length):=by grind
  rw[e]at this;exact this) (MC l) (XC l) fun p=>by rw[TJ,l5]
 refine Ps (mU [1]) Tryz.func262 rfl (Nz rfl) (Xi .pure (Xi _ (Yi (hc) ?_)));exact .refl _
theorem sr(s:AH)(hs:BL s):PC 190 [sl Ab s] (sl Ab (BU s)):=by
 have hc:=sC (.v (Hf 223)) (fun n=>decide (n=0)) [s] (by simp_all) (fun t ht=>by simp_all) (fun _=>rfl) (fun h n h0 _=>by
  have:=Aak n
  have e:decide (n=0)=decide (n.toNat=0):=by grind
  rw[e]at this;exact this) (BU s) (GP s) fun p=>by
   grind [Fx,kk]
 refine Ps De Tryz.func190 rfl (Nz rfl) (Xi .pure (Xi _ (Yi (hc) ?_)));exact .refl _
theorem AaR(hl:BL l)(hs:∀s∈l,BL s):PC 233 [sl CP l] (sl Ab (JK l)):=by
 have hc:=sC (.v (Hf 264)) (fun n=>decide (0<n)) l hl hs (fun _=>rfl) (fun h n h0 _=>by
  have:=AaV n
  have e:decide (0<n)=decide (0<n.toNat):=by simp_all
  rw[e]at this;exact this) (JK l) (LK l) fun p=>by
   grind [TK,l6,N9,Pj]
 refine Ps De Tryz.func233 rfl (Nz rfl) (Xi .pure (Xi _ (Yi (hc) ?_)));exact .refl _
-- terms
theorem c59(ht:BL t.set):PC 229 [.agg (Ad t)] (vb (!t.absent&&(canon t.set).isEmpty)):=by
 refine Ps De Tryz.func229 rfl (Nz rfl) (Yi ?_ ?_)
 .intro h;rw[h];exact .refl _
 .intro h;refine Xi .pure (Xi _ (Yi (Yp t.set ht) (Yi ?_ ?_)))
  .intro h2;have h2:canon t.set=[]:=Aw (by simp_all);rw[h,h2];exact .refl _
  .intro h2;have h2:(canon t.set).isEmpty=false:=by
    simp_all
   rw[h,h2];exact .refl _
theorem c60(ht:BL t.set):PC 230 [.agg (Ad t)] (vb (t.absent&&(BU t.set).isEmpty)):=by
 refine Ps De Tryz.func230 rfl (Nz rfl) (Yi ?_ ?_)
 .intro h;refine Xi .pure (Xi _ (Yi (sr t.set ht) (Yi ?_ ?_)))
  .intro h2;have h2:BU t.set=[]:=Aw (by simp_all);rw[h,h2];exact .refl _
  .intro h2;have h2:(BU t.set).isEmpty=false:=by
    simp_all
   rw[h,h2];exact .refl _
 .intro h;rw[h];exact .refl _
abbrev Dw(l:List Nat):Md:=⟨[],[],[],[],[],[],[],[],[],[],l⟩
theorem c58(hu:BL u.set)(ht:BL t.set):PC 228 [.agg (Ad u),.agg (Ad t)] (.agg (Ad (EB u t))):=by
 have hc:PC 262 [sl CP [u.set,t.set]] (sl Ab (GD u.set t.set)):=Aa1 [u.set,t.set] (by simp_all) (fun s hs=>by
  grind)
 refine Ps (Dw []) Tryz.func228 rfl (Nz rfl) (Yi ?_ ?_)
 .intro h;refine Yi ?_ ?_
  .intro h2;have e:[vs u.path,vb true,sl Ab (GD u.set t.set)]=Ad (EB u t):=by grind [EB]
   refine Xi _ (Yi (hc) (Yi (Nz rfl) (Yi aa3 (yN ?_))));exact .of_eq (Aa AV.agg e)
  .intro h2;have e:[vs u.path,vb false,sl Ab (GD u.set t.set)]=Ad (EB u t):=by grind [EB]
   refine Xi _ (Yi (hc) (Yi (Nz rfl) (Yi aa3 (yN ?_))));exact .of_eq (Aa AV.agg e)
 .intro h;have e:[vs u.path,vb false,sl Ab (GD u.set t.set)]=Ad (EB u t):=by grind [EB]
  refine Xi _ (Yi (hc) (Yi (Nz rfl) (Yi aa3 (yN ?_))));exact .of_eq (Aa AV.agg e)
theorem AaJ(hu:BL u.set)(ht:BL t.set):PC 193 [.agg (Ad u),.agg (Ad t)] (.agg (Ad (CG u t))):=by
 have hc:PC 233 [sl CP [u.set,t.set]] (sl Ab (EQ u.set t.set)):=AaR [u.set,t.set] (by simp_all) (fun s hs=>by
  grind)
 refine Ps (Dw []) Tryz.func193 rfl (Nz rfl) (Yi ?_ ?_)
 .intro h;have e:[vs u.path,vb true,sl Ab (EQ u.set t.set)]=Ad (CG u t):=by grind [CG]
  refine Xi _ (Yi (hc) (Yi (Nz rfl) (Yi aa3 (yN ?_))));exact .of_eq (Aa AV.agg e)
 .intro h;refine Yi ?_ ?_
  .intro h2;have e:[vs u.path,vb true,sl Ab (EQ u.set t.set)]=Ad (CG u t):=by grind [CG]
   refine Xi _ (Yi (hc) (Yi (Nz rfl) (Yi aa3 (yN ?_))));exact .of_eq (Aa AV.agg e)
  .intro h2;have e:[vs u.path,vb false,sl Ab (EQ u.set t.set)]=Ad (CG u t):=by grind [CG]
   refine Xi _ (Yi (hc) (Yi (Nz rfl) (Yi aa3 (yN ?_))));exact .of_eq (Aa AV.agg e)
theorem ww(q:Rq)(hq:BL q.set):PC 188 [.agg (Ac q)] (.agg (Ad (Du q))):=by
 refine Ps De Tryz.func188 rfl (Nz rfl) (Xi _ (Yi (sr q.set hq) (Yi (Nz rfl) (Yi aa3 (yN ?_)))));exact .refl _
abbrev Cv:EL:=⟨false,[.str]⟩
abbrev T3:Value×AV:=(.string t.path,.agg (Ad t))
abbrev yz(fin cut:List Nat):Md:=⟨[],[],[],[],fin,[],[],[],[],[],cut⟩
theorem dX{p:ByteArray}{a:AV}:(Value.string p,a)∈m.map T3↔∃t∈m,t.path=p/\a=.agg (Ad t):=by
 grind
theorem mh(m:List Tm)(t:Tm):Fm (m.map T3) (.string t.path) (.agg (Ad t))=(XP m t).map T3:=by
 unfold XP
 by_cases h:(m.any fun u=>decide (u.path=t.path))=true
 .rw[AX h];obtain⟨u,h1,h2⟩:=Bu.1 h;have h2:=Ed h2
  have:(Value.string t.path,AV.agg (Ad u))∈m.map T3:=dX.2 ⟨u,h1,h2,rfl⟩
  rw[Qz this,B2,B2]
  grind [List.map_congr_left]
 grind [Qy]
theorem kJ(hn:(ET m).Nodup)(p:ByteArray){K:AV->Prop}{Z:Prop}(hy:∀u,Dj m p=some u->K (.agg (Ad u)))(Me:Dj m p=none->Z) :
  (∀a,(Value.string p,a)∈m.map T3->K a)/\((∀a,(Value.string p,a)∉m.map T3)->Z):=
 ⟨fun a h=>by
  grind [Ru],fun h=>Me (by
  cases e:Dj m p with
  |none=>rfl
  |some u=>exact absurd (dX.2 ⟨u,G1 e,Lk e,rfl⟩) (h _))⟩
theorem Is{t:Tm}(h:Er t.set):BL t.set:=by
 grind [E6]
theorem c57(l:List Tm)(hl:BL l)(hs:∀t∈l,BL t.set):PC 227 [sl Ad l,.v (Hf 228)] (.cmap Cv ((Ds l).map T3)):=by
 refine Ps (yz [10] []) Tryz.func227 rfl (Nz rfl) (Xi {i:Nat // i<=l.length} (Xi (fun i=>⟨[(0,sl Ad l),(1,.v (Hf 228)),(5,.mref 10),(11,sl Ad l),(12,vi (l.map Ad).length),(13,vi i.1)],[(10,.map Cv ((Ds (l.take i.1)).map T3))],Ae⟩) (Xi (fun i=>l.length-i.1) (Yi (Xi ⟨0,Ap _⟩ ?_) ?_))))
 .exact⟨Z6,Z1,Fh,Tv⟩
 intro⟨i,h1⟩;have hn:=H3 (l.take i);refine Yi ?_ ?_
 .intro h;have h:i<l.length:=by simp_all
  have hg:l[i]?=some l[i]:=Ge h;refine Xi (Ad l[i]) (Yi (Yi aa0 (by simp_all)) (Yi rfl ?_));refine Yi (Nz rfl) (yN ?_);have Fu:=hs l[i] (Ak h);have tail:∀u:Tm,BL u.set->EB u l[i]=RX (Dj (Ds (l.take i)) l[i].path) l[i]->Fm ((Ds (l.take i)).map T3) (.string l[i].path) (.agg (Ad (EB u l[i])))=(Ds (l.take (i+1))).map T3:=fun u hu e=>by
   have hp:(RX (Dj (Ds (l.take i)) l[i].path) l[i]).path=l[i].path:=QH _ _ fun u h=>Lk h;have e2:=mh (Ds (l.take i)) (EB u l[i]);have e3:(EB u l[i]).path=l[i].path:=by simp_all
   rw[e3]at e2;rw[e2,RC l i h,e];rfl
  refine kJ hn l[i].path (fun u hu=>?_) (fun hu=>?_)
  .have Mz:BL u.set:=Is (Pq _ u (G1 hu));refine yN ?_;have AC:=tail u Mz (by grind [eO]);refine Yi (Nz rfl) (yN (Xi _ (Yi (c58 u l[i] Mz Fu) (Yi aa3 (Yi (by show As ((i:Int)+1);grind [As]) (Xi ⟨i+1,by omega⟩ ?_))))));have e1:HO.map Cv (Fm ((Ds (l.take i)).map T3) (.string l[i].path) (.agg (Ad (EB u l[i]))))=.map Cv ((Ds (l.take (i+1))).map T3):=by simp_all
   exact⟨by grind,Z6,⟨⟨e1,rfl⟩,Tv⟩,Fh,Tv⟩
  .refine yN (Yi (Nz rfl) (yN ?_));have AC:=tail l[i] Fu (by grind [eO]);refine Yi (Nz rfl) (yN (Xi _ (Yi (c58 l[i] l[i] Fu Fu) (Yi aa3 (Yi (by grind [As]) (Xi ⟨i+1,by omega⟩ ?_))))));have e1:HO.map Cv (Fm ((Ds (l.take i)).map T3) (.string l[i].path) (.agg (Ad (EB l[i] l[i]))))=.map Cv ((Ds (l.take (i+1))).map T3):=by simp_all
   exact⟨by grind,Z6,⟨⟨e1,rfl⟩,Tv⟩,Fh,Tv⟩
 .intro h;have h:¬i<l.length:=by simp_all
  have e:(Ds (l.take i)).map T3=(Ds l).map T3:=by grind
  exact .of_eq (Aa (AV.cmap Cv) e)
end Go.Eng
