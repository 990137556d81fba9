/- Lemmas 15. -/
import Derived.Test.YtkjhcikodmiceaaGreatDoorVA14
import Derived.Shelf.SlSortCmp.NoneTotal
namespace Go.Eng
open Go.Proofs Go.Proofs.Tryz
variable (l:List Tm)(s:List Sl)
theorem Abf(hl:Qx l)(hs:BO s):PC 251 [sl Ac l,sl Ae s] (vb (AX l s)):=by
 have hc:∀i (h:i<l.length),PC 312 [.agg (Ac l[i]),sl Ae s] (vb (E4 l[i] s)):=fun i h=>Abs l[i] s hs (hl.2 _ (Ah h));obtain⟨hl,_⟩:=hl;unfold BO at hl;refine Ps CX func251 rfl (Nz rfl) (Xi {i:Nat // i<=l.length/\∀j (hj:j<l.length),j<i->E4 l[j] s=true} (Xi (fun i=>⟨[(0,sl Ac l),(1,sl Ae s),(5,vi i.1)],[],Af⟩) (Xi (fun i=>l.length-i.1) (Yi (Xi ⟨0,by simp⟩ ?_) ?_))))
 .exact⟨Z3,Tv,Fh,Tv⟩
 .intro⟨i,h1,h2⟩;refine Yi ?_ ?_
  .intro h;have h:(i:Int)<(l.map Ac).length:=h;have h:i<l.length:=by simp_all
   have hg:l[i]?=some l[i]:=Ge h;have fj:=hc i h;refine Xi (Ac l[i]) (Yi (Yi Wk (by simp_all)) (Yi rfl (yN ?_)));refine Ax (Bt (E4 l[i] s)) (fun hp=>?_) (fun hp=>?_)
   .rw[hp]at fj;refine C1 (C2 fj (Yi (by grind [Au]) (Xi ⟨i+1,by omega,fun j hj GC=>?_⟩ ?_)))
    .grind
    .exact⟨by grind,Z3,Tv,Fh,Tv⟩
   .rw[hp]at fj;refine C1 (C2 fj ?_);show Cj (vb false) (vb (AX l s))
    grind [AX,Cj.refl]
  .intro h;have h:¬(i:Int)<(l.map Ac).length:=h;have h:¬i<l.length:=by simp_all
   show Cj (vb true) (vb (AX l s))
   grind [AX,Xu,Cj.refl]
def Jx:Bool:=l.all (fun t=>BS s t.path)&&AX l s
theorem XM:Jx l s=Bp l s:=by
 grind [Jx,Bp]
theorem c96(hl:Qx l)(hs:BO s):PC 172 [sl Ac l,sl Ae s] (vb (Bp l s)):=by
 have hc:∀i (h:i<l.length),PC 250 [sl Ae s,vs l[i].path] (vb (BS s l[i].path)):=fun i h=>Abe s l[i].path hs;have hv:=Abf l s hl hs;obtain⟨hl,_⟩:=hl;unfold BO at hl;rw[<-XM];refine Ps CX func172 rfl (Nz rfl) (Xi {i:Nat // i<=l.length/\∀j (hj:j<l.length),j<i->BS s l[j].path=true} (Xi (fun i=>⟨[(0,sl Ac l),(1,sl Ae s),(5,vi i.1)],[],Af⟩) (Xi (fun i=>l.length-i.1) (Yi (Xi ⟨0,by simp⟩ ?_) ?_))))
 .exact⟨Z3,Tv,Fh,Tv⟩
 .intro⟨i,h1,h2⟩;refine Yi ?_ ?_
  .intro h;have h:(i:Int)<(l.map Ac).length:=h;have h:i<l.length:=by simp_all
   have hg:l[i]?=some l[i]:=Ge h;have fj:=hc i h;refine Xi (Ac l[i]) (Yi (Yi Wk (by simp_all)) (Yi rfl ?_));refine Ax (Bt (BS s l[i].path)) (fun hp=>?_) (fun hp=>?_)
   .rw[hp]at fj;refine C1 (C2 fj (Yi (by grind [Au]) (Xi ⟨i+1,by omega,fun j hj GC=>?_⟩ ?_)))
    .grind
    .exact⟨by grind,Z3,Tv,Fh,Tv⟩
   .rw[hp]at fj;refine C1 (C2 fj ?_);show Cj (vb false) (vb (Jx l s))
    grind [Jx,Cj.refl]
  .intro h;have h:¬(i:Int)<(l.map Ac).length:=h;have h:¬i<l.length:=by simp_all
   refine C1 (C2 hv ?_);show Cj (vb (AX l s)) (vb (Jx l s))
   grind [Jx,Xu,Cj.refl]
abbrev Gt(a:An):List AV:=[vb a.found,sl Ae a.sel,sl AG a.infs,sl AB a.skips]
theorem tw(r:Rl):PC 98 [.agg (Am r)] (.agg (Ae ⟨r.path,r.ver⟩)):=by
 refine Ps CX func98 rfl (Nz rfl) ?_;exact Yi (Nz rfl) (Yi (Nz rfl) (Yi (Nz rfl) (.refl _)))
theorem wa(p:CS)(hl:BO s):PC 241 [sl Ae s,vs p] (.tup [.agg (Ae ((AF s p).getD Mf)),vb (AF s p).isSome]):=by
 unfold BO at hl;refine Ps CX func241 rfl (Nz rfl) (Xi {i:Nat // i<=s.length/\∀j (hj:j<s.length),j<i->decide (s[j].path=p)=false} (Xi (fun i=>⟨[(0,sl Ae s),(1,vs p),(4,.ref 4 0),(6,vi i.1)],[(4,.cells (Ae Mf))],Af⟩) (Xi (fun i=>s.length-i.1) (Yi (Xi ⟨0,by simp⟩ ?_) ?_))))
 .exact⟨Z4,Z1,Fh,Tv⟩
 .intro⟨i,h1,h2⟩;refine Yi ?_ ?_
  .intro h;have h:i<s.length:=by simp_all
   have hg:s[i]?=some s[i]:=Ge h;refine Xi (Ae s[i]) (Yi (Yi Wk (by simp_all)) (Yi rfl ?_));refine Yi ?_ ?_
   .intro h3;have hf:AF s p=some s[i]:=XQ (p:=fun x:Sl=>decide (x.path=p)) h h2 (Av h3);refine Xi (Ae s[i]) (Yi (Yi Wk (by simp_all)) (Yi rfl (Yi (Nz rfl) (Yi (Nz rfl) (yN ?_)))));show Cj (.tup [.agg (Ae s[i]),vb true]) _
    grind [Cj.refl]
   .intro h3;refine Yi (by grind [Au]) (Xi ⟨i+1,by omega,fun j hj GC=>?_⟩ ?_)
    .grind
    .exact⟨by grind,Z4,Z1,Fh,Tv⟩
  .intro h;have h:¬i<s.length:=by simp_all
   have hf:AF s p=none:=Wu (p:=fun x:Sl=>decide (x.path=p)) h2 h;refine Yi (Nz rfl) (yN ?_);show Cj (.tup [.agg (Ae Mf),vb false]) _
   grind [Cj.refl]
theorem c75(l m:List (Int×Int))(hl:BO l):PC 89 [sl Ab l,sl Ab m] (vb (decide (l=m))):=by
 refine Ps CX func89 rfl (Nz rfl) (Yi ?_ ?_)
 .intro h
  have:l≠m:=fun e=>h (by rw[e])
  rw[Aq this];exact .refl _
 .intro h;have CL:l.length=m.length:=by grind
  refine Xi {i:Nat // i<=l.length/\l.take i=m.take i} (Xi (fun i=>⟨[(0,sl Ab l),(1,sl Ab m),(5,vi i.1)],[],Af⟩) (Xi (fun i=>l.length-i.1) (Yi (Xi ⟨0,by simp⟩ ?_) ?_)))
  .exact⟨Z3,Tv,Fh,Tv⟩
  .intro⟨i,h1,h2⟩;refine Yi ?_ ?_
   .intro h;have h:i<l.length:=by simp_all
    have h' : i<m.length:=by omega
    have hg:l[i]?=some l[i]:=Ge h;have yx : m[i]?=some m[i]:=Ge h';refine Xi (Ab l[i]) (Yi (Yi Wk (by simp_all)) (Yi rfl (yN ?_)));refine Xi (Ab m[i]) (Yi (Yi Wk (by simp_all)) (Yi rfl (yN ?_)));refine Yi ?_ ?_
    .intro h5;have e:l[i]=m[i]:=SG.1 h5;refine Yi aa2 (Yi (by grind [Au]) (Xi ⟨i+1,by omega,?_⟩ ?_))
     .grind [List.take_add_one]
     .exact⟨Dl l.length i Wk,Z3,Tv,Fh,Tv⟩
    .intro h5;refine Yi aa2 ?_
     have:l≠m:=fun e=>h5 (SG.2 (by simp_all))
     rw[Aq this];exact .refl _
   .intro h;have h:¬i<l.length:=by simp_all
    have e:l=m:=by
     grind
    rw[Av e];exact .refl _
end Go.Eng
namespace Go.Eng
open Go.Proofs Go.Proofs.Tryz Go.Shelf Go.RowKit Go.Lib Go.Sort
variable (k:Nat)
theorem fG(x y:SpA):ltOf cfSpA x y=decide (x.1.1<y.1.1):=by
 unfold ltOf cfSpA;rw[Cy];simp only[A4];omega
theorem oo:SWO (ltOf cfSpA) where
 irrefl x:=by rw[fG];simp
 trans x y z h1 h2:=by rw[fG]at *;simp at *;omega
 ntrans x y z h1 h2:=by rw[fG]at *;simp at *;omega
theorem Uy:∀x y:List UInt8,decide (Lib.compareBytes x y<0)=KN x y
 | [],[]=>rfl
 | [],_::_=>rfl
 |_::_,[]=>rfl
 |a::x,b::y=>by
  unfold Lib.compareBytes KN
  by_cases h:a<b
  .simp[h]
  .by_cases h2:b<a
   .have:¬a=b:=fun e=>by subst e;exact absurd h2 (UInt8.lt_irrefl a)
    simp[h,h2,this]
   .have e:a=b:=UInt8.le_antisymm (UInt8.not_lt.1 h2) (UInt8.not_lt.1 h);subst e;simp[UInt8.lt_irrefl,Uy x y]
theorem fH(x y:TmA):ltOf cfTmA x y=Ez x.1 y.1:=Uy _ _
theorem oq:SWO (ltOf cfTmA) where
 irrefl x:=by rw[fH];exact Dg _
 trans x y z h1 h2:=by rw[fH]at *;exact Ei h1 h2
 ntrans x y z h1 h2:=by
  rw[fH]at *
  rw[A8];intro h;cases hyx:Ez y.1 x.1 with
  |true=>have:=Ei hyx h;rw[h2]at this;cases this
  |false=>
   have e:=Iy h1 hyx;rw[e]at h;rw[h2]at h;cases h
abbrev Hf:Value:=.func (.func k) #[] #[]
theorem ie {fn : Func}{c : Code}(hf : Tryz.prog.funcs[k]? = some fn)(hn : (fn.name == "runtime.NumGoroutine") = false)(hb : fn.body = some c) : Gl Tryz.prog k := ig hf hn hb
theorem Abu(l:List (Int×Int))(hl:BO l)(h:∀x∈l,0<=x.1/\x.1<=1000000)(lim:Nat)(ZQ:lim<100) :
  Bg Tryz.prog 339 [.msl 1000 l.length,vi 0,vi l.length,vi lim,.v (Hf 288)] (Ai [(1000,.arr 2 (l.map Ab))] Af) fun r h'=>
   r=.tup []/\∃l' : List (Int×Int),l'.Perm l/\l'.Pairwise (fun x y=>x.1<=y.1)/\h'=Ai [(1000,.arr 2 (l'.map Ab))] Af:=by
 have hl:l.length<=1073741824:=hl;have hE:Gl Tryz.prog 339:=ie 339 func339 aa2 rfl;have eg:∀args w,(callFunc 288 args).run Tryz.prog w=.ok (.enter 288 args) w:=enters_of func288 aa2 rfl;have Jc:=JE (P:=Tryz.prog) (f:=339) (α:=SpA) (rest:=[.int .i64 0,.int .i64 l.length,.int .i64 lim,Hf 288]) hE Ab encSpA (k:=2) (fun _=>rfl) (fun _=>rfl) (ltOf cfSpA) (fun x a=>a.1=x) l Wk ?_ ?_ ?_
 .refine⟨hE,fun g w vals q1 q2 q3=>(Jc.2 g w vals q1 q2 q3).mono fun _ _ ⟨v,r,h',g',e1,⟨e2,l',p1,⟨al,a1,a2,a3⟩,p2⟩,rest⟩=>⟨v,r,h',g',e1,⟨e2,l',p1,?_,p2⟩,rest⟩⟩;rw[Cs]at a3⊢;intro i j hi hj bD
  have:=a3 i j Wk Wk bD
  rw[fG]at this;have e1:=a2 i _ _ (AW hi) (AW Wk);have e2:=a2 j _ _ (AW hj) (AW Wk);rw[<-e1,<-e2]
  have:=of_decide_eq_false this
  omega
 .intro x hx g w vs hr
  match vs,hr with
  | [a,b],hr=>
   have h1:=(hr.2.2 0 (vi x.1) a rfl rfl).v_eq;have h2:=(hr.2.2 1 (vi x.2) b rfl rfl).v_eq;subst h1;subst h2;exact⟨⟨x,h x hx⟩,rfl,rfl⟩
  | [],hr=>have:=hr.1;simp at this
  | [_],hr=>have:=hr.1;simp at this
  |_::_::_::_,hr=>have:=hr.1;simp at this
 .intro w b cap d hH hb FI hdl;have md:CmpLays Tryz.prog 288 #[] encSpA 2 cfSpA b 0 d.size w:=fun _ _ _ _ x y=>Tryz.closure288 x y _;have hp:=AnyQ.pdqsortCmpFunc_all Tryz.layPdqSpan 2 isAgg64 sizeOf64 encSpA cfSpA 288 #[] oo b 0 cap d w eg md ⟨fun _=>rfl,fun x v hv=>by simp[encSpA]at hv;rcases hv with rfl | rfl<;>rfl,hH,hb⟩ (d.size+1) 0 d.size lim d w Wk rfl (SWK.start hH) (Al _) (Ap _) FI Wk (Or.inl rfl)
  rw[hdl]at hp⊢;refine hp.mono ?_
  rintro e w' ⟨rfl,n,os,rfl⟩
  have h:=pdq_sorts (ltOf cfSpA) oo d 0 d.size lim true true (Al _) (Ap _) (Or.inl rfl);rw[hdl]at h;exact⟨rfl,_,n,os,h.1,h.2,rfl⟩
 .intro e w;subst e;exact AnyF.pdqsortCmpFunc_none Tryz.layPdqSpan none 0 lim (Hf 288) w
theorem Ab1(l:List Tm)(hl:BO l)(lim:Nat)(ZQ:lim<100) :
  Bg Tryz.prog 377 [.msl 1000 l.length,vi 0,vi l.length,vi lim,.v (Hf 351)] (Ai [(1000,.arr 3 (l.map Ac))] Af) fun r h'=>
   r=.tup []/\∃l' : List Tm,l'.Perm l/\l'.Pairwise (fun x y=>Ez y.path x.path=false)/\h'=Ai [(1000,.arr 3 (l'.map Ac))] Af:=by
 have hl:l.length<=1073741824:=hl;have hE:Gl Tryz.prog 377:=ie 377 func377 aa2 rfl;have eg:∀args w,(callFunc 351 args).run Tryz.prog w=.ok (.enter 351 args) w:=enters_of func351 aa2 rfl;have Jc:=JE (P:=Tryz.prog) (f:=377) (α:=TmA) (rest:=[.int .i64 0,.int .i64 l.length,.int .i64 lim,Hf 351]) hE Ac encTmA (k:=3) (fun _=>rfl) (fun _=>rfl) (ltOf cfTmA) (fun x a=>a.1=x.path) l Wk ?_ ?_ ?_
 .refine⟨hE,fun g w vals q1 q2 q3=>(Jc.2 g w vals q1 q2 q3).mono fun _ _ ⟨v,r,h',g',e1,⟨e2,l',p1,⟨al,a1,a2,a3⟩,p2⟩,rest⟩=>⟨v,r,h',g',e1,⟨e2,l',p1,?_,p2⟩,rest⟩⟩;rw[Cs]at a3⊢;intro i j hi hj bD
  have:=a3 i j Wk Wk bD
  rw[fH]at this;have e1:=a2 i _ _ (AW hi) (AW Wk);have e2:=a2 j _ _ (AW hj) (AW Wk);rw[<-e1,<-e2];exact this
 .intro x hx g w vs hr
  match vs,hr with
  | [a,b,c],hr=>
   have h1:=(hr.2.2 0 (Go.Eng.vs x.path) a rfl rfl).v_eq;subst h1;exact⟨⟨x.path,⟨b,hr.2.1 b aa0⟩,⟨c,hr.2.1 c aa0⟩⟩,rfl,rfl⟩
  | [],hr=>have:=hr.1;simp at this
  | [_],hr=>have:=hr.1;simp at this
  | [_,_],hr=>have:=hr.1;simp at this
  |_::_::_::_::_,hr=>have:=hr.1;simp at this
 .intro w b cap d hH hb FI hdl;have md:CmpLays Tryz.prog 351 #[] encTmA 3 cfTmA b 0 d.size w:=fun _ _ _ _ x y=>Tryz.closure351 x y _;have hp:=AnyQ.pdqsortCmpFunc_all Tryz.layPdqTerm 3 isAgg325 sizeOf325 encTmA cfTmA 351 #[] oq b 0 cap d w eg md ⟨fun _=>rfl,fun x v hv=>by
    simp only[encTmA,AR,L8,or_false]at hv;rcases hv with rfl | rfl | rfl
    .rfl
    .exact x.2.1.2
    .exact x.2.2.2,hH,hb⟩ (d.size+1) 0 d.size lim d w Wk rfl (SWK.start hH) (Al _) (Ap _) FI Wk (Or.inl rfl)
  rw[hdl]at hp⊢;refine hp.mono ?_
  rintro e w' ⟨rfl,n,os,rfl⟩
  have h:=pdq_sorts (ltOf cfTmA) oq d 0 d.size lim true true (Al _) (Ap _) (Or.inl rfl);rw[hdl]at h;exact⟨rfl,_,n,os,h.1,h.2,rfl⟩
 .intro e w;subst e;exact AnyF.pdqsortCmpFunc_none Tryz.layPdqTerm none 0 lim (Hf 351) w
end Go.Eng
namespace Go.Eng
open Go.Proofs Go.Proofs.Tryz
variable {h0:Nat->HO}{α:Type}{P:Program}{args:List AV}{f:Nat}(s:AL)(x:List Rl)(ifs:AV)(l:List (Int×Int))(j:AL)(roots:List Rq)(d:List (List Tm))(i:Nat)
-- the checker,and what reads it
abbrev Ct:List AV:=[sl Am x,ifs,sl Ad roots,sl As d]
theorem c40(hd:BO d):PC 107 [.cptr (Ct x ifs roots d)] (vb (EC d)):=by
 unfold BO at hd;refine Ps CX func107 rfl (Nz rfl) (Yi ?_ ?_)
 .intro h;have h:(0:Int)<(d.map As).length:=h;have h:0<d.length:=by simp_all
  have hg:d[d.length-1]?=some d[d.length-1]:=Ge Wk;have hl:d.getLast?=some d[d.length-1]:=by grind
  refine Yi (by grind [Au]) (Xi (As d[d.length-1]) (Yi (Yi Wk (by rw[show(((d.map As).length:Int)-1).toNat=d.length-1 by simp_all];grind)) (Yi rfl ?_)));refine Yi ?_ ?_
  .intro h2;have h2:((d[d.length-1].map Ac).length:Int)=0:=h2;have h2:d[d.length-1]=[]:=by simp_all
   show Cj (vb true) (vb (EC d))
   grind [EC,Cj.refl]
  .intro h2;have h2:¬((d[d.length-1].map Ac).length:Int)=0:=h2;have h2:d[d.length-1]≠[]:=fun e=>h2 (by simp_all);show Cj (vb false) (vb (EC d))
   grind [EC,Cj.refl]
 .intro h;have h:¬(0:Int)<(d.map As).length:=h;have h:d=[]:=Ay (by simp_all);subst h;exact .refl _
theorem ZZ:∀(s:List Sl) (i:Nat) (h:i+1<s.length),KL (some s[i].path) (s.drop (i+1))=(Ez s[i].path s[i+1].path&&KL (some s[i+1].path) (s.drop (i+2))):=fun s i h=>by
 rw[Be h];rfl
theorem D1(a b:CS):Ez a b=Op.bytesLess a.toList b.toList:=by
 have:∀x y:List UInt8,KN x y=Op.bytesLess x y:=by
  intro x
  induction x with
  |nil=>intro y;cases y<;>rfl
  |cons a x ih=>
   intro y;cases y with
   |nil=>rfl
   |cons b y=>
    unfold KN Op.bytesLess;rw[ih];rw[Cy];simp
 grind [Ez,ByteArray.toList_eq]
theorem Bg.imp{Q Q' : AV->(Nat->HO)->Prop}(h:Bg P f args h0 Q)(hq:∀r h',Q r h'->Q' r h'):Bg P f args h0 Q':=h.mono fun r h' q=>⟨r,.refl _,hq r h' q⟩
theorem Bg.to{r0:AV}{p:α->Prop}{H:α->Nat->HO}{Q' : AV->(Nat->HO)->Prop}(h:Bg P f args h0 fun r h'=>r=r0/\∃x,p x/\h'=H x)(k:∀x,p x->Q' r0 (H x)):Bg P f args h0 Q':=
 h.imp fun r h' ⟨e1,x,e2,e3⟩=>by simp_all
theorem tv(n:Nat)(h:n<=1073741824):∃lim:Nat,lim<100/\PC 146 [.v (.int .u64 (IntKind.u64.wrap (n:Int)))] (vi lim):=by
 refine⟨Lib.bitLen n,Nat.lt_of_le_of_lt (Lib.bitLen_le n 62 Wk Wk) Wk,?_⟩;have wr:IntKind.u64.wrap (n:Int)=n:=by grind [IntKind.wrap,IntKind.bits]
 rw[wr];refine LF [.int .u64 n] (.int .i64 (Lib.bitLen n:Nat)) (ie 146 func146 aa2 rfl) rfl (fun _ _=>.v _ _) fun w _=>?_
 have:=Any.bits_Len Tryz.layBits (n:Int) w Wk Wk
 rw[GG]at this;exact this
theorem Abh(hl:BO l)(h:∀x∈l,0<=x.1/\x.1<=1000000) :
  Bg Tryz.prog 287 [.msl 1000 l.length,.v (Hf 288)] (Ai [(1000,.arr 2 (l.map Ab))] Af) fun r h'=>
   r=.tup []/\∃l' : List (Int×Int),(l'.Perm l/\l'.Pairwise (fun x y=>x.1<=y.1))/\h'=Ai [(1000,.arr 2 (l'.map Ab))] Af:=by
 obtain⟨lim,ZQ,hb⟩:=tv l.length hl;refine Bj (I9 CX) [(1000,1000)] rfl BI hm rfl func287 aa2 rfl (Nz rfl) aa2 rfl (C1 (C2 (hb) (Xi (.gen [(1000,1000)] 0) (Yi rfl ((Abu l hl h lim ZQ).imp ?_)))));intro r h' hq;refine Ao hq.2 (fun l' Sv=>?_);refine Xi (.tup []) (Yi ?_ (Yi rfl (Xi l' (Yi ⟨Sv.1,Sv.2.1⟩ ?_))))
 .exact .refl _
 .rw[Sv.2.2];rfl
theorem c61(l:List Tm)(hl:BO l) :
  Bg Tryz.prog 350 [.msl 1000 l.length,.v (Hf 351)] (Ai [(1000,.arr 3 (l.map Ac))] Af) fun r h'=>
   r=.tup []/\∃l' : List Tm,(l'.Perm l/\l'.Pairwise (fun x y=>Ez y.path x.path=false))/\h'=Ai [(1000,.arr 3 (l'.map Ac))] Af:=by
 obtain⟨lim,ZQ,hb⟩:=tv l.length hl;refine Bj (I9 CX) [(1000,1000)] rfl BI hm rfl func350 aa2 rfl (Nz rfl) aa2 rfl (C1 (C2 (hb) (Xi (.gen [(1000,1000)] 0) (Yi rfl ((Ab1 l hl lim ZQ).imp ?_)))));intro r h' hq;refine Ao hq.2 (fun l' Sv=>?_);refine Xi (.tup []) (Yi ?_ (Yi rfl (Xi l' (Yi ⟨Sv.1,Sv.2.1⟩ ?_))))
 .exact .refl _
 .rw[Sv.2.2];rfl
abbrev pla(l:List (Nat×Nat))(cut:List Nat):M5:=⟨[],[],l,[],[],[],[],[],[],[],cut⟩
abbrev G3:HO:=.arr 2 (l.map Ab)
theorem Ty(l:AL)(i:Nat):(DX (l.take i)).length<=i:=by
 grind [DX]
theorem QJ{l:AL}{i:Nat}(h:i<l.length)(h3:(G8 l[i]).1<(G8 l[i]).2):DX (l.take (i+1))=DX (l.take i)++[G8 l[i]]:=by
 grind [List.take_add_one,DX]
theorem Tx{l:AL}{i:Nat}(h:i<l.length)(h3:¬(G8 l[i]).1<(G8 l[i]).2):DX (l.take (i+1))=DX (l.take i):=by
 grind [List.take_add_one,DX]
abbrev arr2:AL:=(BE (s.take i)).reverse++(j++s.drop i)
theorem pd(h:i<s.length)(hj:(BE (s.take i)).length+j.length=i):(arr2 s j i)[i]?=some s[i]:=by
 unfold arr2;rw[BQ (by grind),BQ (by grind),List.length_reverse,F8]
 grind
theorem kH(h:i<=s.length)(hj:(BE (s.take i)).length+j.length=i):(arr2 s j i).length=s.length:=by
 grind
theorem eG(s:List α)(i:Nat)(h:i<s.length):s.drop i=s[i]::s.drop (i+1):=Be h
theorem V8(h:i<s.length)(e:JV (BE (s.take i)) s[i]=s[i]::BE (s.take i)) :
  (arr2 s j i).set (BE (s.take i)).length s[i]=arr2 s (j++[s[i]]).tail (i+1):=by
 unfold arr2;rw[FA s i h,e,List.reverse_cons,List.set_append_right _ _ (by simp_all),List.length_reverse,IX,Kw,eG s i h]
 congr 1
 cases j<;>grind
theorem gJ(h:i<s.length){y:Int×Int}{t:AL}(e:BE (s.take i)=y::t)(Js:s[i].1<=y.2) :
  (arr2 s j i).set t.length (y.1,max y.2 s[i].2)=arr2 s (j++[s[i]]) (i+1):=by
 unfold arr2;have e2:JV (y::t) s[i]=(y.1,max y.2 s[i].2)::t:=by show(if s[i].1<=y.2 then _ else _)=_;simp_all
 rw[FA s i h,e,e2,List.reverse_cons,List.reverse_cons,Kw,List.set_append_right _ _ (by simp_all),List.length_reverse,IX,eG s i h];simp
theorem Bq{enc:α->List AV}{l:List α}{i:Nat}{x:α}(h:l[i]?=some x):(l.map enc)[i]?=some (enc x):=by simp_all
theorem Za(hl:BO l):PC 221 [sl Ab l] (sl Ab (canon l)):=by
 refine E9 (ct (pla [(3,2)] [])) rfl BI hm rfl func221 aa2 rfl (Nz rfl) aa2 (Xi {i:Nat // i<=l.length} (Xi (fun i=>⟨[(0,sl Ab l),(3,.msl 3 (DX (l.take i.1)).length),(9,sl Ab l),(10,vi (l.map Ab).length),(11,vi i.1)],[(3,G3 (DX (l.take i.1)))],Af⟩) (Xi (fun i=>l.length-i.1) (Yi (Xi ⟨0,by simp⟩ ?_) ?_))))
 .exact⟨Z5,Z1,Fh,Tv⟩
 .intro⟨i,h1⟩;have hn:=Ty l i;refine Yi ?_ ?_
  .intro h;have h:i<l.length:=by simp_all
   have hg:l[i]?=some l[i]:=Ge h;refine Xi (Ab l[i]) (Yi (Yi Wk (by simp_all)) (Yi rfl ?_));refine Yi (Nz rfl) (yN (yN (Yi ?_ ?_)))
   .intro h3;refine yN ?_;have CY:Bh 2 [[vi (max l[i].1 0),vi (min l[i].2 1000000)]]/\((DX (l.take i)).map Ab).length=(DX (l.take i)).length/\(((DX (l.take i)).map Ab).length+[[vi (max l[i].1 0),vi (min l[i].2 1000000)]].length)*16<=140737488355328/\((DX (l.take i)).map Ab).length+[[vi (max l[i].1 0),vi (min l[i].2 1000000)]].length<=9223372036854775807:=
     ⟨⟨rfl,trivial⟩,by simp_all,by grind,by grind⟩
    refine Yi CY (Yi (by grind [Au]) (Xi ⟨i+1,by omega⟩ ?_));have e1:AV.msl 3 (((DX (l.take i)).map Ab).length+[[vi (max l[i].1 0),vi (min l[i].2 1000000)]].length)=.msl 3 (DX (l.take (i+1))).length:=by rw[QJ h h3];simp
    have e2:HO.arr 2 ((DX (l.take i)).map Ab++[[vi (max l[i].1 0),vi (min l[i].2 1000000)]])=G3 (DX (l.take (i+1))):=by rw[QJ h h3];simp[G8]
    exact⟨by grind,⟨Zr,⟨e1,rfl⟩,Zr,Zr,Zr,Tv⟩,⟨⟨e2,rfl⟩,Tv⟩,Fh,Tv⟩
   .intro h3;refine Yi (by grind [Au]) (Xi ⟨i+1,by omega⟩ ?_);have e1:AV.msl 3 (DX (l.take i)).length=.msl 3 (DX (l.take (i+1))).length:=by rw[Tx h h3]
    have e2:G3 (DX (l.take i))=G3 (DX (l.take (i+1))):=by rw[Tx h h3]
    exact⟨by grind,⟨Zr,⟨e1,rfl⟩,Zr,Zr,Zr,Tv⟩,⟨⟨e2,rfl⟩,Tv⟩,Fh,Tv⟩
  .intro h;have h:¬i<l.length:=by simp_all
   have ei:DX (l.take i)=DX l:=by grind
   have hN:(DX (l.take i)).length=(DX l).length:=by rw[ei]
   refine Xi (.gen [(3,1000)] 0) (Yi rfl ((Abh (DX (l.take i)) Wk (fun x hx=>by have:=Wm hx;omega)).to ?_));intro s hs;have Uh:s.length=(DX (l.take i)).length:=hs.1.length_eq;have hsN:s.length<=1073741824:=by omega
   have fin:(BE s).reverse=canon l:=LV (by simp_all) hs.2;refine Xi {p:Nat×AL // p.1<=s.length/\(BE (s.take p.1)).length+p.2.length=p.1} (Xi (fun p=>⟨[(3,.msl 3 (DX (l.take i)).length),(6,vi (BE (s.take p.1.1)).length),(34,.msl 3 (DX (l.take i)).length),(35,vi (DX (l.take i)).length),(36,vi p.1.1)],[(3,G3 (arr2 s p.1.2 p.1.1))],Af⟩) (Xi (fun p=>s.length-p.1.1) (Yi (Xi ⟨(0,[]),Al _,rfl⟩ ?_) ?_)))
   .exact⟨Z5,Z1,Fh,Tv⟩
   intro⟨⟨k,j⟩,k1,k2⟩;have k2:(BE (s.take k)).length+j.length=k:=k2;have CL:=kH s j k k1 k2;have Uf:(DX (l.take i)).length=((arr2 s j k).map Ab).length:=by simp_all
   refine Yi ?_ ?_
   .intro h2;have h2:(k:Int)<(DX (l.take i)).length:=h2;have hk:k<s.length:=by omega
    have Oo:=Bq (enc:=Ab) (pd s j k hk k2);refine Yi ⟨by omega,by omega⟩ ?_;refine Yi Uf (Xi (Ab s[k]) (Yi Oo (Yi (Nz rfl) (yN ?_))));have hr:=OB s k k1;refine Ax (Nat.eq_zero_or_pos k) (fun k0=>?_) (fun k0=>?_)
    .refine Yi ?_ ?_
     .intro h4;have h4:(0:Int)<k:=h4;omega
     .intro _;refine Yi aa2 ?_;have Jt:JV (BE (s.take k)) s[k]=s[k]::BE (s.take k):=by subst k0;rfl
      have oP:(BE (s.take k)).length<(arr2 s j k).length:=by omega
      have hz:=Bq (enc:=Ab) (Ge oP);refine Yi (Nz rfl) (Yi ⟨by omega,by simp_all⟩ ?_);refine Yi Uf (Xi (Ab (arr2 s j k)[(BE (s.take k)).length]) (Yi hz (yN (Yi (by show Au (((BE (s.take k)).length:Int)+1);unfold Au;omega) ?_))));refine Yi (Ii k Wk) ?_;have hm:=FA s k hk;have e1:vi (((BE (s.take k)).length:Int)+1)=vi (BE (s.take (k+1))).length:=by simp_all
      have e2:HO.arr 2 (((arr2 s j k).map Ab).set (BE (s.take k)).length [vi s[k].1,vi s[k].2])=G3 (arr2 s (j++[s[k]]).tail (k+1)):=by rw[<-V8 s j k hk Jt];simp only[G3,Vz]
      refine Xi ⟨(k+1,(j++[s[k]]).tail),by omega,by simp_all⟩ ?_;exact⟨Dl s.length k Wk,⟨Zr,⟨e1,rfl⟩,Zr,Zr,Zr,Tv⟩,⟨⟨e2,rfl⟩,Tv⟩,Fh,Tv⟩
    .refine Yi ?_ ?_
     .intro _;obtain⟨y,t,e⟩:∃y t,BE (s.take k)=y::t:=by
       cases hc:BE (s.take k)with
       |nil=>simp_all
       |cons y t=>grind
      have ht:(((BE (s.take k)).length:Int)-1).toNat=t.length:=by grind
      have hy:((arr2 s j k).map Ab)[(((BE (s.take k)).length:Int)-1).toNat]?=some (Ab y):=by rw[ht];grind
      refine Yi (by show Au (((BE (s.take k)).length:Int)-1);unfold Au;omega) ?_;have yU:=hr.2 k0;refine Yi ⟨by grind,by grind⟩ ?_;refine Yi Uf (Xi (Ab y) (Yi hy (Yi ?_ ?_)))
      .intro h5;refine Yi aa2 (Yi (by show Au (((BE (s.take k)).length:Int)-1);unfold Au;omega) (Yi (by show Au (((BE (s.take k)).length:Int)-1);unfold Au;omega) ?_));refine Yi ⟨by grind,by grind⟩ ?_;refine Yi Uf (Xi (Ab y) (Yi hy (Yi ⟨by grind,by grind⟩ ?_)));refine Yi Uf (Xi (Ab y) (Yi hy (yN (Yi aa2 (Yi (Ii k Wk) ?_)))));have hm:=FA s k hk;have Jt:JV (BE (s.take k)) s[k]=(y.1,max y.2 s[k].2)::t:=by rw[e];show(if s[k].1<=y.2 then _ else _)=_;grind
       have e1:vi (BE (s.take k)).length=vi (BE (s.take (k+1))).length:=by rw[hm,Jt,e];simp
       have e2:HO.arr 2 (((arr2 s j k).map Ab).set (((BE (s.take k)).length:Int)-1).toNat [vi y.1,vi (max y.2 s[k].2)])=G3 (arr2 s (j++[s[k]]) (k+1)):=by rw[<-gJ s j k hk e h5,ht];simp only[G3,Vz]
       refine Xi ⟨(k+1,j++[s[k]]),by omega,by show(BE (s.take (k+1))).length+(j++[s[k]]).length=k+1;rw[hm,Jt,AD,A6];grind⟩ ?_;exact⟨Dl s.length k Wk,⟨Zr,⟨e1,rfl⟩,Zr,Zr,Zr,Tv⟩,⟨⟨e2,rfl⟩,Tv⟩,Fh,Tv⟩
      .intro h5;refine Yi aa2 ?_;have Jt:JV (BE (s.take k)) s[k]=s[k]::BE (s.take k):=by rw[e];show(if s[k].1<=y.2 then _ else _)=_;grind
       have oP:(BE (s.take k)).length<(arr2 s j k).length:=by omega
       have hz:=Bq (enc:=Ab) (Ge oP);refine Yi (Nz rfl) (Yi ⟨by omega,by grind⟩ ?_);refine Yi Uf (Xi (Ab (arr2 s j k)[(BE (s.take k)).length]) (Yi hz (yN (Yi (by show Au (((BE (s.take k)).length:Int)+1);unfold Au;omega) ?_))));refine Yi (Ii k Wk) ?_;have hm:=FA s k hk;have e1:vi (((BE (s.take k)).length:Int)+1)=vi (BE (s.take (k+1))).length:=by rw[hm,Jt];simp
       have e2:HO.arr 2 (((arr2 s j k).map Ab).set (BE (s.take k)).length [vi s[k].1,vi s[k].2])=G3 (arr2 s (j++[s[k]]).tail (k+1)):=by rw[<-V8 s j k hk Jt];simp only[G3,Vz]
       refine Xi ⟨(k+1,(j++[s[k]]).tail),by omega,by show(BE (s.take (k+1))).length+((j++[s[k]]).tail).length=k+1;rw[hm,Jt];simp;omega⟩ ?_;exact⟨Dl s.length k Wk,⟨Zr,⟨e1,rfl⟩,Zr,Zr,Zr,Tv⟩,⟨⟨e2,rfl⟩,Tv⟩,Fh,Tv⟩
     .intro h4;have h4:¬(0:Int)<k:=h4;omega
   .intro h2;have h2:¬(k:Int)<(DX (l.take i)).length:=h2;have hk:k=s.length:=by omega
    have hr:=OB s k k1;have yY:((((arr2 s j k).map Ab).take ((BE (s.take k)).length:Int).toNat).drop 0)=(canon l).map Ab:=by
     rw[List.drop_zero,GG,<-List.map_take,<-fin]
     grind
    refine Yi ⟨Uf,by simp_all,by simp_all,by grind,.inr ⟨rfl,by simp⟩⟩ ?_;exact .of_eq (Aa (AV.slice .none) yY)
end Go.Eng
namespace Go.Eng
open Go.Proofs Go.Sort
variable {m:List (Int×Int)}{S:AL}(zs:List Int)(z:Int)
abbrev GY:List AV:=[vi z]
theorem Rg{α:Type}[Inhabited α](enc:α->Value)(w:World)(b:Nat)(d:Array α):putRow enc w b 0 d=putRow id w b 0 (d.map enc):=by
 unfold putRow
 congr 1
 grind [putCells]
theorem Ww:(zs.map GY).flatten=(zs.map fun z=>Value.int .i64 z).map AV.v:=by
 induction zs<;>simp_all
theorem NC(g:Gh)(w:World)(U:Nat->Prop)(vs:List Value)(h:∀x∈vs,x.oneCell'=true):Cg g w U (vs.map .v) vs:=
 ⟨by simp,h,fun i av x q1 q2=>by
  grind [Bc.v]⟩
theorem LI{g:Gh}{w:World}{U:Nat->Prop}{vs us:List Value}(h:Cg g w U (vs.map .v) us):us=vs:=by
 apply CU;intro i;have hl:=h.1;rw[Lm]at hl
 by_cases hi:i<vs.length
 .have:=h.2.2 i (.v vs[i]) us[i] (by simp_all) (Ge Wk)
  grind [Bc.v_eq]
 simp_all
theorem Abt(hl:BO zs)(EG:zs≠[]) :
  Bg Tryz.prog 375 [.msl 1000 zs.length] (Ai [(1000,.arr 1 (zs.map GY))] Af) fun r h'=>
   r=.tup []/\∃l' : List Int,(l'.Perm zs/\l'.Pairwise fun a b=>a<=b)/\h'=Ai [(1000,.arr 1 (l'.map GY))] Af:=by
 have hE:Gl Tryz.prog 375:=ie 375 Tryz.func375 aa2 rfl;have Jc:=QB (P:=Tryz.prog) (f:=375) (es:=zs.map GY) (sz:=1) (rest:=[]) (Q:=fun FU=>∃l' : List Int,(l'.Perm zs/\l'.Pairwise fun a b=>a<=b)/\FU=l'.map GY) hE ?_ ?_
 .grind
 .simp_all
 .intro g w b cap F hr hF hH hb;have hFl:F.toList=zs.map fun z=>Value.int .i64 z:=LI (by rw[<-Ww];exact hr);have sj:F=zs.toArray.map fun z=>Value.int .i64 z:=Ta.1 (by simp_all);have xS:Holds (Value.int .i64) w b 0 zs.toArray:=fun j hj=>by
   have:=hH j (by simp_all)
   simp_all
  have hc:=Any.slices_Sort_int Tryz.laySortInts b 0 cap zs w xS hb Wk;rw[Lm];refine hc.mono ?_
  rintro e w' ⟨rfl,n,os,rfl⟩
  have Je:(zs.mergeSort fun x y=>decide (x<=y)).Perm zs:=List.mergeSort_perm _ _;have CL:=Je.length_eq;refine⟨rfl,(zs.mergeSort fun x y=>decide (x<=y)).toArray.map fun z=>Value.int .i64 z,(zs.mergeSort fun x y=>decide (x<=y)).map GY,n,os,?_,⟨_,⟨Je,?_⟩,rfl⟩,by simp_all,fun cs hcs=>?_,fun g w _=>?_,by rw[Rg]⟩
  .simp_all
  .grind [List.pairwise_mergeSort]
  .grind
  .rw[Ww];have e:((zs.mergeSort fun x y=>decide (x<=y)).toArray.map fun z=>Value.int .i64 z).toList=(zs.mergeSort fun x y=>decide (x<=y)).map fun z=>Value.int .i64 z:=by simp
   rw[e];exact NC _ _ _ _ fun x hx=>by
    obtain⟨z,_,rfl⟩:=Ar.1 hx;rfl
-- maps from numbers to numbers
abbrev Yv:ES:=⟨false,[.int .i64]⟩
abbrev kI:Value:=.int .i64 z
abbrev No(p:Int×Int):Value×AV:=(kI p.1,vi p.2)
abbrev CR(s:AL):List AV:=[sl Ab s]
theorem Yc{k:Int}{a:AV}:(kI k,a)∈m.map No↔∃v,(k,v)∈m/\a=vi v:=by
 grind
theorem SU(m:List (Int×Int))(k v:Int):E7 (m.map No) (kI k) (vi v)=(LH m k v).map No:=by
 unfold LH
 by_cases h:(m.any fun p=>decide (p.1=k))=true
 .rw[A3 h];obtain⟨p,h1,h2⟩:=BC.1 h;have h2:=CA h2
  have:(kI k,vi p.2)∈m.map No:=Yc.2 ⟨p.2,by grind,rfl⟩
  rw[QY this,BX,BX]
  grind [List.map_congr_left]
 grind [KQ]
theorem PE{T:GW}{e:Nat}{BY:List (Value×AV)}{kx:Value}{K:AV->Prop}(a0 z0:AV)(h1:∀a,(kx,a)∈BY->a=a0)(hz:(∀a,(kx,a)∉BY)->a0=z0)(h2:K z0->Kt T e K)(k:K a0) :
  (∀a,(kx,a)∈BY->K a)/\((∀a,(kx,a)∉BY)->Kt T e K):=⟨fun a h=>by grind,fun hn=>h2 (hz hn▸k)⟩
theorem Rz(m:List (Int×Int))(k:Int):(∀a,(kI k,a)∉m.map No)->vi (FM m k)=vi 0:=fun PK=>by
 rw[oC fun hk=>by
  obtain⟨p,hp,e⟩:=Ar.1 hk;exact PK (vi p.2) (Yc.2 ⟨p.2,by grind,rfl⟩)]
theorem Ry(hn:(Fp m).Nodup)(k:Int):∀a,(kI k,a)∈m.map No->a=vi (FM m k):=fun a h=>by
 obtain⟨v,h1,rfl⟩:=Yc.1 h;rw[oA hn h1]
theorem F7.bound(h:F7 m S)(k:Int):-(S.length:Int)<=FM m k/\FM m k<=S.length:=by
 rw[h.val]
 grind [cF,cT]
theorem cB(l:List AL):(l.map canon).flatten.length<=l.length*1000000:=by
 induction l<;>grind [E6,BG]
theorem F7.few(h:F7 m S):m.length<=1000001:=by
 have:=CB (m:=(List.range 1000001).map Int.ofNat) h.nd fun k hk=>by
  have:=h.rng k hk
  grind [Int]
 grind [Fp]
theorem WG(keep:Nat->Bool)(m:List (Int×Int))(B:List Int):∀n,(EB keep m B n).length<=n
 |0=>Ap _
 |n+1=>by
  unfold EB
  have:=WG keep m B n
  grind
end Go.Eng
namespace Go.Eng
open Go.Proofs Go.Proofs.Tryz
variable {m:List Tm}(u:Tm)(n:Int)(l:List AL)(t:Tm)(p:Int)
abbrev plC:M5:=⟨[],[(12,2)],[(44,1)],[],[],[],[],[],[],[],[8,9,15,23,25,26]⟩
theorem tD(F:AV)(keep:Nat->Bool)(l:List AL)(hl:BO l)(hs:∀s∈l,BO s)(hid:∀h,Uk h F=true)(hF:∀h (n:Int),0<=n->n<=l.length->Qz Tryz.prog (str h F) [vi n] (vb (keep n.toNat)))
  (R:AL) (hR:Eo R) (hRh:∀p,has R p=(PM p&&keep (lh l p))):PC 341 [F,sl CR l] (sl Ab R):=by
 refine Ps plC func341 rfl (Nz rfl) (Xi {p:Nat×List (Int×Int) // p.1<=l.length/\F7 p.2 ((l.take p.1).map canon).flatten} (Xi (fun p=>⟨[(0,F),(5,.mref 15),(17,sl CR l),(18,vi (l.map CR).length),(19,vi p.1.1)],[(15,.map Yv (p.1.2.map No))],Af⟩) (Xi (fun p=>l.length-p.1.1) (Yi (Xi ⟨(0,xy),Al _,pz⟩ ?_) ?_))))
 .have e0:HO.map Yv (E7 (E7 [] (kI 0) (vi 0)) (kI 1000000) (vi 0))=.map Yv (xy.map No):=by
   have e1:=SU [] 0 0;have e2:=SU [(0,0)] 1000000 0;show HO.map Yv (E7 (E7 (List.map No []) (kI 0) (vi 0)) (kI 1000000) (vi 0))=_;rw[e1];show HO.map Yv (E7 (List.map No [(0,0)]) (kI 1000000) (vi 0))=_;rw[e2];rfl
  exact⟨⟨⟨rfl,hid _⟩,Zr,Zr,Zr,Zr,Tv⟩,⟨⟨e0,rfl⟩,Tv⟩,Fh,Tv⟩
 intro⟨⟨i,cm⟩,i1,i2⟩;refine Yi ?_ ?_
 .intro h;have h:i<l.length:=by simp_all
  have hg:l[i]?=some l[i]:=Ge h;refine Xi (CR l[i]) (Yi (Yi Wk (by simp_all)) (Yi rfl ?_));refine C1 (C2 (Za l[i] (hs _ (Ah h))) (Xi {p:Nat×List (Int×Int) // p.1<=(canon l[i]).length/\F7 p.2 (((l.take i).map canon).flatten++(canon l[i]).take p.1)} (Xi (fun p=>⟨[(0,F),(5,.mref 15),(17,sl CR l),(18,vi (l.map CR).length),(19,vi i),(24,sl Ab (canon l[i])),(25,vi ((canon l[i]).map Ab).length),(26,vi p.1.1)],[(15,.map Yv (p.1.2.map No))],Af⟩) (Xi (fun p=>(canon l[i]).length-p.1.1) (Yi (Xi ⟨(0,cm),Al _,by grind⟩ ?_) ?_)))))
  .exact⟨⟨⟨rfl,hid _⟩,Zr,Zr,Zr,Zr,Zr,Zr,Zr,Tv⟩,Z1,Fh,Tv⟩
  intro⟨⟨j,dm⟩,j1,j2⟩;have j2:F7 dm (((l.take i).map canon).flatten++(canon l[i]).take j):=j2;have hS:(((l.take i).map canon).flatten++(canon l[i]).take j).length<=1073741825000000:=by
   grind [cB,E6,BG]
  refine Yi ?_ ?_
  .intro hj;have hj:j<(canon l[i]).length:=by simp_all
   have hgj:(canon l[i])[j]?=some (canon l[i])[j]:=Ge hj;have uO:=(BG l[i]).low _ (Ah hj);have j3:F7 (br dm (canon l[i])[j]) (((l.take i).map canon).flatten++(canon l[i]).take (j+1)):=by
    grind [jU,List.take_add_one]
   generalize (canon l[i])[j]=x at hgj uO j3;have b1:=j2.bound x.1;have oP:=MH j2.nd x.1 (FM dm x.1+1);refine Xi (Ab x) (Yi (Yi Wk (by simp_all)) (Yi rfl ?_));refine Yi (Nz rfl) (yN (Xi ⟨[(0,F),(5,.mref 15),(9,.ref 9 0),(17,sl CR l),(18,vi (l.map CR).length),(19,vi i),(24,sl Ab (canon l[i])),(25,vi ((canon l[i]).map Ab).length),(26,vi j)],[(9,.cells (Ab x)),(15,.map Yv (dm.map No))],Af⟩ (Yi ⟨⟨⟨rfl,hid _⟩,Zr,Zr,Zr,Zr,Zr,Zr,Zr,Zr,Tv⟩,Z2,Fh,Tv⟩ (PE (vi (FM dm x.1)) (vi 0) (Ry j2.nd x.1) (Rz dm x.1) (fun q=>q) (Yi (by grind [Au]) ?_)))));have m1:HO.map Yv (E7 (dm.map No) (kI x.1) (vi (FM dm x.1+1)))=.map Yv ((LH dm x.1 (FM dm x.1+1)).map No):=by rw[SU]
   refine Xi ⟨[(0,F),(5,.mref 15),(9,.ref 9 0),(17,sl CR l),(18,vi (l.map CR).length),(19,vi i),(24,sl Ab (canon l[i])),(25,vi ((canon l[i]).map Ab).length),(26,vi j)],[(9,.cells (Ab x)),(15,.map Yv ((LH dm x.1 (FM dm x.1+1)).map No))],Af⟩ (Yi ⟨⟨⟨rfl,hid _⟩,Zr,Zr,Zr,Zr,Zr,Zr,Zr,Zr,Tv⟩,⟨Zr,⟨m1,rfl⟩,Tv⟩,Fh,Tv⟩ ?_)
   have b2:-(1073741825000001:Int)<=FM (LH dm x.1 (FM dm x.1+1)) x.2/\FM (LH dm x.1 (FM dm x.1+1)) x.2<=1073741825000001:=by
    have b3:=j2.bound x.2
    grind [Qt]
   refine PE (vi (FM (LH dm x.1 (FM dm x.1+1)) x.2)) (vi 0) (Ry oP x.2) (Rz _ x.2) (fun q=>q) (Yi (by show Au (FM (LH dm x.1 (FM dm x.1+1)) x.2-1);grind [Au]) ?_);have hcl:=E6 (BG l[i]);refine Yi (by grind [Au]) ?_;have m2:HO.map Yv (E7 ((LH dm x.1 (FM dm x.1+1)).map No) (kI x.2) (vi (FM (LH dm x.1 (FM dm x.1+1)) x.2-1)))=.map Yv ((br dm x).map No):=by rw[SU];rfl
   refine Xi ⟨(j+1,br dm x),by omega,j3⟩ ?_;exact⟨by grind,⟨⟨rfl,hid _⟩,Zr,Zr,Zr,Zr,Zr,Zr,Zr,Tv⟩,⟨⟨m2,rfl⟩,Tv⟩,Fh,Tv⟩
  .intro hj;have hj:¬j<(canon l[i]).length:=by simp_all
   refine Yi (by grind [Au]) ?_;have i3:F7 dm ((l.take (i+1)).map canon).flatten:=by
    have e1:(canon l[i]).take j=canon l[i]:=A5 Wk;rw[e1]at j2;have e2:((l.take (i+1)).map canon).flatten=((l.take i).map canon).flatten++canon l[i]:=by
     rw[Dm,hg,Bk,D8];simp_all
    simp_all
   refine Xi ⟨(i+1,dm),by omega,i3⟩ ?_;exact⟨by grind,⟨⟨rfl,hid _⟩,Zr,Zr,Zr,Zr,Tv⟩,Z1,Fh,Tv⟩
 .intro h;have h:¬i<l.length:=by simp_all
  have i3:F7 cm (l.map canon).flatten:=by
   grind
  have uv:=i3.few;have hmk:(0:Int)<=0/\(0:Int)<=((cm.map No).length:Int)/\((cm.map No).length:Int)*((8:Nat):Int)<=140737488355328/\((cm.map No).length:Int)<=9223372036854775807:=by grind
  refine Yi hmk (Xi {p:List (Value×AV)×List Int×Option (Value×AV) // ((p.2.1.map kI)++p.1.map (·.1)).Perm ((cm.map No).map (·.1))/\∀kv∈p.1,kv∈cm.map No} (Xi (fun p=>⟨[(0,F),(5,.mref 15),(10,.msl 44 p.1.2.1.length),(46,.ref 46 0)],[(15,.rom Yv (cm.map No)),(44,.arr 1 (p.1.2.1.map GY)),(46,.iter (cm.map No) p.1.1 p.1.2.2)],Af⟩) (Xi (fun p=>p.1.1.length) (Yi (Xi ⟨(cm.map No,[],none),.refl _,fun _ h=>h⟩ ?_) ?_))))
  .exact⟨⟨⟨rfl,hid _⟩,Zr,Zr,Zr,Tv⟩,Z3,Fh,Tv⟩
  intro⟨⟨rem,bs,Ef⟩,r1,r2⟩;have hbl:bs.length<=1000001:=by
   grind [List.length_append,Lm,List.Perm.length_eq]
  refine Yi ?_ ?_
  .intro hr;subst hr;rw[IV,Eg,BX]at r1;have hpk:bs.Perm (Fp cm):=by
    have r1:(bs.map kI).Perm ((Fp cm).map kI):=by unfold Fp;rw[BX];exact r1
    have:=r1.map (fun v:Value=>match v with | .int _ n=>n | _=>0)
    rw[BX,BX]at this;have e:((fun v:Value=>match v with | .int _ n=>n | _=>0) ∘ kI)=id:=rfl;simp_all
   have EG:bs≠[]:=fun e=>by
    subst e
    have:=hpk.length_eq
    have h0:=i3.keys.1;simp_all
   refine Xi (.gen [(44,1000)] 0) (Yi rfl ((Abt bs Wk EG).to ?_));intro B hBs;have xQ:B.length=bs.length:=hBs.1.length_eq;have hBn:B.Nodup:=(hBs.1.trans hpk).nodup_iff.2 i3.nd;have hB:oY B cm:=⟨hBs.1.trans hpk,by
    grind [List.pairwise_iff_getElem]⟩
   have Af7:0<B.length:=by
    grind
   have hNE:bs.length=(B.map GY).length:=by simp_all
   refine Yi (by grind [Au]) (Xi {k:Nat // k<=B.length-1} (Xi (fun k=>⟨[(0,F),(5,.mref 15),(10,.msl 44 bs.length),(12,.slice (.id 12 2) ((EB keep cm B k.1).map Ab)),(13,vi (I3 cm (B.take k.1))),(59,vi ((bs.length:Int)-1)),(60,vi k.1)],[(12,.tok 2 ((EB keep cm B k.1).map Ab).length),(15,.rom Yv (cm.map No)),(44,.arr 1 (B.map GY))],Af⟩) (Xi (fun k=>B.length-k.1) (Yi (Xi ⟨0,Al _⟩ ?_) ?_))))
   .exact⟨⟨⟨rfl,hid _⟩,Zr,Zr,Zr,Zr,Zr,Zr,Tv⟩,Z3,Fh,Tv⟩
   intro⟨k,k1⟩;have qr:=WG keep cm B k;refine Yi ?_ ?_
   .intro hk;have hk:(k:Int)<(bs.length:Int)-1:=hk;have Vt:k+1<B.length:=by omega
    have iE:k<B.length:=by omega
    have Oo:(B.map GY)[k]?=some (GY B[k]):=Bq (Ge iE);have Ai4:(B.map GY)[k+1]?=some (GY B[k+1]):=Bq (Ge Vt);have iL:=Rx cm B k iE;have AiJ:=ol i3 hB k iE;have sC:EB keep cm B (k+1)=EB keep cm B k++(if keep (I3 cm (B.take (k+1))).toNat then [(B[k],B[k+1])]else []):=by
     show _++(match B[k]?,B[k+1]? with | some a,some b=>if keep (I3 cm (B.take (k+1))).toNat then [(a,b)]else [] | _,_=>[])=_
     grind
    refine Xi ⟨[(0,F),(5,.mref 15),(10,.msl 44 bs.length),(12,.slice (.id 12 2) ((EB keep cm B k).map Ab)),(13,vi (I3 cm (B.take k))),(14,vi k),(59,vi ((bs.length:Int)-1)),(60,vi k)],[(12,.tok 2 ((EB keep cm B k).map Ab).length),(15,.rom Yv (cm.map No)),(44,.arr 1 (B.map GY))],Af⟩ (Yi ⟨⟨⟨rfl,hid _⟩,Zr,Zr,Zr,Zr,Zr,Zr,Zr,Tv⟩,Z3,Fh,Tv⟩ (Yi ⟨by omega,by omega⟩ ?_));refine Yi hNE (Xi (GY B[k]) (Yi Oo (PE (vi (FM cm B[k])) (vi 0) (Ry i3.nd B[k]) (Rz cm B[k]) (fun q=>q) (Yi (by grind [Au]) ?_))));have Co:∀h,Qz Tryz.prog (str h F) [vi (I3 cm (B.take k)+FM cm B[k])] (vb (keep (I3 cm (B.take (k+1))).toNat)):=fun h=>by
     grind
    refine Ax (Bt (keep (I3 cm (B.take (k+1))).toNat)) (fun hp=>?_) (fun hp=>?_)
    .rw[hp]at Co;rw[hp,A3 rfl]at sC;refine Xi .pure (Xi (vb true) (Yi (Co _) (Xi ⟨[(0,F),(5,.mref 15),(10,.msl 44 bs.length),(12,.slice (.id 12 2) ((EB keep cm B k).map Ab)),(13,vi (I3 cm (B.take k)+FM cm B[k])),(14,vi k),(59,vi ((bs.length:Int)-1)),(60,vi k)],[(12,.tok 2 ((EB keep cm B k).map Ab).length),(15,.rom Yv (cm.map No)),(44,.arr 1 (B.map GY))],Af⟩ (Yi ⟨⟨⟨rfl,hid _⟩,Zr,Zr,Zr,Zr,Zr,Zr,Zr,Tv⟩,Z3,Fh,Tv⟩ ?_))))
     have b1:(0:Int)<=(k:Int)+1/\(k:Int)+1<bs.length:=by omega
     have Acz:(B.map GY)[((k:Int)+1).toNat]?=some (GY B[k+1]):=by grind
     refine Yi ⟨by omega,by omega⟩ ?_;refine Yi hNE (Xi (GY B[k]) (Yi Oo (Yi (Ii k Wk) (Yi b1 (Yi hNE (Xi (GY B[k+1]) (Yi Acz ?_)))))));have CY:Bh 2 [[vi B[k],vi B[k+1]]]/\((EB keep cm B k).map Ab).length=((EB keep cm B k).map Ab).length/\(((EB keep cm B k).map Ab).length+[[vi B[k],vi B[k+1]]].length)*16<=140737488355328/\((EB keep cm B k).map Ab).length+[[vi B[k],vi B[k+1]]].length<=9223372036854775807:=
      ⟨⟨rfl,trivial⟩,rfl,by grind,by grind⟩
     refine Yi CY (Yi aa2 (Xi ⟨[(0,F),(5,.mref 15),(10,.msl 44 bs.length),(12,.slice (.id 12 2) ((EB keep cm B k).map Ab++[[vi B[k],vi B[k+1]]])),(13,vi (I3 cm (B.take k)+FM cm B[k])),(59,vi ((bs.length:Int)-1)),(60,vi k)],[(12,.tok 2 (((EB keep cm B k).map Ab).length+[[vi B[k],vi B[k+1]]].length)),(15,.rom Yv (cm.map No)),(44,.arr 1 (B.map GY))],Af⟩ (Yi ⟨⟨⟨rfl,hid _⟩,Zr,Zr,Zr,Zr,Zr,Zr,Tv⟩,Z3,Fh,Tv⟩ (Yi (Ii k Wk) (Xi ⟨k+1,by omega⟩ ?_)))));have e1:AV.slice (.id 12 2) ((EB keep cm B k).map Ab++[[vi B[k],vi B[k+1]]])=.slice (.id 12 2) ((EB keep cm B (k+1)).map Ab):=by grind
     have e2:vi (I3 cm (B.take k)+FM cm B[k])=vi (I3 cm (B.take (k+1))):=by grind
     have e3:HO.tok 2 (((EB keep cm B k).map Ab).length+[[vi B[k],vi B[k+1]]].length)=.tok 2 ((EB keep cm B (k+1)).map Ab).length:=by grind
     exact⟨by grind,⟨⟨rfl,hid _⟩,Zr,Zr,⟨e1,rfl⟩,⟨e2,rfl⟩,Zr,Zr,Tv⟩,⟨⟨e3,rfl⟩,Zr,Zr,Tv⟩,Fh,Tv⟩
    .rw[hp]at Co;have sC:EB keep cm B (k+1)=EB keep cm B k:=by grind
     refine Xi .pure (Xi (vb false) (Yi (Co _) (Xi ⟨[(0,F),(5,.mref 15),(10,.msl 44 bs.length),(12,.slice (.id 12 2) ((EB keep cm B k).map Ab)),(13,vi (I3 cm (B.take k)+FM cm B[k])),(59,vi ((bs.length:Int)-1)),(60,vi k)],[(12,.tok 2 ((EB keep cm B k).map Ab).length),(15,.rom Yv (cm.map No)),(44,.arr 1 (B.map GY))],Af⟩ (Yi ⟨⟨⟨rfl,hid _⟩,Zr,Zr,Zr,Zr,Zr,Zr,Tv⟩,Z3,Fh,Tv⟩ (Yi (by grind [Au]) (Xi ⟨k+1,by omega⟩ ?_))))));have e1:AV.slice (.id 12 2) ((EB keep cm B k).map Ab)=.slice (.id 12 2) ((EB keep cm B (k+1)).map Ab):=by grind
     have e2:vi (I3 cm (B.take k)+FM cm B[k])=vi (I3 cm (B.take (k+1))):=by grind
     have e3:HO.tok 2 ((EB keep cm B k).map Ab).length=.tok 2 ((EB keep cm B (k+1)).map Ab).length:=by grind
     exact⟨by grind,⟨⟨rfl,hid _⟩,Zr,Zr,⟨e1,rfl⟩,⟨e2,rfl⟩,Zr,Zr,Tv⟩,⟨⟨e3,rfl⟩,Zr,Zr,Tv⟩,Fh,Tv⟩
   .intro hk;have hk:¬(k:Int)<(bs.length:Int)-1:=hk;have Vt:k=B.length-1:=by omega
    have AcG:canon (EB keep cm B k)=R:=by
     grind [Tu,mP]
    have hc:=Za (EB keep cm B k) Wk;rw[AcG]at hc;refine C1 (C2 hc ?_);exact .refl _
  .intro kv Ql hp;refine Ao (Ar.1 (r2 kv (hp.mem_iff.2 (Ag ..)))) (fun q hq=>?_);have hq2:=hq.2;subst hq2;refine Xi ⟨[(0,F),(5,.mref 15),(10,.msl 44 bs.length),(46,.ref 46 0)],[(15,.rom Yv (cm.map No)),(44,.arr 1 (bs.map GY)),(46,.iter (cm.map No) Ql (some (No q)))],Af⟩ (Yi ⟨⟨⟨rfl,hid _⟩,Zr,Zr,Zr,Tv⟩,Z3,Fh,Tv⟩ ?_)
   have CY:Bh 1 [GY q.1]/\(bs.map GY).length=bs.length/\((bs.map GY).length+[GY q.1].length)*8<=140737488355328/\(bs.map GY).length+[GY q.1].length<=9223372036854775807:=
    ⟨⟨rfl,trivial⟩,by simp_all,by grind,by grind⟩
   refine Yi CY ?_;have e1:AV.msl 44 ((bs.map GY).length+[GY q.1].length)=.msl 44 (bs++[q.1]).length:=by simp
   have e2:HO.arr 1 (bs.map GY++[GY q.1])=.arr 1 ((bs++[q.1]).map GY):=by simp
   refine Xi ⟨(Ql,bs++[q.1],some (No q)),?_,fun kv iF=>r2 kv (hp.mem_iff.2 (Aj _ iF))⟩ ?_
   .grind [List.Perm.append_left,List.Perm.trans,List.Perm.symm]
   .exact⟨by show Ql.length<rem.length;rw[hp.length_eq];simp,⟨⟨rfl,hid _⟩,Zr,⟨e1,rfl⟩,Zr,Tv⟩,⟨Zr,⟨e2,rfl⟩,Zr,Tv⟩,Fh,Tv⟩
theorem Abg:PC 390 [vi n,.cptr [sl CR l]] (vb (decide (n=l.length))):=by
 refine Ps CX func390 rfl (Nz rfl) ?_;have e:((l.map CR).length:Int)=l.length:=by simp_all
 refine Yi ?_ ?_
 .intro h;rw[show decide (n=(l.length:Int))=true from Av (h.trans e)];exact .refl _
 .intro h;rw[show decide (n=(l.length:Int))=false from Aq (fun c=>h (c.trans e.symm))];exact .refl _
theorem Abi:PC 342 [vi n] (vb (decide (n=0))):=by
 refine Ps CX func342 rfl (Nz rfl) (Yi ?_ ?_)
 .intro h;rw[Av h];exact .refl _
 .intro h;rw[Aq h];exact .refl _
theorem AbQ:PC 378 [vi n] (vb (decide (0<n))):=by
 refine Ps CX func378 rfl (Nz rfl) (Yi ?_ ?_)
 .intro h;rw[Av h];exact .refl _
 .intro h;rw[Aq h];exact .refl _
theorem mN:decide (lh l p=l.length)=l.all fun s=>has s p:=by
 grind [lh,List.countP_eq_length]
theorem mO:decide (0<lh l p)=l.any fun s=>has s p:=by
 grind [lh,List.countP_pos_iff]
theorem Ab0(hl:BO l)(hs:∀s∈l,BO s):PC 376 [sl CR l] (sl Ab (MG l)):=by
 have hc:=tD (.clo 390 [.cptr [sl CR l]]) (fun n=>decide (n=l.length)) l hl hs (fun _=>rfl) (fun h n h0 _=>by
  have:=Abg n l
  have e:decide (n=(l.length:Int))=decide (n.toNat=l.length):=by grind
  rw[e]at this;exact this) (MG l) (Yb l) fun p=>by rw[T7,mN]
 refine Ps (nI [1]) func376 rfl (Nz rfl) (C1 (C2 (hc) ?_));exact .refl _
theorem tu(s:AL)(hs:BO s):PC 295 [sl Ab s] (sl Ab (BV s)):=by
 have hc:=tD (.v (Hf 342)) (fun n=>decide (n=0)) [s] (by simp_all) (fun t ht=>by simp_all) (fun _=>rfl) (fun h n h0 _=>by
  have:=Abi n
  have e:decide (n=0)=decide (n.toNat=0):=by grind
  rw[e]at this;exact this) (BV s) (GL s) fun p=>by
   grind [Fu,lh]
 refine Ps CX func295 rfl (Nz rfl) (C1 (C2 (hc) ?_));exact .refl _
theorem AbM(hl:BO l)(hs:∀s∈l,BO s):PC 352 [sl CR l] (sl Ab (JZ l)):=by
 have hc:=tD (.v (Hf 378)) (fun n=>decide (0<n)) l hl hs (fun _=>rfl) (fun h n h0 _=>by
  have:=AbQ n
  have e:decide (0<n)=decide (0<n.toNat):=by simp_all
  rw[e]at this;exact this) (JZ l) (LQ l) fun p=>by
   grind [T8,mO,On,PM]
 refine Ps CX func352 rfl (Nz rfl) (C1 (C2 (hc) ?_));exact .refl _
-- terms
theorem c59(ht:BO t.set):PC 348 [.agg (Ac t)] (vb (!t.absent&&(canon t.set).isEmpty)):=by
 refine Ps CX func348 rfl (Nz rfl) (Yi ?_ ?_)
 .intro h;rw[h];exact .refl _
 .intro h;refine C1 (C2 (Za t.set ht) (Yi ?_ ?_))
  .intro h2;have h2:canon t.set=[]:=Ay (by simp_all);rw[h,h2];exact .refl _
  .intro h2;have h2:(canon t.set).isEmpty=false:=by
    simp_all
   rw[h,h2];exact .refl _
theorem c60(ht:BO t.set):PC 349 [.agg (Ac t)] (vb (t.absent&&(BV t.set).isEmpty)):=by
 refine Ps CX func349 rfl (Nz rfl) (Yi ?_ ?_)
 .intro h;refine C1 (C2 (tu t.set ht) (Yi ?_ ?_))
  .intro h2;have h2:BV t.set=[]:=Ay (by simp_all);rw[h,h2];exact .refl _
  .intro h2;have h2:(BV t.set).isEmpty=false:=by
    simp_all
   rw[h,h2];exact .refl _
 .intro h;rw[h];exact .refl _
abbrev DB(l:List Nat):M5:=⟨[],[],[],[],[],[],[],[],[],[],l⟩
theorem c58(hu:BO u.set)(ht:BO t.set):PC 347 [.agg (Ac u),.agg (Ac t)] (.agg (Ac (EH u t))):=by
 have hc:PC 376 [sl CR [u.set,t.set]] (sl Ab (Gw u.set t.set)):=Ab0 [u.set,t.set] (by simp_all) (fun s hs=>by
  grind)
 refine Ps (DB []) func347 rfl (Nz rfl) (Yi ?_ ?_)
 .intro h;refine Yi ?_ ?_
  .intro h2;have e:[vs u.path,vb true,sl Ab (Gw u.set t.set)]=Ac (EH u t):=by grind [EH]
   refine C2 (hc) (Yi (Nz rfl) (Yi aa2 (yN ?_)));exact .of_eq (Aa AV.agg e)
  .intro h2;have e:[vs u.path,vb false,sl Ab (Gw u.set t.set)]=Ac (EH u t):=by grind [EH]
   refine C2 (hc) (Yi (Nz rfl) (Yi aa2 (yN ?_)));exact .of_eq (Aa AV.agg e)
 .intro h;have e:[vs u.path,vb false,sl Ab (Gw u.set t.set)]=Ac (EH u t):=by grind [EH]
  refine C2 (hc) (Yi (Nz rfl) (Yi aa2 (yN ?_)));exact .of_eq (Aa AV.agg e)
theorem AbE(hu:BO u.set)(ht:BO t.set):PC 298 [.agg (Ac u),.agg (Ac t)] (.agg (Ac (CJ u t))):=by
 have hc:PC 352 [sl CR [u.set,t.set]] (sl Ab (EY u.set t.set)):=AbM [u.set,t.set] (by simp_all) (fun s hs=>by
  grind)
 refine Ps (DB []) func298 rfl (Nz rfl) (Yi ?_ ?_)
 .intro h;have e:[vs u.path,vb true,sl Ab (EY u.set t.set)]=Ac (CJ u t):=by grind [CJ]
  refine C2 (hc) (Yi (Nz rfl) (Yi aa2 (yN ?_)));exact .of_eq (Aa AV.agg e)
 .intro h;refine Yi ?_ ?_
  .intro h2;have e:[vs u.path,vb true,sl Ab (EY u.set t.set)]=Ac (CJ u t):=by grind [CJ]
   refine C2 (hc) (Yi (Nz rfl) (Yi aa2 (yN ?_)));exact .of_eq (Aa AV.agg e)
  .intro h2;have e:[vs u.path,vb false,sl Ab (EY u.set t.set)]=Ac (CJ u t):=by grind [CJ]
   refine C2 (hc) (Yi (Nz rfl) (Yi aa2 (yN ?_)));exact .of_eq (Aa AV.agg e)
theorem xn(q:Rq)(hq:BO q.set):PC 293 [.agg (Ad q)] (.agg (Ac (Dw q))):=by
 refine Ps CX func293 rfl (Nz rfl) (C2 (tu q.set hq) (Yi (Nz rfl) (Yi aa2 (yN ?_))));exact .refl _
abbrev Cc:ES:=⟨false,[.str]⟩
abbrev Uv:Value×AV:=(.string t.path,.agg (Ac t))
abbrev zu(fin cut:List Nat):M5:=⟨[],[],[],[],fin,[],[],[],[],[],cut⟩
theorem fD{p:CS}{a:AV}:(Value.string p,a)∈m.map Uv↔∃t∈m,t.path=p/\a=.agg (Ac t):=by
 grind
theorem mW(m:List Tm)(t:Tm):E7 (m.map Uv) (.string t.path) (.agg (Ac t))=(Yn m t).map Uv:=by
 unfold Yn
 by_cases h:(m.any fun u=>decide (u.path=t.path))=true
 .rw[A3 h];obtain⟨u,h1,h2⟩:=BC.1 h;have h2:=CA h2
  have:(Value.string t.path,AV.agg (Ac u))∈m.map Uv:=fD.2 ⟨u,h1,h2,rfl⟩
  rw[QY this,BX,BX]
  grind [List.map_congr_left]
 grind [KQ]
theorem lE(hn:(EZ m).Nodup)(p:CS){K:AV->Prop}{Z:Prop}(hy:∀u,Dp m p=some u->K (.agg (Ac u)))(PK:Dp m p=none->Z) :
  (∀a,(Value.string p,a)∈m.map Uv->K a)/\((∀a,(Value.string p,a)∉m.map Uv)->Z):=
 ⟨fun a h=>by
  grind [RQ],fun h=>PK (by
  cases e:Dp m p with
  |none=>rfl
  |some u=>exact absurd (fD.2 ⟨u,GZ e,Ll e,rfl⟩) (h _))⟩
theorem IB{t:Tm}(h:Eo t.set):BO t.set:=by
 grind [E6]
theorem c57(l:List Tm)(hl:BO l)(hs:∀t∈l,BO t.set):PC 346 [sl Ac l,.v (Hf 347)] (.cmap Cc ((Dv l).map Uv)):=by
 refine Ps (zu [10] []) func346 rfl (Nz rfl) (Xi {i:Nat // i<=l.length} (Xi (fun i=>⟨[(0,sl Ac l),(1,.v (Hf 347)),(5,.mref 10),(11,sl Ac l),(12,vi (l.map Ac).length),(13,vi i.1)],[(10,.map Cc ((Dv (l.take i.1)).map Uv))],Af⟩) (Xi (fun i=>l.length-i.1) (Yi (Xi ⟨0,Al _⟩ ?_) ?_))))
 .exact⟨Z6,Z1,Fh,Tv⟩
 intro⟨i,h1⟩;have hn:=Ia (l.take i);refine Yi ?_ ?_
 .intro h;have h:i<l.length:=by simp_all
  have hg:l[i]?=some l[i]:=Ge h;refine Xi (Ac l[i]) (Yi (Yi Wk (by simp_all)) (Yi rfl ?_));refine Yi (Nz rfl) (yN ?_);have F3:=hs l[i] (Ah h);have tail:∀u:Tm,BO u.set->EH u l[i]=Sz (Dp (Dv (l.take i)) l[i].path) l[i]->E7 ((Dv (l.take i)).map Uv) (.string l[i].path) (.agg (Ac (EH u l[i])))=(Dv (l.take (i+1))).map Uv:=fun u hu e=>by
   have hp:(Sz (Dp (Dv (l.take i)) l[i].path) l[i]).path=l[i].path:=Rf _ _ fun u h=>Ll h;have e2:=mW (Dv (l.take i)) (EH u l[i]);have e3:(EH u l[i]).path=l[i].path:=by simp_all
   rw[e3]at e2;rw[e2,RZ l i h,e];rfl
  refine lE hn l[i].path (fun u hu=>?_) (fun hu=>?_)
  .have NN:BO u.set:=IB (PT _ u (GZ hu));refine yN ?_;have AK:=tail u NN (by grind [fX]);refine Yi (Nz rfl) (yN (C2 (c58 u l[i] NN F3) (Yi aa2 (Yi (by show Au ((i:Int)+1);grind [Au]) (Xi ⟨i+1,by omega⟩ ?_)))));have e1:HO.map Cc (E7 ((Dv (l.take i)).map Uv) (.string l[i].path) (.agg (Ac (EH u l[i]))))=.map Cc ((Dv (l.take (i+1))).map Uv):=by simp_all
   exact⟨by grind,Z6,⟨⟨e1,rfl⟩,Tv⟩,Fh,Tv⟩
  .refine yN (Yi (Nz rfl) (yN ?_));have AK:=tail l[i] F3 (by grind [fX]);refine Yi (Nz rfl) (yN (C2 (c58 l[i] l[i] F3 F3) (Yi aa2 (Yi (by grind [Au]) (Xi ⟨i+1,by omega⟩ ?_)))));have e1:HO.map Cc (E7 ((Dv (l.take i)).map Uv) (.string l[i].path) (.agg (Ac (EH l[i] l[i]))))=.map Cc ((Dv (l.take (i+1))).map Uv):=by simp_all
   exact⟨by grind,Z6,⟨⟨e1,rfl⟩,Tv⟩,Fh,Tv⟩
 .intro h;have h:¬i<l.length:=by simp_all
  have e:(Dv (l.take i)).map Uv=(Dv l).map Uv:=by grind
  exact .of_eq (Aa (AV.cmap Cc) e)
end Go.Eng
