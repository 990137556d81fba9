/- Lemmas 32. -/
import Derived.Test.YteaiieomnhbmgaaGreatDoorAA31
set_option maxHeartbeats 4000000
namespace Go.Eng
open Go.Proofs
variable {l m:List Sl}{Bp:List (List ByteArray)}{i:Nat}{caps:List AV}{fF:Nat}(x:List Rl)(ifs:List (List AV))(r:Ro)(P:List (List ByteArray))(sx:List Rl)(s user:ByteArray)(Bn:Int)
theorem wi(n:Nat)(h0:0<n)(h1:n<=1000000000):Ba Tryz.prog 94 [nzA,.v (.int .i64 (n:Int))] Ae fun r h'=>r=.slice (.id 2000 1) []/\h'=Ap [(2000,.tok 1 0)] Ae:=by
 obtain⟨i0,sJ⟩:∃i0,Tryz.prog.info? 9=some i0:=Option.isSome_iff_exists.1 Wk;have uN:i0.size=1:=by
  have q:(Tryz.prog.info? 9).map (·.size)=some 1:=by kernel_rfl
  rw[sJ]at q;exact CO q
 have hb:i0.bytes=16:=by
  have q:(Tryz.prog.info? 9).map (·.bytes)=some 16:=by kernel_rfl
  rw[sJ]at q;exact CO q
 obtain⟨z,hz⟩:∃z,i0.zero=some z/\z.cells.size=1:=by
  have q:((Tryz.prog.info? 9).bind (·.zero)).map (·.cells.size)=some 1:=by kernel_rfl
  rw[sJ]at q;cases e:i0.zero with
  |none=>simp[e]at q
  |some z=>simp[e]at q;exact⟨z,rfl,q⟩
 refine cI (au 94 Tryz.func94 Wk rfl) fun w=>?_;refine(Any8.slices_Grow_grow Tryz.layGrow i0 z sJ hz.1 (by rw[uN];decide) none 0 0 n [] w (Ak _) ch (by rw[hb];omega) ch B0 (fun _=>rfl) (fun a e=>by cases e)).mono ?_
 rintro e w' ⟨rfl,rfl⟩
 obtain⟨G,hG⟩:∃G,G=Go.grownCap w (0+n) 0 9:=⟨_,rfl⟩;have hGn:0+n<=G:=hG▸Go.grownCap_ge w _ _ _;have e9:(Tryz.layGrow_ren.t 25)=9:=rfl;rw[e9,<-hG];refine⟨G,_,_,rfl,?_,rfl⟩;have zc:∀(c:Array Value) (k:Nat),(Builtin.zeroCells c k).size=c.size*k:=fun c k=>by
  unfold Builtin.zeroCells;simp[Nat.mul_comm]
 rw[Array.size_append,Array.size_append,zc,zc,hz.2];simp only[DV,Ao];omega
theorem r6:PC 94 [nzA,.v (.int .i64 0)] nzA:=
 Kt [.slice none 0 0,.int .i64 0] (.slice none 0 0) (au 94 Tryz.func94 Wk rfl) rfl (fun g w=>.v _ _) fun w _=>Any8.slices_Grow_room Tryz.layGrow none 0 0 0 w ch ch ch ch
theorem we(hP:P.length<=1000)(RF:∀p∈P,p.length<=1000)(TK:∀i,(P.take i).flatten.length<=1000000000)(hz:0<P.flatten.length):PC 55 [sl CJ P] (sl AB P.flatten):=by
 refine Ps El Tryz.func55 rfl (Nz rfl) (Xi {q:Nat // q<=P.length} (Xi (fun q=>⟨[(0,sl CJ P),(3,vi ((P.take q.1).flatten).length),(9,sl CJ P),(10,vi (P.map CJ).length),(11,vi q.1)],[],Ae⟩) (Xi (fun q=>P.length-q.1) (Yi (Xi ⟨0,Ax _⟩ ?_) ?_))))
 .exact⟨Z5,Tv,Fh,Tv⟩
 intro⟨i,i1⟩;have hfi:=TK i;refine Yi (fun h1=>?_) (fun h1=>?_)
 .have h1:(i:Int)<((P.map CJ).length:Int):=h1;have n1:=FO h1;have ZD:=RF _ (Aq n1);have SL:((P[i]).map AB).length<=1000:=by rw[Lm];exact ZD
  refine Xi (CJ P[i]) (Yi (JL n1) (Yi rfl (Yi (by show AX ((((P.take i).flatten).length:Int)+((P[i].map AB).length:Int));unfold AX;omega) ?_)));refine Yi (fun h2=>?_) (fun h2=>?_)
  .exact absurd h2 ch
  refine Yi (Ii i ch) (Xi ⟨i+1,n1⟩ ?_);exact⟨Dl P.length i ch,⟨Zr,⟨(Aa vi (show((P.take i).flatten).length+(P[i].map AB).length=((((P.take (i+1)).flatten).length:Nat):Int) by rw[H7 n1,Ac,Lm];omega)),rfl⟩,Zr,Zr,Zr,Tv⟩,Tv,Fh,Tv⟩
 have n1:=DP h1;refine Xi (.gen [] 1) (Yi rfl (Ba.to2 (show Ba Tryz.prog 94 [nzA,.v (.int .i64 (((P.take i).flatten).length:Nat))] Ae _ by rw[(show P.take i=P from At (Bm (DP h1)))];exact wi P.flatten.length hz (by have q:=TK P.length;rw[B7]at q;omega)) ?_));refine Xi {q:Nat // q<=P.length} (Xi (fun q=>⟨[(6,.slice (.id 12400 1) (((P.take q.1).flatten).map AB)),(25,sl CJ P),(26,vi (P.map CJ).length),(27,vi q.1)],[(12400,.tok 1 (((P.take q.1).flatten).map AB).length)],Ae⟩) (Xi (fun q=>P.length-q.1) (Yi (Xi ⟨0,Ax _⟩ ?_) ?_)))
 .exact⟨Z4,Z1,Fh,Tv⟩
 intro⟨k,k1⟩;have hfk:=TK k;refine Yi (fun h5=>?_) (fun h5=>?_)
 .have h5:(k:Int)<((P.map CJ).length:Int):=h5;have n5:=FO h5;have ZD:=RF _ (Aq n5);have SL:((P[k]).map AB).length<=1000:=by rw[Lm];exact ZD
  refine Xi (CJ P[k]) (Yi (JL n5) (Yi rfl ?_));have b6:B5 1 (P[k].map AB)/\(((P.take k).flatten).map AB).length=(((P.take k).flatten).map AB).length/\((((P.take k).flatten).map AB).length+(P[k].map AB).length)*16<=140737488355328/\(((P.take k).flatten).map AB).length+(P[k].map AB).length<=9223372036854775807:=⟨(Ea (enc:=AB) (n:=1) (fun _=>rfl) P[k]),rfl,(by simp only[Lm];omega),(by simp only[Lm];omega)⟩;refine Yi b6 (Yi (Ii k ch) ?_);have ew:(((P.take k).flatten).map AB++(P[k]).map AB)=((P.take (k+1)).flatten).map AB:=by rw[H7 n5,As]
  refine Xi ⟨k+1,n5⟩ ?_;exact⟨Dl P.length k ch,⟨⟨(Aa (AV.slice (.id 12400 1)) ew),rfl⟩,Zr,Zr,Zr,Tv⟩,⟨⟨(show HO.tok 1 ((((P.take k).flatten).map AB).length+(P[k].map AB).length)=.tok 1 (((P.take (k+1)).flatten).map AB).length from Aa (HO.tok 1) (Ac.symm.trans (Aa List.length ew))),rfl⟩,Tv⟩,Fh,Tv⟩
 have h5:¬((k:Int)<((P.map CJ).length:Int)):=h5;have n5:=DP h5;exact CV.of_eq (show sl AB ((P.take k).flatten)=sl AB P.flatten by rw[At (l:=P) (i:=k) (Bm (DP h5))])
theorem wg(hP:P.length<=1000)(RF:∀p∈P,p.length<=1000)(TK:∀i,(P.take i).flatten.length<=1000000000)(hz:P.flatten.length=0):PC 55 [sl CJ P] (sl AB P.flatten):=by
 refine Ps (pT [] [(6,1)] []) Tryz.func55 rfl (Nz rfl) (Xi {q:Nat // q<=P.length} (Xi (fun q=>⟨[(0,sl CJ P),(3,vi ((P.take q.1).flatten).length),(9,sl CJ P),(10,vi (P.map CJ).length),(11,vi q.1)],[],Ae⟩) (Xi (fun q=>P.length-q.1) (Yi (Xi ⟨0,Ax _⟩ ?_) ?_))))
 .exact⟨Z5,Tv,Fh,Tv⟩
 intro⟨i,i1⟩;have hfi:=TK i;refine Yi (fun h1=>?_) (fun h1=>?_)
 .have h1:(i:Int)<((P.map CJ).length:Int):=h1;have n1:=FO h1;have ZD:=RF _ (Aq n1);have SL:((P[i]).map AB).length<=1000:=by rw[Lm];exact ZD
  refine Xi (CJ P[i]) (Yi (JL n1) (Yi rfl (Yi (by show AX ((((P.take i).flatten).length:Int)+((P[i].map AB).length:Int));unfold AX;omega) ?_)));refine Yi (fun h2=>?_) (fun h2=>?_)
  .exact absurd h2 ch
  refine Yi (Ii i ch) (Xi ⟨i+1,n1⟩ ?_);exact⟨Dl P.length i ch,⟨Zr,⟨(Aa vi (show((P.take i).flatten).length+(P[i].map AB).length=((((P.take (i+1)).flatten).length:Nat):Int) by rw[H7 n1,Ac,Lm];omega)),rfl⟩,Zr,Zr,Zr,Tv⟩,Tv,Fh,Tv⟩
 have n1:=DP h1;refine Xi .pure (Xi _ (Yi (show PC 94 [nzA,vi (((P.take i).flatten).length:Nat)] nzA by rw[(show P.take i=P from At (Bm (DP h1))),hz];exact r6) ?_));refine Xi {q:Nat // q<=P.length} (Xi (fun q=>⟨[(6,.slice (.id 6 1) (((P.take q.1).flatten).map AB)),(25,sl CJ P),(26,vi (P.map CJ).length),(27,vi q.1)],[(6,.tok 1 (((P.take q.1).flatten).map AB).length)],Ae⟩) (Xi (fun q=>P.length-q.1) (Yi (Xi ⟨0,Ax _⟩ ?_) ?_)))
 .exact⟨Z4,Z1,Fh,Tv⟩
 intro⟨k,k1⟩;have hfk:=TK k;refine Yi (fun h4=>?_) (fun h4=>?_)
 .have h4:(k:Int)<((P.map CJ).length:Int):=h4;have n4:=FO h4;have ZD:=RF _ (Aq n4);have SL:((P[k]).map AB).length<=1000:=by rw[Lm];exact ZD
  refine Xi (CJ P[k]) (Yi (JL n4) (Yi rfl ?_));have b5:B5 1 (P[k].map AB)/\(((P.take k).flatten).map AB).length=(((P.take k).flatten).map AB).length/\((((P.take k).flatten).map AB).length+(P[k].map AB).length)*16<=140737488355328/\(((P.take k).flatten).map AB).length+(P[k].map AB).length<=9223372036854775807:=⟨(Ea (enc:=AB) (n:=1) (fun _=>rfl) P[k]),rfl,(by simp only[Lm];omega),(by simp only[Lm];omega)⟩;refine Yi b5 (Yi (Ii k ch) ?_);have ew:(((P.take k).flatten).map AB++(P[k]).map AB)=((P.take (k+1)).flatten).map AB:=by rw[H7 n4,As]
  refine Xi ⟨k+1,n4⟩ ?_;exact⟨Dl P.length k ch,⟨⟨(Aa (AV.slice (.id 6 1)) ew),rfl⟩,Zr,Zr,Zr,Tv⟩,⟨⟨(show HO.tok 1 ((((P.take k).flatten).map AB).length+(P[k].map AB).length)=.tok 1 (((P.take (k+1)).flatten).map AB).length from Aa (HO.tok 1) (Ac.symm.trans (Aa List.length ew))),rfl⟩,Tv⟩,Fh,Tv⟩
 have h4:¬((k:Int)<((P.map CJ).length:Int)):=h4;have n4:=DP h4;exact CV.of_eq (show sl AB ((P.take k).flatten)=sl AB P.flatten by rw[At (l:=P) (i:=k) (Bm (DP h4))])
theorem Qj(pA:Bp.length<=1000)(RF:∀p∈Bp,p.length<=1000)(i:Nat):(Bp.take i).flatten.length<=1000000:=by
 have q:=TG RF Bp.length;have q2:(Bp.take i).flatten.length<=Bp.flatten.length:=by
  conv=>rhs;rw[<-GF i Bp,Ch,Ac]
  omega
 rw[B7]at q;have q3:=A9 1000 pA;omega
theorem td(hP:P.length<=1000)(RF:∀p∈P,p.length<=1000):PC 55 [sl CJ P] (sl AB P.flatten):=
 (Nat.eq_zero_or_pos P.flatten.length).elim (wg P hP RF (fun i=>AI (Qj hP RF i) Cl)) (we P hP RF (fun i=>AI (Qj hP RF i) Cl))
def G4:List ByteArray:=((r.waves.take (WQ r user Bn)).map (fun v:Wv=>v.paths)).flatten
def sq(l m:List Sl)(r:Ro)(user:ByteArray)(Bn:Int):List Sl:=if Po x l m r=0 then if PO x l m (G4 r user Bn)=0 then Ec (Tp l m (G4 r user Bn))else []else []
def wI(l m:List Sl)(r:Ro)(user:ByteArray)(Bn:Int):Int:=if Po x l m r=0 then PO x l m (G4 r user Bn)else Po x l m r
def ir(l m:List Sl)(r:Ro)(user:ByteArray)(Bn:Int):AV:=.tup [sl Am (sq x l m r user Bn),vi (wI x l m r user Bn)]
theorem zo(e:Int):CV (.tup [nzA,vi e]) (.tup [sl Am [],vi e]):=CV.tup (show Lb [nzA,vi e] [sl Am [],vi e]from⟨CV.nil,CV.refl _,trivial⟩)
theorem Adt{f:Nat}{args:List AV}{e:Int}(hc:PC f args (.tup [nzA,vi e])):PC f args (.tup [sl Am [],vi e]):=Ba.mono hc fun _ _ ⟨e1,e2⟩=>⟨_,e1▸zo e,rfl,e2⟩
theorem g8(r:Ro)(user:ByteArray)(Bn:Int):∀(l:List Wv) (i:Nat),Rg r user Bn i l<=i+l.length
 | [],i=>Ak _
 |v::l,i=>by
  rw[Rg];split
  .omega
  .have q:=g8 r user Bn l (i+1);rw[Ag];omega
theorem pg:WQ r user Bn<=r.waves.length:=by have q:=g8 r user Bn r.waves 0;rw[WQ];omega
theorem Aa7(l m:List Sl)(r:Ro)(user:ByteArray)(Bn:Int)(hx:∀r∈x,EG r)(Jn:l.length<=16)(F9:m.length<=16)(hr:Uc r)(hn:r.name.size<=10000000)(hu:user.size<=100000000)(c0:¬Po x l m r=0):PC 21 [.agg (Ic x ifs),sl Am l,sl Am m,.agg (Ji r),vs user,vi Bn] (ir x l m r user Bn):=by
 refine Ps (pC [6,9] []) Tryz.func21 rfl (Nz rfl) (yN (yN (Xi .pure (Xi _ (Yi (by have q:=pd x ifs l m r user Bn hx Jn F9 hr hn hu;rw[pI,Aj c0]at q;exact q) ?_)))));refine Yi (fun h1=>?_) (fun h1=>?_)
 .exact CV.trans (show CV _ (.tup [sl Am [],vi (Po x l m r)])from zo (Po x l m r)) (CV.of_eq (show AV.tup [sl Am [],vi (Po x l m r)]=ir x l m r user Bn by rw[ir,sq,wI,Aj c0,Aj c0]))
 have h1:((Po x l m r):Int)=(0:Int):=AJ h1;exact absurd h1 c0
theorem Aa8(l m:List Sl)(r:Ro)(user:ByteArray)(Bn:Int)(hx:∀r∈x,EG r)(Jn:l.length<=16)(F9:m.length<=16)(hr:Uc r)(hn:r.name.size<=10000000)(hu:user.size<=100000000)(c0:Po x l m r=0)(c1:PO x l m (G4 r user Bn)=0):PC 21 [.agg (Ic x ifs),sl Am l,sl Am m,.agg (Ji r),vs user,vi Bn] (ir x l m r user Bn):=by
 have hP:((r.waves.take (WQ r user Bn)).map (fun v:Wv=>v.paths)).length<=1000:=by have q:=hr.wv;rw[Lm,Au];omega
 have RF:∀p∈(r.waves.take (WQ r user Bn)).map (fun v:Wv=>v.paths),p.length<=1000:=fun p hp=>by obtain⟨v,hv,rfl⟩:=Ai.1 hp;exact hr.pt v (CU hv)
 have dE:Cb (G4 r user Bn):=by have q:=Qj hP RF ((r.waves.take (WQ r user Bn)).map (fun v:Wv=>v.paths)).length;rw[B7]at q;exact AI q Cl
 refine Ps (pC [6,9] []) Tryz.func21 rfl (Nz rfl) (yN (yN (Xi .pure (Xi _ (Yi (by have q:=pd x ifs l m r user Bn hx Jn F9 hr hn hu;rw[pI,Al c0]at q;exact q) ?_)))));refine Yi (fun h=>absurd h Cl) (fun _=>?_);refine yN (yN (Xi _ (Yi (Zy r (WQ r user Bn) (pg r user Bn) (AI hr.wv Cl)) (Xi _ (Yi (td ((r.waves.take (WQ r user Bn)).map (fun v:Wv=>v.paths)) hP RF) (Xi _ (Yi (by have q:=tb x ifs l m (G4 r user Bn) hx Jn F9 dE;rw[Ur,Al c1]at q;exact q) ?_)))))));refine Yi Wk ?_;exact CV.of_eq (show AV.tup [sl Am (Ec (Tp l m (G4 r user Bn))),vi 0]=ir x l m r user Bn by rw[ir,sq,wI,Al c0,Al c0,Al c1,c1])
theorem Aa9(l m:List Sl)(r:Ro)(user:ByteArray)(Bn:Int)(hx:∀r∈x,EG r)(Jn:l.length<=16)(F9:m.length<=16)(hr:Uc r)(hn:r.name.size<=10000000)(hu:user.size<=100000000)(c0:Po x l m r=0)(c1:¬PO x l m (G4 r user Bn)=0):PC 21 [.agg (Ic x ifs),sl Am l,sl Am m,.agg (Ji r),vs user,vi Bn] (ir x l m r user Bn):=by
 have hP:((r.waves.take (WQ r user Bn)).map (fun v:Wv=>v.paths)).length<=1000:=by have q:=hr.wv;rw[Lm,Au];omega
 have RF:∀p∈(r.waves.take (WQ r user Bn)).map (fun v:Wv=>v.paths),p.length<=1000:=fun p hp=>by obtain⟨v,hv,rfl⟩:=Ai.1 hp;exact hr.pt v (CU hv)
 have dE:Cb (G4 r user Bn):=by have q:=Qj hP RF ((r.waves.take (WQ r user Bn)).map (fun v:Wv=>v.paths)).length;rw[B7]at q;exact AI q Cl
 refine Ps (pC [6,9] []) Tryz.func21 rfl (Nz rfl) (yN (yN (Xi .pure (Xi _ (Yi (by have q:=pd x ifs l m r user Bn hx Jn F9 hr hn hu;rw[pI,Al c0]at q;exact q) ?_)))));refine Yi (fun h=>absurd h Cl) (fun _=>?_);refine yN (yN (Xi _ (Yi (Zy r (WQ r user Bn) (pg r user Bn) (AI hr.wv Cl)) (Xi _ (Yi (td ((r.waves.take (WQ r user Bn)).map (fun v:Wv=>v.paths)) hP RF) (Xi _ (Yi (by have q:=tb x ifs l m (G4 r user Bn) hx Jn F9 dE;rw[Ur,Aj c1]at q;exact Adt q) ?_)))))));refine Yi Wk ?_;exact CV.of_eq (show AV.tup [sl Am [],vi (PO x l m (G4 r user Bn))]=ir x l m r user Bn by rw[ir,sq,wI,Al c0,Al c0,Aj c1])
theorem Aa6(l m:List Sl)(r:Ro)(user:ByteArray)(Bn:Int)(hx:∀r∈x,EG r)(Jn:l.length<=16)(F9:m.length<=16)(hr:Uc r)(hn:r.name.size<=10000000)(hu:user.size<=100000000):PC 21 [MU x ifs,sl Am l,sl Am m,.agg (Ji r),vs user,vi Bn] (ir x l m r user Bn):=by
 by_cases c0:Po x l m r=0
 .by_cases c1:PO x l m (G4 r user Bn)=0
  .exact Aa8 x ifs l m r user Bn hx Jn F9 hr hn hu c0 c1
  .exact Aa9 x ifs l m r user Bn hx Jn F9 hr hn hu c0 c1
 .exact Aa7 x ifs l m r user Bn hx Jn F9 hr hn hu c0
theorem gq{x:List Rl}{s:List Sl}(h:OD x s=0){y:Sl}(hy:y∈s):∃r∈x,Gu r=y:=by
 have q:=h;unfold OD at q;rw[Al (Vx h),Al (Mr h)]at q;split at q
 .rename_i h3;have q:=Bd.1 h3 y hy;cases e:Dj x y with
  |none=>rw[e]at q;cases q
  |some r=>exact⟨r,(J5 e).2.1,(J5 e).2.2⟩
 .exact absurd q Cl
theorem qX(hl:l.Pairwise Vl)(hm:m.Pairwise Vl){p:ByteArray}:p∈JM l m↔Jr l p≠Jr m p:=by
 obtain⟨_,h2,h3⟩:=Vr l m hl hm;unfold JM;rw[h3,Ai];constructor
 .rintro⟨v,hv,rfl⟩
  obtain⟨q,_,e⟩:=List.mem_filterMap.1 hv;unfold JB at e;split at e
  .rename_i DH;cases e;exact DH
  .cases e
 .intro DH;have hp:p∈mp l m:=(h2 p).2 (by
   rcases Classical.em (p∈l.map (·.path))with q | q
   .exact .inl q
   .refine .inr (AJ fun q2=>DH ?_);rw[TV (fun s hs e=>q (Ai.2 ⟨s,hs,e⟩)),TV (fun s hs e=>q2 (Ai.2 ⟨s,hs,e⟩))])
  exact⟨⟨p,Jr l p,Jr m p⟩,List.mem_filterMap.2 ⟨p,hp,by unfold JB;rw[Al DH]⟩,rfl⟩
theorem vw(h:l.Pairwise Vl){s:Sl}(hs:s∈l):Jr l s.path=place s.ver:=by
 unfold Jr;rw[Ki (RJ ocP h) hs]
theorem ov{x:List Rl}(hl:OD x l=0)(hm:OD x m=0){s t:Sl}(hs:s∈l)(ht:t∈m)(h1:s.path=t.path)(h2:place s.ver=place t.ver):s=t:=by
 obtain⟨a,ha,rfl⟩:=gq hl hs;obtain⟨b,hb,rfl⟩:=gq hm ht;rw[Zn (CA (Vx hl)) ha hb h1 h2]
theorem fT{x:List Rl}(hl:OD x l=0)(hm:OD x m=0)(fl:Cb l){s:Sl}(hs:s∈l)(e:Jr l s.path=Jr m s.path):s∈m:=by
 rw[vw (JZ (Mr hl)) hs]at e;cases f:B1 m s.path with
 |none=>
  have q:Jr m s.path=-1:=by unfold Jr;rw[f]
  have v:=Jt ((GY hl fl).val s hs);unfold place at e;omega
 |some t=>
  have ht:t∈m:=BG f;have hp:t.path=s.path:=by
   have q:=DT (show m.find? (fun x=>decide (x.path=s.path))=some t from f);exact AU q
  have q:Jr m s.path=place t.ver:=by unfold Jr;rw[f]
  rw[ov hl hm hs ht hp.symm (e.trans q)];exact ht
theorem tU{x:List Rl}{mv:List ByteArray}(hl:OD x l=0)(hm:OD x m=0)(fl:Cb l)(fm:Cb m)(h:∀p∈JM l m,p∈mv):Ec (Tp l m mv)=m:=by
 have il:=JZ (Mr hl);have im:=JZ (Mr hm);have out:∀p,Hs mv p=false->Jr l p=Jr m p:=fun p hp=>AJ fun c=>by
  have:=Vo.2 (h p ((qX il im).2 c));rw[hp]at this;cases this
 refine Lq (LZ (Uq il im mv)) im fun y=>?_;rw[GH,Tp,AO,Bz,Bz];constructor
 .rintro(⟨h1,h2⟩ | ⟨h1,_⟩)
  .have h2:Hs mv y.path=false:=by simpa using h2
   exact fT hl hm fl h1 (out _ h2)
  .exact h1
 .intro hy;cases e:Hs mv y.path with
  |true=>exact .inr ⟨hy,rfl⟩
  |false=>exact .inl ⟨fT hm hl fm hy (out _ e).symm,rfl⟩
theorem p7(il:l.Pairwise Vl)(im:m.Pairwise Vl):Ec (Tp l m [])=l:=
 Lq (LZ (Uq il im [])) il fun y=>by rw[GH,Tp];simp[Hs]
theorem cW{x:List Rl}(h:HD x l m Bp=0):Sj x l m=0/\(∀p,p∈Bp.flatten↔p∈JM l m)/\eY x l m Bp=true:=by
 unfold HD at h;split at h
 .rename_i h1;split at h
  .split at h
   .rename_i h3;split at h
    .rename_i h4;exact⟨h1,fun p=>by rw[<-h3];exact(Kc Bp.flatten).1.mem_iff.symm,h4⟩
    .exact absurd h Cl
   .exact absurd h Cl
  .exact absurd h Cl
 .rename_i h1;exact absurd h h1
theorem bZ:∀{l:List Wv},KA l=0->∀v∈l,BI v.stages=0
 | [],_,_,h=>by cases h
 |w::l,h,v,hv=>by
  unfold KA at h;split at h
  .rename_i h1;rcases AA.1 hv with rfl | hv
   .exact h1
   .exact bZ h v hv
  .rename_i h1;exact absurd h h1
theorem oh{x:List Rl}{r:Ro}(h:Po x l m r=0):HD x l m (ZI r)=0/\∀v∈r.waves,BI v.stages=0:=by
 unfold Po at h;split at h
 .rename_i h1;split at h
  .exact absurd h Cl
  .exact⟨h1,bZ h⟩
 .rename_i h1;exact absurd h h1
theorem Vq:G4 r user Bn=((ZI r).take (WQ r user Bn)).flatten:=by rw[G4,ZI,Tl]
theorem fo{x:List Rl}{r:Ro}(h:Po x l m r=0):PO x l m (G4 r user Bn)=0/\wI x l m r user Bn=0/\sq x l m r user Bn=Ec (Tp l m (G4 r user Bn)):=by
 obtain⟨h1,h2,_⟩:=cW (oh h).1;have e:PO x l m (G4 r user Bn)=0:=by
  unfold PO;rw[Al h1,Aj];intro c;obtain⟨p,hp,k⟩:=Be.1 c
  have:Hs (JM l m) p=true:=Vo.2 ((h2 p).1 (by
   rw[Vq]at hp;obtain⟨q,hq,hp⟩:=D8.1 hp;exact D8.2 ⟨q,CU hq,hp⟩))
  rw[this]at k;cases k
 refine⟨e,?_,?_⟩
 .unfold wI;rw[Al h,e]
 .unfold sq;rw[Al h,Al e]
theorem Yd{r:Ro}{user:ByteArray}{Bn:Int}:∀{l:List Wv} (i:Nat),(∀v∈l,100<=I3 v.stages Bn)->Rg r user Bn i l=i+l.length
 | [],i,_=>rfl
 |v::l,i,h=>by
  have q:=(fw ((r.name++⟨#[47]⟩)++mX (i:Int)) user).2;have h1:=h v (Ab ..);rw[Rg,Aj (by unfold VC;intro c;have c:=AU c;omega),Yd (i+1) fun w hw=>h w (Ah _ hw),Ag];omega
theorem Aam{r:Ro}{user:ByteArray}{Bn:Int}(h:∀v∈r.waves,100<=I3 v.stages Bn):WQ r user Bn=r.waves.length:=by rw[WQ,Yd 0 h,Bg]
theorem sd{r:Ro}{user:ByteArray}{Bn:Int}(h:∀v∈r.waves,I3 v.stages Bn<=0):WQ r user Bn=0:=by
 unfold WQ;cases e:r.waves with
 |nil=>rfl
 |cons v l=>
  have q:=(fw ((r.name++⟨#[47]⟩)++mX ((0:Nat):Int)) user).1;have h1:=h v (by rw[e];exact Ab ..);rw[Rg,Al (by unfold VC;exact Ay ch)]
theorem pU{x:List Rl}{r:Ro}{user:ByteArray}{Bn:Int}(h:Po x l m r=0)(hz:∀v∈r.waves,I3 v.stages Bn<=0):sq x l m r user Bn=l:=by
 obtain⟨h1,_,_⟩:=cW (oh h).1;rw[(fo user Bn h).2.2,Vq,sd hz,List.take_zero,List.flatten_nil,p7 (JZ (Mr (OK h1).1)) (JZ (Mr (OK h1).2))]
theorem tQ{x:List Rl}{r:Ro}{user:ByteArray}{Bn:Int}(h:Po x l m r=0)(fl:Cb l)(fm:Cb m)(hz:∀v∈r.waves,100<=I3 v.stages Bn):sq x l m r user Bn=m:=by
 obtain⟨h1,h2,_⟩:=cW (oh h).1;rw[(fo user Bn h).2.2,Vq,Aam hz,At (by rw[ZI,Lm];exact Ak _)];exact tU (OK h1).1 (OK h1).2 fl fm fun p hp=>(h2 p).2 hp
structure Ad where
 id:ByteArray
 path:ByteArray
 set:List (Int×Int)
 syms:List ByteArray
 note:ByteArray
variable (a:Ad)
abbrev Dc:List AV:=[vs a.id,vs a.path,sl AE a.set,sl AB a.syms,vs a.note]
structure M0(a:Ad):Prop where
 id:Gp a.id
 path:Gp a.path
 set:Cb a.set
 syms:Cb a.syms
 sym:∀s∈a.syms,Gp s
 note:Gp a.note
def Ty:Bool:=decide (1<=s.size)&&decide (s.size<=32)
def Yw:List ByteArray->Bool
 |a::b::r=>Ek a b&&Yw (b::r)
 |_=>true
def OA:Bool:=(CE a.path).isSome&&Ty a.id&&a.syms.all Ty
def tL:Bool:=!a.set.isEmpty&&decide (a.set=canon a.set)&&!a.syms.isEmpty&&decide (a.syms.length<=1024)&&decide (a.note.size<=65536)
def Rp:Int:=if OA a=true then if tL a=true then if Yw a.syms=true then 0 else 1 else 1 else 4
theorem pS(l:List ByteArray):Yw (l.drop (l.length-1))=true:=by
 cases h:l.drop (l.length-1)with
 |nil=>rfl
 |cons a r=>
  have q:=Aa List.length h;rw[CK,Ag]at q;have e:r=[]:=FV.1 ch;subst e;rfl
theorem Uk{l:List ByteArray}(h:i+1<l.length):Yw (l.drop i)=(Ek l[i] l[i+1]&&Yw (l.drop (i+1))):=by
 rw[AH (show i<l.length by omega),AH h];rfl
theorem TX(hs:Gp s):PC 230 [vs s] (vb (Ty s)):=by
 refine Ps El Tryz.func230 rfl (Nz rfl) (Yi (fun h1=>?_) (fun h1=>?_))
 .refine Yi (fun h2=>?_) (fun h2=>?_)
  .exact CV.of_eq (Aa vb (show true=Ty s by rw[Ty];first | rfl | (rw[Ay (show 1<=s.size by omega)];first | rw[Ay (show s.size<=32 by omega)];rfl | rw[AD (show ¬s.size<=32 by omega)];rfl) | (rw[AD (show ¬1<=s.size by omega)];rfl)))
  exact CV.of_eq (Aa vb (show false=Ty s by rw[Ty];first | rfl | (rw[Ay (show 1<=s.size by omega)];first | rw[Ay (show s.size<=32 by omega)];rfl | rw[AD (show ¬s.size<=32 by omega)];rfl) | (rw[AD (show ¬1<=s.size by omega)];rfl)))
 exact CV.of_eq (Aa vb (show false=Ty s by rw[Ty];first | rfl | (rw[Ay (show 1<=s.size by omega)];first | rw[Ay (show s.size<=32 by omega)];rfl | rw[AD (show ¬s.size<=32 by omega)];rfl) | (rw[AD (show ¬1<=s.size by omega)];rfl)))
theorem Aad(hs:Gp s):PC 231 [vs s] (vb (!Ty s)):=by
 refine Ps El Tryz.func231 rfl (Nz rfl) (Cf (Bt (Ty s)) (fun h1=>?_) (fun h1=>?_))
 .refine Xi .pure (Xi _ (Yi (cb h1 (TX s hs)) ?_));exact CV.of_eq (Aa vb (show false=!Ty s by first | rfl | simp only[h1,Bool.not_true]))
 refine Xi .pure (Xi _ (Yi (cb h1 (TX s hs)) ?_));exact CV.of_eq (Aa vb (show true=!Ty s by first | rfl | simp only[h1,Bool.not_false]))
theorem CV.fn(f:Nat):CV (.v (.func (.func f) #[] #[])) (.clo f []):=fun _ _ _ _ h=>by cases h;exact .clo _ f [] #[] rfl (fun i av x h=>by cases h)
theorem De.nil:De []:=fun _ hc=>absurd hc List.not_mem_nil
theorem oR(l:List ByteArray)(hl:Cb l)(hs:∀s∈l,Gp s):PC 74 [sl AB l,.v (.func (.func 231) #[] #[])] (vb (l.any fun s=>!Ty s)):=
 (z74 (fF:=231) De.nil l (fun s=>!Ty s) (fun s h=>Aad s (hs s h)) hl).args ⟨.refl _,.fn _,trivial⟩
theorem xi{l:List ByteArray}:(l.any fun s=>!Ty s)=!l.all Ty:=List.not_all_eq_any_not.symm
theorem Uf{a:Ad}{m:Int}(c0:CE a.path=some m)(h1:Ty a.id=true)(h2:(a.syms.any fun s=>!Ty s)=false):OA a=true:=by
 rw[xi]at h2;rw[OA,c0,h1];show a.syms.all Ty=true;simpa using h2
theorem tB{a:Ad}(h:(a.syms.any fun s=>!Ty s)=true):OA a=false:=by
 rw[xi]at h;rw[OA,show a.syms.all Ty=false by simpa using h,Dw]
theorem lj{l:List ByteArray}(hi:i<l.length)(h1:1<=i)(h:∀j (hj:j+1<l.length),j+1<i->Ek l[j] l[j+1]=true)(k:Ek (l[i-1]' ch) l[i]=true):∀j (hj:j+1<l.length),j+1<i+1->Ek l[j] l[j+1]=true:=fun j hj q=>by
 rcases D1 (j+1) i with e | e
 .exact h j hj e
 .obtain rfl:i=j+1:=by omega
  exact k
theorem Yo{a:Ad}(h:OA a=false):Rp a=4:=by rw[Rp,h];rfl
theorem Ue{a:Ad}(h:OA a=true)(k:a.set.length=0\/a.set≠canon a.set\/a.syms.length=0\/1024<a.syms.length\/65536<a.note.size):Rp a=1:=by
 rw[Rp,Al h,Aj];intro e;simp only[tL,Af,AC,CH,List.isEmpty_eq_false_iff]at e;obtain⟨⟨⟨⟨e1,e2⟩,e3⟩,e4⟩,e5⟩:=e;have f1:=Hu.2 e1;have f3:=Hu.2 e3;rcases k with k | k | k | k | k
 .omega
 .exact k e2
 .omega
 .omega
 .omega
theorem kX{a:Ad}(h:OA a=true)(k1:¬a.set.length=0)(k2:a.set=canon a.set)(k3:¬a.syms.length=0)(k4:a.syms.length<=1024)(k5:a.note.size<=65536):Rp a=if Yw a.syms=true then 0 else 1:=by
 rw[Rp,Al h,Al];simp only[tL,Af,AC,CH,List.isEmpty_eq_false_iff];exact⟨⟨⟨⟨fun e=>k1 (by rw[e];rfl),k2⟩,fun e=>k3 (by rw[e];rfl)⟩,k4⟩,k5⟩
theorem fh{l:List ByteArray}:∀{i:Nat},Yw (l.drop i)=false->Yw l=false
 |0,h=>h
 |i+1,h=>by
  refine fh (i:=i) ?_
  by_cases hi:i+1<l.length
  .rw[Uk hi,h,Dw]
  .rw[Ce ch]at h;cases h
theorem fg{l:List ByteArray}(h:∀j (hj:j+1<l.length),Ek l[j] l[j+1]=true):∀k i,i+k=l.length->Yw (l.drop i)=true
 |0,i,e=>by rw[Ce ch];rfl
 |1,i,e=>by rw[show i=l.length-1 by omega];exact pS l
 |k+2,i,e=>by rw[Uk ch,h i ch,fg h (k+1) (i+1) ch];rfl
theorem Aa3(ha:M0 a)(c0:CE a.path=none):PC 165 [.agg (Dc a)] (vi (Rp a)):=by
 refine Ps (pC [1] []) Tryz.func165 rfl (Nz rfl) (Xi .pure (Xi _ (Yi (Ww.none ha.path c0) (Yi (fun _=>?_) (fun h=>absurd Cl h)))));exact CV.of_eq (Aa vi (show 4=Rp a from(Yo (by rw[OA,c0];rfl)).symm))
theorem Aa4(ha:M0 a)(m:Int)(c0:CE a.path=some m):PC 165 [.agg (Dc a)] (vi (Rp a)):=by
 have uN:a.syms.length<=1073741824:=ha.syms;have uO:a.set.length<=1073741824:=ha.set;have hs3:a.note.size<=1073741824:=ha.note;refine Ps (pC [1] []) Tryz.func165 rfl (Nz rfl) (Xi .pure (Xi _ (Yi (Ww.some ha.path c0) (Yi (fun h=>absurd h Cl) (fun _=>?_)))));refine Cf (Bt (Ty a.id)) (fun h1=>?_) (fun h1=>?_)
 .refine Xi .pure (Xi _ (Yi (cb h1 (TX a.id ha.id)) (Cf (Bt (a.syms.any fun s=>!Ty s)) (fun h2=>?_) (fun h2=>?_))))
  .refine Xi .pure (Xi _ (Yi (cb h2 (oR a.syms ha.syms ha.sym)) ?_));exact CV.of_eq (Aa vi (show 4=Rp a from(Yo (tB h2)).symm))
  refine Xi .pure (Xi _ (Yi (cb h2 (oR a.syms ha.syms ha.sym)) (Yi (fun h4=>?_) (fun h4=>?_))))
  .refine Yi Wk ?_;exact CV.of_eq (Aa vi (show 1=Rp a from(Ue (Uf c0 h1 h2) (.inl (by have q:=h4;rw[Lm]at q;omega))).symm))
  refine Xi _ (Yi (YB a.set ha.set) (Cf (Bt (decide (a.set=canon a.set))) (fun h6=>?_) (fun h6=>?_)))
  .refine Xi _ (Yi (cb h6 (qa a.set (canon a.set) ha.set)) (Yi (fun h7=>?_) (fun h7=>?_)))
   .refine Yi Wk ?_;exact CV.of_eq (Aa vi (show 1=Rp a from(Ue (Uf c0 h1 h2) (.inr (.inr (.inl (by have q:=h7;rw[Lm]at q;omega))))).symm))
   refine Yi (fun h9=>?_) (fun h9=>?_)
   .have n9:1024<a.syms.length:=by have q:=h9;rw[Lm]at q;omega
    refine Yi Wk ?_;exact CV.of_eq (Aa vi (show 1=Rp a from(Ue (Uf c0 h1 h2) (.inr (.inr (.inr (.inl ch))))).symm))
   have n9:¬1024<a.syms.length:=by have q:=h9;rw[Lm]at q;omega
   refine Yi (fun KV=>?_) (fun KV=>?_)
   .refine Yi Wk ?_;exact CV.of_eq (Aa vi (show 1=Rp a from(Ue (Uf c0 h1 h2) (.inr (.inr (.inr (.inr ch))))).symm))
   refine Yi Wk (Xi {q:Nat // 1<=q/\∀j (hj:j+1<a.syms.length),j+1<q->Ek a.syms[j] a.syms[j+1]=true} (Xi (fun q=>⟨[(1,.ref 1 0),(6,vi q.1)],[(1,.ro (Dc a))],Ae⟩) (Xi (fun q=>a.syms.length-q.1) (Yi (Xi ⟨1,Ak _,fun j hj h=>absurd h ch⟩ ?_) ?_))))
   .exact⟨Z2,Z1,Fh,Tv⟩
   intro⟨i,i1,i2⟩;have i2:∀j (hj:j+1<a.syms.length),j+1<i->Ek a.syms[j] a.syms[j+1]=true:=i2;refine Yi (fun SI=>?_) (fun SI=>?_)
   .have SI:(i:Int)<((a.syms.map AB).length:Int):=SI;have n13:=FO SI;refine Yi (by show AX ((i:Int)-(1:Int));unfold AX;omega) (Xi (AB (a.syms[i-1]' ch)) (Yi (Yi (show(0:Int)<=(i:Int)-1 by omega) (by rw[show((i:Int)-1).toNat=i-1 by omega];exact Eo (Ge ch))) (Yi rfl ?_)));refine Xi (AB (a.syms[i]' ch)) (Yi (JL n13) (Yi rfl (Yi (fun US=>?_) (fun US=>?_))))
    .have US:Ek (a.syms[i-1]' ch) (a.syms[i]' ch)=false:=(Gr _ _).trans US;refine Yi Wk ?_;exact CV.of_eq (Aa vi (show 1=Rp a from((kX (Uf c0 h1 h2) (by have q:=h4;rw[Lm]at q;omega) (AU h6) (by have q:=h7;rw[Lm]at q;omega) ch ch).trans (Aj (by rw[fh (i:=i-1) (by rw[Uk ch];simp only[show i-1+1=i by omega,US];rfl)];decide))).symm))
    have US:Ek (a.syms[i-1]' ch) (a.syms[i]' ch)=true:=(Gr _ _).trans (by simpa using US);refine Yi Wk (Yi (Ii i ch) ?_);have hi:i<a.syms.length:=n13;refine Xi ⟨i+1,by omega,lj hi i1 i2 US⟩ ?_;exact⟨Dl a.syms.length i ch,Z2,Z1,Fh,Tv⟩
   have SI:¬((i:Int)<((a.syms.map AB).length:Int)):=SI;have n13:=DP SI;exact CV.of_eq (Aa vi (show 0=Rp a from((kX (Uf c0 h1 h2) (by have q:=h4;rw[Lm]at q;omega) (AU h6) (by have q:=h7;rw[Lm]at q;omega) ch ch).trans (Al (fg (fun j hj=>i2 j hj (by have q:=DP SI;omega)) _ 0 (Bg _)))).symm))
  have h6:(decide (a.set=canon a.set))=false:=h6;refine Xi _ (Yi (cb h6 (qa a.set (canon a.set) ha.set)) (Yi Wk ?_));exact CV.of_eq (Aa vi (show 1=Rp a from(Ue (Uf c0 h1 h2) (.inr (.inl (QK h6)))).symm))
 have h1:(Ty a.id)=false:=h1;refine Xi .pure (Xi _ (Yi (cb h1 (TX a.id ha.id)) ?_));exact CV.of_eq (Aa vi (show 4=Rp a from(Yo (by rw[OA,h1,Dw];rfl)).symm))
theorem Aey(ha:M0 a):PC 165 [.agg (Dc a)] (vi (Rp a)):=by
 cases c0:CE a.path with
 |none=>exact Aa3 a ha c0
 |some m=>exact Aa4 a ha m c0
theorem va_{s:Sl}(h:((if Cw s.ver then 0 else 2:Int))=0):Cw s.ver=true:=by
 cases e:Cw s.ver with
 |true=>rfl
 |false=>rw[e]at h;exact absurd h Cl
theorem Adv{s:Sl}(h:¬((if Cw s.ver then 0 else 2:Int))=0):Cw s.ver=false:=by
 cases e:Cw s.ver with
 |false=>rfl
 |true=>rw[e]at h;exact absurd rfl h
def Mf(s:Sl):Bool:=Cw s.ver&&decide (s.path=a.path)&&has a.set (place s.ver)
theorem Zx(s:Sl)(ha:Cb a.set):PC 81 [.agg (Dc a),.agg (Am s)] (vb (Mf a s)):=by
 refine Ps (pC [2,3] []) Tryz.func81 rfl (Nz rfl) (yN (Xi .pure (Xi _ (Yi (wK s.ver) (Yi (fun h1=>?_) (fun h1=>?_))))))
 .refine Yi (fun h2=>?_) (fun h2=>?_)
  .refine Cf (Bt (has a.set (if Cw s.ver then place s.ver else 0))) (fun h3=>?_) (fun h3=>?_)
   .refine Xi .pure (Xi _ (Yi (cb h3 (lz a.set (if Cw s.ver then place s.ver else 0) ha)) ?_));exact CV.of_eq (Aa vb (show true=Mf a s by have v:=va_ h1;have q:=h3;rw[Al v]at q;rw[Mf,v,q,Ay h2];rfl))
   refine Xi .pure (Xi _ (Yi (cb h3 (lz a.set (if Cw s.ver then place s.ver else 0) ha)) ?_));exact CV.of_eq (Aa vb (show false=Mf a s by have v:=va_ h1;have q:=h3;rw[Al v]at q;rw[Mf,v,q,Ay h2];rfl))
  exact CV.of_eq (Aa vb (show false=Mf a s by rw[Mf,AD h2,Dw];rfl))
 exact CV.of_eq (Aa vb (show false=Mf a s by rw[Mf,Adv h1];rfl))
theorem wl(r:Rl):PC 106 [.agg (AF r)] (.agg [vs r.path,vi r.ver.a,vi r.ver.b,vi r.ver.c]):=by
 refine Ps (pC [1] []) Tryz.func106 rfl (Nz rfl) (yN (yN (yN ?_)));exact .refl _
theorem gX(r:Rl)(ha:Cb a.set):PC 105 [.agg (Dc a),.cptr (AF r)] (vb (Mf a (⟨r.path,r.ver⟩:Sl))):=by
 refine Ps (pC [2] []) Tryz.func105 rfl (Nz rfl) (yN (yN (Xi _ (Yi (wl r) (Cf (Bt (Mf a (⟨r.path,r.ver⟩:Sl))) (fun h1=>?_) (fun h1=>?_))))))
 .refine Xi _ (Yi (cb h1 (Zx a (⟨r.path,r.ver⟩:Sl) ha)) (Yi Wk ?_));exact CV.of_eq (Aa vb (show true=Mf a (⟨r.path,r.ver⟩:Sl)from h1.symm))
 refine Xi _ (Yi (cb h1 (Zx a (⟨r.path,r.ver⟩:Sl) ha)) (Yi Wk ?_));exact CV.of_eq (Aa vb (show false=Mf a (⟨r.path,r.ver⟩:Sl)from h1.symm))
theorem AeD(hs:De caps)(l:List (Ad))(p:Ad->Bool)(hF:∀x∈l,PC fF ([.agg (Dc x)]++caps) (vb (p x)))(hl:l.length<9223372036854775807) :
  PC 166 [sl Dc l,.clo fF caps] (vi (JK p l 0)):=by
 refine Ps El Tryz.func166 rfl (Nz rfl) (Xi {i:Nat // i<=l.length/\∀j (hj:j<l.length),j<i->p l[j]=false} (Xi (fun i=>⟨[(0,sl Dc l),(1,.clo fF caps),(7,vi (l.map Dc).length),(8,vi i.1)],[],Ae⟩) (Xi (fun i=>l.length-i.1) (Yi (Xi ⟨0,by simp⟩ ?_) ?_))))
 .exact⟨⟨Zr,⟨rfl,hs.ids _⟩,Zr,Zr,Tv⟩,Tv,Fh,Tv⟩
 .intro⟨i,h1,h2⟩;refine Yi ?_ ?_
  .intro h;have h:i<l.length:=by simpa using h
   have hg:l[i]?=some l[i]:=Ge h;refine Xi (Dc l[i]) (Yi (Yi (Nn i) (by simp[hg])) (Yi rfl (yN ?_)));have Cg:∀h,PC fF ([.agg (Dc l[i])]++caps.map (str0 h)) (vb (p l[i])):=fun h=>by rw[hs.map];exact hF l[i] (Aq _)
   cases hp:p l[i]with
   |true=>
    rw[hp]at Cg;refine Xi .pure (Xi (vb true) (Yi (Cg _) ?_));rw[HT h (fun j hj JX=>h2 j hj JX) hp,EI];exact .refl _
   |false=>
    rw[hp]at Cg;refine Xi .pure (Xi (vb false) (Yi (Cg _) (Yi (Ii i ch) (Xi ⟨i+1,by omega,fun j hj JX=>?_⟩ ?_))))
    .by_cases e:j=i
     .subst e;exact hp
     .exact h2 j hj ch
    .exact⟨Dl l.length i ch,⟨Zr,⟨rfl,hs.ids _⟩,Zr,Zr,Tv⟩,Tv,Fh,Tv⟩
  .intro h;have h:¬i<l.length:=by simpa using h
   rw[GA fun j hj=>h2 j hj ch];exact .refl _
theorem Aav(hs:De caps)(l:List (Ad))(p:Ad->Bool)(hF:∀x∈l,PC fF ([.agg (Dc x)]++caps) (vb (p x)))(hl:Cb l) :
  PC 104 [sl Dc l,.clo fF caps] (vb (l.any p)):=by
 refine Ps El Tryz.func104 rfl (Nz rfl) ?_;have hi:=AeD hs l p hF (by unfold Cb at hl;omega);have Cg:∀h,PC 166 [sl Dc l,.clo fF (caps.map (str0 h))] (vi (JK p l 0)):=fun h=>by rw[hs.map];exact hi
 refine Xi .pure (Xi _ (Yi (Cg _) ?_));have ha:=HN (p:=p) l 0 (Bu 0);refine Yi ?_ ?_
 .intro h;rw[<-ha,Ay h];exact .refl _
 .intro h;rw[<-ha,AD h];exact .refl _
def M2:List Ad->Int
 | []=>0
 |a::r=>if Rp a=0 then M2 r else Rp a
def Pn(l:List Ad):Int:=if A5 x=0 then M2 l else 1
theorem tD{l:List Ad}(h:i<l.length)(k:Rp l[i]=0):M2 (l.drop i)=M2 (l.drop (i+1)):=by rw[AH h,M2,Al k]
theorem tC{l:List Ad}(h:i<l.length)(k:¬Rp l[i]=0):M2 (l.drop i)=Rp l[i]:=by rw[AH h,M2,Aj k]
theorem gV(l:List Ad)(hx:∀r∈x,EG r)(hl:Cb l)(kM:∀a∈l,M0 a):PC 102 [.agg (Ic x ifs),sl Dc l] (vi (Pn x l)):=by
 have hl:l.length<=1073741824:=hl;refine Ps (pC [2] []) Tryz.func102 rfl (Nz rfl) (yN (Xi .pure (Xi _ (Yi (wL Ww x ifs hx) (Yi (fun h1=>?_) (fun h1=>?_))))))
 .have h1:((A5 x):Int)≠(0:Int):=h1;exact CV.of_eq (Aa vi (show 1=Pn x l by rw[Pn,Aj h1]))
 have h1:((A5 x):Int)=(0:Int):=AJ h1;refine Xi {q:Nat // q<=l.length/\M2 (l.drop q)=M2 l} (Xi (fun q=>⟨[(11,sl Dc l),(12,vi (l.map Dc).length),(13,vi q.1)],[],Ae⟩) (Xi (fun q=>l.length-q.1) (Yi (Xi ⟨0,Ax _,rfl⟩ ?_) ?_)))
 .exact⟨Z3,Tv,Fh,Tv⟩
 intro⟨i,i1,i2⟩;have i1:i<=l.length:=i1;have i2:M2 (l.drop i)=M2 l:=i2;refine Yi (fun h3=>?_) (fun h3=>?_)
 .have h3:(i:Int)<((l.map Dc).length:Int):=h3;have n3:=FO h3;refine Xi (Dc l[i]) (Yi (JL n3) (Yi rfl (yN (yN (yN (Xi .pure (Xi _ (Yi (Aey l[i] (kM _ (Aq n3))) (Yi (fun h4=>?_) (fun h4=>?_))))))))))
  .have h4:((Rp l[i]):Int)≠(0:Int):=h4;exact CV.of_eq (Aa vi (show(Rp l[i])=Pn x l by rw[Pn,Al h1,<-i2,tC n3 h4]))
  have h4:((Rp l[i]):Int)=(0:Int):=AJ h4;refine Yi (Ii i ch) (Xi ⟨i+1,n3,by rw[<-i2,tD n3 h4]⟩ ?_);exact⟨Dl l.length i ch,Z3,Tv,Fh,Tv⟩
 have h3:¬((i:Int)<((l.map Dc).length:Int)):=h3;have n3:=DP h3;exact CV.of_eq (Aa vi (show 0=Pn x l by rw[Pn,Al h1,<-i2,Ce (Bm (DP h3))];rfl))
abbrev cy(l:List Ad):Sl->Bool:=fun s=>l.any fun a=>Mf a s
def ta(l:List Ad):AV:=if Pn x l=0 then .tup [MU (yk true (cy l) x) ifs,vi 0]else .tup [.agg [nzA,nzA],vi (Pn x l)]
theorem zy{x:List Rl}{l:List Ad}(h:Pn x l=0):A5 x=0:=by
 unfold Pn at h;split at h
 .assumption
 .exact absurd h Cl
theorem wt{x:List Rl}(h:WR x)(hr:∀r∈x,r.reqs.length<=1000)(hc:A5 x=0):Ba Tryz.prog 43 [sl AF x] Ae fun r h'=>r=.tup [.msl 2000 x.length,vi 0]/\h'=Ap [(2000,.arr 9 (x.map AF))] Ae:=by
 have q:=AeA h hr (by rw[SQ hc];exact hc)
 rwa [SQ hc]at q
theorem r7(l:List Ad)(hx:WR x)(_hrq:∀r∈x,r.reqs.length<=1000)(hl:Cb l)(kM:∀a∈l,M0 a)(_hcl:PC 103 [.slice .none ifs] (.slice .none ifs))(c0:¬Pn x l=0):PC 62 [.agg (Ic x ifs),sl Dc l] (ta x ifs l):=by
 refine Ps (pC [2] []) Tryz.func62 rfl (Nz rfl) (yN (Xi .pure (Xi _ (Yi (gV x ifs l hx.few hl kM) (Yi (fun h1=>?_) (fun h1=>?_))))))
 .have h1:((Pn x l):Int)≠(0:Int):=h1;refine yN (yN ?_);exact CV.of_eq (show AV.tup [.agg [nzA,nzA],vi (Pn x l)]=ta x ifs l by rw[ta,Aj c0])
 have h1:((Pn x l):Int)=(0:Int):=AJ h1;exact absurd h1 c0
theorem r9(l:List Ad)(hx:WR x)(yY:∀r∈x,r.reqs.length<=1000)(hl:Cb l)(kM:∀a∈l,M0 a)(hcl:PC 103 [.slice .none ifs] (.slice .none ifs))(c0:Pn x l=0):PC 62 [.agg (Ic x ifs),sl Dc l] (ta x ifs l):=by
 have h72:=wt hx yY (zy c0);have za:x.length<=19:=hx.len;refine Ps ⟨[2,11],[],[],[],[],[],[],[],[],[(100012,9)],[12]⟩ Tryz.func62 rfl (Nz rfl) (yN (Xi .pure (Xi _ (Yi (gV x ifs l hx.few hl kM) (Yi (fun h1=>?_) (fun h1=>?_))))))
 .have h1:((Pn x l):Int)≠(0:Int):=h1;refine yN (yN ?_);exact absurd c0 h1
 have h1:((Pn x l):Int)=(0:Int):=AJ h1;refine Xi (.gen [] 1) (Yi rfl (Ba.to2 h72 ?_));refine Xi .pure (Xi _ (Yi hcl (yN (Xi {q:Nat // q<=x.length} (Xi (fun q=>⟨[(1,sl Dc l),(4,.ref 4 0),(9,.ref 9 0),(31,.msl 12200 x.length),(32,vi x.length),(33,vi q.1)],[(4,.cells [nzA,nzA]),(9,.cells [.msl 12200 x.length,.slice .none ifs]),(12200,.arr 9 ((yk true (cy l) (x.take q.1)++x.drop q.1).map AF))],Ae⟩) (Xi (fun q=>x.length-q.1) (Yi (Xi ⟨0,Ax _⟩ ?_) ?_)))))))
 .exact⟨Z6,Z3,Fh,Tv⟩
 intro⟨i,i1⟩;have i1:i<=x.length:=i1;refine Yi (fun h3=>?_) (fun h3=>?_)
 .have h3:(i:Int)<(x.length:Int):=h3;have n3:i<x.length:=by omega
  have g3:x[i]?=some x[i]:=Ge n3;have ni:i<x.length:=by omega
  refine Yi (by show(0:Int)<=i/\(i:Int)<(x.length:Nat);omega) (Yi (show x.length=((yk true (cy l) (x.take i)++x.drop i).map AF).length by rw[Lm,ZB]) (Xi (AF x[i]) (Yi (Eo (pk ni)) ?_)));refine yN (yN (Cf (Bt (cy l (cw x[i]))) (fun h4=>?_) (fun h4=>?_)))
  .have h4:(cy l (cw x[i]))=true:=h4;refine Xi .pure (Xi _ (Yi (cb h4 (Aav (fF:=105) (De.ptr _) l (fun a=>Mf a (cw x[i])) (fun a ha=>gX a x[i] (kM a ha).set) hl)) (Yi (by show(0:Int)<=i/\(i:Int)<(x.length:Nat);omega) (Yi (show x.length=((yk true (cy l) (x.take i)++x.drop i).map AF).length by rw[Lm,ZB]) (Xi (AF x[i]) (Yi (Eo (pk ni)) (yN ?_)))))));refine Yi (Ii i ch) (Xi ⟨i+1,ni⟩ ?_);exact⟨Dl x.length i ch,Z6,⟨Zr,Zr,⟨(show HO.arr 9 (((yk true (cy l) (x.take i)++x.drop i).map AF).set i [vs x[i].path,vi x[i].ver.a,vi x[i].ver.b,vi x[i].ver.c,sl Bb x[i].reqs,vs x[i].arch,vs x[i].ifc,vs x[i].cert,vb true])=.arr 9 ((yk true (cy l) (x.take (i+1))++x.drop (i+1)).map AF) by rw[<-g9 ni,Al h4,ON]),rfl⟩,Tv⟩,Fh,Tv⟩
  have h4:(cy l (cw x[i]))=false:=h4;refine Xi .pure (Xi _ (Yi (cb h4 (Aav (fF:=105) (De.ptr _) l (fun a=>Mf a (cw x[i])) (fun a ha=>gX a x[i] (kM a ha).set) hl)) (Yi (Ii i ch) (Xi ⟨i+1,ni⟩ ?_))));exact⟨Dl x.length i ch,Z6,⟨Zr,Zr,⟨(show HO.arr 9 ((yk true (cy l) (x.take i)++x.drop i).map AF)=.arr 9 ((yk true (cy l) (x.take (i+1))++x.drop (i+1)).map AF) by rw[<-g9 ni,Aj (by rw[h4];decide),bX (pk ni)]),rfl⟩,Tv⟩,Fh,Tv⟩
 have h3:¬((i:Int)<(x.length:Int)):=h3;have n3:¬i<x.length:=by omega
 refine Yi (show x.length=((yk true (cy l) (x.take i)++x.drop i).map AF).length by rw[Lm,ZB]) ?_;refine cU [(4,.ref 4 0),(9,.ref 9 0)] [(4,.cells [nzA,nzA]),(9,.cells [.slice (.id 12200 9) ((yk true (cy l) (x.take i)++x.drop i).map AF),.slice .none ifs]),(12200,.tok 9 ((yk true (cy l) (x.take i)++x.drop i).map AF).length)] Z2 Z3 (yN (yN (yN ?_)));exact CV.of_eq (show AV.tup [MU (yk true (cy l) (x.take i)++x.drop i) ifs,vi 0]=ta x ifs l by rw[ta,Al c0,At ch,Ce ch,BP])
theorem wm(l:List Ad)(hx:WR x)(yY:∀r∈x,r.reqs.length<=1000)(hl:Cb l)(kM:∀a∈l,M0 a)(hcl:PC 103 [.slice .none ifs] (.slice .none ifs)):PC 62 [MU x ifs,sl Dc l] (ta x ifs l):=by
 by_cases c0:Pn x l=0
 .exact r9 x ifs l hx yY hl kM hcl c0
 .exact r7 x ifs l hx yY hl kM hcl c0
theorem oX(s:Sl)(a:Ad)(ha:Cb a.set):PC 80 [.agg (Am s),.cptr (Dc a)] (vb (Mf a s)):=by
 refine Ps (pC [2] []) Tryz.func80 rfl (Nz rfl) (yN (yN (Cf (Bt (Mf a s)) (fun h1=>?_) (fun h1=>?_))))
 .have h1:(Mf a s)=true:=h1;refine Xi .pure (Xi _ (Yi (cb h1 (Zx a s ha)) ?_));exact CV.of_eq (Aa vb (show true=Mf a s from h1.symm))
 have h1:(Mf a s)=false:=h1;refine Xi .pure (Xi _ (Yi (cb h1 (Zx a s ha)) ?_));exact CV.of_eq (Aa vb (show false=Mf a s from h1.symm))
theorem cj(s:List Sl)(ha:Cb a.set)(hs:Cb s):PC 41 [.agg (Dc a),sl Am s] (vb (s.any (Mf a))):=by
 refine Ps (pC [2] []) Tryz.func41 rfl (Nz rfl) (Cf (Bt (s.any (Mf a))) (fun h1=>?_) (fun h1=>?_))
 .have h1:(s.any (Mf a))=true:=h1;refine Xi .pure (Xi _ (Yi (cb h1 (o25 (fF:=80) (De.ptr _) s (Mf a) (fun y _=>oX y a ha) hs)) ?_));exact CV.of_eq (Aa vb (show true=s.any (Mf a)from h1.symm))
 have h1:(s.any (Mf a))=false:=h1;refine Xi .pure (Xi _ (Yi (cb h1 (o25 (fF:=80) (De.ptr _) s (Mf a) (fun y _=>oX y a ha) hs)) ?_));exact CV.of_eq (Aa vb (show false=s.any (Mf a)from h1.symm))
theorem Aae(y:Sl)(a:Ad):PC 109 [.agg (Am y),.cptr (Dc a)] (vb (decide (y.path=a.path))):=by
 refine Ps (pC [2] []) Tryz.func109 rfl (Nz rfl) (Yi (fun h1=>?_) (fun h1=>?_))
 .have h1:(y.path:ByteArray)=a.path:=h1;exact CV.of_eq (Aa vb (show true=decide (y.path=a.path)from(Ay h1).symm))
 have h1:¬(y.path:ByteArray)=a.path:=h1;exact CV.of_eq (Aa vb (show false=decide (y.path=a.path)from(AD h1).symm))
structure Wd where
 client:Nat
 rel:Rl
abbrev Cy(w:Wd):List AV:=vi ((w.client:Nat):Int)::AF w.rel
abbrev DL(q:List Rq):List AV:=[sl Bb q]
def ZH:Sl->Bool:=fun y=>decide (y.path=a.path)
def Aaw:Rl:=⟨⟨#[]⟩,⟨0,0,0⟩,[],⟨#[]⟩,⟨#[]⟩,⟨#[]⟩,false⟩
def Ez(q:List Rq):Rl:=(((ES x q).find? (ZH a)).bind (Dj x)).getD Aaw
def NG(q:List Rq):Bool:=decide (KM x q=0)&&(ES x q).any (Mf a)&&!decide (KM sx q=0)
def Rz(x sx:List Rl)(a:Ad):List (List Rq)->Nat->List Wd
 | [],_=>[]
 |q::r,i=>if NG x sx a q=true then⟨i,Ez x a q⟩::Rz x sx a r (i+1)else Rz x sx a r (i+1)
def Lt(cl:List (List Rq)):List Wd:=Rz x sx a cl 0
theorem aB(x sx:List Rl)(a:Ad):∀(l m:List (List Rq)) (i:Nat),Rz x sx a (l++m) i=Rz x sx a l i++Rz x sx a m (i+l.length)
 | [],m,i=>rfl
 |q::l,m,i=>by
  rw[Hx,Rz,Rz,aB x sx a l m (i+1),Ag,show i+1+l.length=i+(l.length+1) by omega];split
  .rfl
  .rfl
theorem TF{x sx:List Rl}{a:Ad}{cl:List (List Rq)}(h:i<cl.length):Lt x sx a (cl.take (i+1))=Lt x sx a (cl.take i)++if NG x sx a cl[i]=true then [⟨i,Ez x a cl[i]⟩]else []:=by
 rw[BM h,Lt,aB,Au,KD ch,Bg]
 rfl
theorem UH(x sx:List Rl)(a:Ad):∀(l:List (List Rq)) (i:Nat),(Rz x sx a l i).length<=l.length
 | [],i=>Ak _
 |q::l,i=>by
  have q1:=UH x sx a l (i+1);rw[Rz];split
  .simp only[Ag];omega
  .simp only[Ag];omega
theorem cp{x:List Rl}{a:Ad}{q:List Rq}(h:KM x q=0)(hc:(ES x q).any (Mf a)=true):∃k,∃hk:k<(ES x q).length,JK (ZH a) (ES x q) 0=((k:Nat):Int)/\Dj x ⟨(ES x q)[k].path,(ES x q)[k].ver⟩=some (Ez x a q):=by
 obtain⟨y,hy,hb⟩:=Be.1 hc;have hp:ZH a y=true:=by
  simp only[Mf,Af]at hb;exact hb.1.2
 have hk:(ES x q).findIdx (ZH a)<(ES x q).length:=List.findIdx_lt_length_of_exists ⟨y,hy,hp⟩;have ZD:ZH a (ES x q)[(ES x q).findIdx (ZH a)]=true:=List.findIdx_getElem (w:=hk);have Ri:∀j (hj:j<(ES x q).length),j<(ES x q).findIdx (ZH a)->ZH a (ES x q)[j]=false:=fun j hj JX=>by
  have q:=List.not_of_lt_findIdx JX;simpa using q
 refine⟨_,hk,by rw[HT hk Ri ZD,EI],?_⟩;have hf:=lY hk Ri ZD;obtain⟨r,hr,he⟩:=(QZ h).1 _ (Aq hk);rw[Ez,hf];show Dj x _=some ((Dj x _).getD Aaw);have hs:(Dj x ((ES x q)[(ES x q).findIdx (ZH a)])).isSome=true:=by
  rw[Dj,Aj (by rw[(QZ h).2.2];decide),List.find?_isSome];exact⟨r,hr,Ay he⟩
 obtain⟨r',qE⟩:=Option.isSome_iff_exists.1 hs;show Dj x ((ES x q)[(ES x q).findIdx (ZH a)])=_;rw[qE];rfl
end Go.Eng
