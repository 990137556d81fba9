/- Lemmas 32. -/
import Derived.Test.YteaiieomnhbmgaaGreatDoorFA31
set_option maxHeartbeats 4000000
namespace Go.Eng
open Go.Proofs
variable {l m:List Sl}{Bn:List (List ByteArray)}{i:Nat}{α:Type}{p:α->Bool}{caps:List AV}{fF:Nat}(x:List Rl)(ifs:List (List AV))(r:Ro)(P:List (List ByteArray))(sx:List Rl)(s user:ByteArray)(BR:Int)
theorem wX(n:Nat)(h0:0<n)(h1:n<=1000000000):A9 Tryz.prog 94 [nzA,.v (.int .i64 (n:Int))] Ag fun r h'=>r=.slice (.id 2000 1) []/\h'=As [(2000,.tok 1 0)] Ag:=by
 obtain⟨i0,tf⟩:∃i0,Tryz.prog.info? 9=some i0:=Option.isSome_iff_exists.1 Wk;have vD:i0.size=1:=by
  have q:(Tryz.prog.info? 9).map (·.size)=some 1:=by kernel_rfl
  rw[tf]at q;exact Cj q
 have hb:i0.bytes=16:=by
  have q:(Tryz.prog.info? 9).map (·.bytes)=some 16:=by kernel_rfl
  rw[tf]at q;exact Cj q
 obtain⟨z,hz⟩:∃z,i0.zero=some z/\z.cells.size=1:=by
  have q:((Tryz.prog.info? 9).bind (·.zero)).map (·.cells.size)=some 1:=by kernel_rfl
  rw[tf]at q;cases e:i0.zero with
  |none=>simp[e]at q
  |some z=>simp[e]at q;exact⟨z,rfl,q⟩
 refine di (aN 94 Tryz.func94 Wk rfl) fun w=>?_;refine(Any8.slices_Grow_grow Tryz.layGrow i0 z tf hz.1 (by rw[vD];decide) none 0 0 n [] w (Am _) ch (by rw[hb];omega) ch B0 (fun _=>rfl) (fun a e=>by cases e)).mono ?_
 rintro e w' ⟨rfl,rfl⟩
 obtain⟨G,hG⟩:∃G,G=Go.grownCap w (0+n) 0 9:=⟨_,rfl⟩;have hGn:0+n<=G:=hG▸Go.grownCap_ge w _ _ _;have e9:(Tryz.layGrow_ren.t 25)=9:=rfl;rw[e9,<-hG];refine⟨G,_,_,rfl,?_,rfl⟩;have zc:∀(c:Array Value) (k:Nat),(Builtin.zeroCells c k).size=c.size*k:=fun c k=>by
  unfold Builtin.zeroCells;simp[Nat.mul_comm]
 rw[Array.size_append,Array.size_append,zc,zc,hz.2];simp only[Eb,Au];omega
theorem sI:PC 94 [nzA,.v (.int .i64 0)] nzA:=
 KK [.slice none 0 0,.int .i64 0] (.slice none 0 0) (aN 94 Tryz.func94 Wk rfl) rfl (fun g w=>.v _ _) fun w _=>Any8.slices_Grow_room Tryz.layGrow none 0 0 0 w ch ch ch ch
theorem wS(hP:P.length<=1000)(RM:∀p∈P,p.length<=1000)(TR:∀i,(P.take i).flatten.length<=1000000000)(hz:0<P.flatten.length):PC 55 [sl CN P] (sl AF P.flatten):=by
 refine Ps Ej Tryz.func55 rfl (Nz rfl) (Xi {q:Nat // q<=P.length} (Xi (fun q=>⟨[(0,sl CN P),(3,vi ((P.take q.1).flatten).length),(9,sl CN P),(10,vi (P.map CN).length),(11,vi q.1)],[],Ag⟩) (Xi (fun q=>P.length-q.1) (Yi (Xi ⟨0,AB _⟩ ?_) ?_))))
 .exact⟨Z5,Tv,Fh,Tv⟩
 intro⟨i,i1⟩;have hfi:=TR i;refine Yi (fun h1=>?_) (fun h1=>?_)
 .have h1:(i:Int)<((P.map CN).length:Int):=h1;have n1:=FJ h1;have WL:=RM _ (Ao n1);have SP:((P[i]).map AF).length<=1000:=by rw[Lm];exact WL
  refine Xi (CN P[i]) (Yi (Lv n1) (Yi rfl (Yi (by show Bc ((((P.take i).flatten).length:Int)+((P[i].map AF).length:Int));unfold Bc;omega) ?_)));refine Yi (fun h2=>?_) (fun h2=>?_)
  .exact absurd h2 ch
  refine Yi (Ii i ch) (Xi ⟨i+1,n1⟩ ?_);exact⟨Dl P.length i ch,⟨Zr,⟨(Aa vi (show((P.take i).flatten).length+(P[i].map AF).length=((((P.take (i+1)).flatten).length:Nat):Int) by rw[Ib n1,Ac,Lm];omega)),rfl⟩,Zr,Zr,Zr,Tv⟩,Tv,Fh,Tv⟩
 have n1:=DP h1;refine Xi (.gen [] 1) (Yi rfl (A9.to2 (show A9 Tryz.prog 94 [nzA,.v (.int .i64 (((P.take i).flatten).length:Nat))] Ag _ by rw[(show P.take i=P from Av (Bl (DP h1)))];exact wX P.flatten.length hz (by have q:=TR P.length;rw[Ce]at q;omega)) ?_));refine Xi {q:Nat // q<=P.length} (Xi (fun q=>⟨[(6,.slice (.id 12400 1) (((P.take q.1).flatten).map AF)),(25,sl CN P),(26,vi (P.map CN).length),(27,vi q.1)],[(12400,.tok 1 (((P.take q.1).flatten).map AF).length)],Ag⟩) (Xi (fun q=>P.length-q.1) (Yi (Xi ⟨0,AB _⟩ ?_) ?_)))
 .exact⟨Z4,Z1,Fh,Tv⟩
 intro⟨k,k1⟩;have hfk:=TR k;refine Yi (fun h5=>?_) (fun h5=>?_)
 .have h5:(k:Int)<((P.map CN).length:Int):=h5;have n5:=FJ h5;have WL:=RM _ (Ao n5);have SP:((P[k]).map AF).length<=1000:=by rw[Lm];exact WL
  refine Xi (CN P[k]) (Yi (Lv n5) (Yi rfl ?_));have b6:Cr 1 (P[k].map AF)/\(((P.take k).flatten).map AF).length=(((P.take k).flatten).map AF).length/\((((P.take k).flatten).map AF).length+(P[k].map AF).length)*16<=140737488355328/\(((P.take k).flatten).map AF).length+(P[k].map AF).length<=9223372036854775807:=⟨(D5 (enc:=AF) (n:=1) (fun _=>rfl) P[k]),rfl,(by simp only[Lm];omega),(by simp only[Lm];omega)⟩;refine Yi b6 (Yi (Ii k ch) ?_);have ew:(((P.take k).flatten).map AF++(P[k]).map AF)=((P.take (k+1)).flatten).map AF:=by rw[Ib n5,At]
  refine Xi ⟨k+1,n5⟩ ?_;exact⟨Dl P.length k ch,⟨⟨(Aa (AV.slice (.id 12400 1)) ew),rfl⟩,Zr,Zr,Zr,Tv⟩,⟨⟨(show HO.tok 1 ((((P.take k).flatten).map AF).length+(P[k].map AF).length)=.tok 1 (((P.take (k+1)).flatten).map AF).length from Aa (HO.tok 1) (Ac.symm.trans (Aa List.length ew))),rfl⟩,Tv⟩,Fh,Tv⟩
 have h5:¬((k:Int)<((P.map CN).length:Int)):=h5;have n5:=DP h5;exact CX.of_eq (show sl AF ((P.take k).flatten)=sl AF P.flatten by rw[Av (l:=P) (i:=k) (Bl (DP h5))])
theorem wT(hP:P.length<=1000)(RM:∀p∈P,p.length<=1000)(TR:∀i,(P.take i).flatten.length<=1000000000)(hz:P.flatten.length=0):PC 55 [sl CN P] (sl AF P.flatten):=by
 refine Ps (pT [] [(6,1)] []) Tryz.func55 rfl (Nz rfl) (Xi {q:Nat // q<=P.length} (Xi (fun q=>⟨[(0,sl CN P),(3,vi ((P.take q.1).flatten).length),(9,sl CN P),(10,vi (P.map CN).length),(11,vi q.1)],[],Ag⟩) (Xi (fun q=>P.length-q.1) (Yi (Xi ⟨0,AB _⟩ ?_) ?_))))
 .exact⟨Z5,Tv,Fh,Tv⟩
 intro⟨i,i1⟩;have hfi:=TR i;refine Yi (fun h1=>?_) (fun h1=>?_)
 .have h1:(i:Int)<((P.map CN).length:Int):=h1;have n1:=FJ h1;have WL:=RM _ (Ao n1);have SP:((P[i]).map AF).length<=1000:=by rw[Lm];exact WL
  refine Xi (CN P[i]) (Yi (Lv n1) (Yi rfl (Yi (by show Bc ((((P.take i).flatten).length:Int)+((P[i].map AF).length:Int));unfold Bc;omega) ?_)));refine Yi (fun h2=>?_) (fun h2=>?_)
  .exact absurd h2 ch
  refine Yi (Ii i ch) (Xi ⟨i+1,n1⟩ ?_);exact⟨Dl P.length i ch,⟨Zr,⟨(Aa vi (show((P.take i).flatten).length+(P[i].map AF).length=((((P.take (i+1)).flatten).length:Nat):Int) by rw[Ib n1,Ac,Lm];omega)),rfl⟩,Zr,Zr,Zr,Tv⟩,Tv,Fh,Tv⟩
 have n1:=DP h1;refine Xi .pure (Xi _ (Yi (show PC 94 [nzA,vi (((P.take i).flatten).length:Nat)] nzA by rw[(show P.take i=P from Av (Bl (DP h1))),hz];exact sI) ?_));refine Xi {q:Nat // q<=P.length} (Xi (fun q=>⟨[(6,.slice (.id 6 1) (((P.take q.1).flatten).map AF)),(25,sl CN P),(26,vi (P.map CN).length),(27,vi q.1)],[(6,.tok 1 (((P.take q.1).flatten).map AF).length)],Ag⟩) (Xi (fun q=>P.length-q.1) (Yi (Xi ⟨0,AB _⟩ ?_) ?_)))
 .exact⟨Z4,Z1,Fh,Tv⟩
 intro⟨k,k1⟩;have hfk:=TR k;refine Yi (fun h4=>?_) (fun h4=>?_)
 .have h4:(k:Int)<((P.map CN).length:Int):=h4;have n4:=FJ h4;have WL:=RM _ (Ao n4);have SP:((P[k]).map AF).length<=1000:=by rw[Lm];exact WL
  refine Xi (CN P[k]) (Yi (Lv n4) (Yi rfl ?_));have b5:Cr 1 (P[k].map AF)/\(((P.take k).flatten).map AF).length=(((P.take k).flatten).map AF).length/\((((P.take k).flatten).map AF).length+(P[k].map AF).length)*16<=140737488355328/\(((P.take k).flatten).map AF).length+(P[k].map AF).length<=9223372036854775807:=⟨(D5 (enc:=AF) (n:=1) (fun _=>rfl) P[k]),rfl,(by simp only[Lm];omega),(by simp only[Lm];omega)⟩;refine Yi b5 (Yi (Ii k ch) ?_);have ew:(((P.take k).flatten).map AF++(P[k]).map AF)=((P.take (k+1)).flatten).map AF:=by rw[Ib n4,At]
  refine Xi ⟨k+1,n4⟩ ?_;exact⟨Dl P.length k ch,⟨⟨(Aa (AV.slice (.id 6 1)) ew),rfl⟩,Zr,Zr,Zr,Tv⟩,⟨⟨(show HO.tok 1 ((((P.take k).flatten).map AF).length+(P[k].map AF).length)=.tok 1 (((P.take (k+1)).flatten).map AF).length from Aa (HO.tok 1) (Ac.symm.trans (Aa List.length ew))),rfl⟩,Tv⟩,Fh,Tv⟩
 have h4:¬((k:Int)<((P.map CN).length:Int)):=h4;have n4:=DP h4;exact CX.of_eq (show sl AF ((P.take k).flatten)=sl AF P.flatten by rw[Av (l:=P) (i:=k) (Bl (DP h4))])
theorem Qr(ra:Bn.length<=1000)(RM:∀p∈Bn,p.length<=1000)(i:Nat):(Bn.take i).flatten.length<=1000000:=by
 have q:=TO RM Bn.length;have q2:(Bn.take i).flatten.length<=Bn.flatten.length:=by
  conv=>rhs;rw[<-GD i Bn,Cm,Ac]
  omega
 rw[Ce]at q;have q3:=Bf 1000 ra;omega
theorem tL(hP:P.length<=1000)(RM:∀p∈P,p.length<=1000):PC 55 [sl CN P] (sl AF P.flatten):=
 (Nat.eq_zero_or_pos P.flatten.length).elim (wT P hP RM (fun i=>AK (Qr hP RM i) Cl)) (wS P hP RM (fun i=>AK (Qr hP RM i) Cl))
def G4:List ByteArray:=((r.waves.take (WX r user BR)).map (fun v:Wv=>v.paths)).flatten
def sV(l m:List Sl)(r:Ro)(user:ByteArray)(BR:Int):List Sl:=if Pw x l m r=0 then if PW x l m (G4 r user BR)=0 then DZ (Tx l m (G4 r user BR))else []else []
def xl(l m:List Sl)(r:Ro)(user:ByteArray)(BR:Int):Int:=if Pw x l m r=0 then PW x l m (G4 r user BR)else Pw x l m r
def iZ(l m:List Sl)(r:Ro)(user:ByteArray)(BR:Int):AV:=.tup [sl Aq (sV x l m r user BR),vi (xl x l m r user BR)]
theorem zW(e:Int):CX (.tup [nzA,vi e]) (.tup [sl Aq [],vi e]):=CX.tup (show KX [nzA,vi e] [sl Aq [],vi e]from⟨CX.nil,CX.refl _,trivial⟩)
theorem Ae3{f:Nat}{args:List AV}{e:Int}(hc:PC f args (.tup [nzA,vi e])):PC f args (.tup [sl Aq [],vi e]):=A9.mono hc fun _ _ ⟨e1,e2⟩=>⟨_,e1▸zW e,rfl,e2⟩
theorem iK(r:Ro)(user:ByteArray)(BR:Int):∀(l:List Wv) (i:Nat),Rn r user BR i l<=i+l.length
 | [],i=>Am _
 |v::l,i=>by
  rw[Rn];split
  .omega
  .have q:=iK r user BR l (i+1);rw[Al];omega
theorem pR:WX r user BR<=r.waves.length:=by have q:=iK r user BR r.waves 0;rw[WX];omega
theorem AaF(l m:List Sl)(r:Ro)(user:ByteArray)(BR:Int)(hx:∀r∈x,Ey r)(GQ:l.length<=16)(F7:m.length<=16)(hr:Ui r)(hn:r.name.size<=10000000)(hu:user.size<=100000000)(c0:¬Pw x l m r=0):PC 21 [.agg (Ic x ifs),sl Aq l,sl Aq m,.agg (Jv r),vs user,vi BR] (iZ x l m r user BR):=by
 refine Ps (pC [6,9] []) Tryz.func21 rfl (Nz rfl) (yN (yN (Xi .pure (Xi _ (Yi (by have q:=pO x ifs l m r user BR hx GQ F7 hr hn hu;rw[qe,Aj c0]at q;exact q) ?_)))));refine Yi (fun h1=>?_) (fun h1=>?_)
 .exact CX.trans (show CX _ (.tup [sl Aq [],vi (Pw x l m r)])from zW (Pw x l m r)) (CX.of_eq (show AV.tup [sl Aq [],vi (Pw x l m r)]=iZ x l m r user BR by rw[iZ,sV,xl,Aj c0,Aj c0]))
 have h1:((Pw x l m r):Int)=(0:Int):=AH h1;exact absurd h1 c0
theorem AaG(l m:List Sl)(r:Ro)(user:ByteArray)(BR:Int)(hx:∀r∈x,Ey r)(GQ:l.length<=16)(F7:m.length<=16)(hr:Ui r)(hn:r.name.size<=10000000)(hu:user.size<=100000000)(c0:Pw x l m r=0)(c1:PW x l m (G4 r user BR)=0):PC 21 [.agg (Ic x ifs),sl Aq l,sl Aq m,.agg (Jv r),vs user,vi BR] (iZ x l m r user BR):=by
 have hP:((r.waves.take (WX r user BR)).map (fun v:Wv=>v.paths)).length<=1000:=by have q:=hr.wv;rw[Lm,Ax];omega
 have RM:∀p∈(r.waves.take (WX r user BR)).map (fun v:Wv=>v.paths),p.length<=1000:=fun p hp=>by obtain⟨v,hv,rfl⟩:=Ai.1 hp;exact hr.pt v (Df hv)
 have d5:B8 (G4 r user BR):=by have q:=Qr hP RM ((r.waves.take (WX r user BR)).map (fun v:Wv=>v.paths)).length;rw[Ce]at q;exact AK q Cl
 refine Ps (pC [6,9] []) Tryz.func21 rfl (Nz rfl) (yN (yN (Xi .pure (Xi _ (Yi (by have q:=pO x ifs l m r user BR hx GQ F7 hr hn hu;rw[qe,Ap c0]at q;exact q) ?_)))));refine Yi (fun h=>absurd h Cl) (fun _=>?_);refine yN (yN (Xi _ (Yi (ZP r (WX r user BR) (pR r user BR) (AK hr.wv Cl)) (Xi _ (Yi (tL ((r.waves.take (WX r user BR)).map (fun v:Wv=>v.paths)) hP RM) (Xi _ (Yi (by have q:=tH x ifs l m (G4 r user BR) hx GQ F7 d5;rw[Uw,Ap c1]at q;exact q) ?_)))))));refine Yi Wk ?_;exact CX.of_eq (show AV.tup [sl Aq (DZ (Tx l m (G4 r user BR))),vi 0]=iZ x l m r user BR by rw[iZ,sV,xl,Ap c0,Ap c0,Ap c1,c1])
theorem AaH(l m:List Sl)(r:Ro)(user:ByteArray)(BR:Int)(hx:∀r∈x,Ey r)(GQ:l.length<=16)(F7:m.length<=16)(hr:Ui r)(hn:r.name.size<=10000000)(hu:user.size<=100000000)(c0:Pw x l m r=0)(c1:¬PW x l m (G4 r user BR)=0):PC 21 [.agg (Ic x ifs),sl Aq l,sl Aq m,.agg (Jv r),vs user,vi BR] (iZ x l m r user BR):=by
 have hP:((r.waves.take (WX r user BR)).map (fun v:Wv=>v.paths)).length<=1000:=by have q:=hr.wv;rw[Lm,Ax];omega
 have RM:∀p∈(r.waves.take (WX r user BR)).map (fun v:Wv=>v.paths),p.length<=1000:=fun p hp=>by obtain⟨v,hv,rfl⟩:=Ai.1 hp;exact hr.pt v (Df hv)
 have d5:B8 (G4 r user BR):=by have q:=Qr hP RM ((r.waves.take (WX r user BR)).map (fun v:Wv=>v.paths)).length;rw[Ce]at q;exact AK q Cl
 refine Ps (pC [6,9] []) Tryz.func21 rfl (Nz rfl) (yN (yN (Xi .pure (Xi _ (Yi (by have q:=pO x ifs l m r user BR hx GQ F7 hr hn hu;rw[qe,Ap c0]at q;exact q) ?_)))));refine Yi (fun h=>absurd h Cl) (fun _=>?_);refine yN (yN (Xi _ (Yi (ZP r (WX r user BR) (pR r user BR) (AK hr.wv Cl)) (Xi _ (Yi (tL ((r.waves.take (WX r user BR)).map (fun v:Wv=>v.paths)) hP RM) (Xi _ (Yi (by have q:=tH x ifs l m (G4 r user BR) hx GQ F7 d5;rw[Uw,Aj c1]at q;exact Ae3 q) ?_)))))));refine Yi Wk ?_;exact CX.of_eq (show AV.tup [sl Aq [],vi (PW x l m (G4 r user BR))]=iZ x l m r user BR by rw[iZ,sV,xl,Ap c0,Ap c0,Aj c1])
theorem AaE(l m:List Sl)(r:Ro)(user:ByteArray)(BR:Int)(hx:∀r∈x,Ey r)(GQ:l.length<=16)(F7:m.length<=16)(hr:Ui r)(hn:r.name.size<=10000000)(hu:user.size<=100000000):PC 21 [Iu x ifs,sl Aq l,sl Aq m,.agg (Jv r),vs user,vi BR] (iZ x l m r user BR):=by
 by_cases c0:Pw x l m r=0
 .by_cases c1:PW x l m (G4 r user BR)=0
  .exact AaG x ifs l m r user BR hx GQ F7 hr hn hu c0 c1
  .exact AaH x ifs l m r user BR hx GQ F7 hr hn hu c0 c1
 .exact AaF x ifs l m r user BR hx GQ F7 hr hn hu c0
theorem gU{x:List Rl}{s:List Sl}(h:OL x s=0){y:Sl}(hy:y∈s):∃r∈x,Fa r=y:=by
 have q:=h;unfold OL at q;rw[Ap (VC h),Ap (MC h)]at q;split at q
 .rename_i h3;have q:=A1.1 h3 y hy;cases e:CV x y with
  |none=>rw[e]at q;cases q
  |some r=>exact⟨r,(Ki e).2.1,(Ki e).2.2⟩
 .exact absurd q Cl
theorem rE(hl:l.Pairwise Vr)(hm:m.Pairwise Vr){p:ByteArray}:p∈J0 l m↔JE l p≠JE m p:=by
 obtain⟨_,h2,h3⟩:=Vx l m hl hm;unfold J0;rw[h3,Ai];constructor
 .rintro⟨v,hv,rfl⟩
  obtain⟨q,_,e⟩:=List.mem_filterMap.1 hv;unfold JP at e;split at e
  .rename_i DJ;cases e;exact DJ
  .cases e
 .intro DJ;have hp:p∈mp l m:=(h2 p).2 (by
   rcases Classical.em (p∈l.map (·.path))with q|q
   .exact .inl q
   .refine .inr (AH fun q2=>DJ ?_);rw[T3 (fun s hs e=>q (Ai.2 ⟨s,hs,e⟩)),T3 (fun s hs e=>q2 (Ai.2 ⟨s,hs,e⟩))])
  exact⟨⟨p,JE l p,JE m p⟩,List.mem_filterMap.2 ⟨p,hp,by unfold JP;rw[Ap DJ]⟩,rfl⟩
theorem wh(h:l.Pairwise Vr){s:Sl}(hs:s∈l):JE l s.path=place s.ver:=by
 unfold JE;rw[H1 (LX zZ h) hs]
theorem o7{x:List Rl}(hl:OL x l=0)(hm:OL x m=0){s t:Sl}(hs:s∈l)(ht:t∈m)(h1:s.path=t.path)(h2:place s.ver=place t.ver):s=t:=by
 obtain⟨a,ha,rfl⟩:=gU hl hs;obtain⟨b,hb,rfl⟩:=gU hm ht;rw[ZF (CF (VC hl)) ha hb h1 h2]
theorem gG{x:List Rl}(hl:OL x l=0)(hm:OL x m=0)(fl:B8 l){s:Sl}(hs:s∈l)(e:JE l s.path=JE m s.path):s∈m:=by
 rw[wh (Kf (MC hl)) hs]at e;cases f:B5 m s.path with
 |none=>
  have q:JE m s.path=-1:=by unfold JE;rw[f]
  have v:=Im ((GW hl fl).val s hs);unfold place at e;omega
 |some t=>
  have ht:t∈m:=BI f;have hp:t.path=s.path:=by
   have q:=Dy (show m.find? (fun x=>decide (x.path=s.path))=some t from f);exact AP q
  have q:JE m s.path=place t.ver:=by unfold JE;rw[f]
  rw[o7 hl hm hs ht hp.symm (e.trans q)];exact ht
theorem uu{x:List Rl}{mv:List ByteArray}(hl:OL x l=0)(hm:OL x m=0)(fl:B8 l)(fm:B8 m)(h:∀p∈J0 l m,p∈mv):DZ (Tx l m mv)=m:=by
 have il:=Kf (MC hl);have im:=Kf (MC hm);have out:∀p,Hu mv p=false->JE l p=JE m p:=fun p hp=>AH fun c=>by
  have:=Vu.2 (h p ((rE il im).2 c));rw[hp]at this;cases this
 refine LC (L9 (Uv il im mv)) im fun y=>?_;rw[Gd,Tx,AN,Br,Br];constructor
 .rintro(⟨h1,h2⟩|⟨h1,_⟩)
  .have h2:Hu mv y.path=false:=by simpa using h2
   exact gG hl hm fl h1 (out _ h2)
  .exact h1
 .intro hy;cases e:Hu mv y.path with
  |true=>exact .inr ⟨hy,rfl⟩
  |false=>exact .inl ⟨gG hm hl fm hy (out _ e).symm,rfl⟩
theorem qy(il:l.Pairwise Vr)(im:m.Pairwise Vr):DZ (Tx l m [])=l:=
 LC (L9 (Uv il im [])) il fun y=>by rw[Gd,Tx];simp[Hu]
theorem dB{x:List Rl}(h:HH x l m Bn=0):Sq x l m=0/\(∀p,p∈Bn.flatten↔p∈J0 l m)/\fN x l m Bn=true:=by
 unfold HH at h;split at h
 .rename_i h1;split at h
  .split at h
   .rename_i h3;split at h
    .rename_i h4;exact⟨h1,fun p=>by rw[<-h3];exact(Kr Bn.flatten).1.mem_iff.symm,h4⟩
    .exact absurd h Cl
   .exact absurd h Cl
  .exact absurd h Cl
 .rename_i h1;exact absurd h h1
theorem cM:∀{l:List Wv},KQ l=0->∀v∈l,DT v.stages=0
 | [],_,_,h=>by cases h
 |w::l,h,v,hv=>by
  unfold KQ at h;split at h
  .rename_i h1;rcases Ay.1 hv with rfl|hv
   .exact h1
   .exact cM h v hv
  .rename_i h1;exact absurd h h1
theorem oU{x:List Rl}{r:Ro}(h:Pw x l m r=0):HH x l m (ZY r)=0/\∀v∈r.waves,DT v.stages=0:=by
 unfold Pw at h;split at h
 .rename_i h1;split at h
  .exact absurd h Cl
  .exact⟨h1,cM h⟩
 .rename_i h1;exact absurd h h1
theorem Vw:G4 r user BR=((ZY r).take (WX r user BR)).flatten:=by rw[G4,ZY,Ts]
theorem fW{x:List Rl}{r:Ro}(h:Pw x l m r=0):PW x l m (G4 r user BR)=0/\xl x l m r user BR=0/\sV x l m r user BR=DZ (Tx l m (G4 r user BR)):=by
 obtain⟨h1,h2,_⟩:=dB (oU h).1;have e:PW x l m (G4 r user BR)=0:=by
  unfold PW;rw[Ap h1,Aj];intro c;obtain⟨p,hp,k⟩:=Ba.1 c
  have:Hu (J0 l m) p=true:=Vu.2 ((h2 p).1 (by
   rw[Vw]at hp;obtain⟨q,hq,hp⟩:=D4.1 hp;exact D4.2 ⟨q,Df hq,hp⟩))
  rw[this]at k;cases k
 refine⟨e,?_,?_⟩
 .unfold xl;rw[Ap h,e]
 .unfold sV;rw[Ap h,Ap e]
theorem Yo{r:Ro}{user:ByteArray}{BR:Int}:∀{l:List Wv} (i:Nat),(∀v∈l,100<=LB v.stages BR)->Rn r user BR i l=i+l.length
 | [],i,_=>rfl
 |v::l,i,h=>by
  have q:=(gg ((r.name++⟨#[47]⟩)++nE (i:Int)) user).2;have h1:=h v (Ab ..);rw[Rn,Aj (by unfold VG;intro c;have c:=AP c;omega),Yo (i+1) fun w hw=>h w (Ah _ hw),Al];omega
theorem AaX{r:Ro}{user:ByteArray}{BR:Int}(h:∀v∈r.waves,100<=LB v.stages BR):WX r user BR=r.waves.length:=by rw[WX,Yo 0 h,Bb]
theorem sP{r:Ro}{user:ByteArray}{BR:Int}(h:∀v∈r.waves,LB v.stages BR<=0):WX r user BR=0:=by
 unfold WX;cases e:r.waves with
 |nil=>rfl
 |cons v l=>
  have q:=(gg ((r.name++⟨#[47]⟩)++nE ((0:Nat):Int)) user).1;have h1:=h v (by rw[e];exact Ab ..);rw[Rn,Ap (by unfold VG;exact Ak ch)]
theorem qq{x:List Rl}{r:Ro}{user:ByteArray}{BR:Int}(h:Pw x l m r=0)(hz:∀v∈r.waves,LB v.stages BR<=0):sV x l m r user BR=l:=by
 obtain⟨h1,_,_⟩:=dB (oU h).1;rw[(fW user BR h).2.2,Vw,sP hz,List.take_zero,List.flatten_nil,qy (Kf (MC (OS h1).1)) (Kf (MC (OS h1).2))]
theorem uq{x:List Rl}{r:Ro}{user:ByteArray}{BR:Int}(h:Pw x l m r=0)(fl:B8 l)(fm:B8 m)(hz:∀v∈r.waves,100<=LB v.stages BR):sV x l m r user BR=m:=by
 obtain⟨h1,h2,_⟩:=dB (oU h).1;rw[(fW user BR h).2.2,Vw,AaX hz,Av (by rw[ZY,Lm];exact Am _)];exact uu (OS h1).1 (OS h1).2 fl fm fun p hp=>(h2 p).2 hp
theorem Xg{l:List α}(h:i<l.length)(k:p l[i]=false):l.all p=false:=List.all_eq_false.2 ⟨l[i],Ao h,by rw[k];decide⟩
theorem lG{l:List α}(h:∀j (hj:j<l.length),j<i->p l[j]=true)(hi:l.length<=i):l.all p=true:=A1.2 fun x hx=>by
 obtain⟨j,hj,rfl⟩:=Cc.1 hx;exact h j hj ch
structure Ad where
 id:ByteArray
 path:ByteArray
 set:List (Int×Int)
 syms:List ByteArray
 note:ByteArray
variable (a:Ad)
abbrev BA:List AV:=[vs a.id,vs a.path,sl AE a.set,sl AF a.syms,vs a.note]
structure Ks(a:Ad):Prop where
 id:Gq a.id
 path:Gq a.path
 set:B8 a.set
 syms:B8 a.syms
 sym:∀s∈a.syms,Gq s
 note:Gq a.note
def TH:Bool:=decide (1<=s.size)&&decide (s.size<=32)
def YG:List ByteArray->Bool
 |a::b::r=>Ed a b&&YG (b::r)
 |_=>true
def OJ:Bool:=(CD a.path).isSome&&TH a.id&&a.syms.all TH
def ul:Bool:=!a.set.isEmpty&&decide (a.set=canon a.set)&&!a.syms.isEmpty&&decide (a.syms.length<=1024)&&decide (a.note.size<=65536)
def Rw:Int:=if OJ a=true then if ul a=true then if YG a.syms=true then 0 else 1 else 1 else 4
theorem qo(l:List ByteArray):YG (l.drop (l.length-1))=true:=by
 cases h:l.drop (l.length-1)with
 |nil=>rfl
 |cons a r=>
  have q:=Aa List.length h;rw[Di,Al]at q;have e:r=[]:=EP.1 ch;subst e;rfl
theorem Up{l:List ByteArray}(h:i+1<l.length):YG (l.drop i)=(Ed l[i] l[i+1]&&YG (l.drop (i+1))):=by
 rw[AI (show i<l.length by omega),AI h];rfl
theorem T5(hs:Gq s):PC 230 [vs s] (vb (TH s)):=by
 refine Ps Ej Tryz.func230 rfl (Nz rfl) (Yi (fun h1=>?_) (fun h1=>?_))
 .refine Yi (fun h2=>?_) (fun h2=>?_)
  .exact CX.of_eq (Aa vb (show true=TH s by rw[TH];first|rfl|(rw[Ak (show 1<=s.size by omega)];first|rw[Ak (show s.size<=32 by omega)];rfl|rw[Ae (show ¬s.size<=32 by omega)];rfl)|(rw[Ae (show ¬1<=s.size by omega)];rfl)))
  exact CX.of_eq (Aa vb (show false=TH s by rw[TH];first|rfl|(rw[Ak (show 1<=s.size by omega)];first|rw[Ak (show s.size<=32 by omega)];rfl|rw[Ae (show ¬s.size<=32 by omega)];rfl)|(rw[Ae (show ¬1<=s.size by omega)];rfl)))
 exact CX.of_eq (Aa vb (show false=TH s by rw[TH];first|rfl|(rw[Ak (show 1<=s.size by omega)];first|rw[Ak (show s.size<=32 by omega)];rfl|rw[Ae (show ¬s.size<=32 by omega)];rfl)|(rw[Ae (show ¬1<=s.size by omega)];rfl)))
theorem AaL(hs:Gq s):PC 231 [vs s] (vb (!TH s)):=by
 refine Ps Ej Tryz.func231 rfl (Nz rfl) (BX (Bt (TH s)) (fun h1=>?_) (fun h1=>?_))
 .refine Xi .pure (Xi _ (Yi (cb h1 (T5 s hs)) ?_));exact CX.of_eq (Aa vb (show false=!TH s by first|rfl|simp only[h1,Bool.not_true]))
 refine Xi .pure (Xi _ (Yi (cb h1 (T5 s hs)) ?_));exact CX.of_eq (Aa vb (show true=!TH s by first|rfl|simp only[h1,Bool.not_false]))
theorem CX.fn(f:Nat):CX (.v (.func (.func f) #[] #[])) (.clo f []):=fun _ _ _ _ h=>by cases h;exact .clo _ f [] #[] rfl (fun i av x h=>by cases h)
theorem CU.nil:CU []:=fun _ hc=>absurd hc List.not_mem_nil
theorem py(l:List ByteArray)(hl:B8 l)(hs:∀s∈l,Gq s):PC 74 [sl AF l,.v (.func (.func 231) #[] #[])] (vb (l.any fun s=>!TH s)):=
 (z74 (fF:=231) CU.nil l (fun s=>!TH s) (fun s h=>AaL s (hs s h)) hl).args ⟨.refl _,.fn _,trivial⟩
theorem xW{l:List ByteArray}:(l.any fun s=>!TH s)=!l.all TH:=List.not_all_eq_any_not.symm
theorem Uk{a:Ad}{m:Int}(c0:CD a.path=some m)(h1:TH a.id=true)(h2:(a.syms.any fun s=>!TH s)=false):OJ a=true:=by
 rw[xW]at h2;rw[OJ,c0,h1];show a.syms.all TH=true;simpa using h2
theorem ue{a:Ad}(h:(a.syms.any fun s=>!TH s)=true):OJ a=false:=by
 rw[xW]at h;rw[OJ,show a.syms.all TH=false by simpa using h,Cp]
theorem lM{l:List ByteArray}(hi:i<l.length)(h1:1<=i)(h:∀j (hj:j+1<l.length),j+1<i->Ed l[j] l[j+1]=true)(k:Ed (l[i-1]' ch) l[i]=true):∀j (hj:j+1<l.length),j+1<i+1->Ed l[j] l[j+1]=true:=fun j hj q=>by
 rcases CR (j+1) i with e|e
 .exact h j hj e
 .obtain rfl:i=j+1:=by omega
  exact k
theorem Yy{a:Ad}(h:OJ a=false):Rw a=4:=by rw[Rw,h];rfl
theorem Uj{a:Ad}(h:OJ a=true)(k:a.set.length=0\/a.set≠canon a.set\/a.syms.length=0\/1024<a.syms.length\/65536<a.note.size):Rw a=1:=by
 rw[Rw,Ap h,Aj];intro e;simp only[ul,Af,AA,CK,List.isEmpty_eq_false_iff]at e;obtain⟨⟨⟨⟨e1,e2⟩,e3⟩,e4⟩,e5⟩:=e;have f1:=Hx.2 e1;have f3:=Hx.2 e3;rcases k with k|k|k|k|k
 .omega
 .exact k e2
 .omega
 .omega
 .omega
theorem lC{a:Ad}(h:OJ a=true)(k1:¬a.set.length=0)(k2:a.set=canon a.set)(k3:¬a.syms.length=0)(k4:a.syms.length<=1024)(k5:a.note.size<=65536):Rw a=if YG a.syms=true then 0 else 1:=by
 rw[Rw,Ap h,Ap];simp only[ul,Af,AA,CK,List.isEmpty_eq_false_iff];exact⟨⟨⟨⟨fun e=>k1 (by rw[e];rfl),k2⟩,fun e=>k3 (by rw[e];rfl)⟩,k4⟩,k5⟩
theorem fU{l:List ByteArray}:∀{i:Nat},YG (l.drop i)=false->YG l=false
 |0,h=>h
 |i+1,h=>by
  refine fU (i:=i) ?_
  by_cases hi:i+1<l.length
  .rw[Up hi,h,Cp]
  .rw[CA ch]at h;cases h
theorem fT{l:List ByteArray}(h:∀j (hj:j+1<l.length),Ed l[j] l[j+1]=true):∀k i,i+k=l.length->YG (l.drop i)=true
 |0,i,e=>by rw[CA ch];rfl
 |1,i,e=>by rw[show i=l.length-1 by omega];exact qo l
 |k+2,i,e=>by rw[Up ch,h i ch,fT h (k+1) (i+1) ch];rfl
theorem AaB(ha:Ks a)(c0:CD a.path=none):PC 165 [.agg (BA a)] (vi (Rw a)):=by
 refine Ps (pC [1] []) Tryz.func165 rfl (Nz rfl) (Xi .pure (Xi _ (Yi (WF.none ha.path c0) (Yi (fun _=>?_) (fun h=>absurd Cl h)))));exact CX.of_eq (Aa vi (show 4=Rw a from(Yy (by rw[OJ,c0];rfl)).symm))
theorem AaC(ha:Ks a)(m:Int)(c0:CD a.path=some m):PC 165 [.agg (BA a)] (vi (Rw a)):=by
 have vD:a.syms.length<=1073741824:=ha.syms;have vE:a.set.length<=1073741824:=ha.set;have hs3:a.note.size<=1073741824:=ha.note;refine Ps (pC [1] []) Tryz.func165 rfl (Nz rfl) (Xi .pure (Xi _ (Yi (WF.some ha.path c0) (Yi (fun h=>absurd h Cl) (fun _=>?_)))));refine BX (Bt (TH a.id)) (fun h1=>?_) (fun h1=>?_)
 .refine Xi .pure (Xi _ (Yi (cb h1 (T5 a.id ha.id)) (BX (Bt (a.syms.any fun s=>!TH s)) (fun h2=>?_) (fun h2=>?_))))
  .refine Xi .pure (Xi _ (Yi (cb h2 (py a.syms ha.syms ha.sym)) ?_));exact CX.of_eq (Aa vi (show 4=Rw a from(Yy (ue h2)).symm))
  refine Xi .pure (Xi _ (Yi (cb h2 (py a.syms ha.syms ha.sym)) (Yi (fun h4=>?_) (fun h4=>?_))))
  .refine Yi Wk ?_;exact CX.of_eq (Aa vi (show 1=Rw a from(Uj (Uk c0 h1 h2) (.inl (by have q:=h4;rw[Lm]at q;omega))).symm))
  refine Xi _ (Yi (YL a.set ha.set) (BX (Bt (decide (a.set=canon a.set))) (fun h6=>?_) (fun h6=>?_)))
  .refine Xi _ (Yi (cb h6 (qB a.set (canon a.set) ha.set)) (Yi (fun h7=>?_) (fun h7=>?_)))
   .refine Yi Wk ?_;exact CX.of_eq (Aa vi (show 1=Rw a from(Uj (Uk c0 h1 h2) (.inr (.inr (.inl (by have q:=h7;rw[Lm]at q;omega))))).symm))
   refine Yi (fun h9=>?_) (fun h9=>?_)
   .have n9:1024<a.syms.length:=by have q:=h9;rw[Lm]at q;omega
    refine Yi Wk ?_;exact CX.of_eq (Aa vi (show 1=Rw a from(Uj (Uk c0 h1 h2) (.inr (.inr (.inr (.inl ch))))).symm))
   have n9:¬1024<a.syms.length:=by have q:=h9;rw[Lm]at q;omega
   refine Yi (fun Kz=>?_) (fun Kz=>?_)
   .refine Yi Wk ?_;exact CX.of_eq (Aa vi (show 1=Rw a from(Uj (Uk c0 h1 h2) (.inr (.inr (.inr (.inr ch))))).symm))
   refine Yi Wk (Xi {q:Nat // 1<=q/\∀j (hj:j+1<a.syms.length),j+1<q->Ed a.syms[j] a.syms[j+1]=true} (Xi (fun q=>⟨[(1,.ref 1 0),(6,vi q.1)],[(1,.ro (BA a))],Ag⟩) (Xi (fun q=>a.syms.length-q.1) (Yi (Xi ⟨1,Am _,fun j hj h=>absurd h ch⟩ ?_) ?_))))
   .exact⟨Z2,Z1,Fh,Tv⟩
   intro⟨i,i1,i2⟩;have i2:∀j (hj:j+1<a.syms.length),j+1<i->Ed a.syms[j] a.syms[j+1]=true:=i2;refine Yi (fun SM=>?_) (fun SM=>?_)
   .have SM:(i:Int)<((a.syms.map AF).length:Int):=SM;have n13:=FJ SM;refine Yi (by show Bc ((i:Int)-(1:Int));unfold Bc;omega) (Xi (AF (a.syms[i-1]' ch)) (Yi (Yi (show(0:Int)<=(i:Int)-1 by omega) (by rw[show((i:Int)-1).toNat=i-1 by omega];exact Ek (Ge ch))) (Yi rfl ?_)));refine Xi (AF (a.syms[i]' ch)) (Yi (Lv n13) (Yi rfl (Yi (fun PF=>?_) (fun PF=>?_))))
    .have PF:Ed (a.syms[i-1]' ch) (a.syms[i]' ch)=false:=(Gs _ _).trans PF;refine Yi Wk ?_;exact CX.of_eq (Aa vi (show 1=Rw a from((lC (Uk c0 h1 h2) (by have q:=h4;rw[Lm]at q;omega) (AP h6) (by have q:=h7;rw[Lm]at q;omega) ch ch).trans (Aj (by rw[fU (i:=i-1) (by rw[Up ch];simp only[show i-1+1=i by omega,PF];rfl)];decide))).symm))
    have PF:Ed (a.syms[i-1]' ch) (a.syms[i]' ch)=true:=(Gs _ _).trans (by simpa using PF);refine Yi Wk (Yi (Ii i ch) ?_);have hi:i<a.syms.length:=n13;refine Xi ⟨i+1,by omega,lM hi i1 i2 PF⟩ ?_;exact⟨Dl a.syms.length i ch,Z2,Z1,Fh,Tv⟩
   have SM:¬((i:Int)<((a.syms.map AF).length:Int)):=SM;have n13:=DP SM;exact CX.of_eq (Aa vi (show 0=Rw a from((lC (Uk c0 h1 h2) (by have q:=h4;rw[Lm]at q;omega) (AP h6) (by have q:=h7;rw[Lm]at q;omega) ch ch).trans (Ap (fT (fun j hj=>i2 j hj (by have q:=DP SM;omega)) _ 0 (Bb _)))).symm))
  have h6:(decide (a.set=canon a.set))=false:=h6;refine Xi _ (Yi (cb h6 (qB a.set (canon a.set) ha.set)) (Yi Wk ?_));exact CX.of_eq (Aa vi (show 1=Rw a from(Uj (Uk c0 h1 h2) (.inr (.inl (QT h6)))).symm))
 have h1:(TH a.id)=false:=h1;refine Xi .pure (Xi _ (Yi (cb h1 (T5 a.id ha.id)) ?_));exact CX.of_eq (Aa vi (show 4=Rw a from(Yy (by rw[OJ,h1,Cp];rfl)).symm))
theorem Af8(ha:Ks a):PC 165 [.agg (BA a)] (vi (Rw a)):=by
 cases c0:CD a.path with
 |none=>exact AaB a ha c0
 |some m=>exact AaC a ha m c0
theorem va_{s:Sl}(h:((if Ci s.ver then 0 else 2:Int))=0):Ci s.ver=true:=by
 cases e:Ci s.ver with
 |true=>rfl
 |false=>rw[e]at h;exact absurd h Cl
theorem Ae5{s:Sl}(h:¬((if Ci s.ver then 0 else 2:Int))=0):Ci s.ver=false:=by
 cases e:Ci s.ver with
 |false=>rfl
 |true=>rw[e]at h;exact absurd rfl h
def Hm(s:Sl):Bool:=Ci s.ver&&decide (s.path=a.path)&&has a.set (place s.ver)
theorem ZO(s:Sl)(ha:B8 a.set):PC 81 [.agg (BA a),.agg (Aq s)] (vb (Hm a s)):=by
 refine Ps (pC [2,3] []) Tryz.func81 rfl (Nz rfl) (yN (Xi .pure (Xi _ (Yi (xn s.ver) (Yi (fun h1=>?_) (fun h1=>?_))))))
 .refine Yi (fun h2=>?_) (fun h2=>?_)
  .refine BX (Bt (has a.set (if Ci s.ver then place s.ver else 0))) (fun h3=>?_) (fun h3=>?_)
   .refine Xi .pure (Xi _ (Yi (cb h3 (lZ a.set (if Ci s.ver then place s.ver else 0) ha)) ?_));exact CX.of_eq (Aa vb (show true=Hm a s by have v:=va_ h1;have q:=h3;rw[Ap v]at q;rw[Hm,v,q,Ak h2];rfl))
   refine Xi .pure (Xi _ (Yi (cb h3 (lZ a.set (if Ci s.ver then place s.ver else 0) ha)) ?_));exact CX.of_eq (Aa vb (show false=Hm a s by have v:=va_ h1;have q:=h3;rw[Ap v]at q;rw[Hm,v,q,Ak h2];rfl))
  exact CX.of_eq (Aa vb (show false=Hm a s by rw[Hm,Ae h2,Cp];rfl))
 exact CX.of_eq (Aa vb (show false=Hm a s by rw[Hm,Ae5 h1];rfl))
theorem w6(r:Rl):PC 106 [.agg (AC r)] (.agg [vs r.path,vi r.ver.a,vi r.ver.b,vi r.ver.c]):=by
 refine Ps (pC [1] []) Tryz.func106 rfl (Nz rfl) (yN (yN (yN ?_)));exact .refl _
theorem iG(r:Rl)(ha:B8 a.set):PC 105 [.agg (BA a),.cptr (AC r)] (vb (Hm a (⟨r.path,r.ver⟩:Sl))):=by
 refine Ps (pC [2] []) Tryz.func105 rfl (Nz rfl) (yN (yN (Xi _ (Yi (w6 r) (BX (Bt (Hm a (⟨r.path,r.ver⟩:Sl))) (fun h1=>?_) (fun h1=>?_))))))
 .refine Xi _ (Yi (cb h1 (ZO a (⟨r.path,r.ver⟩:Sl) ha)) (Yi Wk ?_));exact CX.of_eq (Aa vb (show true=Hm a (⟨r.path,r.ver⟩:Sl)from h1.symm))
 refine Xi _ (Yi (cb h1 (ZO a (⟨r.path,r.ver⟩:Sl) ha)) (Yi Wk ?_));exact CX.of_eq (Aa vb (show false=Hm a (⟨r.path,r.ver⟩:Sl)from h1.symm))
theorem Aff(hs:CU caps)(l:List (Ad))(p:Ad->Bool)(hF:∀x∈l,PC fF ([.agg (BA x)]++caps) (vb (p x)))(hl:l.length<9223372036854775807) :
  PC 166 [sl BA l,.clo fF caps] (vi (FS p l 0)):=by
 refine Ps Ej Tryz.func166 rfl (Nz rfl) (Xi {i:Nat // i<=l.length/\∀j (hj:j<l.length),j<i->p l[j]=false} (Xi (fun i=>⟨[(0,sl BA l),(1,.clo fF caps),(7,vi (l.map BA).length),(8,vi i.1)],[],Ag⟩) (Xi (fun i=>l.length-i.1) (Yi (Xi ⟨0,by simp⟩ ?_) ?_))))
 .exact⟨⟨Zr,⟨rfl,hs.ids _⟩,Zr,Zr,Tv⟩,Tv,Fh,Tv⟩
 .intro⟨i,h1,h2⟩;refine Yi ?_ ?_
  .intro h;have h:i<l.length:=by simpa using h
   have hg:l[i]?=some l[i]:=Ge h;refine Xi (BA l[i]) (Yi (Yi (Nn i) (by simp[hg])) (Yi rfl (yN ?_)));have Ck:∀h,PC fF ([.agg (BA l[i])]++caps.map (str0 h)) (vb (p l[i])):=fun h=>by rw[hs.map];exact hF l[i] (Ao _)
   cases hp:p l[i]with
   |true=>
    rw[hp]at Ck;refine Xi .pure (Xi (vb true) (Yi (Ck _) ?_));rw[H2 h (fun j hj I6=>h2 j hj I6) hp,EF];exact .refl _
   |false=>
    rw[hp]at Ck;refine Xi .pure (Xi (vb false) (Yi (Ck _) (Yi (Ii i ch) (Xi ⟨i+1,by omega,fun j hj I6=>?_⟩ ?_))))
    .by_cases e:j=i
     .subst e;exact hp
     .exact h2 j hj ch
    .exact⟨Dl l.length i ch,⟨Zr,⟨rfl,hs.ids _⟩,Zr,Zr,Tv⟩,Tv,Fh,Tv⟩
  .intro h;have h:¬i<l.length:=by simpa using h
   rw[F9 fun j hj=>h2 j hj ch];exact .refl _
theorem Ab3(hs:CU caps)(l:List (Ad))(p:Ad->Bool)(hF:∀x∈l,PC fF ([.agg (BA x)]++caps) (vb (p x)))(hl:B8 l) :
  PC 104 [sl BA l,.clo fF caps] (vb (l.any p)):=by
 refine Ps Ej Tryz.func104 rfl (Nz rfl) ?_;have hi:=Aff hs l p hF (by unfold B8 at hl;omega);have Ck:∀h,PC 166 [sl BA l,.clo fF (caps.map (str0 h))] (vi (FS p l 0)):=fun h=>by rw[hs.map];exact hi
 refine Xi .pure (Xi _ (Yi (Ck _) ?_));have ha:=HW (p:=p) l 0 (Bs 0);refine Yi ?_ ?_
 .intro h;rw[<-ha,Ak h];exact .refl _
 .intro h;rw[<-ha,Ae h];exact .refl _
def Ng:List Ad->Int
 | []=>0
 |a::r=>if Rw a=0 then Ng r else Rw a
def Mf(l:List Ad):Int:=if A0 x=0 then Ng l else 1
theorem ug{l:List Ad}(h:i<l.length)(k:Rw l[i]=0):Ng (l.drop i)=Ng (l.drop (i+1)):=by rw[AI h,Ng,Ap k]
theorem uf{l:List Ad}(h:i<l.length)(k:¬Rw l[i]=0):Ng (l.drop i)=Rw l[i]:=by rw[AI h,Ng,Aj k]
theorem iE(l:List Ad)(hx:∀r∈x,Ey r)(hl:B8 l)(gy:∀a∈l,Ks a):PC 102 [.agg (Ic x ifs),sl BA l] (vi (Mf x l)):=by
 have hl:l.length<=1073741824:=hl;refine Ps (pC [2] []) Tryz.func102 rfl (Nz rfl) (yN (Xi .pure (Xi _ (Yi (xo WF x ifs hx) (Yi (fun h1=>?_) (fun h1=>?_))))))
 .have h1:((A0 x):Int)≠(0:Int):=h1;exact CX.of_eq (Aa vi (show 1=Mf x l by rw[Mf,Aj h1]))
 have h1:((A0 x):Int)=(0:Int):=AH h1;refine Xi {q:Nat // q<=l.length/\Ng (l.drop q)=Ng l} (Xi (fun q=>⟨[(11,sl BA l),(12,vi (l.map BA).length),(13,vi q.1)],[],Ag⟩) (Xi (fun q=>l.length-q.1) (Yi (Xi ⟨0,AB _,rfl⟩ ?_) ?_)))
 .exact⟨Z3,Tv,Fh,Tv⟩
 intro⟨i,i1,i2⟩;have i1:i<=l.length:=i1;have i2:Ng (l.drop i)=Ng l:=i2;refine Yi (fun h3=>?_) (fun h3=>?_)
 .have h3:(i:Int)<((l.map BA).length:Int):=h3;have n3:=FJ h3;refine Xi (BA l[i]) (Yi (Lv n3) (Yi rfl (yN (yN (yN (Xi .pure (Xi _ (Yi (Af8 l[i] (gy _ (Ao n3))) (Yi (fun h4=>?_) (fun h4=>?_))))))))))
  .have h4:((Rw l[i]):Int)≠(0:Int):=h4;exact CX.of_eq (Aa vi (show(Rw l[i])=Mf x l by rw[Mf,Ap h1,<-i2,uf n3 h4]))
  have h4:((Rw l[i]):Int)=(0:Int):=AH h4;refine Yi (Ii i ch) (Xi ⟨i+1,n3,by rw[<-i2,ug n3 h4]⟩ ?_);exact⟨Dl l.length i ch,Z3,Tv,Fh,Tv⟩
 have h3:¬((i:Int)<((l.map BA).length:Int)):=h3;have n3:=DP h3;exact CX.of_eq (Aa vi (show 0=Mf x l by rw[Mf,Ap h1,<-i2,CA (Bl (DP h3))];rfl))
abbrev VX(l:List Ad):Sl->Bool:=fun s=>l.any fun a=>Hm a s
def sf(l:List Ad):AV:=if Mf x l=0 then .tup [Iu (yk true (VX l) x) ifs,vi 0]else .tup [.agg [nzA,nzA],vi (Mf x l)]
theorem oQ{x:List Rl}{l:List Ad}(h:Mf x l=0):A0 x=0:=by
 unfold Mf at h;split at h
 .assumption
 .exact absurd h Cl
theorem w9{x:List Rl}(h:Uc x)(hr:∀r∈x,r.reqs.length<=1000)(hc:A0 x=0):A9 Tryz.prog 43 [sl AC x] Ag fun r h'=>r=.tup [.msl 2000 x.length,vi 0]/\h'=As [(2000,.arr 9 (x.map AC))] Ag:=by
 have q:=Afb h hr (by rw[SW hc];exact hc)
 rwa [SW hc]at q
theorem sM(l:List Ad)(hx:Uc x)(_hrq:∀r∈x,r.reqs.length<=1000)(hl:B8 l)(gy:∀a∈l,Ks a)(_hcl:PC 103 [.slice .none ifs] (.slice .none ifs))(c0:¬Mf x l=0):PC 62 [.agg (Ic x ifs),sl BA l] (sf x ifs l):=by
 refine Ps (pC [2] []) Tryz.func62 rfl (Nz rfl) (yN (Xi .pure (Xi _ (Yi (iE x ifs l hx.few hl gy) (Yi (fun h1=>?_) (fun h1=>?_))))))
 .have h1:((Mf x l):Int)≠(0:Int):=h1;refine yN (yN ?_);exact CX.of_eq (show AV.tup [.agg [nzA,nzA],vi (Mf x l)]=sf x ifs l by rw[sf,Aj c0])
 have h1:((Mf x l):Int)=(0:Int):=AH h1;exact absurd h1 c0
theorem sN(l:List Ad)(hx:Uc x)(vC:∀r∈x,r.reqs.length<=1000)(hl:B8 l)(gy:∀a∈l,Ks a)(hcl:PC 103 [.slice .none ifs] (.slice .none ifs))(c0:Mf x l=0):PC 62 [.agg (Ic x ifs),sl BA l] (sf x ifs l):=by
 have h72:=w9 hx vC (oQ c0);have rg:x.length<=19:=hx.len;refine Ps ⟨[2,11],[],[],[],[],[],[],[],[],[(100012,9)],[12]⟩ Tryz.func62 rfl (Nz rfl) (yN (Xi .pure (Xi _ (Yi (iE x ifs l hx.few hl gy) (Yi (fun h1=>?_) (fun h1=>?_))))))
 .have h1:((Mf x l):Int)≠(0:Int):=h1;refine yN (yN ?_);exact absurd c0 h1
 have h1:((Mf x l):Int)=(0:Int):=AH h1;refine Xi (.gen [] 1) (Yi rfl (A9.to2 h72 ?_));refine Xi .pure (Xi _ (Yi hcl (yN (Xi {q:Nat // q<=x.length} (Xi (fun q=>⟨[(1,sl BA l),(4,.ref 4 0),(9,.ref 9 0),(31,.msl 12200 x.length),(32,vi x.length),(33,vi q.1)],[(4,.cells [nzA,nzA]),(9,.cells [.msl 12200 x.length,.slice .none ifs]),(12200,.arr 9 ((yk true (VX l) (x.take q.1)++x.drop q.1).map AC))],Ag⟩) (Xi (fun q=>x.length-q.1) (Yi (Xi ⟨0,AB _⟩ ?_) ?_)))))))
 .exact⟨Z6,Z3,Fh,Tv⟩
 intro⟨i,i1⟩;have i1:i<=x.length:=i1;refine Yi (fun h3=>?_) (fun h3=>?_)
 .have h3:(i:Int)<(x.length:Int):=h3;have n3:i<x.length:=by omega
  have g3:x[i]?=some x[i]:=Ge n3;have ni:i<x.length:=by omega
  refine Yi (by show(0:Int)<=i/\(i:Int)<(x.length:Nat);omega) (Yi (show x.length=((yk true (VX l) (x.take i)++x.drop i).map AC).length by rw[Lm,ZS]) (Xi (AC x[i]) (Yi (Ek (pU ni)) ?_)));refine yN (yN (BX (Bt (VX l (MD x[i]))) (fun h4=>?_) (fun h4=>?_)))
  .have h4:(VX l (MD x[i]))=true:=h4;refine Xi .pure (Xi _ (Yi (cb h4 (Ab3 (fF:=105) (CU.ptr _) l (fun a=>Hm a (MD x[i])) (fun a ha=>iG a x[i] (gy a ha).set) hl)) (Yi (by show(0:Int)<=i/\(i:Int)<(x.length:Nat);omega) (Yi (show x.length=((yk true (VX l) (x.take i)++x.drop i).map AC).length by rw[Lm,ZS]) (Xi (AC x[i]) (Yi (Ek (pU ni)) (yN ?_)))))));refine Yi (Ii i ch) (Xi ⟨i+1,ni⟩ ?_);exact⟨Dl x.length i ch,Z6,⟨Zr,Zr,⟨(show HO.arr 9 (((yk true (VX l) (x.take i)++x.drop i).map AC).set i [vs x[i].path,vi x[i].ver.a,vi x[i].ver.b,vi x[i].ver.c,sl AW x[i].reqs,vs x[i].arch,vs x[i].ifc,vs x[i].cert,vb true])=.arr 9 ((yk true (VX l) (x.take (i+1))++x.drop (i+1)).map AC) by rw[<-iM ni,Ap h4,JK]),rfl⟩,Tv⟩,Fh,Tv⟩
  have h4:(VX l (MD x[i]))=false:=h4;refine Xi .pure (Xi _ (Yi (cb h4 (Ab3 (fF:=105) (CU.ptr _) l (fun a=>Hm a (MD x[i])) (fun a ha=>iG a x[i] (gy a ha).set) hl)) (Yi (Ii i ch) (Xi ⟨i+1,ni⟩ ?_))));exact⟨Dl x.length i ch,Z6,⟨Zr,Zr,⟨(show HO.arr 9 ((yk true (VX l) (x.take i)++x.drop i).map AC)=.arr 9 ((yk true (VX l) (x.take (i+1))++x.drop (i+1)).map AC) by rw[<-iM ni,Aj (by rw[h4];decide),cJ (pU ni)]),rfl⟩,Tv⟩,Fh,Tv⟩
 have h3:¬((i:Int)<(x.length:Int)):=h3;have n3:¬i<x.length:=by omega
 refine Yi (show x.length=((yk true (VX l) (x.take i)++x.drop i).map AC).length by rw[Lm,ZS]) ?_;refine cU [(4,.ref 4 0),(9,.ref 9 0)] [(4,.cells [nzA,nzA]),(9,.cells [.slice (.id 12200 9) ((yk true (VX l) (x.take i)++x.drop i).map AC),.slice .none ifs]),(12200,.tok 9 ((yk true (VX l) (x.take i)++x.drop i).map AC).length)] Z2 Z3 (yN (yN (yN ?_)));exact CX.of_eq (show AV.tup [Iu (yk true (VX l) (x.take i)++x.drop i) ifs,vi 0]=sf x ifs l by rw[sf,Ap c0,Av ch,CA ch,BQ])
theorem pK(l:List Ad)(hx:Uc x)(vC:∀r∈x,r.reqs.length<=1000)(hl:B8 l)(gy:∀a∈l,Ks a)(hcl:PC 103 [.slice .none ifs] (.slice .none ifs)):PC 62 [Iu x ifs,sl BA l] (sf x ifs l):=by
 by_cases c0:Mf x l=0
 .exact sN x ifs l hx vC hl gy hcl c0
 .exact sM x ifs l hx vC hl gy hcl c0
theorem pD(s:Sl)(a:Ad)(ha:B8 a.set):PC 80 [.agg (Aq s),.cptr (BA a)] (vb (Hm a s)):=by
 refine Ps (pC [2] []) Tryz.func80 rfl (Nz rfl) (yN (yN (BX (Bt (Hm a s)) (fun h1=>?_) (fun h1=>?_))))
 .have h1:(Hm a s)=true:=h1;refine Xi .pure (Xi _ (Yi (cb h1 (ZO a s ha)) ?_));exact CX.of_eq (Aa vb (show true=Hm a s from h1.symm))
 have h1:(Hm a s)=false:=h1;refine Xi .pure (Xi _ (Yi (cb h1 (ZO a s ha)) ?_));exact CX.of_eq (Aa vb (show false=Hm a s from h1.symm))
theorem GB(s:List Sl)(ha:B8 a.set)(hs:B8 s):PC 41 [.agg (BA a),sl Aq s] (vb (s.any (Hm a))):=by
 refine Ps (pC [2] []) Tryz.func41 rfl (Nz rfl) (BX (Bt (s.any (Hm a))) (fun h1=>?_) (fun h1=>?_))
 .have h1:(s.any (Hm a))=true:=h1;refine Xi .pure (Xi _ (Yi (cb h1 (o25 (fF:=80) (CU.ptr _) s (Hm a) (fun y _=>pD y a ha) hs)) ?_));exact CX.of_eq (Aa vb (show true=s.any (Hm a)from h1.symm))
 have h1:(s.any (Hm a))=false:=h1;refine Xi .pure (Xi _ (Yi (cb h1 (o25 (fF:=80) (CU.ptr _) s (Hm a) (fun y _=>pD y a ha) hs)) ?_));exact CX.of_eq (Aa vb (show false=s.any (Hm a)from h1.symm))
theorem AaN(y:Sl)(a:Ad):PC 109 [.agg (Aq y),.cptr (BA a)] (vb (decide (y.path=a.path))):=by
 refine Ps (pC [2] []) Tryz.func109 rfl (Nz rfl) (Yi (fun h1=>?_) (fun h1=>?_))
 .have h1:(y.path:ByteArray)=a.path:=h1;exact CX.of_eq (Aa vb (show true=decide (y.path=a.path)from(Ak h1).symm))
 have h1:¬(y.path:ByteArray)=a.path:=h1;exact CX.of_eq (Aa vb (show false=decide (y.path=a.path)from(Ae h1).symm))
structure Wd where
 client:Nat
 rel:Rl
abbrev CC(w:Wd):List AV:=vi ((w.client:Nat):Int)::AC w.rel
abbrev BF(q:List Rq):List AV:=[sl AW q]
def Ti:Sl->Bool:=fun y=>decide (y.path=a.path)
def Ab4:Rl:=⟨⟨#[]⟩,⟨0,0,0⟩,[],⟨#[]⟩,⟨#[]⟩,⟨#[]⟩,false⟩
def BO(q:List Rq):Rl:=(((B9 x q).find? (Ti a)).bind (CV x)).getD Ab4
def In(q:List Rq):Bool:=decide (EV x q=0)&&(B9 x q).any (Hm a)&&!decide (EV sx q=0)
def Nr(x sx:List Rl)(a:Ad):List (List Rq)->Nat->List Wd
 | [],_=>[]
 |q::r,i=>if In x sx a q=true then⟨i,BO x a q⟩::Nr x sx a r (i+1)else Nr x sx a r (i+1)
def Kb(cl:List (List Rq)):List Wd:=Nr x sx a cl 0
theorem aT(x sx:List Rl)(a:Ad):∀(l m:List (List Rq)) (i:Nat),Nr x sx a (l++m) i=Nr x sx a l i++Nr x sx a m (i+l.length)
 | [],m,i=>rfl
 |q::l,m,i=>by
  rw[HB,Nr,Nr,aT x sx a l m (i+1),Al,show i+1+l.length=i+(l.length+1) by omega];split
  .rfl
  .rfl
theorem TN{x sx:List Rl}{a:Ad}{cl:List (List Rq)}(h:i<cl.length):Kb x sx a (cl.take (i+1))=Kb x sx a (cl.take i)++if In x sx a cl[i]=true then [⟨i,BO x a cl[i]⟩]else []:=by
 rw[BN h,Kb,aT,Ax,Xb ch,Bb]
 rfl
theorem Qk(x sx:List Rl)(a:Ad):∀(l:List (List Rq)) (i:Nat),(Nr x sx a l i).length<=l.length
 | [],i=>Am _
 |q::l,i=>by
  have q1:=Qk x sx a l (i+1);rw[Nr];split
  .simp only[Al];omega
  .simp only[Al];omega
theorem Wn{x:List Rl}{a:Ad}{q:List Rq}(h:EV x q=0)(hc:(B9 x q).any (Hm a)=true):∃k,∃hk:k<(B9 x q).length,FS (Ti a) (B9 x q) 0=((k:Nat):Int)/\CV x ⟨(B9 x q)[k].path,(B9 x q)[k].ver⟩=some (BO x a q):=by
 obtain⟨y,hy,hb⟩:=Ba.1 hc;have hp:Ti a y=true:=by
  simp only[Hm,Af]at hb;exact hb.1.2
 have hk:(B9 x q).findIdx (Ti a)<(B9 x q).length:=List.findIdx_lt_length_of_exists ⟨y,hy,hp⟩;have WL:Ti a (B9 x q)[(B9 x q).findIdx (Ti a)]=true:=List.findIdx_getElem (w:=hk);have Rr:∀j (hj:j<(B9 x q).length),j<(B9 x q).findIdx (Ti a)->Ti a (B9 x q)[j]=false:=fun j hj I6=>by
  have q:=List.not_of_lt_findIdx I6;simpa using q
 refine⟨_,hk,by rw[H2 hk Rr WL,EF],?_⟩;have hf:=mA hk Rr WL;obtain⟨r,hr,he⟩:=(L8 h).1 _ (Ao hk);rw[BO,hf];show CV x _=some ((CV x _).getD Ab4);have hs:(CV x ((B9 x q)[(B9 x q).findIdx (Ti a)])).isSome=true:=by
  rw[CV,Aj (by rw[(L8 h).2.2];decide),List.find?_isSome];exact⟨r,hr,Ak he⟩
 obtain⟨r',rc⟩:=Option.isSome_iff_exists.1 hs;show CV x ((B9 x q)[(B9 x q).findIdx (Ti a)])=_;rw[rc];rfl
end Go.Eng
