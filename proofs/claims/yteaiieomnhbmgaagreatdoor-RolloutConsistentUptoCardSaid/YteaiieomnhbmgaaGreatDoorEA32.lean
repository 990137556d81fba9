/- Lemmas 32. -/
import Derived.Test.YteaiieomnhbmgaaGreatDoorEA31
set_option maxHeartbeats 4000000
namespace Go.Eng
open Go.Proofs
variable {l m:List Sl}{Bp:List (List ByteArray)}{i:Nat}{α:Type}{p:α->Bool}{caps:List AV}{t t':Int}{fF:Nat}(x:List Rl)(ifs:List (List AV))(r:Ro)(P:List (List ByteArray))(s user:ByteArray)(AR:Int)
theorem wi(n:Nat)(h0:0<n)(h1:n<=1000000000):Bc Tryz.prog 94 [nzA,.v (.int .i64 (n:Int))] Af fun r h'=>r=.slice (.id 2000 1) []/\h'=Ap [(2000,.tok 1 0)] Af:=by
 obtain⟨i0,sN⟩:∃i0,Tryz.prog.info? 9=some i0:=Option.isSome_iff_exists.1 Wk;have uT:i0.size=1:=by
  have q:(Tryz.prog.info? 9).map (·.size)=some 1:=by kernel_rfl
  rw[sN]at q;exact Cq q
 have hb:i0.bytes=16:=by
  have q:(Tryz.prog.info? 9).map (·.bytes)=some 16:=by kernel_rfl
  rw[sN]at q;exact Cq q
 obtain⟨z,hz⟩:∃z,i0.zero=some z/\z.cells.size=1:=by
  have q:((Tryz.prog.info? 9).bind (·.zero)).map (·.cells.size)=some 1:=by kernel_rfl
  rw[sN]at q;cases e:i0.zero with
  |none=>simp[e]at q
  |some z=>simp[e]at q;exact⟨z,rfl,q⟩
 refine cz (ah 94 Tryz.func94 Wk rfl) fun w=>?_;refine(Any8.slices_Grow_grow Tryz.layGrow i0 z sN hz.1 (by rw[uT];decide) none 0 0 n [] w (Ak _) ch (by rw[hb];omega) ch B0 (fun _=>rfl) (fun a e=>by cases e)).mono ?_
 rintro e w' ⟨rfl,rfl⟩
 obtain⟨G,hG⟩:∃G,G=Go.grownCap w (0+n) 0 9:=⟨_,rfl⟩;have hGn:0+n<=G:=hG▸Go.grownCap_ge w _ _ _;have e9:(Tryz.layGrow_ren.t 25)=9:=rfl;rw[e9,<-hG];refine⟨G,_,_,rfl,?_,rfl⟩;have zc:∀(c:Array Value) (k:Nat),(Builtin.zeroCells c k).size=c.size*k:=fun c k=>by
  unfold Builtin.zeroCells;simp[Nat.mul_comm]
 rw[Array.size_append,Array.size_append,zc,zc,hz.2];simp only[D8,Au];omega
theorem r7:PC 94 [nzA,.v (.int .i64 0)] nzA:=
 Kp [.slice none 0 0,.int .i64 0] (.slice none 0 0) (ah 94 Tryz.func94 Wk rfl) rfl (fun g w=>.v _ _) fun w _=>Any8.slices_Grow_room Tryz.layGrow none 0 0 0 w ch ch ch ch
theorem we(hP:P.length<=1000)(RA:∀p∈P,p.length<=1000)(TK:∀i,(P.take i).flatten.length<=1000000000)(hz:0<P.flatten.length):PC 55 [sl BZ P] (sl Ax P.flatten):=by
 refine Ps Ej Tryz.func55 rfl (Nz rfl) (Xi {q:Nat // q<=P.length} (Xi (fun q=>⟨[(0,sl BZ P),(3,vi ((P.take q.1).flatten).length),(9,sl BZ P),(10,vi (P.map BZ).length),(11,vi q.1)],[],Af⟩) (Xi (fun q=>P.length-q.1) (Yi (Xi ⟨0,AA _⟩ ?_) ?_))))
 .exact⟨Z5,Tv,Fh,Tv⟩
 intro⟨i,i1⟩;have hfi:=TK i;refine Yi (fun h1=>?_) (fun h1=>?_)
 .have h1:(i:Int)<((P.map BZ).length:Int):=h1;have n1:=EE h1;have Xs:=RA _ (Al n1);have SF:((P[i]).map Ax).length<=1000:=by rw[Lm];exact Xs
  refine Xi (BZ P[i]) (Yi (IU n1) (Yi rfl (Yi (by show Ba ((((P.take i).flatten).length:Int)+((P[i].map Ax).length:Int));unfold Ba;omega) ?_)));refine Yi (fun h2=>?_) (fun h2=>?_)
  .exact absurd h2 ch
  refine Yi (Ii i ch) (Xi ⟨i+1,n1⟩ ?_);exact⟨Dl P.length i ch,⟨Zr,⟨(Aa vi (show((P.take i).flatten).length+(P[i].map Ax).length=((((P.take (i+1)).flatten).length:Nat):Int) by rw[Gz n1,Ac,Lm];omega)),rfl⟩,Zr,Zr,Zr,Tv⟩,Tv,Fh,Tv⟩
 have n1:=Dd h1;refine Xi (.gen [] 1) (Yi rfl (Bc.to2 (show Bc Tryz.prog 94 [nzA,.v (.int .i64 (((P.take i).flatten).length:Nat))] Af _ by rw[(show P.take i=P from At (A3 (Dd h1)))];exact wi P.flatten.length hz (by have q:=TK P.length;rw[B9]at q;omega)) ?_));refine Xi {q:Nat // q<=P.length} (Xi (fun q=>⟨[(6,.slice (.id 12400 1) (((P.take q.1).flatten).map Ax)),(25,sl BZ P),(26,vi (P.map BZ).length),(27,vi q.1)],[(12400,.tok 1 (((P.take q.1).flatten).map Ax).length)],Af⟩) (Xi (fun q=>P.length-q.1) (Yi (Xi ⟨0,AA _⟩ ?_) ?_)))
 .exact⟨Z4,Z1,Fh,Tv⟩
 intro⟨k,k1⟩;have hfk:=TK k;refine Yi (fun h5=>?_) (fun h5=>?_)
 .have h5:(k:Int)<((P.map BZ).length:Int):=h5;have n5:=EE h5;have Xs:=RA _ (Al n5);have SF:((P[k]).map Ax).length<=1000:=by rw[Lm];exact Xs
  refine Xi (BZ P[k]) (Yi (IU n5) (Yi rfl ?_));have b6:Cf 1 (P[k].map Ax)/\(((P.take k).flatten).map Ax).length=(((P.take k).flatten).map Ax).length/\((((P.take k).flatten).map Ax).length+(P[k].map Ax).length)*16<=140737488355328/\(((P.take k).flatten).map Ax).length+(P[k].map Ax).length<=9223372036854775807:=⟨(DK (enc:=Ax) (n:=1) (fun _=>rfl) P[k]),rfl,(by simp only[Lm];omega),(by simp only[Lm];omega)⟩;refine Yi b6 (Yi (Ii k ch) ?_);have ew:(((P.take k).flatten).map Ax++(P[k]).map Ax)=((P.take (k+1)).flatten).map Ax:=by rw[Gz n5,As]
  refine Xi ⟨k+1,n5⟩ ?_;exact⟨Dl P.length k ch,⟨⟨(Aa (AV.slice (.id 12400 1)) ew),rfl⟩,Zr,Zr,Zr,Tv⟩,⟨⟨(show HO.tok 1 ((((P.take k).flatten).map Ax).length+(P[k].map Ax).length)=.tok 1 (((P.take (k+1)).flatten).map Ax).length from Aa (HO.tok 1) (Ac.symm.trans (Aa List.length ew))),rfl⟩,Tv⟩,Fh,Tv⟩
 have h5:¬((k:Int)<((P.map BZ).length:Int)):=h5;have n5:=Dd h5;exact CY.of_eq (show sl Ax ((P.take k).flatten)=sl Ax P.flatten by rw[At (l:=P) (i:=k) (A3 (Dd h5))])
theorem wg(hP:P.length<=1000)(RA:∀p∈P,p.length<=1000)(TK:∀i,(P.take i).flatten.length<=1000000000)(hz:P.flatten.length=0):PC 55 [sl BZ P] (sl Ax P.flatten):=by
 refine Ps (pT [] [(6,1)] []) Tryz.func55 rfl (Nz rfl) (Xi {q:Nat // q<=P.length} (Xi (fun q=>⟨[(0,sl BZ P),(3,vi ((P.take q.1).flatten).length),(9,sl BZ P),(10,vi (P.map BZ).length),(11,vi q.1)],[],Af⟩) (Xi (fun q=>P.length-q.1) (Yi (Xi ⟨0,AA _⟩ ?_) ?_))))
 .exact⟨Z5,Tv,Fh,Tv⟩
 intro⟨i,i1⟩;have hfi:=TK i;refine Yi (fun h1=>?_) (fun h1=>?_)
 .have h1:(i:Int)<((P.map BZ).length:Int):=h1;have n1:=EE h1;have Xs:=RA _ (Al n1);have SF:((P[i]).map Ax).length<=1000:=by rw[Lm];exact Xs
  refine Xi (BZ P[i]) (Yi (IU n1) (Yi rfl (Yi (by show Ba ((((P.take i).flatten).length:Int)+((P[i].map Ax).length:Int));unfold Ba;omega) ?_)));refine Yi (fun h2=>?_) (fun h2=>?_)
  .exact absurd h2 ch
  refine Yi (Ii i ch) (Xi ⟨i+1,n1⟩ ?_);exact⟨Dl P.length i ch,⟨Zr,⟨(Aa vi (show((P.take i).flatten).length+(P[i].map Ax).length=((((P.take (i+1)).flatten).length:Nat):Int) by rw[Gz n1,Ac,Lm];omega)),rfl⟩,Zr,Zr,Zr,Tv⟩,Tv,Fh,Tv⟩
 have n1:=Dd h1;refine Xi .pure (Xi _ (Yi (show PC 94 [nzA,vi (((P.take i).flatten).length:Nat)] nzA by rw[(show P.take i=P from At (A3 (Dd h1))),hz];exact r7) ?_));refine Xi {q:Nat // q<=P.length} (Xi (fun q=>⟨[(6,.slice (.id 6 1) (((P.take q.1).flatten).map Ax)),(25,sl BZ P),(26,vi (P.map BZ).length),(27,vi q.1)],[(6,.tok 1 (((P.take q.1).flatten).map Ax).length)],Af⟩) (Xi (fun q=>P.length-q.1) (Yi (Xi ⟨0,AA _⟩ ?_) ?_)))
 .exact⟨Z4,Z1,Fh,Tv⟩
 intro⟨k,k1⟩;have hfk:=TK k;refine Yi (fun h4=>?_) (fun h4=>?_)
 .have h4:(k:Int)<((P.map BZ).length:Int):=h4;have n4:=EE h4;have Xs:=RA _ (Al n4);have SF:((P[k]).map Ax).length<=1000:=by rw[Lm];exact Xs
  refine Xi (BZ P[k]) (Yi (IU n4) (Yi rfl ?_));have b5:Cf 1 (P[k].map Ax)/\(((P.take k).flatten).map Ax).length=(((P.take k).flatten).map Ax).length/\((((P.take k).flatten).map Ax).length+(P[k].map Ax).length)*16<=140737488355328/\(((P.take k).flatten).map Ax).length+(P[k].map Ax).length<=9223372036854775807:=⟨(DK (enc:=Ax) (n:=1) (fun _=>rfl) P[k]),rfl,(by simp only[Lm];omega),(by simp only[Lm];omega)⟩;refine Yi b5 (Yi (Ii k ch) ?_);have ew:(((P.take k).flatten).map Ax++(P[k]).map Ax)=((P.take (k+1)).flatten).map Ax:=by rw[Gz n4,As]
  refine Xi ⟨k+1,n4⟩ ?_;exact⟨Dl P.length k ch,⟨⟨(Aa (AV.slice (.id 6 1)) ew),rfl⟩,Zr,Zr,Zr,Tv⟩,⟨⟨(show HO.tok 1 ((((P.take k).flatten).map Ax).length+(P[k].map Ax).length)=.tok 1 (((P.take (k+1)).flatten).map Ax).length from Aa (HO.tok 1) (Ac.symm.trans (Aa List.length ew))),rfl⟩,Tv⟩,Fh,Tv⟩
 have h4:¬((k:Int)<((P.map BZ).length:Int)):=h4;have n4:=Dd h4;exact CY.of_eq (show sl Ax ((P.take k).flatten)=sl Ax P.flatten by rw[At (l:=P) (i:=k) (A3 (Dd h4))])
theorem Io(ci:Bp.length<=1000)(RA:∀p∈Bp,p.length<=1000)(i:Nat):(Bp.take i).flatten.length<=1000000:=by
 have q:=TE RA Bp.length;have q2:(Bp.take i).flatten.length<=Bp.flatten.length:=by
  conv=>rhs;rw[<-Gx i Bp,Ci,Ac]
  omega
 rw[B9]at q;have q3:=Bh 1000 ci;omega
theorem tf(hP:P.length<=1000)(RA:∀p∈P,p.length<=1000):PC 55 [sl BZ P] (sl Ax P.flatten):=
 (Nat.eq_zero_or_pos P.flatten.length).elim (wg P hP RA (fun i=>AG (Io hP RA i) Cl)) (we P hP RA (fun i=>AG (Io hP RA i) Cl))
def FL:List ByteArray:=((r.waves.take (TZ r user AR)).map (fun v:Wv=>v.paths)).flatten
def ON(l m:List Sl)(r:Ro)(user:ByteArray)(AR:Int):List Sl:=if KV x l m r=0 then if PO x l m (FL r user AR)=0 then D5 (Ti l m (FL r user AR))else []else []
def sw(l m:List Sl)(r:Ro)(user:ByteArray)(AR:Int):Int:=if KV x l m r=0 then PO x l m (FL r user AR)else KV x l m r
def ZN(l m:List Sl)(r:Ro)(user:ByteArray)(AR:Int):AV:=.tup [sl Ae (ON x l m r user AR),vi (sw x l m r user AR)]
theorem zi(e:Int):CY (.tup [nzA,vi e]) (.tup [sl Ae [],vi e]):=CY.tup (show K8 [nzA,vi e] [sl Ae [],vi e]from⟨CY.nil,CY.refl _,trivial⟩)
theorem Adx{f:Nat}{args:List AV}{e:Int}(hc:PC f args (.tup [nzA,vi e])):PC f args (.tup [sl Ae [],vi e]):=Bc.mono hc fun _ _ ⟨e1,e2⟩=>⟨_,e1▸zi e,rfl,e2⟩
theorem ia(r:Ro)(user:ByteArray)(AR:Int):∀(l:List Wv) (i:Nat),LY r user AR i l<=i+l.length
 | [],i=>Ak _
 |v::l,i=>by
  rw[LY];split
  .omega
  .have q:=ia r user AR l (i+1);rw[Am];omega
theorem Zu:TZ r user AR<=r.waves.length:=by have q:=ia r user AR r.waves 0;rw[TZ];omega
theorem z7(l m:List Sl)(r:Ro)(user:ByteArray)(AR:Int)(hx:∀r∈x,En r)(JS:l.length<=16)(FK:m.length<=16)(hr:MV r)(hn:r.name.size<=10000000)(hu:user.size<=100000000)(c0:¬KV x l m r=0):PC 21 [.agg (Ic x ifs),sl Ae l,sl Ae m,.agg (Ce r),vs user,vi AR] (ZN x l m r user AR):=by
 refine Ps (pC [6,9] []) Tryz.func21 rfl (Nz rfl) (yN (yN (Xi .pure (Xi _ (Yi (by have q:=g8 x ifs l m r user AR hx JS FK hr hn hu;rw[kP,Aj c0]at q;exact q) ?_)))));refine Yi (fun h1=>?_) (fun h1=>?_)
 .exact CY.trans (show CY _ (.tup [sl Ae [],vi (KV x l m r)])from zi (KV x l m r)) (CY.of_eq (show AV.tup [sl Ae [],vi (KV x l m r)]=ZN x l m r user AR by rw[ZN,ON,sw,Aj c0,Aj c0]))
 have h1:((KV x l m r):Int)=(0:Int):=AJ h1;exact absurd h1 c0
theorem z8(l m:List Sl)(r:Ro)(user:ByteArray)(AR:Int)(hx:∀r∈x,En r)(JS:l.length<=16)(FK:m.length<=16)(hr:MV r)(hn:r.name.size<=10000000)(hu:user.size<=100000000)(c0:KV x l m r=0)(c1:PO x l m (FL r user AR)=0):PC 21 [.agg (Ic x ifs),sl Ae l,sl Ae m,.agg (Ce r),vs user,vi AR] (ZN x l m r user AR):=by
 have hP:((r.waves.take (TZ r user AR)).map (fun v:Wv=>v.paths)).length<=1000:=by have q:=hr.wv;rw[Lm,Aw];omega
 have RA:∀p∈(r.waves.take (TZ r user AR)).map (fun v:Wv=>v.paths),p.length<=1000:=fun p hp=>by obtain⟨v,hv,rfl⟩:=Ai.1 hp;exact hr.pt v (CT hv)
 have aO:B8 (FL r user AR):=by have q:=Io hP RA ((r.waves.take (TZ r user AR)).map (fun v:Wv=>v.paths)).length;rw[B9]at q;exact AG q Cl
 refine Ps (pC [6,9] []) Tryz.func21 rfl (Nz rfl) (yN (yN (Xi .pure (Xi _ (Yi (by have q:=g8 x ifs l m r user AR hx JS FK hr hn hu;rw[kP,Ao c0]at q;exact q) ?_)))));refine Yi (fun h=>absurd h Cl) (fun _=>?_);refine yN (yN (Xi _ (Yi (Zp r (TZ r user AR) (Zu r user AR) (AG hr.wv Cl)) (Xi _ (Yi (tf ((r.waves.take (TZ r user AR)).map (fun v:Wv=>v.paths)) hP RA) (Xi _ (Yi (by have q:=oO x ifs l m (FL r user AR) hx JS FK aO;rw[Tj,Ao c1]at q;exact q) ?_)))))));refine Yi Wk ?_;exact CY.of_eq (show AV.tup [sl Ae (D5 (Ti l m (FL r user AR))),vi 0]=ZN x l m r user AR by rw[ZN,ON,sw,Ao c0,Ao c0,Ao c1,c1])
theorem Aa0(l m:List Sl)(r:Ro)(user:ByteArray)(AR:Int)(hx:∀r∈x,En r)(JS:l.length<=16)(FK:m.length<=16)(hr:MV r)(hn:r.name.size<=10000000)(hu:user.size<=100000000)(c0:KV x l m r=0)(c1:¬PO x l m (FL r user AR)=0):PC 21 [.agg (Ic x ifs),sl Ae l,sl Ae m,.agg (Ce r),vs user,vi AR] (ZN x l m r user AR):=by
 have hP:((r.waves.take (TZ r user AR)).map (fun v:Wv=>v.paths)).length<=1000:=by have q:=hr.wv;rw[Lm,Aw];omega
 have RA:∀p∈(r.waves.take (TZ r user AR)).map (fun v:Wv=>v.paths),p.length<=1000:=fun p hp=>by obtain⟨v,hv,rfl⟩:=Ai.1 hp;exact hr.pt v (CT hv)
 have aO:B8 (FL r user AR):=by have q:=Io hP RA ((r.waves.take (TZ r user AR)).map (fun v:Wv=>v.paths)).length;rw[B9]at q;exact AG q Cl
 refine Ps (pC [6,9] []) Tryz.func21 rfl (Nz rfl) (yN (yN (Xi .pure (Xi _ (Yi (by have q:=g8 x ifs l m r user AR hx JS FK hr hn hu;rw[kP,Ao c0]at q;exact q) ?_)))));refine Yi (fun h=>absurd h Cl) (fun _=>?_);refine yN (yN (Xi _ (Yi (Zp r (TZ r user AR) (Zu r user AR) (AG hr.wv Cl)) (Xi _ (Yi (tf ((r.waves.take (TZ r user AR)).map (fun v:Wv=>v.paths)) hP RA) (Xi _ (Yi (by have q:=oO x ifs l m (FL r user AR) hx JS FK aO;rw[Tj,Aj c1]at q;exact Adx q) ?_)))))));refine Yi Wk ?_;exact CY.of_eq (show AV.tup [sl Ae [],vi (PO x l m (FL r user AR))]=ZN x l m r user AR by rw[ZN,ON,sw,Ao c0,Ao c0,Aj c1])
theorem ku(l m:List Sl)(r:Ro)(user:ByteArray)(AR:Int)(hx:∀r∈x,En r)(JS:l.length<=16)(FK:m.length<=16)(hr:MV r)(hn:r.name.size<=10000000)(hu:user.size<=100000000):PC 21 [HH x ifs,sl Ae l,sl Ae m,.agg (Ce r),vs user,vi AR] (ZN x l m r user AR):=by
 by_cases c0:KV x l m r=0
 .by_cases c1:PO x l m (FL r user AR)=0
  .exact z8 x ifs l m r user AR hx JS FK hr hn hu c0 c1
  .exact Aa0 x ifs l m r user AR hx JS FK hr hn hu c0 c1
 .exact z7 x ifs l m r user AR hx JS FK hr hn hu c0
theorem gt{x:List Rl}{s:List Sl}(h:OA x s=0){y:Sl}(hy:y∈s):∃r∈x,Gn r=y:=by
 have q:=h;unfold OA at q;rw[Ao (Vs h),Ao (Kn h)]at q;split at q
 .rename_i h3;have q:=AZ.1 h3 y hy;cases e:Dh x y with
  |none=>rw[e]at q;cases q
  |some r=>exact⟨r,(JX e).2.1,(JX e).2.2⟩
 .exact absurd q Cl
theorem qT(hl:l.Pairwise Vi)(hm:m.Pairwise Vi){p:ByteArray}:p∈JJ l m↔Jo l p≠Jo m p:=by
 obtain⟨_,h2,h3⟩:=Vn l m hl hm;unfold JJ;rw[h3,Ai];constructor
 .rintro⟨v,hv,rfl⟩
  obtain⟨q,_,e⟩:=List.mem_filterMap.1 hv;unfold Jy at e;split at e
  .rename_i DD;cases e;exact DD
  .cases e
 .intro DD;have hp:p∈mp l m:=(h2 p).2 (by
   rcases Classical.em (p∈l.map (·.path))with q | q
   .exact .inl q
   .refine .inr (AJ fun q2=>DD ?_);rw[TV (fun s hs e=>q (Ai.2 ⟨s,hs,e⟩)),TV (fun s hs e=>q2 (Ai.2 ⟨s,hs,e⟩))])
  exact⟨⟨p,Jo l p,Jo m p⟩,List.mem_filterMap.2 ⟨p,hp,by unfold Jy;rw[Ao DD]⟩,rfl⟩
theorem vA(h:l.Pairwise Vi){s:Sl}(hs:s∈l):Jo l s.path=place s.ver:=by
 unfold Jo;rw[Kd (RE ocP h) hs]
theorem om{x:List Rl}(hl:OA x l=0)(hm:OA x m=0){s t:Sl}(hs:s∈l)(ht:t∈m)(h1:s.path=t.path)(h2:place s.ver=place t.ver):s=t:=by
 obtain⟨a,ha,rfl⟩:=gt hl hs;obtain⟨b,hb,rfl⟩:=gt hm ht;rw[Zh (CC (Vs hl)) ha hb h1 h2]
theorem fU{x:List Rl}(hl:OA x l=0)(hm:OA x m=0)(fl:B8 l){s:Sl}(hs:s∈l)(e:Jo l s.path=Jo m s.path):s∈m:=by
 rw[vA (It (Kn hl)) hs]at e;cases f:B2 m s.path with
 |none=>
  have q:Jo m s.path=-1:=by unfold Jo;rw[f]
  have v:=Jq ((GQ hl fl).val s hs);unfold place at e;omega
 |some t=>
  have ht:t∈m:=BF f;have hp:t.path=s.path:=by
   have q:=DP (show m.find? (fun x=>decide (x.path=s.path))=some t from f);exact AK q
  have q:Jo m s.path=place t.ver:=by unfold Jo;rw[f]
  rw[om hl hm hs ht hp.symm (e.trans q)];exact ht
theorem tX{x:List Rl}{mv:List ByteArray}(hl:OA x l=0)(hm:OA x m=0)(fl:B8 l)(fm:B8 m)(h:∀p∈JJ l m,p∈mv):D5 (Ti l m mv)=m:=by
 have il:=It (Kn hl);have im:=It (Kn hm);have out:∀p,Hk mv p=false->Jo l p=Jo m p:=fun p hp=>AJ fun c=>by
  have:=Vl.2 (h p ((qT il im).2 c));rw[hp]at this;cases this
 refine Ln (LR (Up il im mv)) im fun y=>?_;rw[GA,Ti,AP,By,By];constructor
 .rintro(⟨h1,h2⟩ | ⟨h1,_⟩)
  .have h2:Hk mv y.path=false:=by simpa using h2
   exact fU hl hm fl h1 (out _ h2)
  .exact h1
 .intro hy;cases e:Hk mv y.path with
  |true=>exact .inr ⟨hy,rfl⟩
  |false=>exact .inl ⟨fU hm hl fm hy (out _ e).symm,rfl⟩
theorem fo(il:l.Pairwise Vi)(im:m.Pairwise Vi):D5 (Ti l m [])=l:=
 Ln (LR (Up il im [])) il fun y=>by rw[GA,Ti];simp[Hk]
theorem Yx{x:List Rl}(h:Hx x l m Bp=0):Q0 x l m=0/\(∀p,p∈Bp.flatten↔p∈JJ l m)/\eQ x l m Bp=true:=by
 unfold Hx at h;split at h
 .rename_i h1;split at h
  .split at h
   .rename_i h3;split at h
    .rename_i h4;exact⟨h1,fun p=>by rw[<-h3];exact(J6 Bp.flatten).1.mem_iff.symm,h4⟩
    .exact absurd h Cl
   .exact absurd h Cl
  .exact absurd h Cl
 .rename_i h1;exact absurd h h1
theorem bU:∀{l:List Wv},Kx l=0->∀v∈l,Dr v.stages=0
 | [],_,_,h=>by cases h
 |w::l,h,v,hv=>by
  unfold Kx at h;split at h
  .rename_i h1;rcases AC.1 hv with rfl | hv
   .exact h1
   .exact bU h v hv
  .rename_i h1;exact absurd h h1
theorem Tb{x:List Rl}{r:Ro}(h:KV x l m r=0):Hx x l m (MS r)=0/\∀v∈r.waves,Dr v.stages=0:=by
 unfold KV at h;split at h
 .rename_i h1;split at h
  .exact absurd h Cl
  .exact⟨h1,bU h⟩
 .rename_i h1;exact absurd h h1
theorem No:FL r user AR=((MS r).take (TZ r user AR)).flatten:=by rw[FL,MS,Tg]
theorem PK{x:List Rl}{r:Ro}(h:KV x l m r=0):PO x l m (FL r user AR)=0/\sw x l m r user AR=0/\ON x l m r user AR=D5 (Ti l m (FL r user AR)):=by
 obtain⟨h1,h2,_⟩:=Yx (Tb h).1;have e:PO x l m (FL r user AR)=0:=by
  unfold PO;rw[Ao h1,Aj];intro c;obtain⟨p,hp,k⟩:=Bd.1 c
  have:Hk (JJ l m) p=true:=Vl.2 ((h2 p).1 (by
   rw[No]at hp;obtain⟨q,hq,hp⟩:=D3.1 hp;exact D3.2 ⟨q,CT hq,hp⟩))
  rw[this]at k;cases k
 refine⟨e,?_,?_⟩
 .unfold sw;rw[Ao h,e]
 .unfold ON;rw[Ao h,Ao e]
theorem rQ{x:List Rl}(h:Q0 x l m=0):ER x l=0/\ER x m=0:=by
 unfold Q0 at h;split at h
 .rename_i h1;exact⟨h1,h⟩
 .rename_i h1;exact absurd h h1
theorem pN{x:List Rl}{r:Ro}(h:KV x l m r=0):ER x (ON x l m r user AR)=0:=by
 obtain⟨h1,h2,h3⟩:=Yx (Tb h).1;rw[(PK user AR h).2.2,No];have hn:=Zu r user AR;cases e:TZ r user AR with
 |zero=>
  rw[PB,List.flatten_nil,fo (It (Kn (MI h1).1)) (It (Kn (MI h1).2))];exact(rQ h1).1
 |succ k=>
  rw[e]at hn;exact AK (AZ.1 h3 k (FC.2 (by rw[MS,Lm];omega)))
theorem X5{r:Ro}{user:ByteArray}{AR:Int}:∀{l:List Wv} (i:Nat),(∀v∈l,100<=GK v.stages AR)->LY r user AR i l=i+l.length
 | [],i,_=>rfl
 |v::l,i,h=>by
  have q:=(fu ((r.name++⟨#[47]⟩)++mV (i:Int)) user).2;have h1:=h v (Ab ..);rw[LY,Aj (by unfold Tw;intro c;have c:=AK c;omega),X5 (i+1) fun w hw=>h w (Ah _ hw),Am];omega
theorem Aae{r:Ro}{user:ByteArray}{AR:Int}(h:∀v∈r.waves,100<=GK v.stages AR):TZ r user AR=r.waves.length:=by rw[TZ,X5 0 h,Bf]
theorem so{r:Ro}{user:ByteArray}{AR:Int}(h:∀v∈r.waves,GK v.stages AR<=0):TZ r user AR=0:=by
 unfold TZ;cases e:r.waves with
 |nil=>rfl
 |cons v l=>
  have q:=(fu ((r.name++⟨#[47]⟩)++mV ((0:Nat):Int)) user).1;have h1:=h v (by rw[e];exact Ab ..);rw[LY,Ao (by unfold Tw;exact Ar ch)]
theorem fg{x:List Rl}{r:Ro}{user:ByteArray}{AR:Int}(h:KV x l m r=0)(hz:∀v∈r.waves,GK v.stages AR<=0):ON x l m r user AR=l:=by
 obtain⟨h1,_,_⟩:=Yx (Tb h).1;rw[(PK user AR h).2.2,No,so hz,PB,List.flatten_nil,fo (It (Kn (MI h1).1)) (It (Kn (MI h1).2))]
theorem lh{x:List Rl}{r:Ro}{user:ByteArray}{AR:Int}(h:KV x l m r=0)(fl:B8 l)(fm:B8 m)(hz:∀v∈r.waves,100<=GK v.stages AR):ON x l m r user AR=m:=by
 obtain⟨h1,h2,_⟩:=Yx (Tb h).1;rw[(PK user AR h).2.2,No,Aae hz,At (by rw[MS,Lm];exact Ak _)];exact tX (MI h1).1 (MI h1).2 fl fm fun p hp=>(h2 p).2 hp
theorem gN:∀{l:List Uc} {last:Int},RZ last l=0->-1<=last->∀s∈l,last<s.t/\0<=s.p/\s.p<=100
 | [],_,_,_,_,h=>by cases h
 |a::l,last,h,h0,s,hs=>by
  unfold RZ at h;split at h
  .exact absurd h Cl
  .rename_i h1;rcases AC.1 hs with rfl | hs
   .omega
   .have:=gN h ch s hs;omega
theorem Sa{l:List Uc}(h:Dr l=0):∀s∈l,-1<s.t/\0<=s.p/\s.p<=100:=by
 unfold Dr at h;split at h
 .exact absurd h Cl
 .exact gN h ch
theorem bH:∀{l:List Uc} {AR o:Int},(∀s∈l,AR<s.t)->l.foldl (I8 AR) o=o
 | [],_,_,_=>rfl
 |a::l,AR,o,h=>by
  rw[D0,I8,Aj (by have:=h a (Ab ..);omega)];exact bH fun s hs=>h s (Ah _ hs)
theorem rj{l:List Uc}(h:Dr l=0):GK l (-1)=0:=bH fun s hs=>(Sa h s hs).1
theorem nO:∀{l:List Uc} {t t' o o' : Int},t<=t'->o<=o'->(∀s∈l,o<=s.p/\o'<=s.p)->l.Pairwise (fun a b=>a.p<=b.p)->l.foldl (I8 t) o<=l.foldl (I8 t') o'
 | [],_,_,_,_,_,h,_,_=>h
 |a::l,t,t',o,o',ht,ho,h,hp=>by
  obtain⟨p1,p2⟩:=BH.1 hp;have h1:=h a (Ab ..);rw[D0,D0];refine nO ht ?_ (fun s hs=>?_) p2
  .unfold I8;split<;>split<;>omega
  .have h2:=h s (Ah _ hs);have h3:=p1 s hs;unfold I8;constructor<;>split<;>omega
theorem nN{l:List Uc}(h:Dr l=0)(hp:l.Pairwise (fun a b=>a.p<=b.p))(ht:t<=t'):GK l t<=GK l t':=
 nO ht (Bn _) (fun s hs=>⟨(Sa h s hs).2.1,(Sa h s hs).2.1⟩) hp
theorem X4{r:Ro}{user:ByteArray}{t t' : Int}:∀{l:List Wv} (i:Nat),(∀v∈l,GK v.stages t<=GK v.stages t')->LY r user t i l<=LY r user t' i l
 | [],_,_=>Ak _
 |v::l,i,h=>by
  have h1:=h v (Ab ..);have ih:=X4 (r:=r) (user:=user) (i+1) fun w hw=>h w (Ah _ hw);have low:∀(l:List Wv) (i:Nat),i<=LY r user t' i l:=fun l=>by
   induction l with
   |nil=>intro i;exact Ak _
   |cons w l ih=>intro i;rw[LY];split;exact Ak _;have:=ih (i+1);omega
  rw[LY];split
  .exact low _ _
  .rename_i h2;rw[LY,Aj]
   .exact ih
   .intro c;unfold Tw at c h2;have c:=AK c;exact h2 (Ar ch)
theorem sn{r:Ro}{user:ByteArray}(h:∀v∈r.waves,GK v.stages t<=GK v.stages t'):TZ r user t<=TZ r user t':=X4 0 h
theorem eY{l:List α}(h:i<l.length)(k:p l[i]=false):l.all p=false:=List.all_eq_false.2 ⟨l[i],Al h,by rw[k];decide⟩
theorem OL{l:List α}(h:∀j (hj:j<l.length),j<i->p l[j]=true)(hi:l.length<=i):l.all p=true:=AZ.2 fun x hx=>by
 obtain⟨j,hj,rfl⟩:=BU.1 hx;exact h j hj ch
def oy:Bool:=decide (s.size<=100)
def VD(p:List ByteArray):Bool:=decide (p.length<=20)&&p.all oy
def Nv(l:List (List ByteArray)):Bool:=l.all VD&&decide (l.length<=20)
def XY(v:Wv):Bool:=!(decide (12<v.stages.length)&&decide (v.stages.length<=1024))
def gK:Bool:=r.waves.all XY&&(Nv (MS r)&&(decide (r.name.size<=100)||decide (65536<r.name.size)))
theorem gX(l:List (List ByteArray))(hl:l.length<=1073741824)(hp:∀p∈l,p.length<=1073741824):PC 50 [sl BZ l] (vb (Nv l)):=by
 refine Ps Ej Tryz.func50 rfl (Nz rfl) (Xi {q:Nat // q<=l.length/\∀j (hj:j<l.length),j<q->VD l[j]=true} (Xi (fun q=>⟨[(0,sl BZ l),(3,vi q.1)],[],Af⟩) (Xi (fun q=>l.length-q.1) (Yi (Xi ⟨0,AA _,fun _ _ h=>absurd h (Fi _)⟩ ?_) ?_))))
 .exact⟨Z2,Tv,Fh,Tv⟩
 intro⟨i,i1,i2⟩;refine Yi (fun h1=>?_) (fun h1=>?_)
 .have h1:(i:Int)<((l.map BZ).length:Int):=h1;have n1:=EE h1;have hli:=hp _ (Al n1);refine Xi (BZ l[i]) (Yi (IU n1) (Yi rfl (Yi (fun h2=>?_) (fun h2=>?_))))
  .have n2:20<l[i].length:=by have q:=h2;rw[Lm]at q;omega
   exact CY.of_eq (Aa vb (show false=Nv l by rw[Nv,eY n1 (show VD l[i]=false by rw[VD,Av (by have q:=h2;rw[Lm]at q;omega),Bool.false_and]),Bool.false_and]))
  have n2:¬20<l[i].length:=by have q:=h2;rw[Lm]at q;omega
  refine Xi {q:Nat // q<=l[i].length/\∀j (hj:j<l[i].length),j<q->oy l[i][j]=true} (Xi (fun q=>⟨[(0,sl BZ l),(3,vi i),(4,vi q.1)],[],Af⟩) (Xi (fun q=>l[i].length-q.1) (Yi (Xi ⟨0,AA _,fun _ _ h=>absurd h (Fi _)⟩ ?_) ?_)))
  .exact⟨Z3,Tv,Fh,Tv⟩
  intro⟨k,k1,k2⟩;refine Xi (BZ l[i]) (Yi (IU n1) (Yi rfl (Yi (fun h4=>?_) (fun h4=>?_))))
  .have h4:(k:Int)<((l[i].map Ax).length:Int):=h4;have n4:=EE h4;refine Xi (BZ l[i]) (Yi (IU n1) (Yi rfl (Xi (Ax l[i][k]) (Yi (IU n4) (Yi rfl (Yi (fun h5=>?_) (fun h5=>?_)))))))
   .have h5:(100:Int)<(l[i][k].size:Int):=h5;exact CY.of_eq (Aa vb (show false=Nv l by rw[Nv,eY n1 (show VD l[i]=false by rw[VD,eY n4 (show oy l[i][k]=false from Av (by have q:=h5;omega)),Ck]),Bool.false_and]))
   have h5:¬((100:Int)<(l[i][k].size:Int)):=h5;refine Yi (Ii k ch) ?_;refine Xi ⟨k+1,n4,fun j hj IG=>by
     rcases B4 j k with e | e
     .exact k2 j hj e
     .have e:k=j:=by omega
      subst e;exact(Ar (by have q:=h5;omega))⟩ ?_
   exact⟨by show l[i].length-(k+1)<l[i].length-k;omega,Z3,Tv,Fh,Tv⟩
  have h4:¬((k:Int)<((l[i].map Ax).length:Int)):=h4;have n4:=Dd h4;refine Yi (Ii i ch) ?_;refine Xi ⟨i+1,n1,fun j hj IG=>by
    rcases B4 j i with e | e
    .exact i2 j hj e
    .have e:i=j:=by omega
     subst e;exact(by rw[VD,Ar (by have q:=h2;rw[Lm]at q;omega),OL k2 (A3 (Dd h4))];rfl)⟩ ?_
  exact⟨Dl l.length i ch,Z2,Tv,Fh,Tv⟩
 have h1:¬((i:Int)<((l.map BZ).length:Int)):=h1;have n1:=Dd h1;refine Yi (fun h9=>?_) (fun h9=>?_)
 .have h9:((l.map BZ).length:Int)<=(20:Int):=h9;exact CY.of_eq (Aa vb (show true=Nv l by rw[Nv,OL i2 (A3 (Dd h1)),Ar (by have q:=h9;rw[Lm]at q;omega)];rfl))
 have h9:¬(((l.map BZ).length:Int)<=(20:Int)):=h9;exact CY.of_eq (Aa vb (show false=Nv l by rw[Nv,OL i2 (A3 (Dd h1)),Av (by have q:=h9;rw[Lm]at q;omega)];rfl))
theorem wm(hl:B8 r.waves):PC 51 [.agg (Ce r)] (sl BZ (MS r)):=by
 refine Ps (pC [1] []) Tryz.func51 rfl (Nz rfl) (Xi {q:Nat // q<=r.waves.length} (Xi (fun q=>⟨[(1,.ref 1 0),(3,.slice (.id 5 1) (((r.waves.take q.1).map (·.paths)).map BZ)),(4,vi q.1)],[(1,.ro (Ce r)),(5,.tok 1 (((r.waves.take q.1).map (·.paths)).map BZ).length)],Af⟩) (Xi (fun q=>r.waves.length-q.1) (Yi (Xi ⟨0,AA _⟩ ?_) ?_))))
 .exact⟨Z3,Z2,Fh,Tv⟩
 intro⟨i,i1⟩;refine Yi (fun h1=>?_) (fun h1=>?_)
 .have h1:(i:Int)<((r.waves.map Bs).length:Int):=h1;have n1:=EE h1;have hq:(r.waves.take i).length<=1073741824:=by rw[Aw];omega
  refine Xi (Bs r.waves[i]) (Yi (IU n1) (Yi rfl ?_));have b2:Cf 1 [[sl Ax r.waves[i].paths]]/\(((r.waves.take i).map (·.paths)).map BZ).length=(((r.waves.take i).map (·.paths)).map BZ).length/\((((r.waves.take i).map (·.paths)).map BZ).length+([[sl Ax r.waves[i].paths]]:List (List AV)).length)*24<=140737488355328/\(((r.waves.take i).map (·.paths)).map BZ).length+([[sl Ax r.waves[i].paths]]:List (List AV)).length<=9223372036854775807:=⟨⟨rfl,trivial⟩,rfl,(by simp only[Lm,Am,Au];omega),(by simp only[Lm,Am,Au];omega)⟩;refine Yi b2 (Yi (Ii i ch) ?_);have ew:(((r.waves.take i).map (·.paths)).map BZ++[[sl Ax (r.waves[i]).paths]])=(((r.waves.take (i+1)).map (·.paths)).map BZ):=by rw[Ek n1,As,As];rfl
  refine Xi ⟨i+1,n1⟩ ?_;exact⟨Dl r.waves.length i ch,⟨Zr,⟨(Aa (AV.slice (.id 5 1)) ew),rfl⟩,Zr,Tv⟩,⟨Zr,⟨(show HO.tok 1 ((((r.waves.take i).map (·.paths)).map BZ).length+([[sl Ax r.waves[i].paths]]:List (List AV)).length)=.tok 1 (((r.waves.take (i+1)).map (·.paths)).map BZ).length from Aa (HO.tok 1) (Ac.symm.trans (Aa List.length ew))),rfl⟩,Tv⟩,Fh,Tv⟩
 have n1:=Dd h1;exact CY.of_eq (show sl BZ ((r.waves.take i).map (·.paths))=sl BZ (MS r) by rw[At (l:=r.waves) (i:=i) (A3 (Dd h1))];rfl)
theorem tn(hl:B8 r.waves)(_hst:∀v∈r.waves,v.stages.length<=1073741824)(sU:∀v∈r.waves,v.paths.length<=1073741824):PC 18 [.agg (Ce r)] (vb (gK r)):=by
 refine Ps (pC [1] [3,5]) Tryz.func18 rfl (Nz rfl) (Xi {q:Nat // q<=r.waves.length/\∀j (hj:j<r.waves.length),j<q->XY r.waves[j]=true} (Xi (fun q=>⟨[(1,.ref 1 0),(3,vi q.1)],[(1,.ro (Ce r))],Af⟩) (Xi (fun q=>r.waves.length-q.1) (Yi (Xi ⟨0,AA _,fun _ _ h=>absurd h (Fi _)⟩ ?_) ?_))))
 .exact⟨Z2,Z1,Fh,Tv⟩
 intro⟨i,i1,i2⟩;refine Yi (fun h1=>?_) (fun h1=>?_)
 .have h1:(i:Int)<((r.waves.map Bs).length:Int):=h1;have n1:=EE h1;refine Xi (Bs r.waves[i]) (Yi (IU n1) (Yi rfl (Yi (fun h2=>?_) (fun h2=>?_))))
  .have n2:12<r.waves[i].stages.length:=by have q:=h2;rw[Lm]at q;omega
   refine Xi (Bs r.waves[i]) (Yi (IU n1) (Yi rfl (Yi (fun h3=>?_) (fun h3=>?_))))
   .refine cU [] [] Tv Tv ?_
    exact CY.of_eq (Aa vb (show false=gK r by rw[gK,eY n1 (show XY r.waves[i]=false by rw[XY,Ar (p:=12<r.waves[i].stages.length) (by have q:=h2;rw[Lm]at q;omega),Ar (p:=r.waves[i].stages.length<=1024) (by have q:=h3;rw[Lm]at q;omega)];rfl),Bool.false_and]))
   refine cU [(1,.ref 1 0),(3,vi i)] [(1,.ro (Ce r))] Z2 Z1 (Yi (Ii i ch) ?_);refine Xi ⟨i+1,n1,fun j hj IG=>by
     rcases B4 j i with e | e
     .exact i2 j hj e
     .have e:i=j:=by omega
      subst e;exact(by rw[XY,Av (p:=r.waves[i].stages.length<=1024) (by have q:=h3;rw[Lm]at q;omega),Ck];rfl)⟩ ?_
   exact⟨Dl r.waves.length i ch,Z2,Z1,Fh,Tv⟩
  have n2:¬12<r.waves[i].stages.length:=by have q:=h2;rw[Lm]at q;omega
  refine cU [(1,.ref 1 0),(3,vi i)] [(1,.ro (Ce r))] Z2 Z1 (Yi (Ii i ch) ?_);refine Xi ⟨i+1,n1,fun j hj IG=>by
    rcases B4 j i with e | e
    .exact i2 j hj e
    .have e:i=j:=by omega
     subst e;exact(by rw[XY,Av (by have q:=h2;rw[Lm]at q;omega)];rfl)⟩ ?_
  exact⟨Dl r.waves.length i ch,Z2,Z1,Fh,Tv⟩
 have n1:=Dd h1;refine yN (Xi .pure (Xi _ (Yi (wm r hl) (BN (Bt (Nv (MS r))) (fun h7=>?_) (fun h7=>?_)))))
 .refine Xi .pure (Xi _ (Yi (cb h7 (gX (MS r) (show(MS r).length<=_ by rw[MS,Lm];exact hl) (fun p hp=>by obtain⟨v,hv,rfl⟩:=Ai.1 hp;exact sU v hv))) (Yi (fun h8=>?_) (fun h8=>?_))))
  .exact CY.of_eq (Aa vb (show true=gK r by rw[gK,OL i2 (A3 (Dd h1)),h7,Ar (p:=r.name.size<=100) (by have q:=h8;omega)];simp))
  refine Yi (fun NR=>?_) (fun NR=>?_)
  .exact CY.of_eq (Aa vb (show true=gK r by rw[gK,OL i2 (A3 (Dd h1)),h7,Av (p:=r.name.size<=100) (by have q:=h8;omega),Ar (p:=65536<r.name.size) (by have q:=NR;omega)];simp))
  exact CY.of_eq (Aa vb (show false=gK r by rw[gK,OL i2 (A3 (Dd h1)),h7,Av (p:=r.name.size<=100) (by have q:=h8;omega),Av (p:=65536<r.name.size) (by have q:=NR;omega)];simp))
 refine Xi .pure (Xi _ (Yi (cb h7 (gX (MS r) (show(MS r).length<=_ by rw[MS,Lm];exact hl) (fun p hp=>by obtain⟨v,hv,rfl⟩:=Ai.1 hp;exact sU v hv))) ?_));exact CY.of_eq (Aa vb (show false=gK r by rw[gK,OL i2 (A3 (Dd h1)),h7];simp))
def Tn(l m:List Sl):Bool:=G0 x 16&&(decide (l.length<=12)&&decide (m.length<=12))
theorem tg(l m:List Sl)(hL:ph x []):PC 17 [HH x ifs,sl Ae l,sl Ae m] (vb (Tn x l m)):=by
 refine Ps (pC [3] []) Tryz.func17 rfl (Nz rfl) (yN (BN (Bt (G0 x 16)) (fun h1=>?_) (fun h1=>?_)))
 .refine Xi .pure (Xi _ (Yi (cb h1 (Aaj hL ifs)) (Yi (fun h2=>?_) (fun h2=>?_))))
  .refine Yi (fun h3=>?_) (fun h3=>?_)
   .exact CY.of_eq (Aa vb (show true=Tn x l m by rw[Tn,h1,Ar (p:=l.length<=12) (by have q:=h2;rw[Lm]at q;omega),Ar (p:=m.length<=12) (by have q:=h3;rw[Lm]at q;omega)];simp))
   exact CY.of_eq (Aa vb (show false=Tn x l m by rw[Tn,h1,Ar (p:=l.length<=12) (by have q:=h2;rw[Lm]at q;omega),Av (p:=m.length<=12) (by have q:=h3;rw[Lm]at q;omega)];simp))
  exact CY.of_eq (Aa vb (show false=Tn x l m by rw[Tn,h1,Av (p:=l.length<=12) (by have q:=h2;rw[Lm]at q;omega)];simp))
 refine Xi .pure (Xi _ (Yi (cb h1 (Aaj hL ifs)) ?_));exact CY.of_eq (Aa vb (show false=Tn x l m by rw[Tn,h1];simp))
structure Ad where
 id:ByteArray
 path:ByteArray
 set:List (Int×Int)
 syms:List ByteArray
 note:ByteArray
variable (a:Ad)
abbrev C3:List AV:=[vs a.id,vs a.path,sl AE a.set,sl Ax a.syms,vs a.note]
structure MT(a:Ad):Prop where
 id:Gi a.id
 path:Gi a.path
 set:B8 a.set
 syms:B8 a.syms
 sym:∀s∈a.syms,Gi s
 note:Gi a.note
def Tu:Bool:=decide (1<=s.size)&&decide (s.size<=32)
def Yo:List ByteArray->Bool
 |a::b::r=>Ef a b&&Yo (b::r)
 |_=>true
def Oy:Bool:=(CG a.path).isSome&&Tu a.id&&a.syms.all Tu
def tQ:Bool:=!a.set.isEmpty&&decide (a.set=canon a.set)&&!a.syms.isEmpty&&decide (a.syms.length<=1024)&&decide (a.note.size<=65536)
def Rh:Int:=if Oy a=true then if tQ a=true then if Yo a.syms=true then 0 else 1 else 1 else 4
theorem pM(l:List ByteArray):Yo (l.drop (l.length-1))=true:=by
 cases h:l.drop (l.length-1)with
 |nil=>rfl
 |cons a r=>
  have q:=Aa List.length h;rw[Di,Am]at q;have e:r=[]:=FP.1 ch;subst e;rfl
theorem Uj{l:List ByteArray}(h:i+1<l.length):Yo (l.drop i)=(Ef l[i] l[i+1]&&Yo (l.drop (i+1))):=by
 rw[AI (show i<l.length by omega),AI h];rfl
theorem TX(hs:Gi s):PC 230 [vs s] (vb (Tu s)):=by
 refine Ps Ej Tryz.func230 rfl (Nz rfl) (Yi (fun h1=>?_) (fun h1=>?_))
 .refine Yi (fun h2=>?_) (fun h2=>?_)
  .exact CY.of_eq (Aa vb (show true=Tu s by rw[Tu];first | rfl | (rw[Ar (show 1<=s.size by omega)];first | rw[Ar (show s.size<=32 by omega)];rfl | rw[Av (show ¬s.size<=32 by omega)];rfl) | (rw[Av (show ¬1<=s.size by omega)];rfl)))
  exact CY.of_eq (Aa vb (show false=Tu s by rw[Tu];first | rfl | (rw[Ar (show 1<=s.size by omega)];first | rw[Ar (show s.size<=32 by omega)];rfl | rw[Av (show ¬s.size<=32 by omega)];rfl) | (rw[Av (show ¬1<=s.size by omega)];rfl)))
 exact CY.of_eq (Aa vb (show false=Tu s by rw[Tu];first | rfl | (rw[Ar (show 1<=s.size by omega)];first | rw[Ar (show s.size<=32 by omega)];rfl | rw[Av (show ¬s.size<=32 by omega)];rfl) | (rw[Av (show ¬1<=s.size by omega)];rfl)))
theorem Aa4(hs:Gi s):PC 231 [vs s] (vb (!Tu s)):=by
 refine Ps Ej Tryz.func231 rfl (Nz rfl) (BN (Bt (Tu s)) (fun h1=>?_) (fun h1=>?_))
 .refine Xi .pure (Xi _ (Yi (cb h1 (TX s hs)) ?_));exact CY.of_eq (Aa vb (show false=!Tu s by first | rfl | simp only[h1,Bool.not_true]))
 refine Xi .pure (Xi _ (Yi (cb h1 (TX s hs)) ?_));exact CY.of_eq (Aa vb (show true=!Tu s by first | rfl | simp only[h1,Bool.not_false]))
theorem CY.fn(f:Nat):CY (.v (.func (.func f) #[] #[])) (.clo f []):=fun _ _ _ _ h=>by cases h;exact .clo _ f [] #[] rfl (fun i av x h=>by cases h)
theorem Db.nil:Db []:=fun _ hc=>absurd hc List.not_mem_nil
theorem oR(l:List ByteArray)(hl:B8 l)(hs:∀s∈l,Gi s):PC 74 [sl Ax l,.v (.func (.func 231) #[] #[])] (vb (l.any fun s=>!Tu s)):=
 (z74 (fF:=231) Db.nil l (fun s=>!Tu s) (fun s h=>Aa4 s (hs s h)) hl).args ⟨.refl _,.fn _,trivial⟩
theorem xh{l:List ByteArray}:(l.any fun s=>!Tu s)=!l.all Tu:=List.not_all_eq_any_not.symm
theorem Ue{a:Ad}{m:Int}(c0:CG a.path=some m)(h1:Tu a.id=true)(h2:(a.syms.any fun s=>!Tu s)=false):Oy a=true:=by
 rw[xh]at h2;rw[Oy,c0,h1];show a.syms.all Tu=true;simpa using h2
theorem tG{a:Ad}(h:(a.syms.any fun s=>!Tu s)=true):Oy a=false:=by
 rw[xh]at h;rw[Oy,show a.syms.all Tu=false by simpa using h,Ck]
theorem lg{l:List ByteArray}(hi:i<l.length)(h1:1<=i)(h:∀j (hj:j+1<l.length),j+1<i->Ef l[j] l[j+1]=true)(k:Ef (l[i-1]' ch) l[i]=true):∀j (hj:j+1<l.length),j+1<i+1->Ef l[j] l[j+1]=true:=fun j hj q=>by
 rcases B4 (j+1) i with e | e
 .exact h j hj e
 .obtain rfl:i=j+1:=by omega
  exact k
theorem Yf{a:Ad}(h:Oy a=false):Rh a=4:=by rw[Rh,h];rfl
theorem Ud{a:Ad}(h:Oy a=true)(k:a.set.length=0\/a.set≠canon a.set\/a.syms.length=0\/1024<a.syms.length\/65536<a.note.size):Rh a=1:=by
 rw[Rh,Ao h,Aj];intro e;simp only[tQ,Ag,AD,CJ,List.isEmpty_eq_false_iff]at e;obtain⟨⟨⟨⟨e1,e2⟩,e3⟩,e4⟩,e5⟩:=e;have f1:=Hm.2 e1;have f3:=Hm.2 e3;rcases k with k | k | k | k | k
 .omega
 .exact k e2
 .omega
 .omega
 .omega
theorem kU{a:Ad}(h:Oy a=true)(k1:¬a.set.length=0)(k2:a.set=canon a.set)(k3:¬a.syms.length=0)(k4:a.syms.length<=1024)(k5:a.note.size<=65536):Rh a=if Yo a.syms=true then 0 else 1:=by
 rw[Rh,Ao h,Ao];simp only[tQ,Ag,AD,CJ,List.isEmpty_eq_false_iff];exact⟨⟨⟨⟨fun e=>k1 (by rw[e];rfl),k2⟩,fun e=>k3 (by rw[e];rfl)⟩,k4⟩,k5⟩
theorem fe{l:List ByteArray}:∀{i:Nat},Yo (l.drop i)=false->Yo l=false
 |0,h=>h
 |i+1,h=>by
  refine fe (i:=i) ?_
  by_cases hi:i+1<l.length
  .rw[Uj hi,h,Ck]
  .rw[Cv ch]at h;cases h
theorem fc{l:List ByteArray}(h:∀j (hj:j+1<l.length),Ef l[j] l[j+1]=true):∀k i,i+k=l.length->Yo (l.drop i)=true
 |0,i,e=>by rw[Cv ch];rfl
 |1,i,e=>by rw[show i=l.length-1 by omega];exact pM l
 |k+2,i,e=>by rw[Uj ch,h i ch,fc h (k+1) (i+1) ch];rfl
theorem zY(ha:MT a)(c0:CG a.path=none):PC 165 [.agg (C3 a)] (vi (Rh a)):=by
 refine Ps (pC [1] []) Tryz.func165 rfl (Nz rfl) (Xi .pure (Xi _ (Yi (Wm.none ha.path c0) (Yi (fun _=>?_) (fun h=>absurd Cl h)))));exact CY.of_eq (Aa vi (show 4=Rh a from(Yf (by rw[Oy,c0];rfl)).symm))
theorem zZ(ha:MT a)(m:Int)(c0:CG a.path=some m):PC 165 [.agg (C3 a)] (vi (Rh a)):=by
 have uT:a.syms.length<=1073741824:=ha.syms;have uU:a.set.length<=1073741824:=ha.set;have hs3:a.note.size<=1073741824:=ha.note;refine Ps (pC [1] []) Tryz.func165 rfl (Nz rfl) (Xi .pure (Xi _ (Yi (Wm.some ha.path c0) (Yi (fun h=>absurd h Cl) (fun _=>?_)))));refine BN (Bt (Tu a.id)) (fun h1=>?_) (fun h1=>?_)
 .refine Xi .pure (Xi _ (Yi (cb h1 (TX a.id ha.id)) (BN (Bt (a.syms.any fun s=>!Tu s)) (fun h2=>?_) (fun h2=>?_))))
  .refine Xi .pure (Xi _ (Yi (cb h2 (oR a.syms ha.syms ha.sym)) ?_));exact CY.of_eq (Aa vi (show 4=Rh a from(Yf (tG h2)).symm))
  refine Xi .pure (Xi _ (Yi (cb h2 (oR a.syms ha.syms ha.sym)) (Yi (fun h4=>?_) (fun h4=>?_))))
  .refine Yi Wk ?_;exact CY.of_eq (Aa vi (show 1=Rh a from(Ud (Ue c0 h1 h2) (.inl (by have q:=h4;rw[Lm]at q;omega))).symm))
  refine Xi _ (Yi (Ys a.set ha.set) (BN (Bt (decide (a.set=canon a.set))) (fun h6=>?_) (fun h6=>?_)))
  .refine Xi _ (Yi (cb h6 (pY a.set (canon a.set) ha.set)) (Yi (fun h7=>?_) (fun h7=>?_)))
   .refine Yi Wk ?_;exact CY.of_eq (Aa vi (show 1=Rh a from(Ud (Ue c0 h1 h2) (.inr (.inr (.inl (by have q:=h7;rw[Lm]at q;omega))))).symm))
   refine Yi (fun h9=>?_) (fun h9=>?_)
   .have n9:1024<a.syms.length:=by have q:=h9;rw[Lm]at q;omega
    refine Yi Wk ?_;exact CY.of_eq (Aa vi (show 1=Rh a from(Ud (Ue c0 h1 h2) (.inr (.inr (.inr (.inl ch))))).symm))
   have n9:¬1024<a.syms.length:=by have q:=h9;rw[Lm]at q;omega
   refine Yi (fun MB=>?_) (fun MB=>?_)
   .refine Yi Wk ?_;exact CY.of_eq (Aa vi (show 1=Rh a from(Ud (Ue c0 h1 h2) (.inr (.inr (.inr (.inr ch))))).symm))
   refine Yi Wk (Xi {q:Nat // 1<=q/\∀j (hj:j+1<a.syms.length),j+1<q->Ef a.syms[j] a.syms[j+1]=true} (Xi (fun q=>⟨[(1,.ref 1 0),(6,vi q.1)],[(1,.ro (C3 a))],Af⟩) (Xi (fun q=>a.syms.length-q.1) (Yi (Xi ⟨1,Ak _,fun j hj h=>absurd h ch⟩ ?_) ?_))))
   .exact⟨Z2,Z1,Fh,Tv⟩
   intro⟨i,i1,i2⟩;have i2:∀j (hj:j+1<a.syms.length),j+1<i->Ef a.syms[j] a.syms[j+1]=true:=i2;refine Yi (fun Nb=>?_) (fun Nb=>?_)
   .have Nb:(i:Int)<((a.syms.map Ax).length:Int):=Nb;have n13:=EE Nb;refine Yi (by show Ba ((i:Int)-(1:Int));unfold Ba;omega) (Xi (Ax (a.syms[i-1]' ch)) (Yi (Yi (show(0:Int)<=(i:Int)-1 by omega) (by rw[show((i:Int)-1).toNat=i-1 by omega];exact Ed (Ge ch))) (Yi rfl ?_)));refine Xi (Ax (a.syms[i]' ch)) (Yi (IU n13) (Yi rfl (Yi (fun TG=>?_) (fun TG=>?_))))
    .have TG:Ef (a.syms[i-1]' ch) (a.syms[i]' ch)=false:=(Gk _ _).trans TG;refine Yi Wk ?_;exact CY.of_eq (Aa vi (show 1=Rh a from((kU (Ue c0 h1 h2) (by have q:=h4;rw[Lm]at q;omega) (AK h6) (by have q:=h7;rw[Lm]at q;omega) ch ch).trans (Aj (by rw[fe (i:=i-1) (by rw[Uj ch];simp only[show i-1+1=i by omega,TG];rfl)];decide))).symm))
    have TG:Ef (a.syms[i-1]' ch) (a.syms[i]' ch)=true:=(Gk _ _).trans (by simpa using TG);refine Yi Wk (Yi (Ii i ch) ?_);have hi:i<a.syms.length:=n13;refine Xi ⟨i+1,by omega,lg hi i1 i2 TG⟩ ?_;exact⟨Dl a.syms.length i ch,Z2,Z1,Fh,Tv⟩
   have Nb:¬((i:Int)<((a.syms.map Ax).length:Int)):=Nb;have n13:=Dd Nb;exact CY.of_eq (Aa vi (show 0=Rh a from((kU (Ue c0 h1 h2) (by have q:=h4;rw[Lm]at q;omega) (AK h6) (by have q:=h7;rw[Lm]at q;omega) ch ch).trans (Ao (fc (fun j hj=>i2 j hj (by have q:=Dd Nb;omega)) _ 0 (Bf _)))).symm))
  have h6:(decide (a.set=canon a.set))=false:=h6;refine Xi _ (Yi (cb h6 (pY a.set (canon a.set) ha.set)) (Yi Wk ?_));exact CY.of_eq (Aa vi (show 1=Rh a from(Ud (Ue c0 h1 h2) (.inr (.inl (QG h6)))).symm))
 have h1:(Tu a.id)=false:=h1;refine Xi .pure (Xi _ (Yi (cb h1 (TX a.id ha.id)) ?_));exact CY.of_eq (Aa vi (show 4=Rh a from(Yf (by rw[Oy,h1,Ck];rfl)).symm))
theorem AeD(ha:MT a):PC 165 [.agg (C3 a)] (vi (Rh a)):=by
 cases c0:CG a.path with
 |none=>exact zY a ha c0
 |some m=>exact zZ a ha m c0
theorem va_{s:Sl}(h:((if Cz s.ver then 0 else 2:Int))=0):Cz s.ver=true:=by
 cases e:Cz s.ver with
 |true=>rfl
 |false=>rw[e]at h;exact absurd h Cl
theorem Adz{s:Sl}(h:¬((if Cz s.ver then 0 else 2:Int))=0):Cz s.ver=false:=by
 cases e:Cz s.ver with
 |false=>rfl
 |true=>rw[e]at h;exact absurd rfl h
def Ma(s:Sl):Bool:=Cz s.ver&&decide (s.path=a.path)&&has a.set (place s.ver)
theorem Zo(s:Sl)(ha:B8 a.set):PC 81 [.agg (C3 a),.agg (Ae s)] (vb (Ma a s)):=by
 refine Ps (pC [2,3] []) Tryz.func81 rfl (Nz rfl) (yN (Xi .pure (Xi _ (Yi (wH s.ver) (Yi (fun h1=>?_) (fun h1=>?_))))))
 .refine Yi (fun h2=>?_) (fun h2=>?_)
  .refine BN (Bt (has a.set (if Cz s.ver then place s.ver else 0))) (fun h3=>?_) (fun h3=>?_)
   .refine Xi .pure (Xi _ (Yi (cb h3 (lx a.set (if Cz s.ver then place s.ver else 0) ha)) ?_));exact CY.of_eq (Aa vb (show true=Ma a s by have v:=va_ h1;have q:=h3;rw[Ao v]at q;rw[Ma,v,q,Ar h2];rfl))
   refine Xi .pure (Xi _ (Yi (cb h3 (lx a.set (if Cz s.ver then place s.ver else 0) ha)) ?_));exact CY.of_eq (Aa vb (show false=Ma a s by have v:=va_ h1;have q:=h3;rw[Ao v]at q;rw[Ma,v,q,Ar h2];rfl))
  exact CY.of_eq (Aa vb (show false=Ma a s by rw[Ma,Av h2,Ck];rfl))
 exact CY.of_eq (Aa vb (show false=Ma a s by rw[Ma,Adz h1];rfl))
theorem wl(r:Rl):PC 106 [.agg (AF r)] (.agg [vs r.path,vi r.ver.a,vi r.ver.b,vi r.ver.c]):=by
 refine Ps (pC [1] []) Tryz.func106 rfl (Nz rfl) (yN (yN (yN ?_)));exact .refl _
theorem gZ(r:Rl)(ha:B8 a.set):PC 105 [.agg (C3 a),.cptr (AF r)] (vb (Ma a (⟨r.path,r.ver⟩:Sl))):=by
 refine Ps (pC [2] []) Tryz.func105 rfl (Nz rfl) (yN (yN (Xi _ (Yi (wl r) (BN (Bt (Ma a (⟨r.path,r.ver⟩:Sl))) (fun h1=>?_) (fun h1=>?_))))))
 .refine Xi _ (Yi (cb h1 (Zo a (⟨r.path,r.ver⟩:Sl) ha)) (Yi Wk ?_));exact CY.of_eq (Aa vb (show true=Ma a (⟨r.path,r.ver⟩:Sl)from h1.symm))
 refine Xi _ (Yi (cb h1 (Zo a (⟨r.path,r.ver⟩:Sl) ha)) (Yi Wk ?_));exact CY.of_eq (Aa vb (show false=Ma a (⟨r.path,r.ver⟩:Sl)from h1.symm))
theorem AeI(hs:Db caps)(l:List (Ad))(p:Ad->Bool)(hF:∀x∈l,PC fF ([.agg (C3 x)]++caps) (vb (p x)))(hl:l.length<9223372036854775807) :
  PC 166 [sl C3 l,.clo fF caps] (vi (JI p l 0)):=by
 refine Ps Ej Tryz.func166 rfl (Nz rfl) (Xi {i:Nat // i<=l.length/\∀j (hj:j<l.length),j<i->p l[j]=false} (Xi (fun i=>⟨[(0,sl C3 l),(1,.clo fF caps),(7,vi (l.map C3).length),(8,vi i.1)],[],Af⟩) (Xi (fun i=>l.length-i.1) (Yi (Xi ⟨0,by simp⟩ ?_) ?_))))
 .exact⟨⟨Zr,⟨rfl,hs.ids _⟩,Zr,Zr,Tv⟩,Tv,Fh,Tv⟩
 .intro⟨i,h1,h2⟩;refine Yi ?_ ?_
  .intro h;have h:i<l.length:=by simpa using h
   have hg:l[i]?=some l[i]:=Ge h;refine Xi (C3 l[i]) (Yi (Yi (Nn i) (by simp[hg])) (Yi rfl (yN ?_)));have Cg:∀h,PC fF ([.agg (C3 l[i])]++caps.map (str0 h)) (vb (p l[i])):=fun h=>by rw[hs.map];exact hF l[i] (Al _)
   cases hp:p l[i]with
   |true=>
    rw[hp]at Cg;refine Xi .pure (Xi (vb true) (Yi (Cg _) ?_));rw[HM h (fun j hj IG=>h2 j hj IG) hp,EC];exact .refl _
   |false=>
    rw[hp]at Cg;refine Xi .pure (Xi (vb false) (Yi (Cg _) (Yi (Ii i ch) (Xi ⟨i+1,by omega,fun j hj IG=>?_⟩ ?_))))
    .by_cases e:j=i
     .subst e;exact hp
     .exact h2 j hj ch
    .exact⟨Dl l.length i ch,⟨Zr,⟨rfl,hs.ids _⟩,Zr,Zr,Tv⟩,Tv,Fh,Tv⟩
  .intro h;have h:¬i<l.length:=by simpa using h
   rw[Gt fun j hj=>h2 j hj ch];exact .refl _
theorem Aal(hs:Db caps)(l:List (Ad))(p:Ad->Bool)(hF:∀x∈l,PC fF ([.agg (C3 x)]++caps) (vb (p x)))(hl:B8 l) :
  PC 104 [sl C3 l,.clo fF caps] (vb (l.any p)):=by
 refine Ps Ej Tryz.func104 rfl (Nz rfl) ?_;have hi:=AeI hs l p hF (by unfold B8 at hl;omega);have Cg:∀h,PC 166 [sl C3 l,.clo fF (caps.map (str0 h))] (vi (JI p l 0)):=fun h=>by rw[hs.map];exact hi
 refine Xi .pure (Xi _ (Yi (Cg _) ?_));have ha:=HG (p:=p) l 0 (Bn 0);refine Yi ?_ ?_
 .intro h;rw[<-ha,Ar h];exact .refl _
 .intro h;rw[<-ha,Av h];exact .refl _
def MW:List Ad->Int
 | []=>0
 |a::r=>if Rh a=0 then MW r else Rh a
def Pk(l:List Ad):Int:=if A6 x=0 then MW l else 1
theorem tJ{l:List Ad}(h:i<l.length)(k:Rh l[i]=0):MW (l.drop i)=MW (l.drop (i+1)):=by rw[AI h,MW,Ao k]
theorem tH{l:List Ad}(h:i<l.length)(k:¬Rh l[i]=0):MW (l.drop i)=Rh l[i]:=by rw[AI h,MW,Aj k]
theorem gY(l:List Ad)(hx:∀r∈x,En r)(hl:B8 l)(kH:∀a∈l,MT a):PC 102 [.agg (Ic x ifs),sl C3 l] (vi (Pk x l)):=by
 have hl:l.length<=1073741824:=hl;refine Ps (pC [2] []) Tryz.func102 rfl (Nz rfl) (yN (Xi .pure (Xi _ (Yi (wI Wm x ifs hx) (Yi (fun h1=>?_) (fun h1=>?_))))))
 .have h1:((A6 x):Int)≠(0:Int):=h1;exact CY.of_eq (Aa vi (show 1=Pk x l by rw[Pk,Aj h1]))
 have h1:((A6 x):Int)=(0:Int):=AJ h1;refine Xi {q:Nat // q<=l.length/\MW (l.drop q)=MW l} (Xi (fun q=>⟨[(11,sl C3 l),(12,vi (l.map C3).length),(13,vi q.1)],[],Af⟩) (Xi (fun q=>l.length-q.1) (Yi (Xi ⟨0,AA _,rfl⟩ ?_) ?_)))
 .exact⟨Z3,Tv,Fh,Tv⟩
 intro⟨i,i1,i2⟩;have i1:i<=l.length:=i1;have i2:MW (l.drop i)=MW l:=i2;refine Yi (fun h3=>?_) (fun h3=>?_)
 .have h3:(i:Int)<((l.map C3).length:Int):=h3;have n3:=EE h3;refine Xi (C3 l[i]) (Yi (IU n3) (Yi rfl (yN (yN (yN (Xi .pure (Xi _ (Yi (AeD l[i] (kH _ (Al n3))) (Yi (fun h4=>?_) (fun h4=>?_))))))))))
  .have h4:((Rh l[i]):Int)≠(0:Int):=h4;exact CY.of_eq (Aa vi (show(Rh l[i])=Pk x l by rw[Pk,Ao h1,<-i2,tH n3 h4]))
  have h4:((Rh l[i]):Int)=(0:Int):=AJ h4;refine Yi (Ii i ch) (Xi ⟨i+1,n3,by rw[<-i2,tJ n3 h4]⟩ ?_);exact⟨Dl l.length i ch,Z3,Tv,Fh,Tv⟩
 have h3:¬((i:Int)<((l.map C3).length:Int)):=h3;have n3:=Dd h3;exact CY.of_eq (Aa vi (show 0=Pk x l by rw[Pk,Ao h1,<-i2,Cv (A3 (Dd h3))];rfl))
end Go.Eng
