/- Lemmas 29. -/
import Derived.Test.YteaiieomnhbmgaaGreatDoorBA28
set_option maxHeartbeats 4000000
namespace Go.Eng
open Go.Proofs Go.Proofs.Tryz
variable {l m:List Sl}{A7:List (List CS)}{i:Nat}{α:Type}{p:α->Bool}{caps:List AV}{fF:Nat}(x:List Rl)(ifs:C0)(r:Ro)(sx:List Rl)(P:List (List CS))(s user:CS)(Bp:Int)
theorem yi(n:Nat)(h0:0<n)(h1:n<=1000000000):AP Tryz.prog 94 [BE,.v (.int .i64 (n:Int))] Ac fun r h'=>r=.slice (.id 2000 1) []/\h'=Ai [(2000,.tok 1 0)] Ac:=by
 obtain⟨i0,uK⟩:∃i0,Tryz.prog.info? 9=some i0:=Option.isSome_iff_exists.1 Wk;have wW:i0.size=1:=by
  have q:(Tryz.prog.info? 9).map (·.size)=some 1:=by kernel_rfl
  rw[uK]at q;exact DW q
 have hb:i0.bytes=16:=by
  have q:(Tryz.prog.info? 9).map (·.bytes)=some 16:=by kernel_rfl
  rw[uK]at q;exact DW q
 obtain⟨z,hz⟩:∃z,i0.zero=some z/\z.cells.size=1:=by
  have q:((Tryz.prog.info? 9).bind (·.zero)).map (·.cells.size)=some 1:=by kernel_rfl
  rw[uK]at q;cases e:i0.zero with
  |none=>simp[e]at q
  |some z=>simp[e]at q;exact⟨z,rfl,q⟩
 refine cZ (aq 94 func94 Wk rfl) fun w=>?_;refine(Any8.slices_Grow_grow Tryz.layGrow i0 z uK hz.1 (by rw[wW];decide) none 0 0 n [] w (Ap _) ch (by rw[hb];omega) ch B0 (fun _=>rfl) (fun a e=>by cases e)).mono ?_
 rintro e w' ⟨rfl,rfl⟩
 obtain⟨G,hG⟩:∃G,G=Go.grownCap w (0+n) 0 9:=⟨_,rfl⟩;have hGn:0+n<=G:=hG▸Go.grownCap_ge w _ _ _;have e9:(Tryz.layGrow_ren.t 25)=9:=rfl;rw[e9,<-hG];refine⟨G,_,_,rfl,?_,rfl⟩;have zc:∀(c:Array Value) (k:Nat),(Builtin.zeroCells c k).size=c.size*k:=fun c k=>by
  unfold Builtin.zeroCells;simp[Nat.mul_comm]
 rw[Array.size_append,Array.size_append,zc,zc,hz.2];simp only[RM,AE];omega
theorem tZ:PC 94 [BE,.v (.int .i64 0)] BE:=
 JY [.slice none 0 0,.int .i64 0] (.slice none 0 0) (aq 94 func94 Wk rfl) rfl (fun g w=>.v _ _) fun w _=>Any8.slices_Grow_room Tryz.layGrow none 0 0 0 w ch ch ch ch
theorem yf(hP:P.length<=1000)(QS:∀p∈P,p.length<=1000)(YM:∀i,(P.take i).flatten.length<=1000000000)(hz:0<P.flatten.length):PC 55 [sl Cm P] (sl Ar P.flatten):=by
 refine Ps C3 func55 rfl (Nz rfl) (Xi {q:Nat // q<=P.length} (Xi (fun q=>⟨[(0,sl Cm P),(3,vi ((P.take q.1).flatten).length),(9,sl Cm P),(10,vi (P.map Cm).length),(11,vi q.1)],[],Ac⟩) (Xi (fun q=>P.length-q.1) (Yi (Xi ⟨0,Al _⟩ ?_) ?_))))
 .exact⟨Z5,Tv,Fh,Tv⟩
 intro⟨i,i1⟩;have hfi:=YM i;refine Yi (fun h1=>?_) (fun h1=>?_)
 .have h1:(i:Int)<((P.map Cm).length:Int):=h1;have n1:=DK h1;have dQ:=QS _ (Ae n1);have ZD:((P[i]).map Ar).length<=1000:=by rw[Lm];exact dQ
  refine Xi (Cm P[i]) (Yi (FJ n1) (Yi rfl (Yi (by show Av ((((P.take i).flatten).length:Int)+((P[i].map Ar).length:Int));unfold Av;omega) ?_)));refine Yi (fun h2=>?_) (fun h2=>?_)
  .exact absurd h2 ch
  refine Yi (Ii i ch) (Xi ⟨i+1,n1⟩ ?_);exact⟨Dl P.length i ch,⟨Zr,⟨(Aa vi (show((P.take i).flatten).length+(P[i].map Ar).length=((((P.take (i+1)).flatten).length:Nat):Int) by rw[Hr n1,Ak,Lm];omega)),rfl⟩,Zr,Zr,Zr,Tv⟩,Tv,Fh,Tv⟩
 have n1:=B5 h1;refine Xi (.gen [] 1) (Yi rfl (AP.to2 (show AP Tryz.prog 94 [BE,.v (.int .i64 (((P.take i).flatten).length:Nat))] Ac _ by rw[(show P.take i=P from Au (AO (B5 h1)))];exact yi P.flatten.length hz (by have q:=YM P.length;rw[CA]at q;omega)) ?_));refine Xi {q:Nat // q<=P.length} (Xi (fun q=>⟨[(6,.slice (.id 12400 1) (((P.take q.1).flatten).map Ar)),(25,sl Cm P),(26,vi (P.map Cm).length),(27,vi q.1)],[(12400,.tok 1 (((P.take q.1).flatten).map Ar).length)],Ac⟩) (Xi (fun q=>P.length-q.1) (Yi (Xi ⟨0,Al _⟩ ?_) ?_)))
 .exact⟨Z4,Z1,Fh,Tv⟩
 intro⟨k,k1⟩;have hfk:=YM k;refine Yi (fun h5=>?_) (fun h5=>?_)
 .have h5:(k:Int)<((P.map Cm).length:Int):=h5;have n5:=DK h5;have dQ:=QS _ (Ae n5);have ZD:((P[k]).map Ar).length<=1000:=by rw[Lm];exact dQ
  refine Xi (Cm P[k]) (Yi (FJ n5) (Yi rfl ?_));have b6:Bi 1 (P[k].map Ar)/\(((P.take k).flatten).map Ar).length=(((P.take k).flatten).map Ar).length/\((((P.take k).flatten).map Ar).length+(P[k].map Ar).length)*16<=140737488355328/\(((P.take k).flatten).map Ar).length+(P[k].map Ar).length<=9223372036854775807:=⟨(CJ (enc:=Ar) (n:=1) (fun _=>rfl) P[k]),rfl,(by simp only[Lm];omega),(by simp only[Lm];omega)⟩;refine Yi b6 (Yi (Ii k ch) ?_);have ew:(((P.take k).flatten).map Ar++(P[k]).map Ar)=((P.take (k+1)).flatten).map Ar:=by rw[Hr n5,AF]
  refine Xi ⟨k+1,n5⟩ ?_;exact⟨Dl P.length k ch,⟨⟨(Aa (AV.slice (.id 12400 1)) ew),rfl⟩,Zr,Zr,Zr,Tv⟩,⟨⟨(show HO.tok 1 ((((P.take k).flatten).map Ar).length+(P[k].map Ar).length)=.tok 1 (((P.take (k+1)).flatten).map Ar).length from Aa (HO.tok 1) (Ak.symm.trans (Aa List.length ew))),rfl⟩,Tv⟩,Fh,Tv⟩
 have h5:¬((k:Int)<((P.map Cm).length:Int)):=h5;have n5:=B5 h5;exact BM.of_eq (show sl Ar ((P.take k).flatten)=sl Ar P.flatten by rw[Au (l:=P) (i:=k) (AO (B5 h5))])
theorem yg(hP:P.length<=1000)(QS:∀p∈P,p.length<=1000)(YM:∀i,(P.take i).flatten.length<=1000000000)(hz:P.flatten.length=0):PC 55 [sl Cm P] (sl Ar P.flatten):=by
 refine Ps (pT [] [(6,1)] []) func55 rfl (Nz rfl) (Xi {q:Nat // q<=P.length} (Xi (fun q=>⟨[(0,sl Cm P),(3,vi ((P.take q.1).flatten).length),(9,sl Cm P),(10,vi (P.map Cm).length),(11,vi q.1)],[],Ac⟩) (Xi (fun q=>P.length-q.1) (Yi (Xi ⟨0,Al _⟩ ?_) ?_))))
 .exact⟨Z5,Tv,Fh,Tv⟩
 intro⟨i,i1⟩;have hfi:=YM i;refine Yi (fun h1=>?_) (fun h1=>?_)
 .have h1:(i:Int)<((P.map Cm).length:Int):=h1;have n1:=DK h1;have dQ:=QS _ (Ae n1);have ZD:((P[i]).map Ar).length<=1000:=by rw[Lm];exact dQ
  refine Xi (Cm P[i]) (Yi (FJ n1) (Yi rfl (Yi (by show Av ((((P.take i).flatten).length:Int)+((P[i].map Ar).length:Int));unfold Av;omega) ?_)));refine Yi (fun h2=>?_) (fun h2=>?_)
  .exact absurd h2 ch
  refine Yi (Ii i ch) (Xi ⟨i+1,n1⟩ ?_);exact⟨Dl P.length i ch,⟨Zr,⟨(Aa vi (show((P.take i).flatten).length+(P[i].map Ar).length=((((P.take (i+1)).flatten).length:Nat):Int) by rw[Hr n1,Ak,Lm];omega)),rfl⟩,Zr,Zr,Zr,Tv⟩,Tv,Fh,Tv⟩
 have n1:=B5 h1;refine C1 (C2 (show PC 94 [BE,vi (((P.take i).flatten).length:Nat)] BE by rw[(show P.take i=P from Au (AO (B5 h1))),hz];exact tZ) ?_);refine Xi {q:Nat // q<=P.length} (Xi (fun q=>⟨[(6,.slice (.id 6 1) (((P.take q.1).flatten).map Ar)),(25,sl Cm P),(26,vi (P.map Cm).length),(27,vi q.1)],[(6,.tok 1 (((P.take q.1).flatten).map Ar).length)],Ac⟩) (Xi (fun q=>P.length-q.1) (Yi (Xi ⟨0,Al _⟩ ?_) ?_)))
 .exact⟨Z4,Z1,Fh,Tv⟩
 intro⟨k,k1⟩;have hfk:=YM k;refine Yi (fun h4=>?_) (fun h4=>?_)
 .have h4:(k:Int)<((P.map Cm).length:Int):=h4;have n4:=DK h4;have dQ:=QS _ (Ae n4);have ZD:((P[k]).map Ar).length<=1000:=by rw[Lm];exact dQ
  refine Xi (Cm P[k]) (Yi (FJ n4) (Yi rfl ?_));have b5:Bi 1 (P[k].map Ar)/\(((P.take k).flatten).map Ar).length=(((P.take k).flatten).map Ar).length/\((((P.take k).flatten).map Ar).length+(P[k].map Ar).length)*16<=140737488355328/\(((P.take k).flatten).map Ar).length+(P[k].map Ar).length<=9223372036854775807:=⟨(CJ (enc:=Ar) (n:=1) (fun _=>rfl) P[k]),rfl,(by simp only[Lm];omega),(by simp only[Lm];omega)⟩;refine Yi b5 (Yi (Ii k ch) ?_);have ew:(((P.take k).flatten).map Ar++(P[k]).map Ar)=((P.take (k+1)).flatten).map Ar:=by rw[Hr n4,AF]
  refine Xi ⟨k+1,n4⟩ ?_;exact⟨Dl P.length k ch,⟨⟨(Aa (AV.slice (.id 6 1)) ew),rfl⟩,Zr,Zr,Zr,Tv⟩,⟨⟨(show HO.tok 1 ((((P.take k).flatten).map Ar).length+(P[k].map Ar).length)=.tok 1 (((P.take (k+1)).flatten).map Ar).length from Aa (HO.tok 1) (Ak.symm.trans (Aa List.length ew))),rfl⟩,Tv⟩,Fh,Tv⟩
 have h4:¬((k:Int)<((P.map Cm).length:Int)):=h4;have n4:=B5 h4;exact BM.of_eq (show sl Ar ((P.take k).flatten)=sl Ar P.flatten by rw[Au (l:=P) (i:=k) (AO (B5 h4))])
theorem PE(nI:A7.length<=1000)(QS:∀p∈A7,p.length<=1000)(i:Nat):(A7.take i).flatten.length<=1000000:=by
 have q:=Ta QS A7.length;have q2:(A7.take i).flatten.length<=A7.flatten.length:=by
  conv=>rhs;rw[<-Ia i A7,CR,Ak]
  omega
 rw[CA]at q;have q3:=Bn 1000 nI;omega
theorem vo(hP:P.length<=1000)(QS:∀p∈P,p.length<=1000):PC 55 [sl Cm P] (sl Ar P.flatten):=
 (Nat.eq_zero_or_pos P.flatten.length).elim (yg P hP QS (fun i=>AH (PE hP QS i) Cl)) (yf P hP QS (fun i=>AH (PE hP QS i) Cl))
def GW:List CS:=((r.waves.take (Wq r user Bp)).map (fun v:Wv=>v.paths)).flatten
def uq(l m:List Sl)(r:Ro)(user:CS)(Bp:Int):List Sl:=if OL x l m r=0 then if QE x l m (GW r user Bp)=0 then CP (SE l m (GW r user Bp))else []else []
def yE(l m:List Sl)(r:Ro)(user:CS)(Bp:Int):Int:=if OL x l m r=0 then QE x l m (GW r user Bp)else OL x l m r
def ja(l m:List Sl)(r:Ro)(user:CS)(Bp:Int):AV:=.tup [sl Ab (uq x l m r user Bp),vi (yE x l m r user Bp)]
theorem Ab0(e:Int):BM (.tup [BE,vi e]) (.tup [sl Ab [],vi e]):=BM.tup (show Il [BE,vi e] [sl Ab [],vi e]from⟨BM.nil,BM.refl _,trivial⟩)
theorem AfQ{f:Nat}{args:List AV}{e:Int}(hc:PC f args (.tup [BE,vi e])):PC f args (.tup [sl Ab [],vi e]):=AP.mono hc fun _ _ ⟨e1,e2⟩=>⟨_,e1▸Ab0 e,rfl,e2⟩
theorem iJ(r:Ro)(user:CS)(Bp:Int):∀(l:List Wv) (i:Nat),Qw r user Bp i l<=i+l.length
 | [],i=>Ap _
 |v::l,i=>by
  rw[Qw];split
  .omega
  .have q:=iJ r user Bp l (i+1);rw[AA];omega
theorem qr:Wq r user Bp<=r.waves.length:=by have q:=iJ r user Bp r.waves 0;rw[Wq];omega
theorem AbT(l m:List Sl)(r:Ro)(user:CS)(Bp:Int)(hx:∀r∈x,CT r)(Ha:l.length<=16)(FC:m.length<=16)(hr:TA r)(hn:r.name.size<=10000000)(hu:user.size<=100000000)(c0:¬OL x l m r=0):PC 21 [.agg (Ic x ifs),sl Ab l,sl Ab m,.agg (IK r),vs user,vi Bp] (ja x l m r user Bp):=by
 refine Ps (pC [6,9] []) func21 rfl (Nz rfl) (yN (yN (C1 (C2 (by have q:=qn x ifs l m r user Bp hx Ha FC hr hn hu;rw[qO,Az c0]at q;exact q) ?_))));refine Yi (fun h1=>?_) (fun h1=>?_)
 .exact BM.trans (show BM _ (.tup [sl Ab [],vi (OL x l m r)])from Ab0 (OL x l m r)) (BM.of_eq (show AV.tup [sl Ab [],vi (OL x l m r)]=ja x l m r user Bp by rw[ja,uq,yE,Az c0,Az c0]))
 have h1:((OL x l m r):Int)=(0:Int):=Aq h1;exact absurd h1 c0
theorem AbU(l m:List Sl)(r:Ro)(user:CS)(Bp:Int)(hx:∀r∈x,CT r)(Ha:l.length<=16)(FC:m.length<=16)(hr:TA r)(hn:r.name.size<=10000000)(hu:user.size<=100000000)(c0:OL x l m r=0)(c1:QE x l m (GW r user Bp)=0):PC 21 [.agg (Ic x ifs),sl Ab l,sl Ab m,.agg (IK r),vs user,vi Bp] (ja x l m r user Bp):=by
 have hP:((r.waves.take (Wq r user Bp)).map (fun v:Wv=>v.paths)).length<=1000:=by have q:=hr.wv;rw[Lm,AD];omega
 have QS:∀p∈(r.waves.take (Wq r user Bp)).map (fun v:Wv=>v.paths),p.length<=1000:=fun p hp=>by obtain⟨v,hv,rfl⟩:=Ax.1 hp;exact hr.pt v (Db hv)
 have dN:BJ (GW r user Bp):=by have q:=PE hP QS ((r.waves.take (Wq r user Bp)).map (fun v:Wv=>v.paths)).length;rw[CA]at q;exact AH q Cl
 refine Ps (pC [6,9] []) func21 rfl (Nz rfl) (yN (yN (C1 (C2 (by have q:=qn x ifs l m r user Bp hx Ha FC hr hn hu;rw[qO,Ay c0]at q;exact q) ?_))));refine Yi (fun h=>absurd h Cl) (fun _=>?_);refine yN (yN (C2 (Zx r (Wq r user Bp) (qr r user Bp) (AH hr.wv Cl)) (C2 (vo ((r.waves.take (Wq r user Bp)).map (fun v:Wv=>v.paths)) hP QS) (C2 (by have q:=vg x ifs l m (GW r user Bp) hx Ha FC dN;rw[TN,Ay c1]at q;exact q) ?_))));refine Yi Wk ?_;exact BM.of_eq (show AV.tup [sl Ab (CP (SE l m (GW r user Bp))),vi 0]=ja x l m r user Bp by rw[ja,uq,yE,Ay c0,Ay c0,Ay c1,c1])
theorem AbV(l m:List Sl)(r:Ro)(user:CS)(Bp:Int)(hx:∀r∈x,CT r)(Ha:l.length<=16)(FC:m.length<=16)(hr:TA r)(hn:r.name.size<=10000000)(hu:user.size<=100000000)(c0:OL x l m r=0)(c1:¬QE x l m (GW r user Bp)=0):PC 21 [.agg (Ic x ifs),sl Ab l,sl Ab m,.agg (IK r),vs user,vi Bp] (ja x l m r user Bp):=by
 have hP:((r.waves.take (Wq r user Bp)).map (fun v:Wv=>v.paths)).length<=1000:=by have q:=hr.wv;rw[Lm,AD];omega
 have QS:∀p∈(r.waves.take (Wq r user Bp)).map (fun v:Wv=>v.paths),p.length<=1000:=fun p hp=>by obtain⟨v,hv,rfl⟩:=Ax.1 hp;exact hr.pt v (Db hv)
 have dN:BJ (GW r user Bp):=by have q:=PE hP QS ((r.waves.take (Wq r user Bp)).map (fun v:Wv=>v.paths)).length;rw[CA]at q;exact AH q Cl
 refine Ps (pC [6,9] []) func21 rfl (Nz rfl) (yN (yN (C1 (C2 (by have q:=qn x ifs l m r user Bp hx Ha FC hr hn hu;rw[qO,Ay c0]at q;exact q) ?_))));refine Yi (fun h=>absurd h Cl) (fun _=>?_);refine yN (yN (C2 (Zx r (Wq r user Bp) (qr r user Bp) (AH hr.wv Cl)) (C2 (vo ((r.waves.take (Wq r user Bp)).map (fun v:Wv=>v.paths)) hP QS) (C2 (by have q:=vg x ifs l m (GW r user Bp) hx Ha FC dN;rw[TN,Az c1]at q;exact AfQ q) ?_))));refine Yi Wk ?_;exact BM.of_eq (show AV.tup [sl Ab [],vi (QE x l m (GW r user Bp))]=ja x l m r user Bp by rw[ja,uq,yE,Ay c0,Ay c0,Az c1])
theorem AbS(l m:List Sl)(r:Ro)(user:CS)(Bp:Int)(hx:∀r∈x,CT r)(Ha:l.length<=16)(FC:m.length<=16)(hr:TA r)(hn:r.name.size<=10000000)(hu:user.size<=100000000):PC 21 [Fr x ifs,sl Ab l,sl Ab m,.agg (IK r),vs user,vi Bp] (ja x l m r user Bp):=by
 by_cases c0:OL x l m r=0
 .by_cases c1:QE x l m (GW r user Bp)=0
  .exact AbU x ifs l m r user Bp hx Ha FC hr hn hu c0 c1
  .exact AbV x ifs l m r user Bp hx Ha FC hr hn hu c0 c1
 .exact AbT x ifs l m r user Bp hx Ha FC hr hn hu c0
theorem gT{x:List Rl}{s:List Sl}(h:N4 x s=0){y:Sl}(hy:y∈s):∃r∈x,EL r=y:=by
 grind [N4,BQ]
theorem sK(hl:l.Pairwise Xp)(hm:m.Pairwise Xp){p:CS}:p∈Jt l m↔JD l p≠JD m p:=by
 obtain⟨_,h2,h3⟩:=U2 l m hl hm;unfold Jt;rw[h3,Ax];constructor
 .grind [MV]
 .intro Ek;have hp:p∈mp l m:=(h2 p).2 (by
   grind [Zc])
  exact⟨⟨p,JD l p,JD m p⟩,List.mem_filterMap.2 ⟨p,hp,by grind [MV]⟩,rfl⟩
theorem xx(h:l.Pairwise Xp){s:Sl}(hs:s∈l):JD l s.path=place s.ver:=by
 grind [JD,JM,QX,ocP]
theorem pI{x:List Rl}(hl:N4 x l=0)(hm:N4 x m=0){s t:Sl}(hs:s∈l)(ht:t∈m)(h1:s.path=t.path)(h2:place s.ver=place t.ver):s=t:=by
 obtain⟨a,ha,rfl⟩:=gT hl hs;obtain⟨b,hb,rfl⟩:=gT hm ht;rw[Zj (B3 (Xv hl)) ha hb h1 h2]
theorem sn{x:List Rl}(hl:N4 x l=0)(hm:N4 x m=0)(fl:BJ l){s:Sl}(hs:s∈l)(e:JD l s.path=JD m s.path):s∈m:=by
 rw[xx (Js (MZ hl)) hs]at e;cases f:Bg m s.path with
 |none=>
  have q:JD m s.path=-1:=by grind [JD]
  have v:=E2 ((Gq hl fl).val s hs)
  grind [place]
 |some t=>
  have ht:t∈m:=BA f;have hp:t.path=s.path:=by
   have q:=DV (show m.find? (fun x=>decide (x.path=s.path))=some t from f);simp_all
  grind [JD,pI]
theorem vQ{x:List Rl}{mv:List CS}(hl:N4 x l=0)(hm:N4 x m=0)(fl:BJ l)(fm:BJ m)(h:∀p∈Jt l m,p∈mv):CP (SE l m mv)=m:=by
 have il:=Js (MZ hl);have im:=Js (MZ hm);have out:∀p,HC mv p=false->JD l p=JD m p:=fun p hp=>Aq fun c=>by
  grind [UX,sK]
 refine ID (JE (TM il im mv)) im fun y=>?_
 grind [FE,SE,sn]
theorem ri(il:l.Pairwise Xp)(im:m.Pairwise Xp):CP (SE l m [])=l:=
 ID (JE (TM il im [])) il fun y=>by grind [FE,SE,HC]
theorem du{x:List Rl}(h:G3 x l m A7=0):RD x l m=0/\(∀p,p∈A7.flatten↔p∈Jt l m)/\fN x l m A7=true:=by
 grind [G3,JF]
theorem cp:∀{l:List Wv},J7 l=0->∀v∈l,Do v.stages=0
 | [],_,_,h=>by cases h
 |w::l,h,v,hv=>by
  unfold J7 at h;split at h
  .rename_i h1;rcases AU.1 hv with rfl | hv
   .exact h1
   .exact cp h v hv
  omega
theorem pv{x:List Rl}{r:Ro}(h:OL x l m r=0):G3 x l m (ZG r)=0/\∀v∈r.waves,Do v.stages=0:=by
 grind [OL,cp]
theorem U0:GW r user Bp=((ZG r).take (Wq r user Bp)).flatten:=by rw[GW,ZG,Mr]
theorem fS{x:List Rl}{r:Ro}(h:OL x l m r=0):QE x l m (GW r user Bp)=0/\yE x l m r user Bp=0/\uq x l m r user Bp=CP (SE l m (GW r user Bp)):=by
 obtain⟨h1,h2,_⟩:=du (pv h).1<;>grind [QE,UX,U0,List.mem_flatten,yE,uq]
theorem XY{r:Ro}{user:CS}{Bp:Int}:∀{l:List Wv} (i:Nat),(∀v∈l,100<=KP v.stages Bp)->Qw r user Bp i l=i+l.length
 | [],i,_=>rfl
 |v::l,i,h=>by
  have q:=(fY ((r.name++⟨#[47]⟩)++nY (i:Int)) user).2;have h1:=h v (Af ..);rw[Qw,Az (by grind [Vb]),XY (i+1) fun w hw=>h w (Ao _ hw),AA];omega
theorem Aca{r:Ro}{user:CS}{Bp:Int}(h:∀v∈r.waves,100<=KP v.stages Bp):Wq r user Bp=r.waves.length:=by grind [Wq,XY]
theorem ue{r:Ro}{user:CS}{Bp:Int}(h:∀v∈r.waves,KP v.stages Bp<=0):Wq r user Bp=0:=by
 unfold Wq;cases e:r.waves with
 |nil=>rfl
 |cons v l=>
  have q:=(fY ((r.name++⟨#[47]⟩)++nY ((0:Nat):Int)) user).1
  grind [Qw,Vb]
theorem rb{x:List Rl}{r:Ro}{user:CS}{Bp:Int}(h:OL x l m r=0)(hz:∀v∈r.waves,KP v.stages Bp<=0):uq x l m r user Bp=l:=by
 obtain⟨h1,_,_⟩:=du (pv h).1;rw[(fS user Bp h).2.2,U0,ue hz,List.take_zero,List.flatten_nil,ri (Js (MZ (Ob h1).1)) (Js (MZ (Ob h1).2))]
theorem vO{x:List Rl}{r:Ro}{user:CS}{Bp:Int}(h:OL x l m r=0)(fl:BJ l)(fm:BJ m)(hz:∀v∈r.waves,100<=KP v.stages Bp):uq x l m r user Bp=m:=by
 obtain⟨h1,h2,_⟩:=du (pv h).1;rw[(fS user Bp h).2.2,U0,Aca hz,Au (by grind [ZG])];exact vQ (Ob h1).1 (Ob h1).2 fl fm fun p hp=>(h2 p).2 hp
theorem TC{l:List α}(h:i<l.length)(k:p l[i]=false):l.all p=false:=List.all_eq_false.2 ⟨l[i],Ae h,by rw[k];decide⟩
theorem da{l:List α}(h:∀j (hj:j<l.length),j<i->p l[j]=true)(hi:l.length<=i):l.all p=true:=A3.2 fun x hx=>by
 obtain⟨j,hj,rfl⟩:=Cw.1 hx;exact h j hj ch
structure Ad where
 id:CS
 path:CS
 set:List (Int×Int)
 syms:List CS
 note:CS
variable (a:Ad)
abbrev AM:List AV:=[vs a.id,vs a.path,sl Ag a.set,sl Ar a.syms,vs a.note]
structure FL(a:Ad):Prop where
 id:ED a.id
 path:ED a.path
 set:BJ a.set
 syms:BJ a.syms
 sym:∀s∈a.syms,ED s
 note:ED a.note
def KB:Bool:=decide (1<=s.size)&&decide (s.size<=32)
def Ye:List CS->Bool
 |a::b::r=>Dz a b&&Ye (b::r)
 |_=>true
def Mc:Bool:=(A5 a.path).isSome&&KB a.id&&a.syms.all KB
def vL:Bool:=!a.set.isEmpty&&decide (a.set=canon a.set)&&!a.syms.isEmpty&&decide (a.syms.length<=1024)&&decide (a.note.size<=65536)
def KI:Int:=if Mc a=true then if vL a=true then if Ye a.syms=true then 0 else 1 else 1 else 4
theorem q8(l:List CS):Ye (l.drop (l.length-1))=true:=by
 cases h:l.drop (l.length-1)with
 |nil=>rfl
 |cons a r=>
  have q:=Aa List.length h;rw[DE,AA]at q;have e:r=[]:=Fm.1 ch;subst e;rfl
theorem Pf{l:List CS}(h:i+1<l.length):Ye (l.drop i)=(Dz l[i] l[i+1]&&Ye (l.drop (i+1))):=by
 rw[A2 (show i<l.length by omega),A2 h];rfl
theorem Tn(hs:ED s):PC 230 [vs s] (vb (KB s)):=by
 refine Ps C3 func230 rfl (Nz rfl) (Yi (fun h1=>?_) (fun h1=>?_))
 .refine Yi (fun h2=>?_) (fun h2=>?_)
  .exact BM.of_eq (Aa vb (show true=KB s by rw[KB];first | rfl | (rw[At (show 1<=s.size by omega)];first | rw[At (show s.size<=32 by omega)];rfl | rw[Aj (show ¬s.size<=32 by omega)];rfl) | (rw[Aj (show ¬1<=s.size by omega)];rfl)))
  exact BM.of_eq (Aa vb (show false=KB s by rw[KB];first | rfl | (rw[At (show 1<=s.size by omega)];first | rw[At (show s.size<=32 by omega)];rfl | rw[Aj (show ¬s.size<=32 by omega)];rfl) | (rw[Aj (show ¬1<=s.size by omega)];rfl)))
 exact BM.of_eq (Aa vb (show false=KB s by rw[KB];first | rfl | (rw[At (show 1<=s.size by omega)];first | rw[At (show s.size<=32 by omega)];rfl | rw[Aj (show ¬s.size<=32 by omega)];rfl) | (rw[Aj (show ¬1<=s.size by omega)];rfl)))
theorem AbZ(hs:ED s):PC 231 [vs s] (vb (!KB s)):=by
 refine Ps C3 func231 rfl (Nz rfl) (AN (Bt (KB s)) (fun h1=>?_) (fun h1=>?_))
 .refine C1 (C2 (cb h1 (Tn s hs)) ?_);exact BM.of_eq (Aa vb (show false=!KB s by first | rfl | simp only[h1,Bool.not_true]))
 refine C1 (C2 (cb h1 (Tn s hs)) ?_);exact BM.of_eq (Aa vb (show true=!KB s by first | rfl | simp only[h1,Bool.not_false]))
theorem BM.fn(f:Nat):BM (.v (.func (.func f) #[] #[])) (.clo f []):=fun _ _ _ _ h=>by cases h;exact .clo _ f [] #[] rfl (fun i av x h=>by cases h)
theorem Ch.nil:Ch []:=fun _ hc=>absurd hc List.not_mem_nil
theorem p8(l:List CS)(hl:BJ l)(hs:∀s∈l,ED s):PC 74 [sl Ar l,.v (.func (.func 231) #[] #[])] (vb (l.any fun s=>!KB s)):=
 (z74 (fF:=231) Ch.nil l (fun s=>!KB s) (fun s h=>AbZ s (hs s h)) hl).args ⟨.refl _,.fn _,trivial⟩
theorem qW{l:List CS}:(l.any fun s=>!KB s)=!l.all KB:=List.not_all_eq_any_not.symm
theorem Kp{a:Ad}{m:Int}(c0:A5 a.path=some m)(h1:KB a.id=true)(h2:(a.syms.any fun s=>!KB s)=false):Mc a=true:=by
 rw[qW]at h2;rw[Mc,c0,h1];show a.syms.all KB=true;simpa using h2
theorem lJ{a:Ad}(h:(a.syms.any fun s=>!KB s)=true):Mc a=false:=by
 rw[qW]at h;rw[Mc,show a.syms.all KB=false by simpa using h,Eg]
theorem ZV{l:List CS}(hi:i<l.length)(h1:1<=i)(h:∀j (hj:j+1<l.length),j+1<i->Dz l[j] l[j+1]=true)(k:Dz (l[i-1]' ch) l[i]=true):∀j (hj:j+1<l.length),j+1<i+1->Dz l[j] l[j+1]=true:=fun j hj q=>by
 rcases B2 (j+1) i with e | e
 .exact h j hj e
 .obtain rfl:i=j+1:=by omega
  exact k
theorem Nh{a:Ad}(h:Mc a=false):KI a=4:=by rw[KI,h];rfl
theorem KJ{a:Ad}(h:Mc a=true)(k:a.set.length=0\/a.set≠canon a.set\/a.syms.length=0\/1024<a.syms.length\/65536<a.note.size):KI a=1:=by
 rw[KI,Ay h,Az];intro e;simp only[vL,Am,Bd,EO,List.isEmpty_eq_false_iff]at e;obtain⟨⟨⟨⟨e1,e2⟩,e3⟩,e4⟩,e5⟩:=e;have f1:=Jj.2 e1;have f3:=Jj.2 e3;rcases k with k | k | k | k | k
 .omega
 .exact k e2
 .omega
 .omega
 .omega
theorem X7{a:Ad}(h:Mc a=true)(k1:¬a.set.length=0)(k2:a.set=canon a.set)(k3:¬a.syms.length=0)(k4:a.syms.length<=1024)(k5:a.note.size<=65536):KI a=if Ye a.syms=true then 0 else 1:=by
 rw[KI,Ay h,Ay];simp only[vL,Am,Bd,EO,List.isEmpty_eq_false_iff];exact⟨⟨⟨⟨fun e=>k1 (by rw[e];rfl),k2⟩,fun e=>k3 (by rw[e];rfl)⟩,k4⟩,k5⟩
theorem Yg{l:List CS}:∀{i:Nat},Ye (l.drop i)=false->Ye l=false
 |0,h=>h
 |i+1,h=>by
  refine Yg (i:=i) ?_
  by_cases hi:i+1<l.length
  .rw[Pf hi,h,Eg]
  .rw[Bq ch]at h;cases h
theorem Yf{l:List CS}(h:∀j (hj:j+1<l.length),Dz l[j] l[j+1]=true):∀k i,i+k=l.length->Ye (l.drop i)=true
 |0,i,e=>by rw[Bq ch];rfl
 |1,i,e=>by rw[show i=l.length-1 by omega];exact q8 l
 |k+2,i,e=>by rw[Pf ch,h i ch,Yf h (k+1) (i+1) ch];rfl
theorem AbP(ha:FL a)(c0:A5 a.path=none):PC 165 [.agg (AM a)] (vi (KI a)):=by
 refine Ps (pC [1] []) func165 rfl (Nz rfl) (C1 (C2 (VY.none ha.path c0) (Yi (fun _=>?_) (fun h=>absurd Cl h))));exact BM.of_eq (Aa vi (show 4=KI a from(Nh (by rw[Mc,c0];rfl)).symm))
theorem AbQ(ha:FL a)(m:Int)(c0:A5 a.path=some m):PC 165 [.agg (AM a)] (vi (KI a)):=by
 have wW:a.syms.length<=1073741824:=ha.syms;have wX:a.set.length<=1073741824:=ha.set;have hs3:a.note.size<=1073741824:=ha.note;refine Ps (pC [1] []) func165 rfl (Nz rfl) (C1 (C2 (VY.some ha.path c0) (Yi (fun h=>absurd h Cl) (fun _=>?_))));refine AN (Bt (KB a.id)) (fun h1=>?_) (fun h1=>?_)
 .refine C1 (C2 (cb h1 (Tn a.id ha.id)) (AN (Bt (a.syms.any fun s=>!KB s)) (fun h2=>?_) (fun h2=>?_)))
  .refine C1 (C2 (cb h2 (p8 a.syms ha.syms ha.sym)) ?_);exact BM.of_eq (Aa vi (show 4=KI a from(Nh (lJ h2)).symm))
  refine C1 (C2 (cb h2 (p8 a.syms ha.syms ha.sym)) (Yi (fun h4=>?_) (fun h4=>?_)))
  .refine Yi Wk ?_;exact BM.of_eq (Aa vi (show 1=KI a from(KJ (Kp c0 h1 h2) (.inl (by have q:=h4;rw[Lm]at q;omega))).symm))
  refine C2 (Yo a.set ha.set) (AN (Bt (decide (a.set=canon a.set))) (fun h6=>?_) (fun h6=>?_))
  .refine C2 (cb h6 (rn a.set (canon a.set) ha.set)) (Yi (fun h7=>?_) (fun h7=>?_))
   .refine Yi Wk ?_;exact BM.of_eq (Aa vi (show 1=KI a from(KJ (Kp c0 h1 h2) (.inr (.inr (.inl (by have q:=h7;rw[Lm]at q;omega))))).symm))
   refine Yi (fun h9=>?_) (fun h9=>?_)
   .have n9:1024<a.syms.length:=by have q:=h9;rw[Lm]at q;omega
    refine Yi Wk ?_;exact BM.of_eq (Aa vi (show 1=KI a from(KJ (Kp c0 h1 h2) (.inr (.inr (.inr (.inl ch))))).symm))
   have n9:¬1024<a.syms.length:=by have q:=h9;rw[Lm]at q;omega
   refine Yi (fun FH=>?_) (fun FH=>?_)
   .refine Yi Wk ?_;exact BM.of_eq (Aa vi (show 1=KI a from(KJ (Kp c0 h1 h2) (.inr (.inr (.inr (.inr ch))))).symm))
   refine Yi Wk (Xi {q:Nat // 1<=q/\∀j (hj:j+1<a.syms.length),j+1<q->Dz a.syms[j] a.syms[j+1]=true} (Xi (fun q=>⟨[(1,.ref 1 0),(6,vi q.1)],[(1,.ro (AM a))],Ac⟩) (Xi (fun q=>a.syms.length-q.1) (Yi (Xi ⟨1,Ap _,fun j hj h=>absurd h ch⟩ ?_) ?_))))
   .exact⟨Z2,Z1,Fh,Tv⟩
   intro⟨i,i1,i2⟩;have i2:∀j (hj:j+1<a.syms.length),j+1<i->Dz a.syms[j] a.syms[j+1]=true:=i2;refine Yi (fun K9=>?_) (fun K9=>?_)
   .have K9:(i:Int)<((a.syms.map Ar).length:Int):=K9;have n13:=DK K9;refine Yi (by show Av ((i:Int)-(1:Int));unfold Av;omega) (Xi (Ar (a.syms[i-1]' ch)) (Yi (Yi (show(0:Int)<=(i:Int)-1 by omega) (by rw[show((i:Int)-1).toNat=i-1 by omega];exact Ed (Ge ch))) (Yi rfl ?_)));refine Xi (Ar (a.syms[i]' ch)) (Yi (FJ n13) (Yi rfl (Yi (fun Sa=>?_) (fun Sa=>?_))))
    .have Sa:Dz (a.syms[i-1]' ch) (a.syms[i]' ch)=false:=(Ec _ _).trans Sa;refine Yi Wk ?_;exact BM.of_eq (Aa vi (show 1=KI a from((X7 (Kp c0 h1 h2) (by have q:=h4;rw[Lm]at q;omega) (AW h6) (by have q:=h7;rw[Lm]at q;omega) ch ch).trans (Az (by rw[Yg (i:=i-1) (by rw[Pf ch];simp only[show i-1+1=i by omega,Sa];rfl)];decide))).symm))
    have Sa:Dz (a.syms[i-1]' ch) (a.syms[i]' ch)=true:=(Ec _ _).trans (by simpa using Sa);refine Yi Wk (Yi (Ii i ch) ?_);have hi:i<a.syms.length:=n13;refine Xi ⟨i+1,by omega,ZV hi i1 i2 Sa⟩ ?_;exact⟨Dl a.syms.length i ch,Z2,Z1,Fh,Tv⟩
   have K9:¬((i:Int)<((a.syms.map Ar).length:Int)):=K9;have n13:=B5 K9;exact BM.of_eq (Aa vi (show 0=KI a from((X7 (Kp c0 h1 h2) (by have q:=h4;rw[Lm]at q;omega) (AW h6) (by have q:=h7;rw[Lm]at q;omega) ch ch).trans (Ay (Yf (fun j hj=>i2 j hj (by have q:=B5 K9;omega)) _ 0 (ET _)))).symm))
  have h6:(decide (a.set=canon a.set))=false:=h6;refine C2 (cb h6 (rn a.set (canon a.set) ha.set)) (Yi Wk ?_);exact BM.of_eq (Aa vi (show 1=KI a from(KJ (Kp c0 h1 h2) (.inr (.inl (Km h6)))).symm))
 have h1:(KB a.id)=false:=h1;refine C1 (C2 (cb h1 (Tn a.id ha.id)) ?_);exact BM.of_eq (Aa vi (show 4=KI a from(Nh (by rw[Mc,h1,Eg];rfl)).symm))
theorem Ah8(ha:FL a):PC 165 [.agg (AM a)] (vi (KI a)):=by
 cases c0:A5 a.path with
 |none=>exact AbP a ha c0
 |some m=>exact AbQ a ha m c0
theorem y9{s:Sl}(h:((if Be s.ver then 0 else 2:Int))=0):Be s.ver=true:=by
 cases e:Be s.ver with
 |true=>rfl
 |false=>rw[e]at h;exact absurd h Cl
theorem Ab2{s:Sl}(h:¬((if Be s.ver then 0 else 2:Int))=0):Be s.ver=false:=by
 cases e:Be s.ver with
 |false=>rfl
 |true=>rw[e]at h;exact absurd rfl h
def Hg(s:Sl):Bool:=Be s.ver&&decide (s.path=a.path)&&has a.set (place s.ver)
theorem Zw(s:Sl)(ha:BJ a.set):PC 81 [.agg (AM a),.agg (Ab s)] (vb (Hg a s)):=by
 refine Ps (pC [2,3] []) func81 rfl (Nz rfl) (yN (C1 (C2 (yF s.ver) (Yi (fun h1=>?_) (fun h1=>?_)))))
 .refine Yi (fun h2=>?_) (fun h2=>?_)
  .refine AN (Bt (has a.set (if Be s.ver then place s.ver else 0))) (fun h3=>?_) (fun h3=>?_)
   .refine C1 (C2 (cb h3 (mg a.set (if Be s.ver then place s.ver else 0) ha)) ?_);exact BM.of_eq (Aa vb (show true=Hg a s by have v:=y9 h1;have q:=h3;rw[Ay v]at q;rw[Hg,v,q,At h2];rfl))
   refine C1 (C2 (cb h3 (mg a.set (if Be s.ver then place s.ver else 0) ha)) ?_);exact BM.of_eq (Aa vb (show false=Hg a s by have v:=y9 h1;have q:=h3;rw[Ay v]at q;rw[Hg,v,q,At h2];rfl))
  exact BM.of_eq (Aa vb (show false=Hg a s by rw[Hg,Aj h2,Eg];rfl))
 exact BM.of_eq (Aa vb (show false=Hg a s by rw[Hg,Ab2 h1];rfl))
theorem yn(r:Rl):PC 106 [.agg (Ah r)] (.agg [vs r.path,vi r.ver.a,vi r.ver.b,vi r.ver.c]):=by
 refine Ps (pC [1] []) func106 rfl (Nz rfl) (yN (yN (yN ?_)));exact .refl _
theorem iH(r:Rl)(ha:BJ a.set):PC 105 [.agg (AM a),.cptr (Ah r)] (vb (Hg a (⟨r.path,r.ver⟩:Sl))):=by
 refine Ps (pC [2] []) func105 rfl (Nz rfl) (yN (yN (C2 (yn r) (AN (Bt (Hg a (⟨r.path,r.ver⟩:Sl))) (fun h1=>?_) (fun h1=>?_)))))
 .refine C2 (cb h1 (Zw a (⟨r.path,r.ver⟩:Sl) ha)) (Yi Wk ?_);exact BM.of_eq (Aa vb (show true=Hg a (⟨r.path,r.ver⟩:Sl)from h1.symm))
 refine C2 (cb h1 (Zw a (⟨r.path,r.ver⟩:Sl) ha)) (Yi Wk ?_);exact BM.of_eq (Aa vb (show false=Hg a (⟨r.path,r.ver⟩:Sl)from h1.symm))
theorem Ahg(hs:Ch caps)(l:List (Ad))(p:Ad->Bool)(hF:∀x∈l,PC fF ([.agg (AM x)]++caps) (vb (p x)))(hl:l.length<9223372036854775807) :
  PC 166 [sl AM l,.clo fF caps] (vi (Je p l 0)):=by
 refine Ps C3 func166 rfl (Nz rfl) (Xi {i:Nat // i<=l.length/\∀j (hj:j<l.length),j<i->p l[j]=false} (Xi (fun i=>⟨[(0,sl AM l),(1,.clo fF caps),(7,vi (l.map AM).length),(8,vi i.1)],[],Ac⟩) (Xi (fun i=>l.length-i.1) (Yi (Xi ⟨0,by simp⟩ ?_) ?_))))
 .exact⟨⟨Zr,⟨rfl,hs.ids _⟩,Zr,Zr,Tv⟩,Tv,Fh,Tv⟩
 .intro⟨i,h1,h2⟩;refine Yi ?_ ?_
  .intro h;have h:i<l.length:=by simpa using h
   have hg:l[i]?=some l[i]:=Ge h;refine Xi (AM l[i]) (Yi (Yi (Nn i) (by simp[hg])) (Yi rfl (yN ?_)));have BV:∀h,PC fF ([.agg (AM l[i])]++caps.map (str0 h)) (vb (p l[i])):=fun h=>by rw[hs.map];exact hF l[i] (Ae _)
   cases hp:p l[i]with
   |true=>
    rw[hp]at BV;refine Xi .pure (Xi (vb true) (Yi (BV _) ?_));rw[Hh h (fun j hj FI=>h2 j hj FI) hp,Em];exact .refl _
   |false=>
    rw[hp]at BV;refine Xi .pure (Xi (vb false) (Yi (BV _) (Yi (Ii i ch) (Xi ⟨i+1,by omega,fun j hj FI=>?_⟩ ?_))))
    .by_cases e:j=i
     .subst e;exact hp
     .exact h2 j hj ch
    .exact⟨Dl l.length i ch,⟨Zr,⟨rfl,hs.ids _⟩,Zr,Zr,Tv⟩,Tv,Fh,Tv⟩
  .intro h;have h:¬i<l.length:=by simpa using h
   rw[F3 fun j hj=>h2 j hj ch];exact .refl _
theorem Acq(hs:Ch caps)(l:List (Ad))(p:Ad->Bool)(hF:∀x∈l,PC fF ([.agg (AM x)]++caps) (vb (p x)))(hl:BJ l) :
  PC 104 [sl AM l,.clo fF caps] (vb (l.any p)):=by
 refine Ps C3 func104 rfl (Nz rfl) ?_;have hi:=Ahg hs l p hF (by unfold BJ at hl;omega);have BV:∀h,PC 166 [sl AM l,.clo fF (caps.map (str0 h))] (vi (Je p l 0)):=fun h=>by rw[hs.map];exact hi
 refine C1 (C2 (BV _) ?_);have ha:=Hc (p:=p) l 0 (Bv 0);refine Yi ?_ ?_
 .intro h;rw[<-ha,At h];exact .refl _
 .intro h;rw[<-ha,Aj h];exact .refl _
def Gj:List Ad->Int
 | []=>0
 |a::r=>if KI a=0 then Gj r else KI a
def NH(l:List Ad):Int:=if AC x=0 then Gj l else 1
theorem lL{l:List Ad}(h:i<l.length)(k:KI l[i]=0):Gj (l.drop i)=Gj (l.drop (i+1)):=by rw[A2 h,Gj,Ay k]
theorem lK{l:List Ad}(h:i<l.length)(k:¬KI l[i]=0):Gj (l.drop i)=KI l[i]:=by rw[A2 h,Gj,Az k]
theorem iF(l:List Ad)(hx:∀r∈x,CT r)(hl:BJ l)(SI:∀a∈l,FL a):PC 102 [.agg (Ic x ifs),sl AM l] (vi (NH x l)):=by
 have hl:l.length<=1073741824:=hl;refine Ps (pC [2] []) func102 rfl (Nz rfl) (yN (C1 (C2 (yG VY x ifs hx) (Yi (fun h1=>?_) (fun h1=>?_)))))
 .have h1:((AC x):Int)≠(0:Int):=h1;exact BM.of_eq (Aa vi (show 1=NH x l by rw[NH,Az h1]))
 have h1:((AC x):Int)=(0:Int):=Aq h1;refine Xi {q:Nat // q<=l.length/\Gj (l.drop q)=Gj l} (Xi (fun q=>⟨[(11,sl AM l),(12,vi (l.map AM).length),(13,vi q.1)],[],Ac⟩) (Xi (fun q=>l.length-q.1) (Yi (Xi ⟨0,Al _,rfl⟩ ?_) ?_)))
 .exact⟨Z3,Tv,Fh,Tv⟩
 intro⟨i,i1,i2⟩;have i1:i<=l.length:=i1;have i2:Gj (l.drop i)=Gj l:=i2;refine Yi (fun h3=>?_) (fun h3=>?_)
 .have h3:(i:Int)<((l.map AM).length:Int):=h3;have n3:=DK h3;refine Xi (AM l[i]) (Yi (FJ n3) (Yi rfl (yN (yN (yN (C1 (C2 (Ah8 l[i] (SI _ (Ae n3))) (Yi (fun h4=>?_) (fun h4=>?_)))))))))
  .have h4:((KI l[i]):Int)≠(0:Int):=h4;exact BM.of_eq (Aa vi (show(KI l[i])=NH x l by rw[NH,Ay h1,<-i2,lK n3 h4]))
  have h4:((KI l[i]):Int)=(0:Int):=Aq h4;refine Yi (Ii i ch) (Xi ⟨i+1,n3,by rw[<-i2,lL n3 h4]⟩ ?_);exact⟨Dl l.length i ch,Z3,Tv,Fh,Tv⟩
 have h3:¬((i:Int)<((l.map AM).length:Int)):=h3;have n3:=B5 h3;exact BM.of_eq (Aa vi (show 0=NH x l by rw[NH,Ay h1,<-i2,Bq (AO (B5 h3))];rfl))
abbrev IT(l:List Ad):Sl->Bool:=fun s=>l.any fun a=>Hg a s
def pG(l:List Ad):AV:=if NH x l=0 then .tup [Fr (yk true (IT l) x) ifs,vi 0]else .tup [.agg [BE,BE],vi (NH x l)]
theorem Abf{x:List Rl}{l:List Ad}(h:NH x l=0):AC x=0:=by
 unfold NH at h;split at h
 .assumption
 .exact absurd h Cl
theorem yt{x:List Rl}(h:Wr x)(hr:∀r∈x,r.reqs.length<=1000)(hc:AC x=0):AP Tryz.prog 43 [sl Ah x] Ac fun r h'=>r=.tup [.msl 2000 x.length,vi 0]/\h'=Ai [(2000,.arr 9 (x.map Ah))] Ac:=by
 have q:=Ahc h hr (by rw[Se hc];exact hc)
 rwa [Se hc]at q
theorem t8(l:List Ad)(hx:Wr x)(_hrq:∀r∈x,r.reqs.length<=1000)(hl:BJ l)(SI:∀a∈l,FL a)(_hcl:PC 103 [.slice .none ifs] (.slice .none ifs))(c0:¬NH x l=0):PC 62 [.agg (Ic x ifs),sl AM l] (pG x ifs l):=by
 refine Ps (pC [2] []) func62 rfl (Nz rfl) (yN (C1 (C2 (iF x ifs l hx.few hl SI) (Yi (fun h1=>?_) (fun h1=>?_)))))
 .have h1:((NH x l):Int)≠(0:Int):=h1;refine yN (yN ?_);exact BM.of_eq (show AV.tup [.agg [BE,BE],vi (NH x l)]=pG x ifs l by rw[pG,Az c0])
 have h1:((NH x l):Int)=(0:Int):=Aq h1;exact absurd h1 c0
theorem ua(l:List Ad)(hx:Wr x)(sb:∀r∈x,r.reqs.length<=1000)(hl:BJ l)(SI:∀a∈l,FL a)(hcl:PC 103 [.slice .none ifs] (.slice .none ifs))(c0:NH x l=0):PC 62 [.agg (Ic x ifs),sl AM l] (pG x ifs l):=by
 have h72:=yt hx sb (Abf c0);have HX:x.length<=19:=hx.len;refine Ps ⟨[2,11],[],[],[],[],[],[],[],[],[(100012,9)],[12]⟩ func62 rfl (Nz rfl) (yN (C1 (C2 (iF x ifs l hx.few hl SI) (Yi (fun h1=>?_) (fun h1=>?_)))))
 .have h1:((NH x l):Int)≠(0:Int):=h1;refine yN (yN ?_);exact absurd c0 h1
 have h1:((NH x l):Int)=(0:Int):=Aq h1;refine Xi (.gen [] 1) (Yi rfl (AP.to2 h72 ?_));refine C1 (C2 hcl (yN (Xi {q:Nat // q<=x.length} (Xi (fun q=>⟨[(1,sl AM l),(4,.ref 4 0),(9,.ref 9 0),(31,.msl 12200 x.length),(32,vi x.length),(33,vi q.1)],[(4,.cells [BE,BE]),(9,.cells [.msl 12200 x.length,.slice .none ifs]),(12200,.arr 9 ((yk true (IT l) (x.take q.1)++x.drop q.1).map Ah))],Ac⟩) (Xi (fun q=>x.length-q.1) (Yi (Xi ⟨0,Al _⟩ ?_) ?_))))))
 .exact⟨Z6,Z3,Fh,Tv⟩
 intro⟨i,i1⟩;have i1:i<=x.length:=i1;refine Yi (fun h3=>?_) (fun h3=>?_)
 .have h3:(i:Int)<(x.length:Int):=h3;have n3:i<x.length:=by omega
  have g3:x[i]?=some x[i]:=Ge n3;have ni:i<x.length:=by omega
  refine Yi (by show(0:Int)<=i/\(i:Int)<(x.length:Nat);omega) (Yi (show x.length=((yk true (IT l) (x.take i)++x.drop i).map Ah).length by rw[Lm,ZC]) (Xi (Ah x[i]) (Yi (Ed (qv ni)) ?_)));refine yN (yN (AN (Bt (IT l (OY x[i]))) (fun h4=>?_) (fun h4=>?_)))
  .have h4:(IT l (OY x[i]))=true:=h4;refine C1 (C2 (cb h4 (Acq (fF:=105) (Ch.ptr _) l (fun a=>Hg a (OY x[i])) (fun a ha=>iH a x[i] (SI a ha).set) hl)) (Yi (by show(0:Int)<=i/\(i:Int)<(x.length:Nat);omega) (Yi (show x.length=((yk true (IT l) (x.take i)++x.drop i).map Ah).length by rw[Lm,ZC]) (Xi (Ah x[i]) (Yi (Ed (qv ni)) (yN ?_))))));refine Yi (Ii i ch) (Xi ⟨i+1,ni⟩ ?_);exact⟨Dl x.length i ch,Z6,⟨Zr,Zr,⟨(show HO.arr 9 (((yk true (IT l) (x.take i)++x.drop i).map Ah).set i [vs x[i].path,vi x[i].ver.a,vi x[i].ver.b,vi x[i].ver.c,sl As x[i].reqs,vs x[i].arch,vs x[i].ifc,vs x[i].cert,vb true])=.arr 9 ((yk true (IT l) (x.take (i+1))++x.drop (i+1)).map Ah) by rw[<-iO ni,Ay h4,IV]),rfl⟩,Tv⟩,Fh,Tv⟩
  have h4:(IT l (OY x[i]))=false:=h4;refine C1 (C2 (cb h4 (Acq (fF:=105) (Ch.ptr _) l (fun a=>Hg a (OY x[i])) (fun a ha=>iH a x[i] (SI a ha).set) hl)) (Yi (Ii i ch) (Xi ⟨i+1,ni⟩ ?_)));exact⟨Dl x.length i ch,Z6,⟨Zr,Zr,⟨(show HO.arr 9 ((yk true (IT l) (x.take i)++x.drop i).map Ah)=.arr 9 ((yk true (IT l) (x.take (i+1))++x.drop (i+1)).map Ah) by rw[<-iO ni,Az (by rw[h4];decide),co (qv ni)]),rfl⟩,Tv⟩,Fh,Tv⟩
 have h3:¬((i:Int)<(x.length:Int)):=h3;have n3:¬i<x.length:=by omega
 refine Yi (show x.length=((yk true (IT l) (x.take i)++x.drop i).map Ah).length by rw[Lm,ZC]) ?_;refine cU [(4,.ref 4 0),(9,.ref 9 0)] [(4,.cells [BE,BE]),(9,.cells [.slice (.id 12200 9) ((yk true (IT l) (x.take i)++x.drop i).map Ah),.slice .none ifs]),(12200,.tok 9 ((yk true (IT l) (x.take i)++x.drop i).map Ah).length)] Z2 Z3 (yN (yN (yN ?_)));exact BM.of_eq (show AV.tup [Fr (yk true (IT l) (x.take i)++x.drop i) ifs,vi 0]=pG x ifs l by rw[pG,Ay c0,Au ch,Bq ch,BG])
theorem yo(l:List Ad)(hx:Wr x)(sb:∀r∈x,r.reqs.length<=1000)(hl:BJ l)(SI:∀a∈l,FL a)(hcl:PC 103 [.slice .none ifs] (.slice .none ifs)):PC 62 [Fr x ifs,sl AM l] (pG x ifs l):=by
 by_cases c0:NH x l=0
 .exact ua x ifs l hx sb hl SI hcl c0
 .exact t8 x ifs l hx sb hl SI hcl c0
theorem qd(s:Sl)(a:Ad)(ha:BJ a.set):PC 80 [.agg (Ab s),.cptr (AM a)] (vb (Hg a s)):=by
 refine Ps (pC [2] []) func80 rfl (Nz rfl) (yN (yN (AN (Bt (Hg a s)) (fun h1=>?_) (fun h1=>?_))))
 .have h1:(Hg a s)=true:=h1;refine C1 (C2 (cb h1 (Zw a s ha)) ?_);exact BM.of_eq (Aa vb (show true=Hg a s from h1.symm))
 have h1:(Hg a s)=false:=h1;refine C1 (C2 (cb h1 (Zw a s ha)) ?_);exact BM.of_eq (Aa vb (show false=Hg a s from h1.symm))
theorem cB(s:List Sl)(ha:BJ a.set)(hs:BJ s):PC 41 [.agg (AM a),sl Ab s] (vb (s.any (Hg a))):=by
 refine Ps (pC [2] []) func41 rfl (Nz rfl) (AN (Bt (s.any (Hg a))) (fun h1=>?_) (fun h1=>?_))
 .have h1:(s.any (Hg a))=true:=h1;refine C1 (C2 (cb h1 (o25 (fF:=80) (Ch.ptr _) s (Hg a) (fun y _=>qd y a ha) hs)) ?_);exact BM.of_eq (Aa vb (show true=s.any (Hg a)from h1.symm))
 have h1:(s.any (Hg a))=false:=h1;refine C1 (C2 (cb h1 (o25 (fF:=80) (Ch.ptr _) s (Hg a) (fun y _=>qd y a ha) hs)) ?_);exact BM.of_eq (Aa vb (show false=s.any (Hg a)from h1.symm))
theorem Ac1(y:Sl)(a:Ad):PC 109 [.agg (Ab y),.cptr (AM a)] (vb (decide (y.path=a.path))):=by
 refine Ps (pC [2] []) func109 rfl (Nz rfl) (Yi (fun h1=>?_) (fun h1=>?_))
 .have h1:(y.path:CS)=a.path:=h1;exact BM.of_eq (Aa vb (show true=decide (y.path=a.path)from(At h1).symm))
 have h1:¬(y.path:CS)=a.path:=h1;exact BM.of_eq (Aa vb (show false=decide (y.path=a.path)from(Aj h1).symm))
structure Wd where
 client:Nat
 rel:Rl
abbrev Ca(w:Wd):List AV:=vi ((w.client:Nat):Int)::Ah w.rel
abbrev BD(q:List Rq):List AV:=[sl As q]
def fg:Sl->Bool:=fun y=>decide (y.path=a.path)
def Acr:Rl:=⟨⟨#[]⟩,⟨0,0,0⟩,[],⟨#[]⟩,⟨#[]⟩,⟨#[]⟩,false⟩
def CH(q:List Rq):Rl:=(((Cf x q).find? (fg a)).bind (BQ x)).getD Acr
def Ji(q:List Rq):Bool:=decide (DD x q=0)&&(Cf x q).any (Hg a)&&!decide (DD sx q=0)
def Oj(x sx:List Rl)(a:Ad):List (List Rq)->Nat->List Wd
 | [],_=>[]
 |q::r,i=>if Ji x sx a q=true then⟨i,CH x a q⟩::Oj x sx a r (i+1)else Oj x sx a r (i+1)
def F2(cl:List (List Rq)):List Wd:=Oj x sx a cl 0
theorem Uc(x sx:List Rl)(a:Ad):∀(l m:List (List Rq)) (i:Nat),Oj x sx a (l++m) i=Oj x sx a l i++Oj x sx a m (i+l.length)
 | [],m,i=>rfl
 |q::l,m,i=>by
  rw[FO,Oj,Oj,Uc x sx a l m (i+1),AA,show i+1+l.length=i+(l.length+1) by omega];split
  .rfl
  .rfl
theorem LF{x sx:List Rl}{a:Ad}{cl:List (List Rq)}(h:i<cl.length):F2 x sx a (cl.take (i+1))=F2 x sx a (cl.take i)++if Ji x sx a cl[i]=true then [⟨i,CH x a cl[i]⟩]else []:=by
 rw[By h,F2,Uc,AD,Nat.min_eq_left ch,ET]
 rfl
theorem ML(x sx:List Rl)(a:Ad):∀(l:List (List Rq)) (i:Nat),(Oj x sx a l i).length<=l.length
 | [],i=>Ap _
 |q::l,i=>by
  have q1:=ML x sx a l (i+1);rw[Oj];split
  .simp only[AA];omega
  .simp only[AA];omega
theorem VL{x:List Rl}{a:Ad}{q:List Rq}(h:DD x q=0)(hc:(Cf x q).any (Hg a)=true):∃k,∃hk:k<(Cf x q).length,Je (fg a) (Cf x q) 0=((k:Nat):Int)/\BQ x ⟨(Cf x q)[k].path,(Cf x q)[k].ver⟩=some (CH x a q):=by
 obtain⟨y,hy,hb⟩:=BC.1 hc;have hp:fg a y=true:=by
  simp only[Hg,Am]at hb;exact hb.1.2
 have hk:(Cf x q).findIdx (fg a)<(Cf x q).length:=List.findIdx_lt_length_of_exists ⟨y,hy,hp⟩;have dQ:fg a (Cf x q)[(Cf x q).findIdx (fg a)]=true:=List.findIdx_getElem (w:=hk);have dK:∀j (hj:j<(Cf x q).length),j<(Cf x q).findIdx (fg a)->fg a (Cf x q)[j]=false:=fun j hj FI=>by
  have q:=List.not_of_lt_findIdx FI;simpa using q
 refine⟨_,hk,by rw[Hh hk dK dQ,Em],?_⟩;have hf:=aD hk dK dQ;obtain⟨r,hr,he⟩:=(Lp h).1 _ (Ae hk);rw[CH,hf];show BQ x _=some ((BQ x _).getD Acr);have hs:(BQ x ((Cf x q)[(Cf x q).findIdx (fg a)])).isSome=true:=by
  rw[BQ,Az (by rw[(Lp h).2.2];decide),List.find?_isSome];exact⟨r,hr,At he⟩
 obtain⟨r',r9⟩:=Option.isSome_iff_exists.1 hs;show BQ x ((Cf x q)[(Cf x q).findIdx (fg a)])=_;rw[r9];rfl
attribute [local irreducible] DD Cf CH Ji Hg BQ
theorem yh(ifs:C0)(a:Ad)(cl:List (List Rq))(hx:∀r∈x,CT r)(lC:∀r∈sx,CT r)(Ha:x.length<=16)(ha:BJ a.set)(hl:BJ cl)(hcl:∀q∈cl,∀z∈q,FA z):PC 65 [.agg (Ic x ifs),.agg (Ic sx ifs),.agg (AM a),sl BD cl] (sl Ca (F2 x sx a cl)):=by
 have hl:cl.length<=1073741824:=hl;have Ou:∀q,(Cf x q).length<=1073741824:=fun q=>YA q Ha;refine Ps (pT [4,5,6] [(9,10)] [6,7,8,11]) func65 rfl (Nz rfl) (Xi {q:Nat // q<=cl.length} (Xi (fun q=>⟨[(4,.ref 4 0),(5,.ref 5 0),(6,.ref 6 0),(9,.slice (.id 9 10) ((F2 x sx a (cl.take q.1)).map Ca)),(19,sl BD cl),(20,vi (cl.map BD).length),(21,vi q.1)],[(4,.ro (Ic x ifs)),(5,.ro (Ic sx ifs)),(6,.ro (AM a)),(9,.tok 10 ((F2 x sx a (cl.take q.1)).map Ca).length)],Ac⟩) (Xi (fun q=>cl.length-q.1) (Yi (Xi ⟨0,Al _⟩ ?_) ?_))))
 .exact⟨Z7,Z4,Fh,Tv⟩
 intro⟨i,i1⟩;have i1:i<=cl.length:=i1;have hq:(F2 x sx a (cl.take i)).length<=1073741824:=AH (ML _ _ _ _ _) (by rw[AD];omega);refine Yi (fun h1=>?_) (fun h1=>?_)
 .have h1:(i:Int)<((cl.map BD).length:Int):=h1;have n1:=DK h1;refine Xi (BD cl[i]) (Yi (FJ n1) (Yi rfl (yN (C1 (C2 (s16 x ifs cl[i] hx (hcl _ (Ae n1))) (cU [(4,.ref 4 0),(5,.ref 5 0),(6,.ref 6 0),(9,.slice (.id 9 10) ((F2 x sx a (cl.take i)).map Ca)),(10,vi i),(11,sl As cl[i]),(12,sl Ab (Cf x cl[i])),(13,vi (DD x cl[i])),(19,sl BD cl),(20,vi (cl.map BD).length),(21,vi i)] [(4,.ro (Ic x ifs)),(5,.ro (Ic sx ifs)),(6,.ro (AM a)),(9,.tok 10 ((F2 x sx a (cl.take i)).map Ca).length)] Z11 Z4 (Yi (fun h2=>?_) (fun h2=>?_))))))))
  .have h2:((DD x cl[i]):Int)≠(0:Int):=h2;refine Yi (Ii i ch) ?_;have ew:((F2 x sx a (cl.take i)).map Ca)=((F2 x sx a (cl.take (i+1))).map Ca):=by rw[LF n1,Az (by rw[Ji,Aj h2];exact B7),BG]
   refine Xi ⟨i+1,n1⟩ ?_;exact⟨Dl cl.length i ch,⟨Zr,Zr,Zr,⟨(Aa (AV.slice (.id 9 10)) ew),rfl⟩,Zr,Zr,Zr,Tv⟩,⟨Zr,Zr,Zr,⟨(show HO.tok 10 ((F2 x sx a (cl.take i)).map Ca).length=.tok 10 ((F2 x sx a (cl.take (i+1))).map Ca).length from Aa (HO.tok 10) (Aa List.length ew)),rfl⟩,Tv⟩,Fh,Tv⟩
  have h2:((DD x cl[i]):Int)=(0:Int):=Aq h2;refine yN (AN (Bt ((Cf x cl[i]).any (Hg a))) (fun h4=>?_) (fun h4=>?_))
  .have h4:((Cf x cl[i]).any (Hg a))=true:=h4;refine C1 (C2 (cb h4 (cB a (Cf x cl[i]) ha (YA cl[i] Ha))) (cU [(4,.ref 4 0),(5,.ref 5 0),(6,.ref 6 0),(9,.slice (.id 9 10) ((F2 x sx a (cl.take i)).map Ca)),(10,vi i),(11,sl As cl[i]),(12,sl Ab (Cf x cl[i])),(19,sl BD cl),(20,vi (cl.map BD).length),(21,vi i)] [(4,.ro (Ic x ifs)),(5,.ro (Ic sx ifs)),(6,.ro (AM a)),(9,.tok 10 ((F2 x sx a (cl.take i)).map Ca).length)] Z10 Z4 (yN (C1 (C2 (s16 sx ifs cl[i] lC (hcl _ (Ae n1))) (cU [(4,.ref 4 0),(5,.ref 5 0),(6,.ref 6 0),(9,.slice (.id 9 10) ((F2 x sx a (cl.take i)).map Ca)),(10,vi i),(12,sl Ab (Cf x cl[i])),(15,vi (DD sx cl[i])),(19,sl BD cl),(20,vi (cl.map BD).length),(21,vi i)] [(4,.ro (Ic x ifs)),(5,.ro (Ic sx ifs)),(6,.ro (AM a)),(9,.tok 10 ((F2 x sx a (cl.take i)).map Ca).length)] Z10 Z4 (Yi (fun h5=>?_) (fun h5=>?_))))))))
   .have h5:((DD sx cl[i]):Int)=(0:Int):=h5;refine Yi (Ii i ch) ?_;have ew:((F2 x sx a (cl.take i)).map Ca)=((F2 x sx a (cl.take (i+1))).map Ca):=by rw[LF n1,Az (by rw[Ji,At h5,Bool.not_true,Eg];exact B7),BG]
    refine Xi ⟨i+1,n1⟩ ?_;exact⟨Dl cl.length i ch,⟨Zr,Zr,Zr,⟨(Aa (AV.slice (.id 9 10)) ew),rfl⟩,Zr,Zr,Zr,Tv⟩,⟨Zr,Zr,Zr,⟨(show HO.tok 10 ((F2 x sx a (cl.take i)).map Ca).length=.tok 10 ((F2 x sx a (cl.take (i+1))).map Ca).length from Aa (HO.tok 10) (Aa List.length ew)),rfl⟩,Tv⟩,Fh,Tv⟩
   have h5:¬(((DD sx cl[i]):Int)=(0:Int)):=h5;obtain⟨k,hk,wQ,Qx⟩:=VL h2 h4;refine C1 (C2 (show PC 108 [sl Ab (Cf x cl[i]),.clo 109 [.cptr (AM a)]] (vi ((k:Nat):Int))from wQ▸o70 (fF:=109) (Ch.ptr _) (Cf x cl[i]) (fg a) (fun y _=>Ac1 y a) (Nat.lt_of_le_of_lt (Ou cl[i]) Cl)) (yN (Xi (Ab ((Cf x cl[i])[k])) (Yi (FJ hk) (Yi rfl (Xi (Ab ((Cf x cl[i])[k])) (Yi (FJ hk) (Yi rfl (yN (C2 (by have q:=c53 x ifs (Cf x cl[i])[k].path (Cf x cl[i])[k].ver (c84 x ifs hx) hx;rw[Qx]at q;exact q) ?_))))))))));refine yN (Yi Wk (cU [(4,.ref 4 0),(5,.ref 5 0),(6,.ref 6 0),(9,.slice (.id 9 10) ((F2 x sx a (cl.take i)).map Ca)),(10,vi i),(17,.ref 17 0),(19,sl BD cl),(20,vi (cl.map BD).length),(21,vi i)] [(4,.ro (Ic x ifs)),(5,.ro (Ic sx ifs)),(6,.ro (AM a)),(9,.tok 10 ((F2 x sx a (cl.take i)).map Ca).length),(17,.cells (Ah (CH x a cl[i])))] Z9 Z5 (yN ?_)));have b7:Bi 10 [[vi i,vs (CH x a cl[i]).path,vi (CH x a cl[i]).ver.a,vi (CH x a cl[i]).ver.b,vi (CH x a cl[i]).ver.c,sl As (CH x a cl[i]).reqs,vs (CH x a cl[i]).arch,vs (CH x a cl[i]).ifc,vs (CH x a cl[i]).cert,vb (CH x a cl[i]).yanked]]/\((F2 x sx a (cl.take i)).map Ca).length=((F2 x sx a (cl.take i)).map Ca).length/\(((F2 x sx a (cl.take i)).map Ca).length+([[vi i,vs (CH x a cl[i]).path,vi (CH x a cl[i]).ver.a,vi (CH x a cl[i]).ver.b,vi (CH x a cl[i]).ver.c,sl As (CH x a cl[i]).reqs,vs (CH x a cl[i]).arch,vs (CH x a cl[i]).ifc,vs (CH x a cl[i]).cert,vb (CH x a cl[i]).yanked]]:C0).length)*128<=140737488355328/\((F2 x sx a (cl.take i)).map Ca).length+([[vi i,vs (CH x a cl[i]).path,vi (CH x a cl[i]).ver.a,vi (CH x a cl[i]).ver.b,vi (CH x a cl[i]).ver.c,sl As (CH x a cl[i]).reqs,vs (CH x a cl[i]).arch,vs (CH x a cl[i]).ifc,vs (CH x a cl[i]).cert,vb (CH x a cl[i]).yanked]]:C0).length<=9223372036854775807:=⟨⟨rfl,trivial⟩,rfl,(by simp only[Lm,AA,AE];omega),(by simp only[Lm,AA,AE];omega)⟩;refine Yi b7 (Yi (Ii i ch) ?_);have ew:(((F2 x sx a (cl.take i)).map Ca)++[[vi i,vs (CH x a cl[i]).path,vi (CH x a cl[i]).ver.a,vi (CH x a cl[i]).ver.b,vi (CH x a cl[i]).ver.c,sl As (CH x a cl[i]).reqs,vs (CH x a cl[i]).arch,vs (CH x a cl[i]).ifc,vs (CH x a cl[i]).cert,vb (CH x a cl[i]).yanked]])=((F2 x sx a (cl.take (i+1))).map Ca):=by rw[LF n1,Ay (by rw[Ji,At h2,h4,Aj h5];rfl),AF];rfl
   refine Xi ⟨i+1,n1⟩ ?_;exact⟨Dl cl.length i ch,⟨Zr,Zr,Zr,⟨(Aa (AV.slice (.id 9 10)) ew),rfl⟩,Zr,Zr,Zr,Tv⟩,⟨Zr,Zr,Zr,⟨(show HO.tok 10 (((F2 x sx a (cl.take i)).map Ca).length+([[vi i,vs (CH x a cl[i]).path,vi (CH x a cl[i]).ver.a,vi (CH x a cl[i]).ver.b,vi (CH x a cl[i]).ver.c,sl As (CH x a cl[i]).reqs,vs (CH x a cl[i]).arch,vs (CH x a cl[i]).ifc,vs (CH x a cl[i]).cert,vb (CH x a cl[i]).yanked]]:C0).length)=.tok 10 ((F2 x sx a (cl.take (i+1))).map Ca).length from Aa (HO.tok 10) (Ak.symm.trans (Aa List.length ew))),rfl⟩,Tv⟩,Fh,Tv⟩
  have h4:((Cf x cl[i]).any (Hg a))=false:=h4;refine C1 (C2 (cb h4 (cB a (Cf x cl[i]) ha (YA cl[i] Ha))) (Yi (Ii i ch) ?_));have ew:((F2 x sx a (cl.take i)).map Ca)=((F2 x sx a (cl.take (i+1))).map Ca):=by rw[LF n1,Az (by rw[Ji,h4,Eg];exact B7),BG]
  refine Xi ⟨i+1,n1⟩ ?_;exact⟨Dl cl.length i ch,⟨Zr,Zr,Zr,⟨(Aa (AV.slice (.id 9 10)) ew),rfl⟩,Zr,Zr,Zr,Tv⟩,⟨Zr,Zr,Zr,⟨(show HO.tok 10 ((F2 x sx a (cl.take i)).map Ca).length=.tok 10 ((F2 x sx a (cl.take (i+1))).map Ca).length from Aa (HO.tok 10) (Aa List.length ew)),rfl⟩,Tv⟩,Fh,Tv⟩
 have h1:¬((i:Int)<((cl.map BD).length:Int)):=h1;have n1:=B5 h1;exact BM.of_eq (show sl Ca (F2 x sx a (cl.take i))=sl Ca (F2 x sx a cl) by rw[Au (l:=cl) (i:=i) (AO (B5 h1))])
end Go.Eng
