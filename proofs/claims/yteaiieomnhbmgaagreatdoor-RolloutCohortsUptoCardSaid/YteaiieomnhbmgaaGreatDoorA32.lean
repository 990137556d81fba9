/- Lemmas for the claims of this seat, without a condition: part 32 (W21, W34, W37, W22, W23, W24, W25). -/
import Derived.Test.YteaiieomnhbmgaaGreatDoorA31
set_option maxHeartbeats 4000000
namespace Go.Eng
open Go.Proofs
variable {l m:List Sl}{Bm:List (List ByteArray)}{i:Nat}{caps:List AV}{fF:Nat}(x:List Rl)(ifs:List (List AV))(r:Ro)(P:List (List ByteArray))(sx:List Rl)(s user:ByteArray)(BK:Int)
theorem uQ(n:Nat)(h0:0<n)(h1:n<=1000000000):A9 Tryz.prog 94 [nzA,.v (.int .i64 (n:Int))] Af fun r h'=>r=.slice (.id 2000 1) []/\h'=Ao [(2000,.tok 1 0)] Af:=by
 obtain⟨i0,ry⟩:∃i0,Tryz.prog.info? 9=some i0:=Option.isSome_iff_exists.1 Wk;have lJ:i0.size=1:=by
  have q:(Tryz.prog.info? 9).map (·.size)=some 1:=by kernel_rfl
  rw[ry]at q;exact CK q
 have hb:i0.bytes=16:=by
  have q:(Tryz.prog.info? 9).map (·.bytes)=some 16:=by kernel_rfl
  rw[ry]at q;exact CK q
 obtain⟨z,hz⟩:∃z,i0.zero=some z/\z.cells.size=1:=by
  have q:((Tryz.prog.info? 9).bind (·.zero)).map (·.cells.size)=some 1:=by kernel_rfl
  rw[ry]at q;cases e:i0.zero with
  |none=>simp[e]at q
  |some z=>simp[e]at q;exact⟨z,rfl,q⟩
 refine bH (Zy 94 Tryz.func94 Wk rfl) fun w=>?_;refine(Any8.slices_Grow_grow Tryz.layGrow i0 z ry hz.1 (by rw[lJ];decide) none 0 0 n [] w (Aj _) ch (by rw[hb];omega) ch B0 (fun _=>rfl) (fun a e=>by cases e)).mono ?_
 rintro e w' ⟨rfl,rfl⟩
 obtain⟨G,hG⟩:∃G,G=Go.grownCap w (0+n) 0 9:=⟨_,rfl⟩;have hGn:0+n<=G:=hG▸Go.grownCap_ge w _ _ _;have e9:(Tryz.layGrow_ren.t 25)=9:=rfl;rw[e9,<-hG];refine⟨G,_,_,rfl,?_,rfl⟩;have zc:∀(c:Array Value) (k:Nat),(Builtin.zeroCells c k).size=c.size*k:=fun c k=>by
  unfold Builtin.zeroCells;simp[Nat.mul_comm]
 rw[Array.size_append,Array.size_append,zc,zc,hz.2];simp only[D4,At];omega
theorem qV:PC 94 [nzA,.v (.int .i64 0)] nzA :=
 Kc [.slice none 0 0,.int .i64 0] (.slice none 0 0) (Zy 94 Tryz.func94 Wk rfl) rfl (fun g w=>.v _ _) fun w _=>Any8.slices_Grow_room Tryz.layGrow none 0 0 0 w ch ch ch ch
theorem uN(hP:P.length<=1000)(QW:∀p∈P,p.length<=1000)(S7:∀i,(P.take i).flatten.length<=1000000000)(hz:0<P.flatten.length):PC 55 [sl CG P] (sl AD P.flatten):=by
 refine Ps Ee Tryz.func55 rfl (Nz rfl) (Xi {q:Nat // q<=P.length} (Xi (fun q=>⟨[(0,sl CG P),(3,vi ((P.take q.1).flatten).length),(9,sl CG P),(10,vi (P.map CG).length),(11,vi q.1)],[],Af⟩) (Xi (fun q=>P.length-q.1) (Yi (Xi ⟨0,AE _⟩ ?_) ?_))))
 .exact⟨Z5,Tv,Fh,Tv⟩
 intro⟨i,i1⟩;have zC:=S7 i;refine Yi (fun h1=>?_) (fun h1=>?_)
 .have h1:(i:Int)<((P.map CG).length:Int):=h1;have n1:=FW h1;have YX:=QW _ (Aq n1);have RY:((P[i]).map AD).length<=1000:=by rw[Lm];exact YX
  refine Xi (CG P[i]) (Yi (LH n1) (Yi rfl (Yi (by show A7 ((((P.take i).flatten).length:Int)+((P[i].map AD).length:Int));unfold A7;omega) ?_)));refine Yi (fun h2=>?_) (fun h2=>?_)
  .exact absurd h2 ch
  refine Yi (Ii i ch) (Xi ⟨i+1,n1⟩ ?_);exact⟨Dl P.length i ch,⟨Zr,⟨(Aa vi (show((P.take i).flatten).length+(P[i].map AD).length=((((P.take (i+1)).flatten).length:Nat):Int) by rw[HP n1,Ac,Lm];omega)),rfl⟩,Zr,Zr,Zr,Tv⟩,Tv,Fh,Tv⟩
 have n1:=DT h1;refine Xi (.gen [] 1) (Yi rfl (A9.to2 (show A9 Tryz.prog 94 [nzA,.v (.int .i64 (((P.take i).flatten).length:Nat))] Af _ by rw[(show P.take i=P from As (Bz (DT h1)))];exact uQ P.flatten.length hz (by have q:=S7 P.length;rw[B4]at q;omega)) ?_));refine Xi {q:Nat // q<=P.length} (Xi (fun q=>⟨[(6,.slice (.id 12400 1) (((P.take q.1).flatten).map AD)),(25,sl CG P),(26,vi (P.map CG).length),(27,vi q.1)],[(12400,.tok 1 (((P.take q.1).flatten).map AD).length)],Af⟩) (Xi (fun q=>P.length-q.1) (Yi (Xi ⟨0,AE _⟩ ?_) ?_)))
 .exact⟨Z4,Z1,Fh,Tv⟩
 intro⟨k,k1⟩;have hfk:=S7 k;refine Yi (fun h5=>?_) (fun h5=>?_)
 .have h5:(k:Int)<((P.map CG).length:Int):=h5;have n5:=FW h5;have YX:=QW _ (Aq n5);have RY:((P[k]).map AD).length<=1000:=by rw[Lm];exact YX
  refine Xi (CG P[k]) (Yi (LH n5) (Yi rfl ?_));have b6:Cn 1 (P[k].map AD)/\(((P.take k).flatten).map AD).length=(((P.take k).flatten).map AD).length/\((((P.take k).flatten).map AD).length+(P[k].map AD).length)*16<=140737488355328/\(((P.take k).flatten).map AD).length+(P[k].map AD).length<=9223372036854775807:=⟨(DZ (enc:=AD) (n:=1) (fun _=>rfl) P[k]),rfl,(by simp only[Lm];omega),(by simp only[Lm];omega)⟩;refine Yi b6 (Yi (Ii k ch) ?_);have ew:(((P.take k).flatten).map AD++(P[k]).map AD)=((P.take (k+1)).flatten).map AD:=by rw[HP n5,Ar]
  refine Xi ⟨k+1,n5⟩ ?_;exact⟨Dl P.length k ch,⟨⟨(Aa (AV.slice (.id 12400 1)) ew),rfl⟩,Zr,Zr,Zr,Tv⟩,⟨⟨(show HO.tok 1 ((((P.take k).flatten).map AD).length+(P[k].map AD).length)=.tok 1 (((P.take (k+1)).flatten).map AD).length from Aa (HO.tok 1) (Ac.symm.trans (Aa List.length ew))),rfl⟩,Tv⟩,Fh,Tv⟩
 have h5:¬((k:Int)<((P.map CG).length:Int)):=h5;have n5:=DT h5;exact CZ.of_eq (show sl AD ((P.take k).flatten)=sl AD P.flatten by rw[As (l:=P) (i:=k) (Bz (DT h5))])
theorem uO(hP:P.length<=1000)(QW:∀p∈P,p.length<=1000)(S7:∀i,(P.take i).flatten.length<=1000000000)(hz:P.flatten.length=0):PC 55 [sl CG P] (sl AD P.flatten):=by
 refine Ps (pT [] [(6,1)] []) Tryz.func55 rfl (Nz rfl) (Xi {q:Nat // q<=P.length} (Xi (fun q=>⟨[(0,sl CG P),(3,vi ((P.take q.1).flatten).length),(9,sl CG P),(10,vi (P.map CG).length),(11,vi q.1)],[],Af⟩) (Xi (fun q=>P.length-q.1) (Yi (Xi ⟨0,AE _⟩ ?_) ?_))))
 .exact⟨Z5,Tv,Fh,Tv⟩
 intro⟨i,i1⟩;have zC:=S7 i;refine Yi (fun h1=>?_) (fun h1=>?_)
 .have h1:(i:Int)<((P.map CG).length:Int):=h1;have n1:=FW h1;have YX:=QW _ (Aq n1);have RY:((P[i]).map AD).length<=1000:=by rw[Lm];exact YX
  refine Xi (CG P[i]) (Yi (LH n1) (Yi rfl (Yi (by show A7 ((((P.take i).flatten).length:Int)+((P[i].map AD).length:Int));unfold A7;omega) ?_)));refine Yi (fun h2=>?_) (fun h2=>?_)
  .exact absurd h2 ch
  refine Yi (Ii i ch) (Xi ⟨i+1,n1⟩ ?_);exact⟨Dl P.length i ch,⟨Zr,⟨(Aa vi (show((P.take i).flatten).length+(P[i].map AD).length=((((P.take (i+1)).flatten).length:Nat):Int) by rw[HP n1,Ac,Lm];omega)),rfl⟩,Zr,Zr,Zr,Tv⟩,Tv,Fh,Tv⟩
 have n1:=DT h1;refine Xi .pure (Xi _ (Yi (show PC 94 [nzA,vi (((P.take i).flatten).length:Nat)] nzA by rw[(show P.take i=P from As (Bz (DT h1))),hz];exact qV) ?_));refine Xi {q:Nat // q<=P.length} (Xi (fun q=>⟨[(6,.slice (.id 6 1) (((P.take q.1).flatten).map AD)),(25,sl CG P),(26,vi (P.map CG).length),(27,vi q.1)],[(6,.tok 1 (((P.take q.1).flatten).map AD).length)],Af⟩) (Xi (fun q=>P.length-q.1) (Yi (Xi ⟨0,AE _⟩ ?_) ?_)))
 .exact⟨Z4,Z1,Fh,Tv⟩
 intro⟨k,k1⟩;have hfk:=S7 k;refine Yi (fun h4=>?_) (fun h4=>?_)
 .have h4:(k:Int)<((P.map CG).length:Int):=h4;have n4:=FW h4;have YX:=QW _ (Aq n4);have RY:((P[k]).map AD).length<=1000:=by rw[Lm];exact YX
  refine Xi (CG P[k]) (Yi (LH n4) (Yi rfl ?_));have b5:Cn 1 (P[k].map AD)/\(((P.take k).flatten).map AD).length=(((P.take k).flatten).map AD).length/\((((P.take k).flatten).map AD).length+(P[k].map AD).length)*16<=140737488355328/\(((P.take k).flatten).map AD).length+(P[k].map AD).length<=9223372036854775807:=⟨(DZ (enc:=AD) (n:=1) (fun _=>rfl) P[k]),rfl,(by simp only[Lm];omega),(by simp only[Lm];omega)⟩;refine Yi b5 (Yi (Ii k ch) ?_);have ew:(((P.take k).flatten).map AD++(P[k]).map AD)=((P.take (k+1)).flatten).map AD:=by rw[HP n4,Ar]
  refine Xi ⟨k+1,n4⟩ ?_;exact⟨Dl P.length k ch,⟨⟨(Aa (AV.slice (.id 6 1)) ew),rfl⟩,Zr,Zr,Zr,Tv⟩,⟨⟨(show HO.tok 1 ((((P.take k).flatten).map AD).length+(P[k].map AD).length)=.tok 1 (((P.take (k+1)).flatten).map AD).length from Aa (HO.tok 1) (Ac.symm.trans (Aa List.length ew))),rfl⟩,Tv⟩,Fh,Tv⟩
 have h4:¬((k:Int)<((P.map CG).length:Int)):=h4;have n4:=DT h4;exact CZ.of_eq (show sl AD ((P.take k).flatten)=sl AD P.flatten by rw[As (l:=P) (i:=k) (Bz (DT h4))])
theorem PF(pz:Bm.length<=1000)(QW:∀p∈Bm,p.length<=1000)(i:Nat):(Bm.take i).flatten.length<=1000000:=by
 have q:=SY QW Bm.length;have q2:(Bm.take i).flatten.length<=Bm.flatten.length:=by
  conv=>rhs;rw[<-Gp i Bm,Cc,Ac]
  omega
 rw[B4]at q;have q3:=Bg 1000 pz;omega
theorem rW(hP:P.length<=1000)(QW:∀p∈P,p.length<=1000):PC 55 [sl CG P] (sl AD P.flatten) :=
 (Nat.eq_zero_or_pos P.flatten.length).elim (uO P hP QW (fun i=>AJ (PF hP QW i) Cl)) (uN P hP QW (fun i=>AJ (PF hP QW i) Cl))
def GO:List ByteArray:=((r.waves.take (Vz r user BK)).map (fun v:Wv=>v.paths)).flatten
def rf(l m:List Sl)(r:Ro)(user:ByteArray)(BK:Int):List Sl:=if NR x l m r=0 then if Ph x l m (GO r user BK)=0 then D1 (SD l m (GO r user BK))else []else []
def vh(l m:List Sl)(r:Ro)(user:ByteArray)(BK:Int):Int:=if NR x l m r=0 then Ph x l m (GO r user BK)else NR x l m r
def gx(l m:List Sl)(r:Ro)(user:ByteArray)(BK:Int):AV:=.tup [sl Am (rf x l m r user BK),vi (vh x l m r user BK)]
theorem xZ(e:Int):CZ (.tup [nzA,vi e]) (.tup [sl Am [],vi e]):=CZ.tup (show KP [nzA,vi e] [sl Am [],vi e]from⟨CZ.nil,CZ.refl _,trivial⟩)
theorem Acj{f:Nat}{args:List AV}{e:Int}(hc:PC f args (.tup [nzA,vi e])):PC f args (.tup [sl Am [],vi e]):=A9.mono hc fun _ _ ⟨e1,e2⟩=>⟨_,e1▸xZ e,rfl,e2⟩
theorem ge(r:Ro)(user:ByteArray)(BK:Int):∀(l:List Wv) (i:Nat),MA r user BK i l<=i+l.length
 | [],i=>Aj _
 |v::l,i=>by
  rw[MA];split
  .omega
  .have q:=ge r user BK l (i+1);rw[Ak];omega
theorem nW:Vz r user BK<=r.waves.length:=by have q:=ge r user BK r.waves 0;rw[Vz];omega
theorem yT(l m:List Sl)(r:Ro)(user:ByteArray)(BK:Int)(hx:∀r∈x,Eu r)(J0:l.length<=16)(FU:m.length<=16)(hr:TE r)(hn:r.name.size<=10000000)(hu:user.size<=100000000)(c0:¬NR x l m r=0):PC 21 [.agg (Ic x ifs),sl Am l,sl Am m,.agg (Ia r),vs user,vi BK] (gx x l m r user BK):=by
 refine Ps (pC [6,9] []) Tryz.func21 rfl (Nz rfl) (yN (yN (Xi .pure (Xi _ (Yi (by have q:=br x ifs l m r user BK hx J0 FU hr hn hu;rw[jQ,Ai c0]at q;exact q) ?_)))));refine Yi (fun h1=>?_) (fun h1=>?_)
 .exact CZ.trans (show CZ _ (.tup [sl Am [],vi (NR x l m r)])from xZ (NR x l m r)) (CZ.of_eq (show AV.tup [sl Am [],vi (NR x l m r)]=gx x l m r user BK by rw[gx,rf,vh,Ai c0,Ai c0]))
 have h1:((NR x l m r):Int)=(0:Int):=AL h1;exact absurd h1 c0
theorem yU(l m:List Sl)(r:Ro)(user:ByteArray)(BK:Int)(hx:∀r∈x,Eu r)(J0:l.length<=16)(FU:m.length<=16)(hr:TE r)(hn:r.name.size<=10000000)(hu:user.size<=100000000)(c0:NR x l m r=0)(c1:Ph x l m (GO r user BK)=0):PC 21 [.agg (Ic x ifs),sl Am l,sl Am m,.agg (Ia r),vs user,vi BK] (gx x l m r user BK):=by
 have hP:((r.waves.take (Vz r user BK)).map (fun v:Wv=>v.paths)).length<=1000:=by have q:=hr.wv;rw[Lm,Av];omega
 have QW:∀p∈(r.waves.take (Vz r user BK)).map (fun v:Wv=>v.paths),p.length<=1000:=fun p hp=>by obtain⟨v,hv,rfl⟩:=Ag.1 hp;exact hr.pt v (CY hv)
 have cD:B9 (GO r user BK):=by have q:=PF hP QW ((r.waves.take (Vz r user BK)).map (fun v:Wv=>v.paths)).length;rw[B4]at q;exact AJ q Cl
 refine Ps (pC [6,9] []) Tryz.func21 rfl (Nz rfl) (yN (yN (Xi .pure (Xi _ (Yi (by have q:=br x ifs l m r user BK hx J0 FU hr hn hu;rw[jQ,Al c0]at q;exact q) ?_)))));refine Yi (fun h=>absurd h Cl) (fun _=>?_);refine yN (yN (Xi _ (Yi (YS r (Vz r user BK) (nW r user BK) (AJ hr.wv Cl)) (Xi _ (Yi (rW ((r.waves.take (Vz r user BK)).map (fun v:Wv=>v.paths)) hP QW) (Xi _ (Yi (by have q:=rT x ifs l m (GO r user BK) hx J0 FU cD;rw[TT,Al c1]at q;exact q) ?_)))))));refine Yi Wk ?_;exact CZ.of_eq (show AV.tup [sl Am (D1 (SD l m (GO r user BK))),vi 0]=gx x l m r user BK by rw[gx,rf,vh,Al c0,Al c0,Al c1,c1])
theorem yV(l m:List Sl)(r:Ro)(user:ByteArray)(BK:Int)(hx:∀r∈x,Eu r)(J0:l.length<=16)(FU:m.length<=16)(hr:TE r)(hn:r.name.size<=10000000)(hu:user.size<=100000000)(c0:NR x l m r=0)(c1:¬Ph x l m (GO r user BK)=0):PC 21 [.agg (Ic x ifs),sl Am l,sl Am m,.agg (Ia r),vs user,vi BK] (gx x l m r user BK):=by
 have hP:((r.waves.take (Vz r user BK)).map (fun v:Wv=>v.paths)).length<=1000:=by have q:=hr.wv;rw[Lm,Av];omega
 have QW:∀p∈(r.waves.take (Vz r user BK)).map (fun v:Wv=>v.paths),p.length<=1000:=fun p hp=>by obtain⟨v,hv,rfl⟩:=Ag.1 hp;exact hr.pt v (CY hv)
 have cD:B9 (GO r user BK):=by have q:=PF hP QW ((r.waves.take (Vz r user BK)).map (fun v:Wv=>v.paths)).length;rw[B4]at q;exact AJ q Cl
 refine Ps (pC [6,9] []) Tryz.func21 rfl (Nz rfl) (yN (yN (Xi .pure (Xi _ (Yi (by have q:=br x ifs l m r user BK hx J0 FU hr hn hu;rw[jQ,Al c0]at q;exact q) ?_)))));refine Yi (fun h=>absurd h Cl) (fun _=>?_);refine yN (yN (Xi _ (Yi (YS r (Vz r user BK) (nW r user BK) (AJ hr.wv Cl)) (Xi _ (Yi (rW ((r.waves.take (Vz r user BK)).map (fun v:Wv=>v.paths)) hP QW) (Xi _ (Yi (by have q:=rT x ifs l m (GO r user BK) hx J0 FU cD;rw[TT,Ai c1]at q;exact Acj q) ?_)))))));refine Yi Wk ?_;exact CZ.of_eq (show AV.tup [sl Am [],vi (Ph x l m (GO r user BK))]=gx x l m r user BK by rw[gx,rf,vh,Al c0,Al c0,Ai c1])
theorem yS(l m:List Sl)(r:Ro)(user:ByteArray)(BK:Int)(hx:∀r∈x,Eu r)(J0:l.length<=16)(FU:m.length<=16)(hr:TE r)(hn:r.name.size<=10000000)(hu:user.size<=100000000):PC 21 [Mo x ifs,sl Am l,sl Am m,.agg (Ia r),vs user,vi BK] (gx x l m r user BK):=by
 by_cases c0:NR x l m r=0
 .by_cases c1:Ph x l m (GO r user BK)=0
  .exact yU x ifs l m r user BK hx J0 FU hr hn hu c0 c1
  .exact yV x ifs l m r user BK hx J0 FU hr hn hu c0 c1
 .exact yT x ifs l m r user BK hx J0 FU hr hn hu c0
theorem fo{x:List Rl}{s:List Sl}(h:N8 x s=0){y:Sl}(hy:y∈s):∃r∈x,Gc r=y:=by
 have q:=h;unfold N8 at q;rw[Al (UV h),Al (L6 h)]at q;split at q
 .rename_i h3;have q:=Bc.1 h3 y hy;cases e:Db x y with
  |none=>rw[e]at q;cases q
  |some r=>exact⟨r,(JL e).2.1,(JL e).2.2⟩
 .exact absurd q Cl
theorem pX(hl:l.Pairwise UK)(hm:m.Pairwise UK){p:ByteArray}:p∈I8 l m↔Jb l p≠Jb m p:=by
 obtain⟨_,h2,h3⟩:=UQ l m hl hm;unfold I8;rw[h3,Ag];constructor
 .rintro⟨v,hv,rfl⟩
  obtain⟨q,_,e⟩:=List.mem_filterMap.1 hv;unfold Jl at e;split at e
  .rename_i Dy;cases e;exact Dy
  .cases e
 .intro Dy;have hp:p∈mp l m:=(h2 p).2 (by
   rcases Classical.em (p∈l.map (·.path))with q | q
   .exact .inl q
   .refine .inr (AL fun q2=>Dy ?_);rw[Tn (fun s hs e=>q (Ag.2 ⟨s,hs,e⟩)),Tn (fun s hs e=>q2 (Ag.2 ⟨s,hs,e⟩))])
  exact⟨⟨p,Jb l p,Jb m p⟩,List.mem_filterMap.2 ⟨p,hp,by unfold Jl;rw[Al Dy]⟩,rfl⟩
theorem ug(h:l.Pairwise UK){s:Sl}(hs:s∈l):Jb l s.path=place s.ver:=by
 unfold Jb;rw[JZ (Q0 ocP h) hs]
theorem ne{x:List Rl}(hl:N8 x l=0)(hm:N8 x m=0){s t:Sl}(hs:s∈l)(ht:t∈m)(h1:s.path=t.path)(h2:place s.ver=place t.ver):s=t:=by
 obtain⟨a,ha,rfl⟩:=fo hl hs;obtain⟨b,hb,rfl⟩:=fo hm ht;rw[YJ (Cw (UV hl)) ha hb h1 h2]
theorem eK{x:List Rl}(hl:N8 x l=0)(hm:N8 x m=0)(fl:B9 l){s:Sl}(hs:s∈l)(e:Jb l s.path=Jb m s.path):s∈m:=by
 rw[ug (JI (L6 hl)) hs]at e;cases f:BY m s.path with
 |none =>
  have q:Jb m s.path=-1:=by unfold Jb;rw[f]
  have v:=Jd ((GH hl fl).val s hs);unfold place at e;omega
 |some t =>
  have ht:t∈m:=BE f;have hp:t.path=s.path:=by
   have q:=DJ (show m.find? (fun x=>decide (x.path=s.path))=some t from f);exact AU q
  have q:Jb m s.path=place t.ver:=by unfold Jb;rw[f]
  rw[ne hl hm hs ht hp.symm (e.trans q)];exact ht
theorem sG{x:List Rl}{mv:List ByteArray}(hl:N8 x l=0)(hm:N8 x m=0)(fl:B9 l)(fm:B9 m)(h:∀p∈I8 l m,p∈mv):D1 (SD l m mv)=m:=by
 have il:=JI (L6 hl);have im:=JI (L6 hm);have out:∀p,Hc mv p=false->Jb l p=Jb m p:=fun p hp=>AL fun c=>by
  have:=UN.2 (h p ((pX il im).2 c));rw[hp]at this;cases this
 refine K5 (LB (TS il im mv)) im fun y=>?_;rw[Gr,SD,AO,Bv,Bv];constructor
 .rintro(⟨h1,h2⟩ | ⟨h1,_⟩)
  .have h2:Hc mv y.path=false:=by simpa using h2
   exact eK hl hm fl h1 (out _ h2)
  .exact h1
 .intro hy;cases e:Hc mv y.path with
  |true=>exact .inr ⟨hy,rfl⟩
  |false=>exact .inl ⟨eK hm hl fm hy (out _ e).symm,rfl⟩
theorem oU(il:l.Pairwise UK)(im:m.Pairwise UK):D1 (SD l m [])=l :=
 K5 (LB (TS il im [])) il fun y=>by rw[Gr,SD];simp[Hc]
theorem bT{x:List Rl}(h:GY x l m Bm=0):QC x l m=0/\(∀p,p∈Bm.flatten↔p∈I8 l m)/\bu x l m Bm=true:=by
 unfold GY at h;split at h
 .rename_i h1;split at h
  .split at h
   .rename_i h3;split at h
    .rename_i h4;exact⟨h1,fun p=>by rw[<-h3];exact(JS Bm.flatten).1.mem_iff.symm,h4⟩
    .exact absurd h Cl
   .exact absurd h Cl
  .exact absurd h Cl
 .rename_i h1;exact absurd h h1
theorem bf:∀{l:List Wv},IC l=0->∀v∈l,Dw v.stages=0
 | [],_,_,h=>by cases h
 |w::l,h,v,hv=>by
  unfold IC at h;split at h
  .rename_i h1;rcases Az.1 hv with rfl | hv
   .exact h1
   .exact bf h v hv
  .rename_i h1;exact absurd h h1
theorem m5{x:List Rl}{r:Ro}(h:NR x l m r=0):GY x l m (Vy r)=0/\∀v∈r.waves,Dw v.stages=0:=by
 unfold NR at h;split at h
 .rename_i h1;split at h
  .exact absurd h Cl
  .exact⟨h1,bf h⟩
 .rename_i h1;exact absurd h h1
theorem UP:GO r user BK=((Vy r).take (Vz r user BK)).flatten:=by rw[GO,Vy,SA]
theorem dQ{x:List Rl}{r:Ro}(h:NR x l m r=0):Ph x l m (GO r user BK)=0/\vh x l m r user BK=0/\rf x l m r user BK=D1 (SD l m (GO r user BK)):=by
 obtain⟨h1,h2,_⟩:=bT (m5 h).1;have e:Ph x l m (GO r user BK)=0:=by
  unfold Ph;rw[Al h1,Ai];intro c;obtain⟨p,hp,k⟩:=Bd.1 c
  have:Hc (I8 l m) p=true:=UN.2 ((h2 p).1 (by
   rw[UP]at hp;obtain⟨q,hq,hp⟩:=DY.1 hp;exact DY.2 ⟨q,CY hq,hp⟩))
  rw[this]at k;cases k
 refine⟨e,?_,?_⟩
 .unfold vh;rw[Al h,e]
 .unfold rf;rw[Al h,Al e]
theorem Xy{r:Ro}{user:ByteArray}{BK:Int}:∀{l:List Wv} (i:Nat),(∀v∈l,100<=Kd v.stages BK)->MA r user BK i l=i+l.length
 | [],i,_=>rfl
 |v::l,i,h=>by
  have q:=(SW ((r.name++⟨#[47]⟩)++eJ (i:Int)) user).2;have h1:=h v (Ab ..);rw[MA,Ai (by unfold SN;intro c;have c:=AU c;omega),Xy (i+1) fun w hw=>h w (Ah _ hw),Ak];omega
theorem zf{r:Ro}{user:ByteArray}{BK:Int}(h:∀v∈r.waves,100<=Kd v.stages BK):Vz r user BK=r.waves.length:=by rw[Vz,Xy 0 h,Bf]
theorem ra{r:Ro}{user:ByteArray}{BK:Int}(h:∀v∈r.waves,Kd v.stages BK<=0):Vz r user BK=0:=by
 unfold Vz;cases e:r.waves with
 |nil=>rfl
 |cons v l =>
  have q:=(SW ((r.name++⟨#[47]⟩)++eJ ((0:Nat):Int)) user).1;have h1:=h v (by rw[e];exact Ab ..);rw[MA,Al (by unfold SN;exact Ax ch)]
theorem oL{x:List Rl}{r:Ro}{user:ByteArray}{BK:Int}(h:NR x l m r=0)(hz:∀v∈r.waves,Kd v.stages BK<=0):rf x l m r user BK=l:=by
 obtain⟨h1,_,_⟩:=bT (m5 h).1;rw[(dQ user BK h).2.2,UP,ra hz,List.take_zero,List.flatten_nil,oU (JI (L6 (Of h1).1)) (JI (L6 (Of h1).2))]
theorem sD{x:List Rl}{r:Ro}{user:ByteArray}{BK:Int}(h:NR x l m r=0)(fl:B9 l)(fm:B9 m)(hz:∀v∈r.waves,100<=Kd v.stages BK):rf x l m r user BK=m:=by
 obtain⟨h1,h2,_⟩:=bT (m5 h).1;rw[(dQ user BK h).2.2,UP,zf hz,As (by rw[Vy,Lm];exact Aj _)];exact sG (Of h1).1 (Of h1).2 fl fm fun p hp=>(h2 p).2 hp
structure Ad where
 id:ByteArray
 path:ByteArray
 set:List (Int×Int)
 syms:List ByteArray
 note:ByteArray
variable (a:Ad)
abbrev CT:List AV:=[vs a.id,vs a.path,sl AC a.set,sl AD a.syms,vs a.note]
structure MD(a:Ad):Prop where
 id:F7 a.id
 path:F7 a.path
 set:B9 a.set
 syms:B9 a.syms
 sym:∀s∈a.syms,F7 s
 note:F7 a.note
def SM:Bool:=decide (1<=s.size)&&decide (s.size<=32)
def XQ:List ByteArray->Bool
 |a::b::r=>Ea a b&&XQ (b::r)
 |_=>true
def N6:Bool:=(CB a.path).isSome&&SM a.id&&a.syms.all SM
def sw:Bool:=!a.set.isEmpty&&decide (a.set=canon a.set)&&!a.syms.isEmpty&&decide (a.syms.length<=1024)&&decide (a.note.size<=65536)
def QG:Int:=if N6 a=true then if sw a=true then if XQ a.syms=true then 0 else 1 else 1 else 4
theorem oK(l:List ByteArray):XQ (l.drop (l.length-1))=true:=by
 cases h:l.drop (l.length-1)with
 |nil=>rfl
 |cons a r =>
  have q:=Aa List.length h;rw[Dc,Ak]at q;have e:r=[]:=FF.1 ch;subst e;rfl
theorem TM{l:List ByteArray}(h:i+1<l.length):XQ (l.drop i)=(Ea l[i] l[i+1]&&XQ (l.drop (i+1))):=by
 rw[AH (show i<l.length by omega),AH h];rfl
theorem Tp(hs:F7 s):PC 230 [vs s] (vb (SM s)):=by
 refine Ps Ee Tryz.func230 rfl (Nz rfl) (Yi (fun h1=>?_) (fun h1=>?_))
 .refine Yi (fun h2=>?_) (fun h2=>?_)
  .exact CZ.of_eq (Aa vb (show true=SM s by rw[SM];first | rfl | (rw[Ax (show 1<=s.size by omega)];first | rw[Ax (show s.size<=32 by omega)];rfl | rw[AB (show ¬s.size<=32 by omega)];rfl) | (rw[AB (show ¬1<=s.size by omega)];rfl)))
  exact CZ.of_eq (Aa vb (show false=SM s by rw[SM];first | rfl | (rw[Ax (show 1<=s.size by omega)];first | rw[Ax (show s.size<=32 by omega)];rfl | rw[AB (show ¬s.size<=32 by omega)];rfl) | (rw[AB (show ¬1<=s.size by omega)];rfl)))
 exact CZ.of_eq (Aa vb (show false=SM s by rw[SM];first | rfl | (rw[Ax (show 1<=s.size by omega)];first | rw[Ax (show s.size<=32 by omega)];rfl | rw[AB (show ¬s.size<=32 by omega)];rfl) | (rw[AB (show ¬1<=s.size by omega)];rfl)))
theorem yZ(hs:F7 s):PC 231 [vs s] (vb (!SM s)):=by
 refine Ps Ee Tryz.func231 rfl (Nz rfl) (B8 (Bt (SM s)) (fun h1=>?_) (fun h1=>?_))
 .refine Xi .pure (Xi _ (Yi (cb h1 (Tp s hs)) ?_));exact CZ.of_eq (Aa vb (show false=!SM s by first | rfl | simp only[h1,Bool.not_true]))
 refine Xi .pure (Xi _ (Yi (cb h1 (Tp s hs)) ?_));exact CZ.of_eq (Aa vb (show true=!SM s by first | rfl | simp only[h1,Bool.not_false]))
theorem CZ.fn(f:Nat):CZ (.v (.func (.func f) #[] #[])) (.clo f []):=fun _ _ _ _ h=>by cases h;exact .clo _ f [] #[] rfl (fun i av x h=>by cases h)
theorem CV.nil:CV []:=fun _ hc=>absurd hc List.not_mem_nil
theorem nF(l:List ByteArray)(hl:B9 l)(hs:∀s∈l,F7 s):PC 74 [sl AD l,.v (.func (.func 231) #[] #[])] (vb (l.any fun s=>!SM s)) :=
 (z74 (fF:=231) CV.nil l (fun s=>!SM s) (fun s h=>yZ s (hs s h)) hl).args ⟨.refl _,.fn _,trivial⟩
theorem vU{l:List ByteArray}:(l.any fun s=>!SM s)=!l.all SM:=List.not_all_eq_any_not.symm
theorem TG{a:Ad}{m:Int}(c0:CB a.path=some m)(h1:SM a.id=true)(h2:(a.syms.any fun s=>!SM s)=false):N6 a=true:=by
 rw[vU]at h2;rw[N6,c0,h1];show a.syms.all SM=true;simpa using h2
theorem sj{a:Ad}(h:(a.syms.any fun s=>!SM s)=true):N6 a=false:=by
 rw[vU]at h;rw[N6,show a.syms.all SM=false by simpa using h,Dn]
theorem ka{l:List ByteArray}(hi:i<l.length)(h1:1<=i)(h:∀j (hj:j+1<l.length),j+1<i->Ea l[j] l[j+1]=true)(k:Ea (l[i-1]' ch) l[i]=true):∀j (hj:j+1<l.length),j+1<i+1->Ea l[j] l[j+1]=true:=fun j hj q=>by
 rcases DQ (j+1) i with e | e
 .exact h j hj e
 .obtain rfl:i=j+1:=by omega
  exact k
theorem XI{a:Ad}(h:N6 a=false):QG a=4:=by rw[QG,h];rfl
theorem TF{a:Ad}(h:N6 a=true)(k:a.set.length=0\/a.set≠canon a.set\/a.syms.length=0\/1024<a.syms.length\/65536<a.note.size):QG a=1:=by
 rw[QG,Al h,Ai];intro e;simp only[sw,Ae,AA,CE,List.isEmpty_eq_false_iff]at e;obtain⟨⟨⟨⟨e1,e2⟩,e3⟩,e4⟩,e5⟩:=e;have f1:=He.2 e1;have f3:=He.2 e3;rcases k with k | k | k | k | k
 .omega
 .exact k e2
 .omega
 .omega
 .omega
theorem jV{a:Ad}(h:N6 a=true)(k1:¬a.set.length=0)(k2:a.set=canon a.set)(k3:¬a.syms.length=0)(k4:a.syms.length<=1024)(k5:a.note.size<=65536):QG a=if XQ a.syms=true then 0 else 1:=by
 rw[QG,Al h,Al];simp only[sw,Ae,AA,CE,List.isEmpty_eq_false_iff];exact⟨⟨⟨⟨fun e=>k1 (by rw[e];rfl),k2⟩,fun e=>k3 (by rw[e];rfl)⟩,k4⟩,k5⟩
theorem dO{l:List ByteArray}:∀{i:Nat},XQ (l.drop i)=false->XQ l=false
 |0,h=>h
 |i+1,h=>by
  refine dO (i:=i) ?_
  by_cases hi:i+1<l.length
  .rw[TM hi,h,Dn]
  .rw[Cr ch]at h;cases h
theorem dN{l:List ByteArray}(h:∀j (hj:j+1<l.length),Ea l[j] l[j+1]=true):∀k i,i+k=l.length->XQ (l.drop i)=true
 |0,i,e=>by rw[Cr ch];rfl
 |1,i,e=>by rw[show i=l.length-1 by omega];exact oK l
 |k+2,i,e=>by rw[TM ch,h i ch,dN h (k+1) (i+1) ch];rfl
theorem yO(ha:MD a)(c0:CB a.path=none):PC 165 [.agg (CT a)] (vi (QG a)):=by
 refine Ps (pC [1] []) Tryz.func165 rfl (Nz rfl) (Xi .pure (Xi _ (Yi (VH.none ha.path c0) (Yi (fun _=>?_) (fun h=>absurd Cl h)))));exact CZ.of_eq (Aa vi (show 4=QG a from(XI (by rw[N6,c0];rfl)).symm))
theorem yP(ha:MD a)(m:Int)(c0:CB a.path=some m):PC 165 [.agg (CT a)] (vi (QG a)):=by
 have lJ:a.syms.length<=1073741824:=ha.syms;have pD:a.set.length<=1073741824:=ha.set;have hs3:a.note.size<=1073741824:=ha.note;refine Ps (pC [1] []) Tryz.func165 rfl (Nz rfl) (Xi .pure (Xi _ (Yi (VH.some ha.path c0) (Yi (fun h=>absurd h Cl) (fun _=>?_)))));refine B8 (Bt (SM a.id)) (fun h1=>?_) (fun h1=>?_)
 .refine Xi .pure (Xi _ (Yi (cb h1 (Tp a.id ha.id)) (B8 (Bt (a.syms.any fun s=>!SM s)) (fun h2=>?_) (fun h2=>?_))))
  .refine Xi .pure (Xi _ (Yi (cb h2 (nF a.syms ha.syms ha.sym)) ?_));exact CZ.of_eq (Aa vi (show 4=QG a from(XI (sj h2)).symm))
  refine Xi .pure (Xi _ (Yi (cb h2 (nF a.syms ha.syms ha.sym)) (Yi (fun h4=>?_) (fun h4=>?_))))
  .refine Yi Wk ?_;exact CZ.of_eq (Aa vi (show 1=QG a from(TF (TG c0 h1 h2) (.inl (by have q:=h4;rw[Lm]at q;omega))).symm))
  refine Xi _ (Yi (XV a.set ha.set) (B8 (Bt (decide (a.set=canon a.set))) (fun h6=>?_) (fun h6=>?_)))
  .refine Xi _ (Yi (cb h6 (oX a.set (canon a.set) ha.set)) (Yi (fun h7=>?_) (fun h7=>?_)))
   .refine Yi Wk ?_;exact CZ.of_eq (Aa vi (show 1=QG a from(TF (TG c0 h1 h2) (.inr (.inr (.inl (by have q:=h7;rw[Lm]at q;omega))))).symm))
   refine Yi (fun h9=>?_) (fun h9=>?_)
   .have n9:1024<a.syms.length:=by have q:=h9;rw[Lm]at q;omega
    refine Yi Wk ?_;exact CZ.of_eq (Aa vi (show 1=QG a from(TF (TG c0 h1 h2) (.inr (.inr (.inr (.inl ch))))).symm))
   have n9:¬1024<a.syms.length:=by have q:=h9;rw[Lm]at q;omega
   refine Yi (fun Mk=>?_) (fun Mk=>?_)
   .refine Yi Wk ?_;exact CZ.of_eq (Aa vi (show 1=QG a from(TF (TG c0 h1 h2) (.inr (.inr (.inr (.inr ch))))).symm))
   refine Yi Wk (Xi {q:Nat // 1<=q/\∀j (hj:j+1<a.syms.length),j+1<q->Ea a.syms[j] a.syms[j+1]=true} (Xi (fun q=>⟨[(1,.ref 1 0),(6,vi q.1)],[(1,.ro (CT a))],Af⟩) (Xi (fun q=>a.syms.length-q.1) (Yi (Xi ⟨1,Aj _,fun j hj h=>absurd h ch⟩ ?_) ?_))))
   .exact⟨Z2,Z1,Fh,Tv⟩
   intro⟨i,i1,i2⟩;have i2:∀j (hj:j+1<a.syms.length),j+1<i->Ea a.syms[j] a.syms[j+1]=true:=i2;refine Yi (fun RV=>?_) (fun RV=>?_)
   .have RV:(i:Int)<((a.syms.map AD).length:Int):=RV;have n13:=FW RV;refine Yi (by show A7 ((i:Int)-(1:Int));unfold A7;omega) (Xi (AD (a.syms[i-1]' ch)) (Yi (Yi (show(0:Int)<=(i:Int)-1 by omega) (by rw[show((i:Int)-1).toNat=i-1 by omega];exact Ed (Ge ch))) (Yi rfl ?_)));refine Xi (AD (a.syms[i]' ch)) (Yi (LH n13) (Yi rfl (Yi (fun ZS=>?_) (fun ZS=>?_))))
    .have ZS:Ea (a.syms[i-1]' ch) (a.syms[i]' ch)=false:=(F9 _ _).trans ZS;refine Yi Wk ?_;exact CZ.of_eq (Aa vi (show 1=QG a from((jV (TG c0 h1 h2) (by have q:=h4;rw[Lm]at q;omega) (AU h6) (by have q:=h7;rw[Lm]at q;omega) ch ch).trans (Ai (by rw[dO (i:=i-1) (by rw[TM ch];simp only[show i-1+1=i by omega,ZS];rfl)];decide))).symm))
    have ZS:Ea (a.syms[i-1]' ch) (a.syms[i]' ch)=true:=(F9 _ _).trans (by simpa using ZS);refine Yi Wk (Yi (Ii i ch) ?_);have hi:i<a.syms.length:=n13;refine Xi ⟨i+1,by omega,ka hi i1 i2 ZS⟩ ?_;exact⟨Dl a.syms.length i ch,Z2,Z1,Fh,Tv⟩
   have RV:¬((i:Int)<((a.syms.map AD).length:Int)):=RV;have n13:=DT RV;exact CZ.of_eq (Aa vi (show 0=QG a from((jV (TG c0 h1 h2) (by have q:=h4;rw[Lm]at q;omega) (AU h6) (by have q:=h7;rw[Lm]at q;omega) ch ch).trans (Al (dN (fun j hj=>i2 j hj (by have q:=DT RV;omega)) _ 0 (Bf _)))).symm))
  have h6:(decide (a.set=canon a.set))=false:=h6;refine Xi _ (Yi (cb h6 (oX a.set (canon a.set) ha.set)) (Yi Wk ?_));exact CZ.of_eq (Aa vi (show 1=QG a from(TF (TG c0 h1 h2) (.inr (.inl (Qd h6)))).symm))
 have h1:(SM a.id)=false:=h1;refine Xi .pure (Xi _ (Yi (cb h1 (Tp a.id ha.id)) ?_));exact CZ.of_eq (Aa vi (show 4=QG a from(XI (by rw[N6,h1,Dn];rfl)).symm))
theorem Adr(ha:MD a):PC 165 [.agg (CT a)] (vi (QG a)):=by
 cases c0:CB a.path with
 |none=>exact yO a ha c0
 |some m=>exact yP a ha m c0
theorem va_{s:Sl}(h:((if Ct s.ver then 0 else 2:Int))=0):Ct s.ver=true:=by
 cases e:Ct s.ver with
 |true=>rfl
 |false=>rw[e]at h;exact absurd h Cl
theorem Acl{s:Sl}(h:¬((if Ct s.ver then 0 else 2:Int))=0):Ct s.ver=false:=by
 cases e:Ct s.ver with
 |false=>rfl
 |true=>rw[e]at h;exact absurd rfl h
def LU(s:Sl):Bool:=Ct s.ver&&decide (s.path=a.path)&&has a.set (place s.ver)
theorem YR(s:Sl)(ha:B9 a.set):PC 81 [.agg (CT a),.agg (Am s)] (vb (LU a s)):=by
 refine Ps (pC [2,3] []) Tryz.func81 rfl (Nz rfl) (yN (Xi .pure (Xi _ (Yi (vo s.ver) (Yi (fun h1=>?_) (fun h1=>?_))))))
 .refine Yi (fun h2=>?_) (fun h2=>?_)
  .refine B8 (Bt (has a.set (if Ct s.ver then place s.ver else 0))) (fun h3=>?_) (fun h3=>?_)
   .refine Xi .pure (Xi _ (Yi (cb h3 (km a.set (if Ct s.ver then place s.ver else 0) ha)) ?_));exact CZ.of_eq (Aa vb (show true=LU a s by have v:=va_ h1;have q:=h3;rw[Al v]at q;rw[LU,v,q,Ax h2];rfl))
   refine Xi .pure (Xi _ (Yi (cb h3 (km a.set (if Ct s.ver then place s.ver else 0) ha)) ?_));exact CZ.of_eq (Aa vb (show false=LU a s by have v:=va_ h1;have q:=h3;rw[Al v]at q;rw[LU,v,q,Ax h2];rfl))
  exact CZ.of_eq (Aa vb (show false=LU a s by rw[LU,AB h2,Dn];rfl))
 exact CZ.of_eq (Aa vb (show false=LU a s by rw[LU,Acl h1];rfl))
theorem uT(r:Rl):PC 106 [.agg (AF r)] (.agg [vs r.path,vi r.ver.a,vi r.ver.b,vi r.ver.c]):=by
 refine Ps (pC [1] []) Tryz.func106 rfl (Nz rfl) (yN (yN (yN ?_)));exact .refl _
theorem fX(r:Rl)(ha:B9 a.set):PC 105 [.agg (CT a),.cptr (AF r)] (vb (LU a (⟨r.path,r.ver⟩:Sl))):=by
 refine Ps (pC [2] []) Tryz.func105 rfl (Nz rfl) (yN (yN (Xi _ (Yi (uT r) (B8 (Bt (LU a (⟨r.path,r.ver⟩:Sl))) (fun h1=>?_) (fun h1=>?_))))))
 .refine Xi _ (Yi (cb h1 (YR a (⟨r.path,r.ver⟩:Sl) ha)) (Yi Wk ?_));exact CZ.of_eq (Aa vb (show true=LU a (⟨r.path,r.ver⟩:Sl)from h1.symm))
 refine Xi _ (Yi (cb h1 (YR a (⟨r.path,r.ver⟩:Sl) ha)) (Yi Wk ?_));exact CZ.of_eq (Aa vb (show false=LU a (⟨r.path,r.ver⟩:Sl)from h1.symm))
theorem Adx(hs:CV caps)(l:List (Ad))(p:Ad->Bool)(hF:∀x∈l,PC fF ([.agg (CT x)]++caps) (vb (p x)))(hl:l.length<9223372036854775807) :
  PC 166 [sl CT l,.clo fF caps] (vi (Jv p l 0)):=by
 refine Ps Ee Tryz.func166 rfl (Nz rfl) (Xi {i:Nat // i<=l.length/\∀j (hj:j<l.length),j<i->p l[j]=false} (Xi (fun i=>⟨[(0,sl CT l),(1,.clo fF caps),(7,vi (l.map CT).length),(8,vi i.1)],[],Af⟩) (Xi (fun i=>l.length-i.1) (Yi (Xi ⟨0,by simp⟩ ?_) ?_))))
 .exact⟨⟨Zr,⟨rfl,hs.ids _⟩,Zr,Zr,Tv⟩,Tv,Fh,Tv⟩
 .intro⟨i,h1,h2⟩;refine Yi ?_ ?_
  .intro h;have h:i<l.length:=by simpa using h
   have hg:l[i]?=some l[i]:=Ge h;refine Xi (CT l[i]) (Yi (Yi (Nn i) (by simp[hg])) (Yi rfl (yN ?_)));have Ca:∀h,PC fF ([.agg (CT l[i])]++caps.map (str0 h)) (vb (p l[i])):=fun h=>by rw[hs.map];exact hF l[i] (Aq _)
   cases hp:p l[i]with
   |true =>
    rw[hp]at Ca;refine Xi .pure (Xi (vb true) (Yi (Ca _) ?_));rw[HC h (fun j hj JG=>h2 j hj JG) hp,Ew];exact .refl _
   |false =>
    rw[hp]at Ca;refine Xi .pure (Xi (vb false) (Yi (Ca _) (Yi (Ii i ch) (Xi ⟨i+1,by omega,fun j hj JG=>?_⟩ ?_))))
    .by_cases e:j=i
     .subst e;exact hp
     .exact h2 j hj ch
    .exact⟨Dl l.length i ch,⟨Zr,⟨rfl,hs.ids _⟩,Zr,Zr,Tv⟩,Tv,Fh,Tv⟩
  .intro h;have h:¬i<l.length:=by simpa using h
   rw[Gk fun j hj=>h2 j hj ch];exact .refl _
theorem zl(hs:CV caps)(l:List (Ad))(p:Ad->Bool)(hF:∀x∈l,PC fF ([.agg (CT x)]++caps) (vb (p x)))(hl:B9 l) :
  PC 104 [sl CT l,.clo fF caps] (vb (l.any p)):=by
 refine Ps Ee Tryz.func104 rfl (Nz rfl) ?_;have hi:=Adx hs l p hF (by unfold B9 at hl;omega);have Ca:∀h,PC 166 [sl CT l,.clo fF (caps.map (str0 h))] (vi (Jv p l 0)):=fun h=>by rw[hs.map];exact hi
 refine Xi .pure (Xi _ (Yi (Ca _) ?_));have ha:=Hy (p:=p) l 0 (Bs 0);refine Yi ?_ ?_
 .intro h;rw[<-ha,Ax h];exact .refl _
 .intro h;rw[<-ha,AB h];exact .refl _
def MF:List Ad->Int
 | []=>0
 |a::r=>if QG a=0 then MF r else QG a
def OL(l:List Ad):Int:=if A4 x=0 then MF l else 1
theorem sn{l:List Ad}(h:i<l.length)(k:QG l[i]=0):MF (l.drop i)=MF (l.drop (i+1)):=by rw[AH h,MF,Al k]
theorem sm{l:List Ad}(h:i<l.length)(k:¬QG l[i]=0):MF (l.drop i)=QG l[i]:=by rw[AH h,MF,Ai k]
theorem fV(l:List Ad)(hx:∀r∈x,Eu r)(hl:B9 l)(jJ:∀a∈l,MD a):PC 102 [.agg (Ic x ifs),sl CT l] (vi (OL x l)):=by
 have hl:l.length<=1073741824:=hl;refine Ps (pC [2] []) Tryz.func102 rfl (Nz rfl) (yN (Xi .pure (Xi _ (Yi (vq VH x ifs hx) (Yi (fun h1=>?_) (fun h1=>?_))))))
 .have h1:((A4 x):Int)≠(0:Int):=h1;exact CZ.of_eq (Aa vi (show 1=OL x l by rw[OL,Ai h1]))
 have h1:((A4 x):Int)=(0:Int):=AL h1;refine Xi {q:Nat // q<=l.length/\MF (l.drop q)=MF l} (Xi (fun q=>⟨[(11,sl CT l),(12,vi (l.map CT).length),(13,vi q.1)],[],Af⟩) (Xi (fun q=>l.length-q.1) (Yi (Xi ⟨0,AE _,rfl⟩ ?_) ?_)))
 .exact⟨Z3,Tv,Fh,Tv⟩
 intro⟨i,i1,i2⟩;have i1:i<=l.length:=i1;have i2:MF (l.drop i)=MF l:=i2;refine Yi (fun h3=>?_) (fun h3=>?_)
 .have h3:(i:Int)<((l.map CT).length:Int):=h3;have n3:=FW h3;refine Xi (CT l[i]) (Yi (LH n3) (Yi rfl (yN (yN (yN (Xi .pure (Xi _ (Yi (Adr l[i] (jJ _ (Aq n3))) (Yi (fun h4=>?_) (fun h4=>?_))))))))))
  .have h4:((QG l[i]):Int)≠(0:Int):=h4;exact CZ.of_eq (Aa vi (show(QG l[i])=OL x l by rw[OL,Al h1,<-i2,sm n3 h4]))
  have h4:((QG l[i]):Int)=(0:Int):=AL h4;refine Yi (Ii i ch) (Xi ⟨i+1,n3,by rw[<-i2,sn n3 h4]⟩ ?_);exact⟨Dl l.length i ch,Z3,Tv,Fh,Tv⟩
 have h3:¬((i:Int)<((l.map CT).length:Int)):=h3;have n3:=DT h3;exact CZ.of_eq (Aa vi (show 0=OL x l by rw[OL,Al h1,<-i2,Cr (Bz (DT h3))];rfl))
abbrev bz(l:List Ad):Sl->Bool:=fun s=>l.any fun a=>LU a s
def rS(l:List Ad):AV:=if OL x l=0 then .tup [Mo (yk true (bz l) x) ifs,vi 0]else .tup [.agg [nzA,nzA],vi (OL x l)]
theorem yc{x:List Rl}{l:List Ad}(h:OL x l=0):A4 x=0:=by
 unfold OL at h;split at h
 .assumption
 .exact absurd h Cl
theorem uX{x:List Rl}(h:VY x)(hr:∀r∈x,r.reqs.length<=1000)(hc:A4 x=0):A9 Tryz.prog 43 [sl AF x] Af fun r h'=>r=.tup [.msl 2000 x.length,vi 0]/\h'=Ao [(2000,.arr 9 (x.map AF))] Af:=by
 have q:=Adu h hr (by rw[Sd hc];exact hc)
 rwa [Sd hc]at q
theorem qY(l:List Ad)(hx:VY x)(_hrq:∀r∈x,r.reqs.length<=1000)(hl:B9 l)(jJ:∀a∈l,MD a)(_hcl:PC 103 [.slice .none ifs] (.slice .none ifs))(c0:¬OL x l=0):PC 62 [.agg (Ic x ifs),sl CT l] (rS x ifs l):=by
 refine Ps (pC [2] []) Tryz.func62 rfl (Nz rfl) (yN (Xi .pure (Xi _ (Yi (fV x ifs l hx.few hl jJ) (Yi (fun h1=>?_) (fun h1=>?_))))))
 .have h1:((OL x l):Int)≠(0:Int):=h1;refine yN (yN ?_);exact CZ.of_eq (show AV.tup [.agg [nzA,nzA],vi (OL x l)]=rS x ifs l by rw[rS,Ai c0])
 have h1:((OL x l):Int)=(0:Int):=AL h1;exact absurd h1 c0
theorem qZ(l:List Ad)(hx:VY x)(xG:∀r∈x,r.reqs.length<=1000)(hl:B9 l)(jJ:∀a∈l,MD a)(hcl:PC 103 [.slice .none ifs] (.slice .none ifs))(c0:OL x l=0):PC 62 [.agg (Ic x ifs),sl CT l] (rS x ifs l):=by
 have h72:=uX hx xG (yc c0);have xM:x.length<=19:=hx.len;refine Ps ⟨[2,11],[],[],[],[],[],[],[],[],[(100012,9)],[12]⟩ Tryz.func62 rfl (Nz rfl) (yN (Xi .pure (Xi _ (Yi (fV x ifs l hx.few hl jJ) (Yi (fun h1=>?_) (fun h1=>?_))))))
 .have h1:((OL x l):Int)≠(0:Int):=h1;refine yN (yN ?_);exact absurd c0 h1
 have h1:((OL x l):Int)=(0:Int):=AL h1;refine Xi (.gen [] 1) (Yi rfl (A9.to2 h72 ?_));refine Xi .pure (Xi _ (Yi hcl (yN (Xi {q:Nat // q<=x.length} (Xi (fun q=>⟨[(1,sl CT l),(4,.ref 4 0),(9,.ref 9 0),(31,.msl 12200 x.length),(32,vi x.length),(33,vi q.1)],[(4,.cells [nzA,nzA]),(9,.cells [.msl 12200 x.length,.slice .none ifs]),(12200,.arr 9 ((yk true (bz l) (x.take q.1)++x.drop q.1).map AF))],Af⟩) (Xi (fun q=>x.length-q.1) (Yi (Xi ⟨0,AE _⟩ ?_) ?_)))))))
 .exact⟨Z6,Z3,Fh,Tv⟩
 intro⟨i,i1⟩;have i1:i<=x.length:=i1;refine Yi (fun h3=>?_) (fun h3=>?_)
 .have h3:(i:Int)<(x.length:Int):=h3;have n3:i<x.length:=by omega
  have g3:x[i]?=some x[i]:=Ge n3;have ni:i<x.length:=by omega
  refine Yi (by show(0:Int)<=i/\(i:Int)<(x.length:Nat);omega) (Yi (show x.length=((yk true (bz l) (x.take i)++x.drop i).map AF).length by rw[Lm,YV]) (Xi (AF x[i]) (Yi (Ed (nZ ni)) ?_)));refine yN (yN (B8 (Bt (bz l (bx x[i]))) (fun h4=>?_) (fun h4=>?_)))
  .have h4:(bz l (bx x[i]))=true:=h4;refine Xi .pure (Xi _ (Yi (cb h4 (zl (fF:=105) (CV.ptr _) l (fun a=>LU a (bx x[i])) (fun a ha=>fX a x[i] (jJ a ha).set) hl)) (Yi (by show(0:Int)<=i/\(i:Int)<(x.length:Nat);omega) (Yi (show x.length=((yk true (bz l) (x.take i)++x.drop i).map AF).length by rw[Lm,YV]) (Xi (AF x[i]) (Yi (Ed (nZ ni)) (yN ?_)))))));refine Yi (Ii i ch) (Xi ⟨i+1,ni⟩ ?_);exact⟨Dl x.length i ch,Z6,⟨Zr,Zr,⟨(show HO.arr 9 (((yk true (bz l) (x.take i)++x.drop i).map AF).set i [vs x[i].path,vi x[i].ver.a,vi x[i].ver.b,vi x[i].ver.c,sl Ba x[i].reqs,vs x[i].arch,vs x[i].ifc,vs x[i].cert,vb true])=.arr 9 ((yk true (bz l) (x.take (i+1))++x.drop (i+1)).map AF) by rw[<-gg ni,Al h4,Oh]),rfl⟩,Tv⟩,Fh,Tv⟩
  have h4:(bz l (bx x[i]))=false:=h4;refine Xi .pure (Xi _ (Yi (cb h4 (zl (fF:=105) (CV.ptr _) l (fun a=>LU a (bx x[i])) (fun a ha=>fX a x[i] (jJ a ha).set) hl)) (Yi (Ii i ch) (Xi ⟨i+1,ni⟩ ?_))));exact⟨Dl x.length i ch,Z6,⟨Zr,Zr,⟨(show HO.arr 9 ((yk true (bz l) (x.take i)++x.drop i).map AF)=.arr 9 ((yk true (bz l) (x.take (i+1))++x.drop (i+1)).map AF) by rw[<-gg ni,Ai (by rw[h4];decide),bc (nZ ni)]),rfl⟩,Tv⟩,Fh,Tv⟩
 have h3:¬((i:Int)<(x.length:Int)):=h3;have n3:¬i<x.length:=by omega
 refine Yi (show x.length=((yk true (bz l) (x.take i)++x.drop i).map AF).length by rw[Lm,YV]) ?_;refine cU [(4,.ref 4 0),(9,.ref 9 0)] [(4,.cells [nzA,nzA]),(9,.cells [.slice (.id 12200 9) ((yk true (bz l) (x.take i)++x.drop i).map AF),.slice .none ifs]),(12200,.tok 9 ((yk true (bz l) (x.take i)++x.drop i).map AF).length)] Z2 Z3 (yN (yN (yN ?_)));exact CZ.of_eq (show AV.tup [Mo (yk true (bz l) (x.take i)++x.drop i) ifs,vi 0]=rS x ifs l by rw[rS,Al c0,As ch,Cr ch,BP])
theorem uU(l:List Ad)(hx:VY x)(xG:∀r∈x,r.reqs.length<=1000)(hl:B9 l)(jJ:∀a∈l,MD a)(hcl:PC 103 [.slice .none ifs] (.slice .none ifs)):PC 62 [Mo x ifs,sl CT l] (rS x ifs l):=by
 by_cases c0:OL x l=0
 .exact qZ x ifs l hx xG hl jJ hcl c0
 .exact qY x ifs l hx xG hl jJ hcl c0
theorem nK(s:Sl)(a:Ad)(ha:B9 a.set):PC 80 [.agg (Am s),.cptr (CT a)] (vb (LU a s)):=by
 refine Ps (pC [2] []) Tryz.func80 rfl (Nz rfl) (yN (yN (B8 (Bt (LU a s)) (fun h1=>?_) (fun h1=>?_))))
 .have h1:(LU a s)=true:=h1;refine Xi .pure (Xi _ (Yi (cb h1 (YR a s ha)) ?_));exact CZ.of_eq (Aa vb (show true=LU a s from h1.symm))
 have h1:(LU a s)=false:=h1;refine Xi .pure (Xi _ (Yi (cb h1 (YR a s ha)) ?_));exact CZ.of_eq (Aa vb (show false=LU a s from h1.symm))
theorem bo(s:List Sl)(ha:B9 a.set)(hs:B9 s):PC 41 [.agg (CT a),sl Am s] (vb (s.any (LU a))):=by
 refine Ps (pC [2] []) Tryz.func41 rfl (Nz rfl) (B8 (Bt (s.any (LU a))) (fun h1=>?_) (fun h1=>?_))
 .have h1:(s.any (LU a))=true:=h1;refine Xi .pure (Xi _ (Yi (cb h1 (o25 (fF:=80) (CV.ptr _) s (LU a) (fun y _=>nK y a ha) hs)) ?_));exact CZ.of_eq (Aa vb (show true=s.any (LU a)from h1.symm))
 have h1:(s.any (LU a))=false:=h1;refine Xi .pure (Xi _ (Yi (cb h1 (o25 (fF:=80) (CV.ptr _) s (LU a) (fun y _=>nK y a ha) hs)) ?_));exact CZ.of_eq (Aa vb (show false=s.any (LU a)from h1.symm))
theorem y0(y:Sl)(a:Ad):PC 109 [.agg (Am y),.cptr (CT a)] (vb (decide (y.path=a.path))):=by
 refine Ps (pC [2] []) Tryz.func109 rfl (Nz rfl) (Yi (fun h1=>?_) (fun h1=>?_))
 .have h1:(y.path:ByteArray)=a.path:=h1;exact CZ.of_eq (Aa vb (show true=decide (y.path=a.path)from(Ax h1).symm))
 have h1:¬(y.path:ByteArray)=a.path:=h1;exact CZ.of_eq (Aa vb (show false=decide (y.path=a.path)from(AB h1).symm))
structure Wd where
 client:Nat
 rel:Rl
abbrev Cu(w:Wd):List AV:=vi ((w.client:Nat):Int)::AF w.rel
abbrev DC(q:List Rq):List AV:=[sl Ba q]
def Y1:Sl->Bool:=fun y=>decide (y.path=a.path)
def zm:Rl:=⟨⟨#[]⟩,⟨0,0,0⟩,[],⟨#[]⟩,⟨#[]⟩,⟨#[]⟩,false⟩
def El(q:List Rq):Rl:=(((EG x q).find? (Y1 a)).bind (Db x)).getD zm
def Nc(q:List Rq):Bool:=decide (Kw x q=0)&&(EG x q).any (LU a)&&!decide (Kw sx q=0)
def QQ(x sx:List Rl)(a:Ad):List (List Rq)->Nat->List Wd
 | [],_=>[]
 |q::r,i=>if Nc x sx a q=true then⟨i,El x a q⟩::QQ x sx a r (i+1)else QQ x sx a r (i+1)
def K7(cl:List (List Rq)):List Wd:=QQ x sx a cl 0
theorem ZE(x sx:List Rl)(a:Ad):∀(l m:List (List Rq)) (i:Nat),QQ x sx a (l++m) i=QQ x sx a l i++QQ x sx a m (i+l.length)
 | [],m,i=>rfl
 |q::l,m,i=>by
  rw[Hi,QQ,QQ,ZE x sx a l m (i+1),Ak,show i+1+l.length=i+(l.length+1) by omega];split
  .rfl
  .rfl
theorem SX{x sx:List Rl}{a:Ad}{cl:List (List Rq)}(h:i<cl.length):K7 x sx a (cl.take (i+1))=K7 x sx a (cl.take i)++if Nc x sx a cl[i]=true then [⟨i,El x a cl[i]⟩]else []:=by
 rw[BW h,K7,ZE,Av,Wc ch,Bf]
 rfl
theorem T9(x sx:List Rl)(a:Ad):∀(l:List (List Rq)) (i:Nat),(QQ x sx a l i).length<=l.length
 | [],i=>Aj _
 |q::l,i=>by
  have q1:=T9 x sx a l (i+1);rw[QQ];split
  .simp only[Ak];omega
  .simp only[Ak];omega
theorem bt{x:List Rl}{a:Ad}{q:List Rq}(h:Kw x q=0)(hc:(EG x q).any (LU a)=true):∃k,∃hk:k<(EG x q).length,Jv (Y1 a) (EG x q) 0=((k:Nat):Int)/\Db x ⟨(EG x q)[k].path,(EG x q)[k].ver⟩=some (El x a q):=by
 obtain⟨y,hy,hb⟩:=Bd.1 hc;have hp:Y1 a y=true:=by
  simp only[LU,Ae]at hb;exact hb.1.2
 have hk:(EG x q).findIdx (Y1 a)<(EG x q).length:=List.findIdx_lt_length_of_exists ⟨y,hy,hp⟩;have YX:Y1 a (EG x q)[(EG x q).findIdx (Y1 a)]=true:=List.findIdx_getElem (w:=hk);have QA:∀j (hj:j<(EG x q).length),j<(EG x q).findIdx (Y1 a)->Y1 a (EG x q)[j]=false:=fun j hj JG=>by
  have q:=List.not_of_lt_findIdx JG;simpa using q
 refine⟨_,hk,by rw[HC hk QA YX,Ew],?_⟩;have hf:=kR hk QA YX;obtain⟨r,hr,he⟩:=(Qq h).1 _ (Aq hk);rw[El,hf];show Db x _=some ((Db x _).getD zm);have hs:(Db x ((EG x q)[(EG x q).findIdx (Y1 a)])).isSome=true:=by
  rw[Db,Ai (by rw[(Qq h).2.2];decide),List.find?_isSome];exact⟨r,hr,Ax he⟩
 obtain⟨r',pB⟩:=Option.isSome_iff_exists.1 hs;show Db x ((EG x q)[(EG x q).findIdx (Y1 a)])=_;rw[pB];rfl
end Go.Eng
