/- Lemmas 28. -/
import Derived.Test.YteaiieomnhbmgaaGreatDoorAA27
set_option maxHeartbeats 4000000
namespace Go.Eng
open Go.Proofs Go.Proofs.Tryz
theorem B{A:Sort _}{B:Sort _}{a:A}{b:B}:a=a/\b=b:=Zr
theorem C:True:=Tv
theorem J{a b:Prop}(h:a)(k:b):a/\b:=Yi h k
theorem I{A:Sort _}{p:A->Prop}(w:A)(h:p w):Exists p:=Xi w h
theorem C4{a b:Nat}(h:Nat.ble a b=true:=by rfl):a<=b:=Nz h
theorem C5{A:Type}{a b:A}(f:A->AV)(h:a=b):BC (f a) (f b):=.of_eq (congrArg f h)
variable {l m:List Sl}{Al:List (List CS)}{i:Nat}{α:Type}{p:α->Bool}{caps:List AV}{fF:Nat}(x:List Rl)(ifs:C0)(r:Ro)(P:List (List CS))(s user:CS)(AK:Int)
theorem yF(n:Nat)(h0:0<n)(h1:n<=1000000000):AU Tryz.prog 94 [nzA,.v (.int .i64 (n:Int))] Ae fun r h'=>r=.slice (.id 2000 1) []/\h'=Ak [(2000,.tok 1 0)] Ae:=by
 obtain⟨i0,uT⟩:∃i0,Tryz.prog.info? 9=some i0:=Sp.1 aa1;have xg:i0.size=1:=by
  have q:(Tryz.prog.info? 9).map (·.size)=some 1:=by kernel_rfl
  rw[uT]at q;exact DY q
 have hb:i0.bytes=16:=by
  have q:(Tryz.prog.info? 9).map (·.bytes)=some 16:=by kernel_rfl
  rw[uT]at q;exact DY q
 obtain⟨z,hz⟩:∃z,i0.zero=some z/\z.cells.size=1:=by
  have q:((Tryz.prog.info? 9).bind (·.zero)).map (·.cells.size)=some 1:=by kernel_rfl
  rw[uT]at q;cases e:i0.zero with
  |none=>simp[e]at q
  |some z=>simp[e]at q;exact⟨z,rfl,q⟩
 refine cN (ZX 94 func94 aa1 rfl) fun w=>?_;refine(Any8.slices_Grow_grow Tryz.layGrow i0 z uT hz.1 (by rw[xg];decide) none 0 0 n [] w (Ao _) ch (by rw[hb];omega) ch Cl (fun _=>rfl) (fun a e=>by cases e)).mono ?_
 rintro e w' ⟨rfl,rfl⟩
 obtain⟨G,hG⟩:∃G,G=Go.grownCap w (0+n) 0 9:=⟨_,rfl⟩;have hGn:0+n<=G:=hG▸Go.grownCap_ge w _ _ _;have e9:(Tryz.layGrow_ren.t 25)=9:=rfl;rw[e9,<-hG];refine⟨G,_,_,rfl,?_,rfl⟩;have zc:∀(c:Array Value) (k:Nat),(Builtin.zeroCells c k).size=c.size*k:=fun c k=>by
  unfold Builtin.zeroCells;simp[Nat.mul_comm]
 rw[Array.size_append,Array.size_append,zc,zc,hz.2];simp only[KF,AC];omega
theorem ug:PC 94 [nzA,.v (.int .i64 0)] nzA:=
 JN [.slice none 0 0,.int .i64 0] (.slice none 0 0) (ZX 94 func94 aa1 rfl) rfl (fun g w=>.v _ _) fun w _=>Any8.slices_Grow_room Tryz.layGrow none 0 0 0 w ch ch ch ch
theorem yC(hP:P.length<=1000)(Mg:∀p∈P,p.length<=1000)(Yq:∀i,(P.take i).flatten.length<=1000000000)(hz:0<P.flatten.length):PC 55 [sl Bd P] (sl Af P.flatten):=by
 refine Ps CQ func55 rfl C4 (I {q:Nat // q<=P.length} (I (fun q=>⟨[(0,sl Bd P),(3,vi ((P.take q.1).flatten).length),(9,sl Bd P),(10,vi (P.map Bd).length),(11,vi q.1)],[],Ae⟩) (I (fun q=>P.length-q.1) (J (I ⟨0,Aj _⟩ ?_) ?_))))
 .exact⟨Z5,C,Fh,C⟩
 intro⟨i,i1⟩;have hfi:=Yq i;refine J (fun h1=>?_) (fun h1=>?_)
 .have h1:(i:Int)<((P.map Bd).length:Int):=h1;have n1:=Dh h1;have dD:=Mg _ (Ai n1);have Zl:((P[i]).map Af).length<=1000:=by rw[Lm];exact dD
  refine I (Bd P[i]) (J (DC n1) (J rfl (J (by show Az ((((P.take i).flatten).length:Int)+((P[i].map Af).length:Int));unfold Az;omega) ?_)));refine J (fun h2=>?_) (fun h2=>?_)
  .exact absurd h2 ch
  refine J (Ii i ch) (I ⟨i+1,n1⟩ ?_);exact⟨Dl P.length i ch,⟨B,⟨(Aa vi (show((P.take i).flatten).length+(P[i].map Af).length=((((P.take (i+1)).flatten).length:Nat):Int) by rw[Ht n1,Ac,Lm];omega)),rfl⟩,B,B,B,C⟩,C,Fh,C⟩
 have n1:=BB h1;refine I (.gen [] 1) (J rfl (AU.to2 (show AU Tryz.prog 94 [nzA,.v (.int .i64 (((P.take i).flatten).length:Nat))] Ae _ by rw[(show P.take i=P from As (AE (BB h1)))];exact yF P.flatten.length hz (by have q:=Yq P.length;rw[Cf]at q;omega)) ?_));refine I {q:Nat // q<=P.length} (I (fun q=>⟨[(6,.slice (.id 12400 1) (((P.take q.1).flatten).map Af)),(25,sl Bd P),(26,vi (P.map Bd).length),(27,vi q.1)],[(12400,.tok 1 (((P.take q.1).flatten).map Af).length)],Ae⟩) (I (fun q=>P.length-q.1) (J (I ⟨0,Aj _⟩ ?_) ?_)))
 .exact⟨Z4,Z1,Fh,C⟩
 intro⟨k,k1⟩;have hfk:=Yq k;refine J (fun h5=>?_) (fun h5=>?_)
 .have h5:(k:Int)<((P.map Bd).length:Int):=h5;have n5:=Dh h5;have dD:=Mg _ (Ai n5);have Zl:((P[k]).map Af).length<=1000:=by rw[Lm];exact dD
  refine I (Bd P[k]) (J (DC n5) (J rfl ?_));have b6:Bi 1 (P[k].map Af)/\(((P.take k).flatten).map Af).length=(((P.take k).flatten).map Af).length/\((((P.take k).flatten).map Af).length+(P[k].map Af).length)*16<=140737488355328/\(((P.take k).flatten).map Af).length+(P[k].map Af).length<=9223372036854775807:=⟨(BV (enc:=Af) (n:=1) (fun _=>rfl) P[k]),rfl,(by simp only[Lm];omega),(by simp only[Lm];omega)⟩;refine J b6 (J (Ii k ch) ?_);have ew:(((P.take k).flatten).map Af++(P[k]).map Af)=((P.take (k+1)).flatten).map Af:=by rw[Ht n5,Ar]
  refine I ⟨k+1,n5⟩ ?_;exact⟨Dl P.length k ch,⟨⟨(Aa (AV.slice (.id 12400 1)) ew),rfl⟩,B,B,B,C⟩,⟨⟨(show HO.tok 1 ((((P.take k).flatten).map Af).length+(P[k].map Af).length)=.tok 1 (((P.take (k+1)).flatten).map Af).length from Aa (HO.tok 1) (Ac.symm.trans (Aa List.length ew))),rfl⟩,C⟩,Fh,C⟩
 have h5:¬((k:Int)<((P.map Bd).length:Int)):=h5;have n5:=BB h5;exact BC.of_eq (show sl Af ((P.take k).flatten)=sl Af P.flatten by rw[As (l:=P) (i:=k) (AE (BB h5))])
theorem yD(hP:P.length<=1000)(Mg:∀p∈P,p.length<=1000)(Yq:∀i,(P.take i).flatten.length<=1000000000)(hz:P.flatten.length=0):PC 55 [sl Bd P] (sl Af P.flatten):=by
 refine Ps (pT [] [(6,1)] []) func55 rfl C4 (I {q:Nat // q<=P.length} (I (fun q=>⟨[(0,sl Bd P),(3,vi ((P.take q.1).flatten).length),(9,sl Bd P),(10,vi (P.map Bd).length),(11,vi q.1)],[],Ae⟩) (I (fun q=>P.length-q.1) (J (I ⟨0,Aj _⟩ ?_) ?_))))
 .exact⟨Z5,C,Fh,C⟩
 intro⟨i,i1⟩;have hfi:=Yq i;refine J (fun h1=>?_) (fun h1=>?_)
 .have h1:(i:Int)<((P.map Bd).length:Int):=h1;have n1:=Dh h1;have dD:=Mg _ (Ai n1);have Zl:((P[i]).map Af).length<=1000:=by rw[Lm];exact dD
  refine I (Bd P[i]) (J (DC n1) (J rfl (J (by show Az ((((P.take i).flatten).length:Int)+((P[i].map Af).length:Int));unfold Az;omega) ?_)));refine J (fun h2=>?_) (fun h2=>?_)
  .exact absurd h2 ch
  refine J (Ii i ch) (I ⟨i+1,n1⟩ ?_);exact⟨Dl P.length i ch,⟨B,⟨(Aa vi (show((P.take i).flatten).length+(P[i].map Af).length=((((P.take (i+1)).flatten).length:Nat):Int) by rw[Ht n1,Ac,Lm];omega)),rfl⟩,B,B,B,C⟩,C,Fh,C⟩
 have n1:=BB h1;refine C1 (C2 (show PC 94 [nzA,vi (((P.take i).flatten).length:Nat)] nzA by rw[(show P.take i=P from As (AE (BB h1))),hz];exact ug) ?_);refine I {q:Nat // q<=P.length} (I (fun q=>⟨[(6,.slice (.id 6 1) (((P.take q.1).flatten).map Af)),(25,sl Bd P),(26,vi (P.map Bd).length),(27,vi q.1)],[(6,.tok 1 (((P.take q.1).flatten).map Af).length)],Ae⟩) (I (fun q=>P.length-q.1) (J (I ⟨0,Aj _⟩ ?_) ?_)))
 .exact⟨Z4,Z1,Fh,C⟩
 intro⟨k,k1⟩;have hfk:=Yq k;refine J (fun h4=>?_) (fun h4=>?_)
 .have h4:(k:Int)<((P.map Bd).length:Int):=h4;have n4:=Dh h4;have dD:=Mg _ (Ai n4);have Zl:((P[k]).map Af).length<=1000:=by rw[Lm];exact dD
  refine I (Bd P[k]) (J (DC n4) (J rfl ?_));have b5:Bi 1 (P[k].map Af)/\(((P.take k).flatten).map Af).length=(((P.take k).flatten).map Af).length/\((((P.take k).flatten).map Af).length+(P[k].map Af).length)*16<=140737488355328/\(((P.take k).flatten).map Af).length+(P[k].map Af).length<=9223372036854775807:=⟨(BV (enc:=Af) (n:=1) (fun _=>rfl) P[k]),rfl,(by simp only[Lm];omega),(by simp only[Lm];omega)⟩;refine J b5 (J (Ii k ch) ?_);have ew:(((P.take k).flatten).map Af++(P[k]).map Af)=((P.take (k+1)).flatten).map Af:=by rw[Ht n4,Ar]
  refine I ⟨k+1,n4⟩ ?_;exact⟨Dl P.length k ch,⟨⟨(Aa (AV.slice (.id 6 1)) ew),rfl⟩,B,B,B,C⟩,⟨⟨(show HO.tok 1 ((((P.take k).flatten).map Af).length+(P[k].map Af).length)=.tok 1 (((P.take (k+1)).flatten).map Af).length from Aa (HO.tok 1) (Ac.symm.trans (Aa List.length ew))),rfl⟩,C⟩,Fh,C⟩
 have h4:¬((k:Int)<((P.map Bd).length:Int)):=h4;have n4:=BB h4;exact BC.of_eq (show sl Af ((P.take k).flatten)=sl Af P.flatten by rw[As (l:=P) (i:=k) (AE (BB h4))])
theorem Pp(dE:Al.length<=1000)(Mg:∀p∈Al,p.length<=1000)(i:Nat):(Al.take i).flatten.length<=1000000:=by
 have q:=SM Mg Al.length;have q2:(Al.take i).flatten.length<=Al.flatten.length:=by
  conv=>rhs;rw[<-LQ i Al,Ci,Ac]
  omega
 rw[Cf]at q;have q3:=Bl 1000 dE;omega
theorem vz(hP:P.length<=1000)(Mg:∀p∈P,p.length<=1000):PC 55 [sl Bd P] (sl Af P.flatten):=
 (Nat.eq_zero_or_pos P.flatten.length).elim (yD P hP Mg (fun i=>Av (Pp hP Mg i) Wk)) (yC P hP Mg (fun i=>Av (Pp hP Mg i) Wk))
def D1:List CS:=((r.waves.take (Lc r user AK)).map (fun v:Wv=>v.paths)).flatten
def iO(l m:List Sl)(r:Ro)(user:CS)(AK:Int):List Sl:=if Iv x l m r=0 then if KJ x l m (D1 r user AK)=0 then Dx (OG l m (D1 r user AK))else []else []
def q8(l m:List Sl)(r:Ro)(user:CS)(AK:Int):Int:=if Iv x l m r=0 then KJ x l m (D1 r user AK)else Iv x l m r
def Tu(l m:List Sl)(r:Ro)(user:CS)(AK:Int):AV:=.tup [sl Ab (iO x l m r user AK),vi (q8 x l m r user AK)]
theorem xI(e:Int):BC (.tup [nzA,vi e]) (.tup [sl Ab [],vi e]):=BC.tup (show Jx [nzA,vi e] [sl Ab [],vi e]from⟨BC.nil,BC.refl _,trivial⟩)
theorem AbA{f:Nat}{args:List AV}{e:Int}(hc:PC f args (.tup [nzA,vi e])):PC f args (.tup [sl Ab [],vi e]):=AU.mono hc fun _ _ ⟨e1,e2⟩=>⟨_,e1▸xI e,rfl,e2⟩
theorem iA(r:Ro)(user:CS)(AK:Int):∀(l:List Wv) (i:Nat),NE r user AK i l<=i+l.length
 | [],i=>Ao _
 |v::l,i=>by
  rw[NE];split
  .omega
  .have q:=iA r user AK l (i+1);rw[Ap];omega
theorem Zc:Lc r user AK<=r.waves.length:=by have q:=iA r user AK r.waves 0;rw[Lc];omega
theorem Acn(l m:List Sl)(r:Ro)(user:CS)(AK:Int)(hx:∀r∈x,CX r)(Ei:l.length<=16)(Dd:m.length<=16)(hr:IC r)(hn:r.name.size<=10000000)(hu:user.size<=100000000)(c0:¬Iv x l m r=0):PC 21 [.agg (Ic x ifs),sl Ab l,sl Ab m,.agg (CR r),vs user,vi AK] (Tu x l m r user AK):=by
 refine Ps (pC [6,9] []) func21 rfl C4 (yN (yN (C1 (C2 (by have q:=iy x ifs l m r user AK hx Ei Dd hr hn hu;rw[S0,AA c0]at q;exact q) ?_))));refine J (fun h1=>?_) (fun h1=>?_)
 .exact BC.trans (show BC _ (.tup [sl Ab [],vi (Iv x l m r)])from xI (Iv x l m r)) (BC.of_eq (show AV.tup [sl Ab [],vi (Iv x l m r)]=Tu x l m r user AK by rw[Tu,iO,q8,AA c0,AA c0]))
 have h1:((Iv x l m r):Int)=(0:Int):=Aq h1;exact absurd h1 c0
theorem Aco(l m:List Sl)(r:Ro)(user:CS)(AK:Int)(hx:∀r∈x,CX r)(Ei:l.length<=16)(Dd:m.length<=16)(hr:IC r)(hn:r.name.size<=10000000)(hu:user.size<=100000000)(c0:Iv x l m r=0)(c1:KJ x l m (D1 r user AK)=0):PC 21 [.agg (Ic x ifs),sl Ab l,sl Ab m,.agg (CR r),vs user,vi AK] (Tu x l m r user AK):=by
 have hP:((r.waves.take (Lc r user AK)).map (fun v:Wv=>v.paths)).length<=1000:=by have q:=hr.wv;rw[Lm,AF];omega
 have Mg:∀p∈(r.waves.take (Lc r user AK)).map (fun v:Wv=>v.paths),p.length<=1000:=fun p hp=>by obtain⟨v,hv,rfl⟩:=Ay.1 hp;exact hr.pt v (CF hv)
 have Pz:BD (D1 r user AK):=by have q:=Pp hP Mg ((r.waves.take (Lc r user AK)).map (fun v:Wv=>v.paths)).length;rw[Cf]at q;exact Av q Wk
 refine Ps (pC [6,9] []) func21 rfl C4 (yN (yN (C1 (C2 (by have q:=iy x ifs l m r user AK hx Ei Dd hr hn hu;rw[S0,Ax c0]at q;exact q) ?_))));refine J (fun h=>absurd h Wk) (fun _=>?_);refine yN (yN (C2 (Y7 r (Lc r user AK) (Zc r user AK) (Av hr.wv Wk)) (C2 (vz ((r.waves.take (Lc r user AK)).map (fun v:Wv=>v.paths)) hP Mg) (C2 (by have q:=vu x ifs l m (D1 r user AK) hx Ei Dd Pz;rw[J4,Ax c1]at q;exact q) ?_))));refine J aa1 ?_;exact BC.of_eq (show AV.tup [sl Ab (Dx (OG l m (D1 r user AK))),vi 0]=Tu x l m r user AK by rw[Tu,iO,q8,Ax c0,Ax c0,Ax c1,c1])
theorem Acp(l m:List Sl)(r:Ro)(user:CS)(AK:Int)(hx:∀r∈x,CX r)(Ei:l.length<=16)(Dd:m.length<=16)(hr:IC r)(hn:r.name.size<=10000000)(hu:user.size<=100000000)(c0:Iv x l m r=0)(c1:¬KJ x l m (D1 r user AK)=0):PC 21 [.agg (Ic x ifs),sl Ab l,sl Ab m,.agg (CR r),vs user,vi AK] (Tu x l m r user AK):=by
 have hP:((r.waves.take (Lc r user AK)).map (fun v:Wv=>v.paths)).length<=1000:=by have q:=hr.wv;rw[Lm,AF];omega
 have Mg:∀p∈(r.waves.take (Lc r user AK)).map (fun v:Wv=>v.paths),p.length<=1000:=fun p hp=>by obtain⟨v,hv,rfl⟩:=Ay.1 hp;exact hr.pt v (CF hv)
 have Pz:BD (D1 r user AK):=by have q:=Pp hP Mg ((r.waves.take (Lc r user AK)).map (fun v:Wv=>v.paths)).length;rw[Cf]at q;exact Av q Wk
 refine Ps (pC [6,9] []) func21 rfl C4 (yN (yN (C1 (C2 (by have q:=iy x ifs l m r user AK hx Ei Dd hr hn hu;rw[S0,Ax c0]at q;exact q) ?_))));refine J (fun h=>absurd h Wk) (fun _=>?_);refine yN (yN (C2 (Y7 r (Lc r user AK) (Zc r user AK) (Av hr.wv Wk)) (C2 (vz ((r.waves.take (Lc r user AK)).map (fun v:Wv=>v.paths)) hP Mg) (C2 (by have q:=vu x ifs l m (D1 r user AK) hx Ei Dd Pz;rw[J4,AA c1]at q;exact AbA q) ?_))));refine J aa1 ?_;exact BC.of_eq (show AV.tup [sl Ab [],vi (KJ x l m (D1 r user AK))]=Tu x l m r user AK by rw[Tu,iO,q8,Ax c0,Ax c0,AA c1])
theorem yv(l m:List Sl)(r:Ro)(user:CS)(AK:Int)(hx:∀r∈x,CX r)(Ei:l.length<=16)(Dd:m.length<=16)(hr:IC r)(hn:r.name.size<=10000000)(hu:user.size<=100000000):PC 21 [HZ x ifs,sl Ab l,sl Ab m,.agg (CR r),vs user,vi AK] (Tu x l m r user AK):=by
 by_cases c0:Iv x l m r=0
 .by_cases c1:KJ x l m (D1 r user AK)=0
  .exact Aco x ifs l m r user AK hx Ei Dd hr hn hu c0 c1
  .exact Acp x ifs l m r user AK hx Ei Dd hr hn hu c0 c1
 .exact Acn x ifs l m r user AK hx Ei Dd hr hn hu c0
theorem YI{x:List Rl}{s:List Sl}(h:J0 x s=0){y:Sl}(hy:y∈s):∃r∈x,Fa r=y:=by
 grind [J0,By]
theorem sR(hl:l.Pairwise Qu)(hm:m.Pairwise Qu){p:CS}:p∈D2 l m↔Jv l p≠Jv m p:=by
 obtain⟨_,h2,h3⟩:=PL l m hl hm;unfold D2;rw[h3,Ay];constructor
 .grind [LC]
 .intro Ef;have hp:p∈mp l m:=(h2 p).2 (by
   grind [YM])
  exact⟨⟨p,Jv l p,Jv m p⟩,List.mem_filterMap.2 ⟨p,hp,by grind [LC]⟩,rfl⟩
theorem xR(h:l.Pairwise Qu){s:Sl}(hs:s∈l):Jv l s.path=place s.ver:=by
 grind [Jv,GB,Jq,zI]
theorem pK{x:List Rl}(hl:J0 x l=0)(hm:J0 x m=0){s t:Sl}(hs:s∈l)(ht:t∈m)(h1:s.path=t.path)(h2:place s.ver=place t.ver):s=t:=by
 obtain⟨a,ha,rfl⟩:=YI hl hs;obtain⟨b,hb,rfl⟩:=YI hm ht;rw[YU (B7 (Sb hl)) ha hb h1 h2]
theorem sD{x:List Rl}(hl:J0 x l=0)(hm:J0 x m=0)(fl:BD l){s:Sl}(hs:s∈l)(e:Jv l s.path=Jv m s.path):s∈m:=by
 rw[xR (Jl (Kw hl)) hs]at e;cases f:BE m s.path with
 |none=>
  have q:Jv m s.path=-1:=by grind [Jv]
  have v:=HC ((D8 hl fl).val s hs)
  grind [place]
 |some t=>
  have ht:t∈m:=AX f;have hp:t.path=s.path:=by
   have q:=DA (show m.find? (fun x=>decide (x.path=s.path))=some t from f);simp_all
  grind [Jv,pK]
theorem wa{x:List Rl}{mv:List CS}(hl:J0 x l=0)(hm:J0 x m=0)(fl:BD l)(fm:BD m)(h:∀p∈D2 l m,p∈mv):Dx (OG l m mv)=m:=by
 have il:=Jl (Kw hl);have im:=Jl (Kw hm);have out:∀p,CV mv p=false->Jv l p=Jv m p:=fun p hp=>Aq fun c=>by
  grind [PJ,sR]
 refine Iw (Jw (OW il im mv)) im fun y=>?_
 grind [FN,OG,sD]
theorem rk(il:l.Pairwise Qu)(im:m.Pairwise Qu):Dx (OG l m [])=l:=
 Iw (Jw (OW il im [])) il fun y=>by grind [FN,OG,CV]
theorem da{x:List Rl}(h:Fm x l m Al=0):Ix x l m=0/\(∀p,p∈Al.flatten↔p∈D2 l m)/\fj x l m Al=true:=by
 grind [Fm,HA]
theorem bV:∀{l:List Wv},Ha l=0->∀v∈l,BA v.stages=0
 | [],_,_,h=>by cases h
 |w::l,h,v,hv=>by
  unfold Ha at h;split at h
  .rename_i h1;rcases AZ.1 hv with rfl | hv
   .exact h1
   .exact bV h v hv
  omega
theorem gX{x:List Rl}{r:Ro}(h:Iv x l m r=0):Fm x l m (L3 r)=0/\∀v∈r.waves,BA v.stages=0:=by
 grind [Iv,bV]
theorem UF:D1 r user AK=((L3 r).take (Lc r user AK)).flatten:=by rw[D1,L3,So]
theorem fD{x:List Rl}{r:Ro}(h:Iv x l m r=0):KJ x l m (D1 r user AK)=0/\q8 x l m r user AK=0/\iO x l m r user AK=Dx (OG l m (D1 r user AK)):=by
 obtain⟨h1,h2,_⟩:=da (gX h).1<;>grind [KJ,PJ,UF,List.mem_flatten,q8,iO]
theorem XB{r:Ro}{user:CS}{AK:Int}:∀{l:List Wv} (i:Nat),(∀v∈l,100<=HH v.stages AK)->NE r user AK i l=i+l.length
 | [],i,_=>rfl
 |v::l,i,h=>by
  have q:=(fJ ((r.name++⟨#[47]⟩)++Qt (i:Int)) user).2;have h1:=h v (Ah ..);rw[NE,AA (by grind [UQ]),XB (i+1) fun w hw=>h w (Am _ hw),Ap];omega
theorem AcG{r:Ro}{user:CS}{AK:Int}(h:∀v∈r.waves,100<=HH v.stages AK):Lc r user AK=r.waves.length:=by grind [Lc,XB]
theorem uo{r:Ro}{user:CS}{AK:Int}(h:∀v∈r.waves,HH v.stages AK<=0):Lc r user AK=0:=by
 unfold Lc;cases e:r.waves with
 |nil=>rfl
 |cons v l=>
  have q:=(fJ ((r.name++⟨#[47]⟩)++Qt ((0:Nat):Int)) user).1
  grind [NE,UQ]
theorem ra{x:List Rl}{r:Ro}{user:CS}{AK:Int}(h:Iv x l m r=0)(hz:∀v∈r.waves,HH v.stages AK<=0):iO x l m r user AK=l:=by
 obtain⟨h1,_,_⟩:=da (gX h).1;rw[(fD user AK h).2.2,UF,uo hz,List.take_zero,List.flatten_nil,rk (Jl (Kw (If h1).1)) (Jl (Kw (If h1).2))]
theorem vZ{x:List Rl}{r:Ro}{user:CS}{AK:Int}(h:Iv x l m r=0)(fl:BD l)(fm:BD m)(hz:∀v∈r.waves,100<=HH v.stages AK):iO x l m r user AK=m:=by
 obtain⟨h1,h2,_⟩:=da (gX h).1;rw[(fD user AK h).2.2,UF,AcG hz,As (by grind [L3])];exact wa (If h1).1 (If h1).2 fl fm fun p hp=>(h2 p).2 hp
theorem ft{l:List α}(h:i<l.length)(k:p l[i]=false):l.all p=false:=List.all_eq_false.2 ⟨l[i],Ai h,by rw[k];decide⟩
theorem N6{l:List α}(h:∀j (hj:j<l.length),j<i->p l[j]=true)(hi:l.length<=i):l.all p=true:=AS.2 fun x hx=>by
 obtain⟨j,hj,rfl⟩:=DS.1 hx;exact h j hj ch
def pQ:Bool:=decide (s.size<=100)
def U0(p:List CS):Bool:=decide (p.length<=20)&&p.all pQ
def MR(l:List (List CS)):Bool:=l.all U0&&decide (l.length<=20)
def Xs(v:Wv):Bool:=!(decide (12<v.stages.length)&&decide (v.stages.length<=1024))
def kM:Bool:=r.waves.all Xs&&(MR (L3 r)&&(decide (r.name.size<=100)||decide (65536<r.name.size)))
theorem iu(l:List (List CS))(hl:l.length<=1073741824)(hp:∀p∈l,p.length<=1073741824):PC 50 [sl Bd l] (vb (MR l)):=by
 refine Ps CQ func50 rfl C4 (I {q:Nat // q<=l.length/\∀j (hj:j<l.length),j<q->U0 l[j]=true} (I (fun q=>⟨[(0,sl Bd l),(3,vi q.1)],[],Ae⟩) (I (fun q=>l.length-q.1) (J (I ⟨0,Aj _,fun _ _ h=>absurd h (DX _)⟩ ?_) ?_))))
 .exact⟨Z2,C,Fh,C⟩
 intro⟨i,i1,i2⟩;refine J (fun h1=>?_) (fun h1=>?_)
 .have h1:(i:Int)<((l.map Bd).length:Int):=h1;have n1:=Dh h1;have hli:=hp _ (Ai n1);refine I (Bd l[i]) (J (DC n1) (J rfl (J (fun h2=>?_) (fun h2=>?_))))
  .have n2:20<l[i].length:=by have q:=h2;rw[Lm]at q;omega
   exact BC.of_eq (Aa vb (show false=MR l by rw[MR,ft n1 (show U0 l[i]=false by rw[U0,Aw (by have q:=h2;rw[Lm]at q;omega),Bool.false_and]),Bool.false_and]))
  have n2:¬20<l[i].length:=by have q:=h2;rw[Lm]at q;omega
  refine I {q:Nat // q<=l[i].length/\∀j (hj:j<l[i].length),j<q->pQ l[i][j]=true} (I (fun q=>⟨[(0,sl Bd l),(3,vi i),(4,vi q.1)],[],Ae⟩) (I (fun q=>l[i].length-q.1) (J (I ⟨0,Aj _,fun _ _ h=>absurd h (DX _)⟩ ?_) ?_)))
  .exact⟨Z3,C,Fh,C⟩
  intro⟨k,k1,k2⟩;refine I (Bd l[i]) (J (DC n1) (J rfl (J (fun h4=>?_) (fun h4=>?_))))
  .have h4:(k:Int)<((l[i].map Af).length:Int):=h4;have n4:=Dh h4;refine I (Bd l[i]) (J (DC n1) (J rfl (I (Af l[i][k]) (J (DC n4) (J rfl (J (fun h5=>?_) (fun h5=>?_)))))))
   .have h5:(100:Int)<(l[i][k].size:Int):=h5;exact BC.of_eq (Aa vb (show false=MR l by rw[MR,ft n1 (show U0 l[i]=false by rw[U0,ft n4 (show pQ l[i][k]=false from Aw (by have q:=h5;omega)),Eo]),Bool.false_and]))
   have h5:¬((100:Int)<(l[i][k].size:Int)):=h5;refine J (Ii k ch) ?_;refine I ⟨k+1,n4,fun j hj G8=>by
     rcases Db j k with e | e
     .exact k2 j hj e
     .have e:k=j:=ch
      subst e;exact(AB (by have q:=h5;omega))⟩ ?_
   exact⟨by show l[i].length-(k+1)<l[i].length-k;omega,Z3,C,Fh,C⟩
  have h4:¬((k:Int)<((l[i].map Af).length:Int)):=h4;have n4:=BB h4;refine J (Ii i ch) ?_;refine I ⟨i+1,n1,fun j hj G8=>by
    rcases Db j i with e | e
    .exact i2 j hj e
    .have e:i=j:=ch
     subst e;exact(by rw[U0,AB (by have q:=h2;rw[Lm]at q;omega),N6 k2 (AE (BB h4))];rfl)⟩ ?_
  exact⟨Dl l.length i ch,Z2,C,Fh,C⟩
 have h1:¬((i:Int)<((l.map Bd).length:Int)):=h1;have n1:=BB h1;refine J (fun h9=>?_) (fun h9=>?_)
 .have h9:((l.map Bd).length:Int)<=(20:Int):=h9;exact BC.of_eq (Aa vb (show true=MR l by rw[MR,N6 i2 (AE (BB h1)),AB (by have q:=h9;rw[Lm]at q;omega)];rfl))
 have h9:¬(((l.map Bd).length:Int)<=(20:Int)):=h9;exact BC.of_eq (Aa vb (show false=MR l by rw[MR,N6 i2 (AE (BB h1)),Aw (by have q:=h9;rw[Lm]at q;omega)];rfl))
theorem qm(hl:BD r.waves):PC 51 [.agg (CR r)] (sl Bd (L3 r)):=by
 refine Ps (pC [1] []) func51 rfl C4 (I {q:Nat // q<=r.waves.length} (I (fun q=>⟨[(1,.ref 1 0),(3,.slice (.id 5 1) (((r.waves.take q.1).map (·.paths)).map Bd)),(4,vi q.1)],[(1,.ro (CR r)),(5,.tok 1 (((r.waves.take q.1).map (·.paths)).map Bd).length)],Ae⟩) (I (fun q=>r.waves.length-q.1) (J (I ⟨0,Aj _⟩ ?_) ?_))))
 .exact⟨Z3,Z2,Fh,C⟩
 intro⟨i,i1⟩;refine J (fun h1=>?_) (fun h1=>?_)
 .have h1:(i:Int)<((r.waves.map Es).length:Int):=h1;have n1:=Dh h1;have hq:(r.waves.take i).length<=1073741824:=by rw[AF];omega
  refine I (Es r.waves[i]) (J (DC n1) (J rfl ?_));have b2:Bi 1 [[sl Af r.waves[i].paths]]/\(((r.waves.take i).map (·.paths)).map Bd).length=(((r.waves.take i).map (·.paths)).map Bd).length/\((((r.waves.take i).map (·.paths)).map Bd).length+([[sl Af r.waves[i].paths]]:C0).length)*24<=140737488355328/\(((r.waves.take i).map (·.paths)).map Bd).length+([[sl Af r.waves[i].paths]]:C0).length<=9223372036854775807:=⟨⟨rfl,trivial⟩,rfl,(by simp only[Lm,Ap,AC];omega),(by simp only[Lm,Ap,AC];omega)⟩;refine J b2 (J (Ii i ch) ?_);have ew:(((r.waves.take i).map (·.paths)).map Bd++[[sl Af (r.waves[i]).paths]])=(((r.waves.take (i+1)).map (·.paths)).map Bd):=by rw[DV n1,Ar,Ar];rfl
  refine I ⟨i+1,n1⟩ ?_;exact⟨Dl r.waves.length i ch,⟨B,⟨(Aa (AV.slice (.id 5 1)) ew),rfl⟩,B,C⟩,⟨B,⟨(show HO.tok 1 ((((r.waves.take i).map (·.paths)).map Bd).length+([[sl Af r.waves[i].paths]]:C0).length)=.tok 1 (((r.waves.take (i+1)).map (·.paths)).map Bd).length from Aa (HO.tok 1) (Ac.symm.trans (Aa List.length ew))),rfl⟩,C⟩,Fh,C⟩
 have n1:=BB h1;exact BC.of_eq (show sl Bd ((r.waves.take i).map (·.paths))=sl Bd (L3 r) by rw[As (l:=r.waves) (i:=i) (AE (BB h1))];rfl)
theorem AcB(hl:BD r.waves)(_hst:∀v∈r.waves,v.stages.length<=1073741824)(xd:∀v∈r.waves,v.paths.length<=1073741824):PC 18 [.agg (CR r)] (vb (kM r)):=by
 refine Ps (pC [1] [3,5]) func18 rfl C4 (I {q:Nat // q<=r.waves.length/\∀j (hj:j<r.waves.length),j<q->Xs r.waves[j]=true} (I (fun q=>⟨[(1,.ref 1 0),(3,vi q.1)],[(1,.ro (CR r))],Ae⟩) (I (fun q=>r.waves.length-q.1) (J (I ⟨0,Aj _,fun _ _ h=>absurd h (DX _)⟩ ?_) ?_))))
 .exact⟨Z2,Z1,Fh,C⟩
 intro⟨i,i1,i2⟩;refine J (fun h1=>?_) (fun h1=>?_)
 .have h1:(i:Int)<((r.waves.map Es).length:Int):=h1;have n1:=Dh h1;refine I (Es r.waves[i]) (J (DC n1) (J rfl (J (fun h2=>?_) (fun h2=>?_))))
  .have n2:12<r.waves[i].stages.length:=by have q:=h2;rw[Lm]at q;omega
   refine I (Es r.waves[i]) (J (DC n1) (J rfl (J (fun h3=>?_) (fun h3=>?_))))
   .refine cU [] [] C C ?_
    exact BC.of_eq (Aa vb (show false=kM r by rw[kM,ft n1 (show Xs r.waves[i]=false by rw[Xs,AB (p:=12<r.waves[i].stages.length) (by have q:=h2;rw[Lm]at q;omega),AB (p:=r.waves[i].stages.length<=1024) (by have q:=h3;rw[Lm]at q;omega)];rfl),Bool.false_and]))
   refine cU [(1,.ref 1 0),(3,vi i)] [(1,.ro (CR r))] Z2 Z1 (J (Ii i ch) ?_);refine I ⟨i+1,n1,fun j hj G8=>by
     rcases Db j i with e | e
     .exact i2 j hj e
     .have e:i=j:=ch
      subst e;exact(by rw[Xs,Aw (p:=r.waves[i].stages.length<=1024) (by have q:=h3;rw[Lm]at q;omega),Eo];rfl)⟩ ?_
   exact⟨Dl r.waves.length i ch,Z2,Z1,Fh,C⟩
  have n2:¬12<r.waves[i].stages.length:=by have q:=h2;rw[Lm]at q;omega
  refine cU [(1,.ref 1 0),(3,vi i)] [(1,.ro (CR r))] Z2 Z1 (J (Ii i ch) ?_);refine I ⟨i+1,n1,fun j hj G8=>by
    rcases Db j i with e | e
    .exact i2 j hj e
    .have e:i=j:=ch
     subst e;exact(by rw[Xs,Aw (by have q:=h2;rw[Lm]at q;omega)];rfl)⟩ ?_
  exact⟨Dl r.waves.length i ch,Z2,Z1,Fh,C⟩
 have n1:=BB h1;refine yN (C1 (C2 (qm r hl) (A1 (Bt (MR (L3 r))) (fun h7=>?_) (fun h7=>?_))))
 .refine C1 (C2 (cb h7 (iu (L3 r) (show(L3 r).length<=_ by rw[L3,Lm];exact hl) (fun p hp=>by obtain⟨v,hv,rfl⟩:=Ay.1 hp;exact xd v hv))) (J (fun h8=>?_) (fun h8=>?_)))
  .exact BC.of_eq (Aa vb (show true=kM r by rw[kM,N6 i2 (AE (BB h1)),h7,AB (p:=r.name.size<=100) (by have q:=h8;omega)];simp))
  refine J (fun Is=>?_) (fun Is=>?_)
  .exact BC.of_eq (Aa vb (show true=kM r by rw[kM,N6 i2 (AE (BB h1)),h7,Aw (p:=r.name.size<=100) (by have q:=h8;omega),AB (p:=65536<r.name.size) (by have q:=Is;omega)];simp))
  exact BC.of_eq (Aa vb (show false=kM r by rw[kM,N6 i2 (AE (BB h1)),h7,Aw (p:=r.name.size<=100) (by have q:=h8;omega),Aw (p:=65536<r.name.size) (by have q:=Is;omega)];simp))
 refine C1 (C2 (cb h7 (iu (L3 r) (show(L3 r).length<=_ by rw[L3,Lm];exact hl) (fun p hp=>by obtain⟨v,hv,rfl⟩:=Ay.1 hp;exact xd v hv))) ?_);exact BC.of_eq (Aa vb (show false=kM r by rw[kM,N6 i2 (AE (BB h1)),h7];simp))
def TY(l m:List Sl):Bool:=FY x 16&&(decide (l.length<=12)&&decide (m.length<=12))
theorem Acx(l m:List Sl)(hL:qT x []):PC 17 [HZ x ifs,sl Ab l,sl Ab m] (vb (TY x l m)):=by
 refine Ps (pC [3] []) func17 rfl C4 (yN (A1 (Bt (FY x 16)) (fun h1=>?_) (fun h1=>?_)))
 .refine C1 (C2 (cb h1 (AcW hL ifs)) (J (fun h2=>?_) (fun h2=>?_)))
  .refine J (fun h3=>?_) (fun h3=>?_)
   .exact BC.of_eq (Aa vb (show true=TY x l m by rw[TY,h1,AB (p:=l.length<=12) (by have q:=h2;rw[Lm]at q;omega),AB (p:=m.length<=12) (by have q:=h3;rw[Lm]at q;omega)];simp))
   exact BC.of_eq (Aa vb (show false=TY x l m by rw[TY,h1,AB (p:=l.length<=12) (by have q:=h2;rw[Lm]at q;omega),Aw (p:=m.length<=12) (by have q:=h3;rw[Lm]at q;omega)];simp))
  exact BC.of_eq (Aa vb (show false=TY x l m by rw[TY,h1,Aw (p:=l.length<=12) (by have q:=h2;rw[Lm]at q;omega)];simp))
 refine C1 (C2 (cb h1 (AcW hL ifs)) ?_);exact BC.of_eq (Aa vb (show false=TY x l m by rw[TY,h1];simp))
structure Ad where
 id:CS
 path:CS
 set:List (Int×Int)
 syms:List CS
 note:CS
variable (a:Ad)
abbrev Cy:List AV:=[vs a.id,vs a.path,sl Ag a.set,sl Af a.syms,vs a.note]
structure Mi(a:Ad):Prop where
 id:ES a.id
 path:ES a.path
 set:BD a.set
 syms:BD a.syms
 sym:∀s∈a.syms,ES s
 note:ES a.note
def SC:Bool:=decide (1<=s.size)&&decide (s.size<=32)
def XR:List CS->Bool
 |a::b::r=>Dq a b&&XR (b::r)
 |_=>true
def NT:Bool:=(Bc a.path).isSome&&SC a.id&&a.syms.all SC
def vW:Bool:=!a.set.isEmpty&&decide (a.set=canon a.set)&&!a.syms.isEmpty&&decide (a.syms.length<=1024)&&decide (a.note.size<=65536)
def QA:Int:=if NT a=true then if vW a=true then if XR a.syms=true then 0 else 1 else 1 else 4
theorem qZ(l:List CS):XR (l.drop (l.length-1))=true:=by
 cases h:l.drop (l.length-1)with
 |nil=>rfl
 |cons a r=>
  have q:=Aa List.length h;rw[G1,Ap]at q;have e:r=[]:=FB.1 ch;subst e;rfl
theorem Ts{l:List CS}(h:i+1<l.length):XR (l.drop i)=(Dq l[i] l[i+1]&&XR (l.drop (i+1))):=by
 rw[AD (show i<l.length by omega),AD h];rfl
theorem SX(hs:ES s):PC 230 [vs s] (vb (SC s)):=by
 refine Ps CQ func230 rfl C4 (J (fun h1=>?_) (fun h1=>?_))
 .refine J (fun h2=>?_) (fun h2=>?_)
  .exact BC.of_eq (Aa vb (show true=SC s by rw[SC];first | rfl | (rw[AB (show 1<=s.size by omega)];first | rw[AB (show s.size<=32 by omega)];rfl | rw[Aw (show ¬s.size<=32 by omega)];rfl) | (rw[Aw (show ¬1<=s.size by omega)];rfl)))
  exact BC.of_eq (Aa vb (show false=SC s by rw[SC];first | rfl | (rw[AB (show 1<=s.size by omega)];first | rw[AB (show s.size<=32 by omega)];rfl | rw[Aw (show ¬s.size<=32 by omega)];rfl) | (rw[Aw (show ¬1<=s.size by omega)];rfl)))
 exact BC.of_eq (Aa vb (show false=SC s by rw[SC];first | rfl | (rw[AB (show 1<=s.size by omega)];first | rw[AB (show s.size<=32 by omega)];rfl | rw[Aw (show ¬s.size<=32 by omega)];rfl) | (rw[Aw (show ¬1<=s.size by omega)];rfl)))
theorem Acu(hs:ES s):PC 231 [vs s] (vb (!SC s)):=by
 refine Ps CQ func231 rfl C4 (A1 (Bt (SC s)) (fun h1=>?_) (fun h1=>?_))
 .refine C1 (C2 (cb h1 (SX s hs)) ?_);exact BC.of_eq (Aa vb (show false=!SC s by first | rfl | simp only[h1,Bool.not_true]))
 refine C1 (C2 (cb h1 (SX s hs)) ?_);exact BC.of_eq (Aa vb (show true=!SC s by first | rfl | simp only[h1,Bool.not_false]))
theorem BC.fn(f:Nat):BC (.v (.func (.func f) #[] #[])) (.clo f []):=fun _ _ _ _ h=>by cases h;exact .clo _ f [] #[] rfl (fun i av x h=>by cases h)
theorem Cc.nil:Cc []:=fun _ hc=>absurd hc List.not_mem_nil
theorem qc(l:List CS)(hl:BD l)(hs:∀s∈l,ES s):PC 74 [sl Af l,.v (.func (.func 231) #[] #[])] (vb (l.any fun s=>!SC s)):=
 (z74 (fF:=231) Cc.nil l (fun s=>!SC s) (fun s h=>Acu s (hs s h)) hl).args ⟨.refl _,.fn _,trivial⟩
theorem zR{l:List CS}:(l.any fun s=>!SC s)=!l.all SC:=List.not_all_eq_any_not.symm
theorem Ti{a:Ad}{m:Int}(c0:Bc a.path=some m)(h1:SC a.id=true)(h2:(a.syms.any fun s=>!SC s)=false):NT a=true:=by
 rw[zR]at h2;rw[NT,c0,h1];show a.syms.all SC=true;simpa using h2
theorem vN{a:Ad}(h:(a.syms.any fun s=>!SC s)=true):NT a=false:=by
 rw[zR]at h;rw[NT,show a.syms.all SC=false by simpa using h,Eo]
theorem lQ{l:List CS}(hi:i<l.length)(h1:1<=i)(h:∀j (hj:j+1<l.length),j+1<i->Dq l[j] l[j+1]=true)(k:Dq (l[i-1]' ch) l[i]=true):∀j (hj:j+1<l.length),j+1<i+1->Dq l[j] l[j+1]=true:=fun j hj q=>by
 rcases Db (j+1) i with e | e
 .exact h j hj e
 .obtain rfl:i=j+1:=ch
  exact k
theorem XK{a:Ad}(h:NT a=false):QA a=4:=by rw[QA,h];rfl
theorem Th{a:Ad}(h:NT a=true)(k:a.set.length=0\/a.set≠canon a.set\/a.syms.length=0\/1024<a.syms.length\/65536<a.note.size):QA a=1:=by
 rw[QA,Ax h,AA];intro e;simp only[vW,At,Bj,FA,List.isEmpty_eq_false_iff]at e;obtain⟨⟨⟨⟨e1,e2⟩,e3⟩,e4⟩,e5⟩:=e;have f1:=Jc.2 e1;have f3:=Jc.2 e3;rcases k with k | k | k | k | k
 .omega
 .exact k e2
 .omega
 .omega
 .omega
theorem lJ{a:Ad}(h:NT a=true)(k1:¬a.set.length=0)(k2:a.set=canon a.set)(k3:¬a.syms.length=0)(k4:a.syms.length<=1024)(k5:a.note.size<=65536):QA a=if XR a.syms=true then 0 else 1:=by
 rw[QA,Ax h,Ax];simp only[vW,At,Bj,FA,List.isEmpty_eq_false_iff];exact⟨⟨⟨⟨fun e=>k1 (by rw[e];rfl),k2⟩,fun e=>k3 (by rw[e];rfl)⟩,k4⟩,k5⟩
theorem fC{l:List CS}:∀{i:Nat},XR (l.drop i)=false->XR l=false
 |0,h=>h
 |i+1,h=>by
  refine fC (i:=i) ?_
  by_cases hi:i+1<l.length
  .rw[Ts hi,h,Eo]
  .rw[AN ch]at h;cases h
theorem fB{l:List CS}(h:∀j (hj:j+1<l.length),Dq l[j] l[j+1]=true):∀k i,i+k=l.length->XR (l.drop i)=true
 |0,i,e=>by rw[AN ch];rfl
 |1,i,e=>by rw[show i=l.length-1 by omega];exact qZ l
 |k+2,i,e=>by rw[Ts ch,h i ch,fB h (k+1) (i+1) ch];rfl
theorem Ack(ha:Mi a)(c0:Bc a.path=none):PC 165 [.agg (Cy a)] (vi (QA a)):=by
 refine Ps (pC [1] []) func165 rfl C4 (C1 (C2 (VD.none ha.path c0) (J (fun _=>?_) (fun h=>absurd Wk h))));exact BC.of_eq (Aa vi (show 4=QA a from(XK (by rw[NT,c0];rfl)).symm))
theorem Acl(ha:Mi a)(m:Int)(c0:Bc a.path=some m):PC 165 [.agg (Cy a)] (vi (QA a)):=by
 have xg:a.syms.length<=1073741824:=ha.syms;have xh:a.set.length<=1073741824:=ha.set;have hs3:a.note.size<=1073741824:=ha.note;refine Ps (pC [1] []) func165 rfl C4 (C1 (C2 (VD.some ha.path c0) (J (fun h=>absurd h Wk) (fun _=>?_))));refine A1 (Bt (SC a.id)) (fun h1=>?_) (fun h1=>?_)
 .refine C1 (C2 (cb h1 (SX a.id ha.id)) (A1 (Bt (a.syms.any fun s=>!SC s)) (fun h2=>?_) (fun h2=>?_)))
  .refine C1 (C2 (cb h2 (qc a.syms ha.syms ha.sym)) ?_);exact BC.of_eq (Aa vi (show 4=QA a from(XK (vN h2)).symm))
  refine C1 (C2 (cb h2 (qc a.syms ha.syms ha.sym)) (J (fun h4=>?_) (fun h4=>?_)))
  .refine J aa1 ?_;exact BC.of_eq (Aa vi (show 1=QA a from(Th (Ti c0 h1 h2) (.inl (by have q:=h4;rw[Lm]at q;omega))).symm))
  refine C2 (XZ a.set ha.set) (A1 (Bt (decide (a.set=canon a.set))) (fun h6=>?_) (fun h6=>?_))
  .refine C2 (cb h6 (rp a.set (canon a.set) ha.set)) (J (fun h7=>?_) (fun h7=>?_))
   .refine J aa1 ?_;exact BC.of_eq (Aa vi (show 1=QA a from(Th (Ti c0 h1 h2) (.inr (.inr (.inl (by have q:=h7;rw[Lm]at q;omega))))).symm))
   refine J (fun h9=>?_) (fun h9=>?_)
   .have n9:1024<a.syms.length:=by have q:=h9;rw[Lm]at q;omega
    refine J aa1 ?_;exact BC.of_eq (Aa vi (show 1=QA a from(Th (Ti c0 h1 h2) (.inr (.inr (.inr (.inl ch))))).symm))
   have n9:¬1024<a.syms.length:=by have q:=h9;rw[Lm]at q;omega
   refine J (fun IM=>?_) (fun IM=>?_)
   .refine J aa1 ?_;exact BC.of_eq (Aa vi (show 1=QA a from(Th (Ti c0 h1 h2) (.inr (.inr (.inr (.inr ch))))).symm))
   refine J aa1 (I {q:Nat // 1<=q/\∀j (hj:j+1<a.syms.length),j+1<q->Dq a.syms[j] a.syms[j+1]=true} (I (fun q=>⟨[(1,.ref 1 0),(6,vi q.1)],[(1,.ro (Cy a))],Ae⟩) (I (fun q=>a.syms.length-q.1) (J (I ⟨1,Ao _,fun j hj h=>absurd h ch⟩ ?_) ?_))))
   .exact⟨Z2,Z1,Fh,C⟩
   intro⟨i,i1,i2⟩;have i2:∀j (hj:j+1<a.syms.length),j+1<i->Dq a.syms[j] a.syms[j+1]=true:=i2;refine J (fun J6=>?_) (fun J6=>?_)
   .have J6:(i:Int)<((a.syms.map Af).length:Int):=J6;have n13:=Dh J6;refine J (by show Az ((i:Int)-(1:Int));unfold Az;omega) (I (Af (a.syms[i-1]' ch)) (J (J (show(0:Int)<=(i:Int)-1 by omega) (by rw[show((i:Int)-1).toNat=i-1 by omega];exact El (Ge ch))) (J rfl ?_)));refine I (Af (a.syms[i]' ch)) (J (DC n13) (J rfl (J (fun Ny=>?_) (fun Ny=>?_))))
    .have Ny:Dq (a.syms[i-1]' ch) (a.syms[i]' ch)=false:=(DZ _ _).trans Ny;refine J aa1 ?_;exact BC.of_eq (Aa vi (show 1=QA a from((lJ (Ti c0 h1 h2) (by have q:=h4;rw[Lm]at q;omega) (AT h6) (by have q:=h7;rw[Lm]at q;omega) ch ch).trans (AA (by rw[fC (i:=i-1) (by rw[Ts ch];simp only[show i-1+1=i by omega,Ny];rfl)];decide))).symm))
    have Ny:Dq (a.syms[i-1]' ch) (a.syms[i]' ch)=true:=(DZ _ _).trans (by simpa using Ny);refine J aa1 (J (Ii i ch) ?_);have hi:i<a.syms.length:=n13;refine I ⟨i+1,by omega,lQ hi i1 i2 Ny⟩ ?_;exact⟨Dl a.syms.length i ch,Z2,Z1,Fh,C⟩
   have J6:¬((i:Int)<((a.syms.map Af).length:Int)):=J6;have n13:=BB J6;exact BC.of_eq (Aa vi (show 0=QA a from((lJ (Ti c0 h1 h2) (by have q:=h4;rw[Lm]at q;omega) (AT h6) (by have q:=h7;rw[Lm]at q;omega) ch ch).trans (Ax (fB (fun j hj=>i2 j hj (by have q:=BB J6;omega)) _ 0 (Fq _)))).symm))
  have h6:(decide (a.set=canon a.set))=false:=h6;refine C2 (cb h6 (rp a.set (canon a.set) ha.set)) (J aa1 ?_);exact BC.of_eq (Aa vi (show 1=QA a from(Th (Ti c0 h1 h2) (.inr (.inl (PT h6)))).symm))
 have h1:(SC a.id)=false:=h1;refine C1 (C2 (cb h1 (SX a.id ha.id)) ?_);exact BC.of_eq (Aa vi (show 4=QA a from(XK (by rw[NT,h1,Eo];rfl)).symm))
theorem Ahg(ha:Mi a):PC 165 [.agg (Cy a)] (vi (QA a)):=by
 cases c0:Bc a.path with
 |none=>exact Ack a ha c0
 |some m=>exact Acl a ha m c0
theorem va_{s:Sl}(h:((if BN s.ver then 0 else 2:Int))=0):BN s.ver=true:=by
 cases e:BN s.ver with
 |true=>rfl
 |false=>rw[e]at h;exact absurd h Wk
theorem Agc{s:Sl}(h:¬((if BN s.ver then 0 else 2:Int))=0):BN s.ver=false:=by
 cases e:BN s.ver with
 |false=>rfl
 |true=>rw[e]at h;exact absurd rfl h
def Lp(s:Sl):Bool:=BN s.ver&&decide (s.path=a.path)&&has a.set (place s.ver)
theorem Y6(s:Sl)(ha:BD a.set):PC 81 [.agg (Cy a),.agg (Ab s)] (vb (Lp a s)):=by
 refine Ps (pC [2,3] []) func81 rfl C4 (yN (C1 (C2 (zf s.ver) (J (fun h1=>?_) (fun h1=>?_)))))
 .refine J (fun h2=>?_) (fun h2=>?_)
  .refine A1 (Bt (has a.set (if BN s.ver then place s.ver else 0))) (fun h3=>?_) (fun h3=>?_)
   .refine C1 (C2 (cb h3 (mg a.set (if BN s.ver then place s.ver else 0) ha)) ?_);exact BC.of_eq (Aa vb (show true=Lp a s by have v:=va_ h1;have q:=h3;rw[Ax v]at q;rw[Lp,v,q,AB h2];rfl))
   refine C1 (C2 (cb h3 (mg a.set (if BN s.ver then place s.ver else 0) ha)) ?_);exact BC.of_eq (Aa vb (show false=Lp a s by have v:=va_ h1;have q:=h3;rw[Ax v]at q;rw[Lp,v,q,AB h2];rfl))
  exact BC.of_eq (Aa vb (show false=Lp a s by rw[Lp,Aw h2,Eo];rfl))
 exact BC.of_eq (Aa vb (show false=Lp a s by rw[Lp,Agc h1];rfl))
theorem yI(r:Rl):PC 106 [.agg (Au r)] (.agg [vs r.path,vi r.ver.a,vi r.ver.b,vi r.ver.c]):=by
 refine Ps (pC [1] []) func106 rfl C4 (yN (yN (yN ?_)));exact .refl _
theorem iw(r:Rl)(ha:BD a.set):PC 105 [.agg (Cy a),.cptr (Au r)] (vb (Lp a (⟨r.path,r.ver⟩:Sl))):=by
 refine Ps (pC [2] []) func105 rfl C4 (yN (yN (C2 (yI r) (A1 (Bt (Lp a (⟨r.path,r.ver⟩:Sl))) (fun h1=>?_) (fun h1=>?_)))))
 .refine C2 (cb h1 (Y6 a (⟨r.path,r.ver⟩:Sl) ha)) (J aa1 ?_);exact BC.of_eq (Aa vb (show true=Lp a (⟨r.path,r.ver⟩:Sl)from h1.symm))
 refine C2 (cb h1 (Y6 a (⟨r.path,r.ver⟩:Sl) ha)) (J aa1 ?_);exact BC.of_eq (Aa vb (show false=Lp a (⟨r.path,r.ver⟩:Sl)from h1.symm))
theorem Ahn(hs:Cc caps)(l:List (Ad))(p:Ad->Bool)(hF:∀x∈l,PC fF ([.agg (Cy x)]++caps) (vb (p x)))(hl:l.length<9223372036854775807) :
  PC 166 [sl Cy l,.clo fF caps] (vi (I7 p l 0)):=by
 refine Ps CQ func166 rfl C4 (I {i:Nat // i<=l.length/\∀j (hj:j<l.length),j<i->p l[j]=false} (I (fun i=>⟨[(0,sl Cy l),(1,.clo fF caps),(7,vi (l.map Cy).length),(8,vi i.1)],[],Ae⟩) (I (fun i=>l.length-i.1) (J (I ⟨0,by simp⟩ ?_) ?_))))
 .exact⟨⟨B,⟨rfl,hs.ids _⟩,B,B,C⟩,C,Fh,C⟩
 .intro⟨i,h1,h2⟩;refine J ?_ ?_
  .intro h;have h:i<l.length:=by simpa using h
   have hg:l[i]?=some l[i]:=Ge h;refine I (Cy l[i]) (J (J (Nn i) (by simp[hg])) (J rfl (yN ?_)));have BQ:∀h,PC fF ([.agg (Cy l[i])]++caps.map (str0 h)) (vb (p l[i])):=fun h=>by rw[hs.map];exact hF l[i] (Ai _)
   cases hp:p l[i]with
   |true=>
    rw[hp]at BQ;refine I .pure (I (vb true) (J (BQ _) ?_));rw[Hl h (fun j hj G8=>h2 j hj G8) hp,Ev];exact .refl _
   |false=>
    rw[hp]at BQ;refine I .pure (I (vb false) (J (BQ _) (J (Ii i ch) (I ⟨i+1,by omega,fun j hj G8=>?_⟩ ?_))))
    .by_cases e:j=i
     .subst e;exact hp
     .exact h2 j hj ch
    .exact⟨Dl l.length i ch,⟨B,⟨rfl,hs.ids _⟩,B,B,C⟩,C,Fh,C⟩
  .intro h;have h:¬i<l.length:=by simpa using h
   rw[F8 fun j hj=>h2 j hj ch];exact .refl _
theorem AcZ(hs:Cc caps)(l:List (Ad))(p:Ad->Bool)(hF:∀x∈l,PC fF ([.agg (Cy x)]++caps) (vb (p x)))(hl:BD l) :
  PC 104 [sl Cy l,.clo fF caps] (vb (l.any p)):=by
 refine Ps CQ func104 rfl C4 ?_;have hi:=Ahn hs l p hF (by unfold BD at hl;omega);have BQ:∀h,PC 166 [sl Cy l,.clo fF (caps.map (str0 h))] (vi (I7 p l 0)):=fun h=>by rw[hs.map];exact hi
 refine C1 (C2 (BQ _) ?_);have ha:=Hg (p:=p) l 0 (Bs 0);refine J ?_ ?_
 .intro h;rw[<-ha,AB h];exact .refl _
 .intro h;rw[<-ha,Aw h];exact .refl _
def Ml:List Ad->Int
 | []=>0
 |a::r=>if QA a=0 then Ml r else QA a
def Ov(l:List Ad):Int:=if AL x=0 then Ml l else 1
theorem vP{l:List Ad}(h:i<l.length)(k:QA l[i]=0):Ml (l.drop i)=Ml (l.drop (i+1)):=by rw[AD h,Ml,Ax k]
theorem vO{l:List Ad}(h:i<l.length)(k:¬QA l[i]=0):Ml (l.drop i)=QA l[i]:=by rw[AD h,Ml,AA k]
theorem iv(l:List Ad)(hx:∀r∈x,CX r)(hl:BD l)(nB:∀a∈l,Mi a):PC 102 [.agg (Ic x ifs),sl Cy l] (vi (Ov x l)):=by
 have hl:l.length<=1073741824:=hl;refine Ps (pC [2] []) func102 rfl C4 (yN (C1 (C2 (zg VD x ifs hx) (J (fun h1=>?_) (fun h1=>?_)))))
 .have h1:((AL x):Int)≠(0:Int):=h1;exact BC.of_eq (Aa vi (show 1=Ov x l by rw[Ov,AA h1]))
 have h1:((AL x):Int)=(0:Int):=Aq h1;refine I {q:Nat // q<=l.length/\Ml (l.drop q)=Ml l} (I (fun q=>⟨[(11,sl Cy l),(12,vi (l.map Cy).length),(13,vi q.1)],[],Ae⟩) (I (fun q=>l.length-q.1) (J (I ⟨0,Aj _,rfl⟩ ?_) ?_)))
 .exact⟨Z3,C,Fh,C⟩
 intro⟨i,i1,i2⟩;have i1:i<=l.length:=i1;have i2:Ml (l.drop i)=Ml l:=i2;refine J (fun h3=>?_) (fun h3=>?_)
 .have h3:(i:Int)<((l.map Cy).length:Int):=h3;have n3:=Dh h3;refine I (Cy l[i]) (J (DC n3) (J rfl (yN (yN (yN (C1 (C2 (Ahg l[i] (nB _ (Ai n3))) (J (fun h4=>?_) (fun h4=>?_)))))))))
  .have h4:((QA l[i]):Int)≠(0:Int):=h4;exact BC.of_eq (Aa vi (show(QA l[i])=Ov x l by rw[Ov,Ax h1,<-i2,vO n3 h4]))
  have h4:((QA l[i]):Int)=(0:Int):=Aq h4;refine J (Ii i ch) (I ⟨i+1,n3,by rw[<-i2,vP n3 h4]⟩ ?_);exact⟨Dl l.length i ch,Z3,C,Fh,C⟩
 have h3:¬((i:Int)<((l.map Cy).length:Int)):=h3;have n3:=BB h3;exact BC.of_eq (Aa vi (show 0=Ov x l by rw[Ov,Ax h1,<-i2,AN (AE (BB h3))];rfl))
abbrev cC(l:List Ad):Sl->Bool:=fun s=>l.any fun a=>Lp a s
def vr(l:List Ad):AV:=if Ov x l=0 then .tup [HZ (yk true (cC l) x) ifs,vi 0]else .tup [.agg [nzA,nzA],vi (Ov x l)]
theorem AbM{x:List Rl}{l:List Ad}(h:Ov x l=0):AL x=0:=by
 unfold Ov at h;split at h
 .assumption
 .exact absurd h Wk
theorem yM{x:List Rl}(h:VW x)(hr:∀r∈x,r.reqs.length<=1000)(hc:AL x=0):AU Tryz.prog 43 [sl Au x] Ae fun r h'=>r=.tup [.msl 2000 x.length,vi 0]/\h'=Ak [(2000,.arr 9 (x.map Au))] Ae:=by
 have q:=Ahj h hr (by rw[RR hc];exact hc)
 rwa [RR hc]at q
theorem ui(l:List Ad)(hx:VW x)(_hrq:∀r∈x,r.reqs.length<=1000)(hl:BD l)(nB:∀a∈l,Mi a)(_hcl:PC 103 [.slice .none ifs] (.slice .none ifs))(c0:¬Ov x l=0):PC 62 [.agg (Ic x ifs),sl Cy l] (vr x ifs l):=by
 refine Ps (pC [2] []) func62 rfl C4 (yN (C1 (C2 (iv x ifs l hx.few hl nB) (J (fun h1=>?_) (fun h1=>?_)))))
 .have h1:((Ov x l):Int)≠(0:Int):=h1;refine yN (yN ?_);exact BC.of_eq (show AV.tup [.agg [nzA,nzA],vi (Ov x l)]=vr x ifs l by rw[vr,AA c0])
 have h1:((Ov x l):Int)=(0:Int):=Aq h1;exact absurd h1 c0
theorem uj(l:List Ad)(hx:VW x)(hrq:∀r∈x,r.reqs.length<=1000)(hl:BD l)(nB:∀a∈l,Mi a)(hcl:PC 103 [.slice .none ifs] (.slice .none ifs))(c0:Ov x l=0):PC 62 [.agg (Ic x ifs),sl Cy l] (vr x ifs l):=by
 have h72:=yM hx hrq (AbM c0);have Abn:x.length<=19:=hx.len;refine Ps ⟨[2,11],[],[],[],[],[],[],[],[],[(100012,9)],[12]⟩ func62 rfl C4 (yN (C1 (C2 (iv x ifs l hx.few hl nB) (J (fun h1=>?_) (fun h1=>?_)))))
 .have h1:((Ov x l):Int)≠(0:Int):=h1;refine yN (yN ?_);exact absurd c0 h1
 have h1:((Ov x l):Int)=(0:Int):=Aq h1;refine I (.gen [] 1) (J rfl (AU.to2 h72 ?_));refine C1 (C2 hcl (yN (I {q:Nat // q<=x.length} (I (fun q=>⟨[(1,sl Cy l),(4,.ref 4 0),(9,.ref 9 0),(31,.msl 12200 x.length),(32,vi x.length),(33,vi q.1)],[(4,.cells [nzA,nzA]),(9,.cells [.msl 12200 x.length,.slice .none ifs]),(12200,.arr 9 ((yk true (cC l) (x.take q.1)++x.drop q.1).map Au))],Ae⟩) (I (fun q=>x.length-q.1) (J (I ⟨0,Aj _⟩ ?_) ?_))))))
 .exact⟨Z6,Z3,Fh,C⟩
 intro⟨i,i1⟩;have i1:i<=x.length:=i1;refine J (fun h3=>?_) (fun h3=>?_)
 .have h3:(i:Int)<(x.length:Int):=h3;have n3:i<x.length:=ch
  have g3:x[i]?=some x[i]:=Ge n3;have ni:i<x.length:=ch
  refine J (by show(0:Int)<=i/\(i:Int)<(x.length:Nat);omega) (J (show x.length=((yk true (cC l) (x.take i)++x.drop i).map Au).length by rw[Lm,Zh]) (I (Au x[i]) (J (El (qB ni)) ?_)));refine yN (yN (A1 (Bt (cC l (cA x[i]))) (fun h4=>?_) (fun h4=>?_)))
  .have h4:(cC l (cA x[i]))=true:=h4;refine C1 (C2 (cb h4 (AcZ (fF:=105) (Cc.ptr _) l (fun a=>Lp a (cA x[i])) (fun a ha=>iw a x[i] (nB a ha).set) hl)) (J (by show(0:Int)<=i/\(i:Int)<(x.length:Nat);omega) (J (show x.length=((yk true (cC l) (x.take i)++x.drop i).map Au).length by rw[Lm,Zh]) (I (Au x[i]) (J (El (qB ni)) (yN ?_))))));refine J (Ii i ch) (I ⟨i+1,ni⟩ ?_);exact⟨Dl x.length i ch,Z6,⟨B,B,⟨(show HO.arr 9 (((yk true (cC l) (x.take i)++x.drop i).map Au).set i [vs x[i].path,vi x[i].ver.a,vi x[i].ver.b,vi x[i].ver.c,sl AI x[i].reqs,vs x[i].arch,vs x[i].ifc,vs x[i].cert,vb true])=.arr 9 ((yk true (cC l) (x.take (i+1))++x.drop (i+1)).map Au) by rw[<-iC ni,Ax h4,IR]),rfl⟩,C⟩,Fh,C⟩
  have h4:(cC l (cA x[i]))=false:=h4;refine C1 (C2 (cb h4 (AcZ (fF:=105) (Cc.ptr _) l (fun a=>Lp a (cA x[i])) (fun a ha=>iw a x[i] (nB a ha).set) hl)) (J (Ii i ch) (I ⟨i+1,ni⟩ ?_)));exact⟨Dl x.length i ch,Z6,⟨B,B,⟨(show HO.arr 9 ((yk true (cC l) (x.take i)++x.drop i).map Au)=.arr 9 ((yk true (cC l) (x.take (i+1))++x.drop (i+1)).map Au) by rw[<-iC ni,AA (by rw[h4];decide),bS (qB ni)]),rfl⟩,C⟩,Fh,C⟩
 have h3:¬((i:Int)<(x.length:Int)):=h3;have n3:¬i<x.length:=ch
 refine J (show x.length=((yk true (cC l) (x.take i)++x.drop i).map Au).length by rw[Lm,Zh]) ?_;refine cU [(4,.ref 4 0),(9,.ref 9 0)] [(4,.cells [nzA,nzA]),(9,.cells [.slice (.id 12200 9) ((yk true (cC l) (x.take i)++x.drop i).map Au),.slice .none ifs]),(12200,.tok 9 ((yk true (cC l) (x.take i)++x.drop i).map Au).length)] Z2 Z3 (yN (yN (yN ?_)));exact BC.of_eq (show AV.tup [HZ (yk true (cC l) (x.take i)++x.drop i) ifs,vi 0]=vr x ifs l by rw[vr,Ax c0,As ch,AN ch,Bg])
theorem yJ(l:List Ad)(hx:VW x)(hrq:∀r∈x,r.reqs.length<=1000)(hl:BD l)(nB:∀a∈l,Mi a)(hcl:PC 103 [.slice .none ifs] (.slice .none ifs)):PC 62 [HZ x ifs,sl Cy l] (vr x ifs l):=by
 by_cases c0:Ov x l=0
 .exact uj x ifs l hx hrq hl nB hcl c0
 .exact ui x ifs l hx hrq hl nB hcl c0
end Go.Eng
