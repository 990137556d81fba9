/- Lemmas 19. -/
import Derived.Test.YtkjhcikodmiceaaGreatDoorCA18
namespace Go.Eng
open Go.Proofs Go.Proofs.Tryz
abbrev Ar0:=List F
abbrev Ar1:=List Rq
abbrev Ar2:=List (List V)
variable {l:List Nf}{i:Nat}{m:Int}{j:Nat}{A:AY}(x:Ar0)(ifs:C0)(y:Sl)(q:Rq)(roots:Ar1)(s:List Sl)(r:F)(p:CS)
abbrev vC:Prop:=∀(d:Ar2) (i:Nf),
 A1 prog 319 [.ref 1000 0,.agg (A8 i)] (Ah (Xr x ifs roots d) Ab) fun r h'=>r=K4 (ne0 (FK i.path (BA x i.path)))/\h'=Ah (Xr x ifs roots d) Ab
abbrev Rx(d:Ar2)(i:Nf)(r:AV)(h' : Nat->HO):Prop:=
 r=Q (Cc x roots d i).isSome/\∃d',h'=Ah (Xr x ifs roots d') Ab/\∀t,Cc x roots d i=some t->d'=d++[t]
inductive KD:Int->Nat->Nat->Prop
 |a:KD 0 314 315
 |b:KD 1 316 317
 |c:KD 2 318 319
 |d:KD 3 320 321
theorem vW{k:Int}{f1 f2:Nat}(K:KD k f1 f2)(x:Ar0)(ifs:C0)(roots:Ar1)(d:Ar2)(p:CS)(pl nu le ri:Int)(hd:d.length<=65536)(a:CS)(b c e g:Int)(o:Option (List V))
  (Abv:PC f1 [.agg (A8 ⟨k,p,pl,nu,le,ri⟩)] (.agg [G k,vs a,G b,G c,G e,G g])) (wO:A1 prog f2 [.ref 1000 0,.agg (A8 ⟨k,p,pl,nu,le,ri⟩)] (Ah (Xr x ifs roots d) Ab) fun r h'=>r=K4 o/\h'=Ah (Xr x ifs roots d) Ab)
  (i1:a=mt/\b=0/\c=0/\e=0/\g=0->Cc x roots d ⟨k,p,pl,nu,le,ri⟩=o) (i2:¬(a=mt/\b=0/\c=0/\e=0/\g=0)->Cc x roots d ⟨k,p,pl,nu,le,ri⟩=none) :
  A1 prog 182 [.ref 1000 0,.agg (A8 ⟨k,p,pl,nu,le,ri⟩)] (Ah (Xr x ifs roots d) Ab) fun r h'=>Rx x ifs roots d ⟨k,p,pl,nu,le,ri⟩ r h':=by
 have eo:K4 o=.tup [sl E (o.getD []),Q o.isSome]:=by cases o<;>rfl
 have e1:a=mt/\b=0/\c=0/\e=0/\g=0->Q o.isSome=Q (Cc x roots d ⟨k,p,pl,nu,le,ri⟩).isSome:=fun h=>by rw[i1 h]
 have e2:¬(a=mt/\b=0/\c=0/\e=0/\g=0)->Q false=Q (Cc x roots d ⟨k,p,pl,nu,le,ri⟩).isSome:=fun h=>by rw[i2 h];rfl
 cases K
 all_goals
  refine Bv (Ky (FX [3,4,6])) [(1000,1000),(1001,1001)] rfl BO hm rfl func182 aa5 rfl C4 aa5 rfl (J (fun h=>absurd h aa1) (fun _=>?_));refine J (fun h=>absurd h aa1) (fun _=>?_);refine M ⟨[(0,.ref 1000 0),(3,.ref 3 0)],[(3,.cells _),(1000,gQ x ifs roots d),(1001,js d)],Ab⟩ (J ⟨Z2,Z3,fun _=>.inl rfl,AX aa5⟩ ?_);refine H (Aiq) (J ⟨by omega,by omega⟩ ?_);refine J C4 (U (J aa5 (M ⟨[(0,.ref 1000 0),(3,.ref 3 0),(5,.ref 5 0)],[(3,.cells _),(5,.cells _),(1000,gQ x ifs roots d),(1001,js d)],Ab⟩ (J ⟨Z3,Z4,fun _=>.inl rfl,AX aa5⟩ ?_))));refine U (H Abv (J (fun h6=>?_) (fun h6=>?_)))
  rotate_left
  .have hz:¬(a=mt/\b=0/\c=0/\e=0/\g=0):=fun q=>h6 ⟨rfl,q.1,q.2.1,q.2.2.1,q.2.2.2.1,q.2.2.2.2,trivial⟩;refine J aa5 ?_;exact H (.refl _) (J (e2 hz) (M d (J rfl (fun t ht=>by rw[i2 hz]at ht;cases ht))))
  have hz:a=mt/\b=0/\c=0/\e=0/\g=0:=⟨h6.2.1,h6.2.2.1,h6.2.2.2.1,h6.2.2.2.2.1,h6.2.2.2.2.2.1⟩;refine J aa5 (M ⟨[(0,.ref 1000 0),(3,.ref 3 0),(5,.ref 5 0)],[(3,.cells _),(5,.cells _),(1000,gQ x ifs roots d),(1001,js d)],Ab⟩ (J ⟨Z3,Z4,fun _=>.inl rfl,AX aa5⟩ ?_));refine U (M (.gen [(1000,1000),(1001,1001)] 0) (J rfl (wO.imp ?_)));intro v1 g1 q1;have xX:=q1.1.trans eo;have iZ:=q1.2;subst xX;subst iZ;have El:Cq 1 [BD (o.getD [])]/\(d.map BD).length=(d.map BD).length/\((d.map BD).length+[BD (o.getD [])].length)*24<=2^47/\(d.map BD).length+[BD (o.getD [])].length<=2^63-1:=
   ⟨⟨rfl,trivial⟩,rfl,by rw[Lm,D0];omega,by rw[Lm,D0];omega⟩
  refine J El (U ?_);have eh:Ah [(1000,HO.cells [sl Ay x,.slice .none ifs,sl Ak roots,.slice (.id 1001 1) (d.map BD++[BD (o.getD [])])]),(1001,.tok 1 ((d.map BD).length+[BD (o.getD [])].length))] Ab=Ah (Xr x ifs roots (d++[o.getD []])) Ab:=by
   simp[Xr,gQ,ckC,js]
  exact H (.refl _) (J (e1 hz) (M (d++[o.getD []]) (J eh (fun t ht=>by rw[i1 hz]at ht;rw[ht];rfl))))
theorem Aeo(d:Ar2)(p:CS)(pl nu le ri:Int)(hd:d.length<=65536)(hr:∀q∈roots,CC q.set) :
  A1 prog 182 [.ref 1000 0,.agg (A8 ⟨0,p,pl,nu,le,ri⟩)] (Ah (Xr x ifs roots d) Ab) fun r h'=>Rx x ifs roots d ⟨0,p,pl,nu,le,ri⟩ r h':=
 vW .a x ifs roots d p pl nu le ri hd p pl 0 le ri _ (AiE ⟨0,p,pl,nu,le,ri⟩) (AiF x ifs roots d ⟨0,p,pl,nu,le,ri⟩ hr) (fun h=>by simp_all[Cc]) (fun h=>by simp_all[Cc])
theorem Aep(d:Ar2)(p:CS)(pl nu le ri:Int)(hd:d.length<=65536)(hx:CC x)(hq:∀r∈x,∀q∈r.reqs,CC q.set) :
  A1 prog 182 [.ref 1000 0,.agg (A8 ⟨1,p,pl,nu,le,ri⟩)] (Ah (Xr x ifs roots d) Ab) fun r h'=>Rx x ifs roots d ⟨1,p,pl,nu,le,ri⟩ r h':=
 vW .b x ifs roots d p pl nu le ri hd mt 0 0 le ri _ (AiG ⟨1,p,pl,nu,le,ri⟩) (AiH x ifs roots d ⟨1,p,pl,nu,le,ri⟩ hx hq) (fun h=>by simp_all[Cc];rfl) (fun h=>by simp_all[Cc])
theorem Aeq(d:Ar2)(p:CS)(pl nu le ri:Int)(hd:d.length<=65536)(wB:vC x ifs roots) :
  A1 prog 182 [.ref 1000 0,.agg (A8 ⟨2,p,pl,nu,le,ri⟩)] (Ah (Xr x ifs roots d) Ab) fun r h'=>Rx x ifs roots d ⟨2,p,pl,nu,le,ri⟩ r h':=
 vW .c x ifs roots d p pl nu le ri hd mt pl nu le ri _ (AiI ⟨2,p,pl,nu,le,ri⟩) (wB d ⟨2,p,pl,nu,le,ri⟩) (fun h=>by simp_all[Cc]) (fun h=>by simp_all[Cc])
theorem Aer(d:Ar2)(p:CS)(pl nu le ri:Int)(hd:d.length<=65536)(hi:∀t∈d,mB t) :
  A1 prog 182 [.ref 1000 0,.agg (A8 ⟨3,p,pl,nu,le,ri⟩)] (Ah (Xr x ifs roots d) Ab) fun r h'=>Rx x ifs roots d ⟨3,p,pl,nu,le,ri⟩ r h':=
 vW .d x ifs roots d p pl nu le ri hd mt pl nu 0 0 _ (AiK ⟨3,p,pl,nu,le,ri⟩) (AiL x ifs roots d ⟨3,p,pl,nu,le,ri⟩ hi) (fun h=>by simp_all[Cc];rfl) (fun h=>by simp_all[Cc])
theorem c66(d:Ar2)(i:Nf)(hd:d.length<=65536)(hr:∀q∈roots,CC q.set)(hx:CC x)(hq:∀r∈x,∀q∈r.reqs,CC q.set)(wB:vC x ifs roots)(hi:∀t∈d,mB t) :
  A1 prog 182 [.ref 1000 0,.agg (A8 i)] (Ah (Xr x ifs roots d) Ab) fun r h'=>Rx x ifs roots d i r h':=by
 obtain⟨k,p,pl,nu,le,ri⟩:=i
 by_cases h0:k=0
 .grind [Aeo]
 by_cases h1:k=1
 .grind [Aep]
 by_cases h2:k=2
 .grind [Aeq]
 by_cases h3:k=3
 .grind [Aer]
 have Aox:Cc x roots d ⟨k,p,pl,nu,le,ri⟩=none:=by
  show(if k=0 then _ else if k=1 then _ else if k=2 then _ else if k=3 then _ else none)=none;simp_all
 have er:Q false=Q (Cc x roots d ⟨k,p,pl,nu,le,ri⟩).isSome:=aa0
 refine Bv (Ky CF) [(1000,1000),(1001,1001)] rfl BO hm rfl func182 aa5 rfl C4 aa5 rfl (J ?_ ?_)
 .intro _;exact H (.refl _) (J er (M d (J rfl (fun t ht=>by simp_all))))
 intro h4;have h4:¬k<0:=h4;refine J ?_ ?_
 .intro _;exact H (.refl _) (J er (M d (J rfl (fun t ht=>by simp_all))))
 intro h5;have h5:¬3<k:=h5;omega
theorem NA{l:Ar1}(h:Bb l=0):l.length<=16:=by
 grind [Bb]
theorem JM{x:Ar0}(h:AU x=0):x.length<=256/\∀r∈x,r.reqs.length<=16:=by
 have h1:x.length<=256:=by
  grind [AU]
 exact⟨h1,fun r hr=>NA ((BN h).1 r hr).reqs⟩
theorem qR{x:Ar0}(h:∀r∈x,r.reqs.length<=16):((x.map (·.reqs)).flatten).length<=x.length*16:=by
 induction x<;>grind
theorem Pw{x:Ar0}{roots:Ar1}(h1:AU x=0)(h2:Bb roots=0)(h3:l.length<=65536):(H8 x roots l).length<=100000:=by
 grind [JM,qR,NA,H8]
theorem Ub.fewI{U:List CS}{t:List V}(h:Ub U t)(hu:U.length<=100000):mB t:=
 ⟨by have:=h.len;omega,fun u hu=>Uv (h.1.canon u hu)⟩
abbrev jV(l:List Nf):AV:=
 if(CT x roots l).2=0 then .tup [.cptr (IJ x (.slice .none ifs) roots (CT x roots l).1),G 0]else .tup [.v (.pointer none),G (CT x roots l).2]
theorem NN{x:Ar0}{ifs:C0}{roots:Ar1}{e:Int}{d:Ar2}(h:CT x roots l=(d,e))(he:e≠0):AV.tup [.v (.pointer none),G e]=jV x ifs roots l:=by
 grind
theorem qv{x:Ar0}{ifs:C0}{roots:Ar1}{d:Ar2}(h:CT x roots l=(d,0)):AV.tup [.cptr (IJ x (.slice .none ifs) roots d),G 0]=jV x ifs roots l:=by
 grind
theorem wy{x:Ar0}{roots:Ar1}{d:Ar2}(h:i<l.length)(hg:BJ x roots (l.take i) []=some d) :
  BJ x roots (l.take (i+1)) []=match Cc x roots d l[i]with | none=>none | some t=>some (d++[t]):=by
 grind [List.take_add_one,BJ,E7]
theorem ww{x:Ar0}{roots:Ar1}(h:BJ x roots (l.take i) []=none):BJ x roots l []=none:=by
 grind [List.take_append_drop,E7]
abbrev Al3:Of:=⟨[],[],[],[],[25],[],[],[(26,(25,3,901,1))],[],[],[3,5,9]⟩
theorem c36(l:List Nf)(hx:∀r∈x,Jz r)(hr:∀q∈roots,J5 q)(wB:AU x=0->vC x ifs roots):PC 106 [.agg (Ic x ifs),sl Ak roots,sl A8 l] (jV x ifs roots l):=by
 have ed:CT x roots l=if AU x≠0\/Bb roots≠0 then([],(1:Int))else if 65536<l.length then([],(7:Int))else match BJ x roots l []with | none=>([],(18:Int)) | some d=>(d,(0:Int)):=rfl
 refine Ps Al3 func106 rfl C4 (U (C1 (H (c64 Xp x ifs hx) (J ?_ ?_))))
 .intro h;exact .of_eq (NN (by rw[ed,AO (.inl h)]) aa3)
 intro h1;refine C1 (H (c65 Xp roots hr) (J ?_ ?_))
 .intro h;exact .of_eq (NN (by rw[ed,AO (.inr h)]) aa3)
 intro h2;have e1:=Gn h1;have e2:=Gn h2;refine cU [(1,sl Ak roots),(2,sl A8 l),(3,.ref 3 0)] [(3,.cells (Ic x ifs))] Z3 Z1 (J ?_ ?_)
 .intro h;exact .of_eq (NN (by rw[ed,AB I,AO aa2]) aa3)
 intro h;have h3:l.length<=65536:=aa2
 have ed2:CT x roots l=match BJ x roots l []with | none=>([],(18:Int)) | some d=>(d,(0:Int)):=aa2
 have hU:=Pw (x:=x) (roots:=roots) (l:=l) e1 e2 h3;have Abx:=JM e1;refine cU [(1,sl Ak roots),(2,sl A8 l),(3,.ref 3 0)] [(3,.cells (Ic x ifs))] Z3 Z1 (U (M {p:Nat×Ar2 // p.1<=l.length/\BJ x roots (l.take p.1) []=some p.2/\p.2.length=p.1/\∀t∈p.2,Ub (H8 x roots l) t} (M (fun p=>⟨[(8,.ref 25 0),(26,sl A8 l),(27,G (l.map A8).length),(28,G p.1.1)],[(25,.cells [sl Ay x,.slice .none ifs,sl Ak roots,.slice (.id 901 1) (p.1.2.map BD)]),(901,.tok 1 (p.1.2.map BD).length)],Ab⟩) (M (fun p=>l.length-p.1.1) (J (M ⟨(0,[]),Ai _,rfl,rfl,fun t ht=>by cases ht⟩ ?_) ?_)))))
 .exact⟨Z4,Z2,Fh,X⟩
 intro⟨⟨i,d⟩,i1,i2,i3,i4⟩;have i2:BJ x roots (l.take i) []=some d:=i2;have i3:d.length=i:=i3;have i4:∀t∈d,Ub (H8 x roots l) t:=i4;refine J ?_ ?_
 .intro h;have h:(i:Int)<(l.map A8).length:=h;have h:i<l.length:=aa0
  have hg:l[i]?=some l[i]:=Ge h;refine M (A8 l[i]) (J (J I aa0) (J rfl ?_));refine J C4 (U (cU [(8,.ref 25 0),(10,.ref 10 0),(26,sl A8 l),(27,G (l.map A8).length),(28,G i)] [(10,.cells (A8 l[i])),(25,.cells [sl Ay x,.slice .none ifs,sl Ak roots,.slice (.id 901 1) (d.map BD)]),(901,.tok 1 (d.map BD).length)] Z5 Z3 (U ?_)));have Cj:=c66 x ifs roots d l[i] I (fun q hq=>(hr q hq).1) I (fun r ay q hq=>((hx r ay).2 q hq).1) (wB e1) (fun t ht=>(i4 t ht).fewI hU);have hgt:=wy h i2;cases dt:Cc x roots d l[i]with
  |none=>
   refine M (.gen [(25,1000),(901,1001)] 0) (J rfl (Cj.imp ?_));intro v g q;have q1:v=Q false:=aa0
   refine AE q.2 (fun d' q2=>?_);have q21:=q2.1;subst q1;subst q21;rw[dt]at hgt;have hn:BJ x roots l []=none:=ww hgt;exact .of_eq (NN (by rw[ed2,hn]) aa3)
  |some t=>
   refine M (.gen [(25,1000),(901,1001)] 0) (J rfl (Cj.imp ?_));intro v g q;have q1:v=Q true:=aa0
   refine AE q.2 (fun d' q2=>?_);have q21:=q2.1;have q22:=q2.2 t dt;subst q1;subst q21;rw[dt]at hgt;refine J (Ii i I) ?_;have nE:=RY (Am h) i4 dt;refine M ⟨(i+1,d'),by omega,by simp_all,by simp_all,fun u hu=>?_⟩ ?_
   .grind
   .exact⟨Dl l.length i I,Z4,Z2,Fh,X⟩
 .intro h;have h:¬(i:Int)<(l.map A8).length:=h;have h:¬i<l.length:=aa0
  have hn:BJ x roots l []=some d:=aa2
  exact .of_eq (qv aa0)
theorem gY{x:Ar0}{roots:Ar1}:(CT x roots l).1.length<=65536:=by
 grind [CT,HU,List.length_nil]
abbrev Sa:AV:=.agg (Ic x ifs)
abbrev Zm:Ez:=⟨true,[.str,.int .i64,.int .i64,.int .i64]⟩
abbrev Ys:Value:=.agg #[.string y.path,.int .i64 y.ver.a,.int .i64 y.ver.b,.int .i64 y.ver.c]
abbrev Xy:Value×AV:=(Ys (DJ r),.agg (Ay r))
def AL:Ar0->List CS->List CS
 | [],acc=>acc
 |r::x,acc=>AL x (if acc.any (fun p=>decide (p=r.path))then acc else acc++[r.path])
abbrev zX:Value×AV:=(.string p,sl Ay (x.filter fun r=>decide (r.path=p)))
abbrev AcL:AV:=if AU x=0 then .tup [.agg [.cmap Zm (x.map Xy),.cmap CU ((AL x []).map (zX x))],G 0]else .tup [.agg [.cmap Zm [],.cmap CU []],G (AU x)]
abbrev pQ:Prop:=PC 51 [Sa x ifs] (AcL x)
theorem Ajm:PC 86 [.agg pN] (.agg pN):=by
 refine Ps CF func86 rfl C4 (U (M Unit (M (fun _=>⟨[(1,.ref 1 0),(2,.ref 2 0),(10,G 0),(11,G 0)],[(1,.cells pN),(2,.cells pN)],Ab⟩) (M (fun _=>0) (J (M () ?_) ?_)))))
 .exact⟨Z4,Z2,Fh,X⟩
 intro _;refine J ?_ ?_
 .intro h;exact absurd (show(0:Int)<0 from h) aa3
 .intro _;refine J C4 (J C4 (U ?_));exact .refl _
theorem xp{y z:Sl}(h:Ys y=Ys z):y=z:=by
 obtain⟨p,⟨a,b,c⟩⟩:=y<;>simp_all
theorem aK{x:Ar0}{y:Sl}{a:AV}(h:(Ys y,a)∈x.map Xy):∃r∈x,DJ r=y/\a=.agg (Ay r):=by
 grind [xp]
theorem cX{x:Ar0}(hx:AU x=0){r:F}(hr:r∈x):BG x (DJ r)=some r:=by
 unfold BG;rw[AB I];cases h:x.find? (fun s=>decide (DJ s=DJ r))with
 |none=>
  grind
 |some s=>
  have h1:=Gk h;simp only[AP]at h1;have hs:=BX h;have hp:=(BN hx).2
  grind [List.mem_iff_getElem,List.pairwise_iff_getElem,Po]
theorem c53(v:Ver)(VF:pQ x ifs)(hx:∀r∈x,Jz r):PC 40 [Sa x ifs,vs p,.agg (Ir v)] (OK (BG x ⟨p,v⟩)):=by
 have hz:=Ajm
 by_cases h0:AU x=0
 .have VF:PC 51 [Sa x ifs] (.tup [.agg [.cmap Zm (x.map Xy),.cmap CU ((AL x []).map (zX x))],G 0]):=by
   grind
  refine Ps (FX []) func40 rfl C4 (U (C1 (H (VF) (U (U (J ?_ ?_))))))
  .intro a ha;refine AE (aK (y:=⟨p,v⟩) ha) (fun r hr=>?_);have e:=hr.2.2;subst e;have hf:BG x ⟨p,v⟩=some r:=by grind [cX]
   have zP:=(JM h0).2 r hr.1;have hc:=c98 r I (fun q hq=>((hx r hr.1).2 q hq).1);refine U (U (C1 (H (hc) (J C4 (U ?_)))));exact .of_eq (show AV.tup [.agg (Ay r),Q true]=OK (BG x ⟨p,v⟩) by rw[hf])
  .intro hn;have hf:BG x ⟨p,v⟩=none:=by
    cases h:BG x ⟨p,v⟩with
    |none=>rfl
    |some r=>
     obtain⟨_,h2,h3⟩:=E9 h;exact absurd (Ap.2 ⟨r,h2,by simp_all⟩) (hn (.agg (Ay r)))
   refine U (U (C1 (H (hz) (J C4 (U ?_)))));exact .of_eq (show AV.tup [.agg pN,Q false]=OK (BG x ⟨p,v⟩) by rw[hf])
 .have VF:PC 51 [Sa x ifs] (.tup [.agg [.cmap Zm [],.cmap CU []],G (AU x)]):=by
   grind
  have hf:BG x ⟨p,v⟩=none:=by grind [BG]
  refine Ps (FX []) func40 rfl C4 (U (C1 (H (VF) (U (U (J ?_ ?_))))))
  .intro a ha;cases ha
  .intro _;refine U (U (C1 (H (hz) (J C4 (U ?_)))));exact .of_eq (show AV.tup [.agg pN,Q false]=OK (BG x ⟨p,v⟩) by rw[hf])
abbrev Et(l:Ar0):AY:=(l.filter fun r=>!r.yanked).map fun r=>(plc r.ver,plc r.ver+1)
theorem jo(l:Ar0):(Et l).length<=l.length:=by
 grind
theorem qd{acc:List CS}{p:CS}:(acc.any fun q=>decide (q=p))=true↔p∈acc:=by
 simp_all
theorem Hw:∀(x:Ar0) (acc:List CS) (p:CS),p∈AL x acc↔p∈acc\/∃r∈x,r.path=p
 | [],acc,p=>by simp[AL]
 |r::x,acc,p=>by
  rw[AL,Hw x]
  grind
abbrev Aa5:Of:=(pT [] [(7,2)] [])
theorem XX(L:Ar0)(i:Nat)(h:i<L.length):Et (L.take (i+1))=Et (L.take i)++(if L[i].yanked then []else [(plc L[i].ver,plc L[i].ver+1)]):=by
 unfold Et;rw[DV,Ge h,PM,Au]
 grind
theorem Aeg(VF:pQ x ifs):PC 147 [Sa x ifs,vs p] (sl Y (BA x p)):=by
 by_cases h0:AU x=0
 .have VF:PC 51 [Sa x ifs] (.tup [.agg [.cmap Zm (x.map Xy),.cmap CU ((AL x []).map (zX x))],G 0]):=by
   grind
  have rP:=(JM h0).1;obtain⟨L,hLd⟩:∃L,L=x.filter fun r=>decide (r.path=p):=⟨_,rfl⟩;have hL:L5 x p=L:=by grind [L5]
  have hLl:L.length<=256:=aa2
  refine Ps Aa5 func147 rfl C4 (U (C1 (H (VF) (U (J ?_ ?_)))))
  .intro a ha;have ea:a=sl Ay L:=aa2
   subst ea;refine M {i:Nat // i<=L.length} (M (fun i=>⟨[(7,.slice (.id 7 2) ((Et (L.take i.1)).map Y)),(18,sl Ay L),(19,G (L.map Ay).length),(20,G i.1)],[(7,.tok 2 ((Et (L.take i.1)).map Y).length)],Ab⟩) (M (fun i=>L.length-i.1) (J (M ⟨0,Ai _⟩ ?_) ?_)))
   .exact⟨Z4,Z1,Fh,X⟩
   intro⟨i,i1⟩;have VO:=jo (L.take i);rw[Bf]at VO;refine J ?_ ?_
   .intro h;have h:i<L.length:=aa0
    have hg:L[i]?=some L[i]:=Ge h;refine M (Ay L[i]) (J (J I aa0) (J rfl ?_));refine J C4 (U (J ?_ ?_))
    .intro hy;refine J (by grind [As]) ?_;have es:Et (L.take (i+1))=Et (L.take i):=by rw[XX L i h,hy];simp
     have e1:AV.slice (.id 7 2) ((Et (L.take i)).map Y)=.slice (.id 7 2) ((Et (L.take (i+1))).map Y):=by rw[es]
     have e2:HO.tok 2 ((Et (L.take i)).map Y).length=.tok 2 ((Et (L.take (i+1))).map Y).length:=by rw[es]
     refine M ⟨i+1,by omega⟩ ?_;exact⟨by grind,⟨⟨e1,rfl⟩,Z,Z,Z,X⟩,⟨⟨e2,rfl⟩,X⟩,Fh,X⟩
    .intro hy;have hpl:=lE L[i].ver;refine U (H (c88 L[i]) (U (H (c88 L[i]) (J (by grind [As]) ?_))));have El:Cq 2 [[G (plc L[i].ver),G (plc L[i].ver+1)]]/\((Et (L.take i)).map Y).length=((Et (L.take i)).map Y).length/\(((Et (L.take i)).map Y).length+[[G (plc L[i].ver),G (plc L[i].ver+1)]].length)*16<=2^47/\((Et (L.take i)).map Y).length+[[G (plc L[i].ver),G (plc L[i].ver+1)]].length<=2^63-1:=
      ⟨⟨rfl,trivial⟩,rfl,by grind,by grind⟩
     refine J El (J aa5 (J (by grind [As]) ?_));have es:Et (L.take (i+1))=Et (L.take i)++[(plc L[i].ver,plc L[i].ver+1)]:=by rw[XX L i h,hy];simp
     have e1:AV.slice (.id 7 2) ((Et (L.take i)).map Y++[[G (plc L[i].ver),G (plc L[i].ver+1)]])=.slice (.id 7 2) ((Et (L.take (i+1))).map Y):=aa0
     have e2:HO.tok 2 (((Et (L.take i)).map Y).length+[[G (plc L[i].ver),G (plc L[i].ver+1)]].length)=.tok 2 ((Et (L.take (i+1))).map Y).length:=aa0
     refine M ⟨i+1,by omega⟩ ?_;exact⟨by grind,⟨⟨e1,rfl⟩,Z,Z,Z,X⟩,⟨⟨e2,rfl⟩,X⟩,Fh,X⟩
   .intro h;have h:¬i<L.length:=aa0
    have et:L.take i=L:=AD I;have hc:PC 221 [sl Y (Et (L.take i))] (sl Y (canon (Et (L.take i)))):=cr _ I;refine C1 (H (hc) ?_);exact .of_eq (show sl Y (canon (Et (L.take i)))=sl Y (BA x p) by grind [BA])
  .intro hn;have hL:L5 x p=[]:=by
    rw[hL,hLd,KN];intro r hr he;have he:=B7 he;exact hn _ (Ap.2 ⟨p,(Hw x [] p).2 (.inr ⟨r,hr,he⟩),rfl⟩)
   refine M Unit (M (fun _=>⟨[(7,.slice (.id 7 2) []),(19,G 0),(20,G 0)],[(7,.tok 2 0)],Ab⟩) (M (fun _=>0) (J (M () ?_) ?_)))
   .exact⟨Z3,Z1,Fh,X⟩
   intro _;refine J ?_ ?_
   .intro h;exact absurd (show(0:Int)<0 from h) aa3
   intro _;have hc:PC 221 [sl Y []] (sl Y (canon [])):=cr [] aa0;refine C1 (H (hc) ?_);exact .of_eq (show sl Y (canon [])=sl Y (BA x p) by grind [BA])
 .have VF:PC 51 [Sa x ifs] (.tup [.agg [.cmap Zm [],.cmap CU []],G (AU x)]):=by
   grind
  have hL:L5 x p=[]:=by grind [L5]
  refine Ps Aa5 func147 rfl C4 (U (C1 (H (VF) (U (J ?_ ?_)))))
  .intro a ha;cases ha
  .intro _;refine M Unit (M (fun _=>⟨[(7,.slice (.id 7 2) []),(19,G 0),(20,G 0)],[(7,.tok 2 0)],Ab⟩) (M (fun _=>0) (J (M () ?_) ?_)))
   .exact⟨Z3,Z1,Fh,X⟩
   intro _;refine J ?_ ?_
   .intro h;exact absurd (show(0:Int)<0 from h) aa3
   intro _;have hc:PC 221 [sl Y []] (sl Y (canon [])):=cr [] aa0;refine C1 (H (hc) ?_);exact .of_eq (show sl Y (canon [])=sl Y (BA x p) by grind [BA])
theorem OW:CC (BA x p):=by
 grind [BA,Io,BV]
theorem AiJ(VF:pQ x ifs):vC x ifs roots:=by
 intro d i;have h1:=Aeg x ifs i.path VF;have h2:=AaK i.path (BA x i.path) (OW x i.path);refine Bv (Ky (FX [2])) [(1000,1000),(1001,1001)] rfl BO hm rfl func319 aa5 rfl C4 aa5 rfl (U (H (h1) (H (h2) (J aa5 (cU [(6,sl E (FK i.path (BA x i.path)))] [(1000,gQ x ifs roots d),(1001,js d)] Z1 Z2 (J ?_ ?_))))))
 .intro h3;have h3:(0:Int)<((FK i.path (BA x i.path)).map E).length:=h3;have e:AV.tup [sl E (FK i.path (BA x i.path)),Q true]=K4 (ne0 (FK i.path (BA x i.path))):=d7 h3;exact H (.refl _) (J e rfl)
 .intro h3;have h3:¬(0:Int)<((FK i.path (BA x i.path)).map E).length:=h3;have e:AV.tup [sl E (FK i.path (BA x i.path)),Q false]=K4 (ne0 (FK i.path (BA x i.path))):=ll h3;exact H (.refl _) (J e rfl)
theorem c77:PC 184 [.agg (Ar y),.cptr (Ak q)] (Q (decide (y.path=q.path))):=by
 refine Ps CF func184 rfl C4 (J ?_ ?_)
 .intro h;have h:y.path=q.path:=h;exact C Q (Aq h).symm
 .intro h;have h:¬y.path=q.path:=h;exact C Q (Al h).symm
theorem c79:PC 186 [.agg (Ar y),.cptr [vs p]] (Q (decide (y.path=p))):=by
 refine Ps CF func186 rfl C4 (J ?_ ?_)
 .intro h;have h:y.path=p:=h;exact C Q (Aq h).symm
 .intro h;have h:¬y.path=p:=h;exact C Q (Al h).symm
theorem c90(pl:Int)(hq:CC q.set):PC 187 [.agg (Ak q),.cptr (Ay r),.cptr [G pl]] (Q (decide (q.path=r.path)&&!has q.set pl)):=by
 have hc:=c87 q.set pl hq;cases hh:has q.set pl with
 |true=>
  rw[hh]at hc;refine Ps CF func187 rfl C4 (J ?_ ?_)
  .intro h;have h:q.path=r.path:=h;refine C1 (H (hc) ?_);exact C Q (show false=(decide (q.path=r.path)&&!true) by simp_all)
  .intro h;have h:¬q.path=r.path:=h;exact C Q (show false=(decide (q.path=r.path)&&!true) by simp_all)
 |false=>
  rw[hh]at hc;refine Ps CF func187 rfl C4 (J ?_ ?_)
  .intro h;have h:q.path=r.path:=h;refine C1 (H (hc) ?_);exact C Q (show true=(decide (q.path=r.path)&&!false) by simp_all)
  .intro h;have h:¬q.path=r.path:=h;exact C Q (show false=(decide (q.path=r.path)&&!false) by simp_all)
abbrev pe:AV:=if B5 s=false then .tup [sl Ay [],G 1]else match KC x s with
 |none=>.tup [sl Ay [],G 6]
 |some l=>.tup [sl Ay l,G 0]
abbrev Al6:Of:=(pT [] [(7,9)] [7,11,13])
theorem AfU(e:Int):Da (.tup [nzA,G e]) (.tup [.slice .none [],G e]):=Da.tup ⟨.nil,.refl _,trivial⟩
abbrev qq2:=fun(x:Ar0) (P:List (Value×AV))=>((2,.cells [.cmap Zm (x.map Xy),.cmap CU P]):Nat×HO)
theorem c85(P:List (Value×AV))(h0:AU x=0)(hs:CC s):PC 52 [.agg [.cmap Zm (x.map Xy),.cmap CU P],sl Ar s] (pe x s):=by
 unfold CC at hs;refine Ps Al6 func52 rfl C4 ?_;refine M {i:Nat // 1<=i/\(s=[]\/i<=s.length)/\B5 s=(match s[i-1]? with | none=>true | some y=>K3 (some y.path) (s.drop i))} (M (fun i=>⟨[(1,sl Ar s),(2,.ref 2 0),(6,G i.1)],[(qq2 x P)],Ab⟩) (M (fun i=>s.length-i.1) (J (M ⟨1,Af _,by grind,by cases s<;>rfl⟩ ?_) ?_)))
 .exact⟨Z3,Z1,Fh,X⟩
 intro⟨i,h1,h2,h3⟩;refine J ?_ ?_
 .intro h;have h:i<s.length:=aa0
  have hg:s[i]?=some s[i]:=Ge h;have h' : i-1<s.length:=I
  have hg' : s[i-1]?=some s[i-1]:=Ge h';have e1:((i:Int)-1).toNat=i-1:=I
  have rN:B5 s=(E3 s[i-1].path s[i].path&&K3 (some s[i].path) (s.drop (i+1))):=by
   grind [dF]
  refine J (by grind [As]) (M (Ar s[i-1]) (J (J aa2 aa0) (J rfl ?_)));refine M (Ar s[i]) (J (J I aa0) (J rfl ?_));refine J ?_ ?_
  .intro h4;rw[<-Fy]at h4;refine J aa5 ?_;have e:AV.tup [.slice .none [],G 1]=pe x s:=aa2
   exact(AfU 1).trans (.of_eq e)
  .intro h4;rw[<-Fy,Tc]at h4;refine J aa5 (J (by grind [As]) (M ⟨i+1,by omega,.inr I,by simp_all⟩ ?_));exact⟨Dl s.length i I,Z3,Z1,Fh,X⟩
 intro h;have h:¬i<s.length:=aa0
 have Af7:B5 s=true:=by
  rcases h2 with h2 | h2
  .grind
  .have e:i=s.length:=I
   rw[h3,e,List.drop_length];cases s[s.length-1]?<;>rfl
 have es:pe x s=match KC x s with
  |none=>.tup [sl Ay [],G 6]
  |some l=>.tup [sl Ay l,G 0]:=aa0
 refine cU [(1,sl Ar s),(2,.ref 2 0),(7,.slice (.id 7 9) [])] [(qq2 x P),(7,.tok 9 0)] Z3 Z2 (M {p:Nat×Ar0 // p.1<=s.length/\p.2.length=p.1/\KC x s=(KC x (s.drop p.1)).map (p.2++·)} (M (fun p=>⟨[(2,.ref 2 0),(7,.slice (.id 7 9) (p.1.2.map Ay)),(30,sl Ar s),(31,G (s.map Ar).length),(32,G p.1.1)],[(qq2 x P),(7,.tok 9 (p.1.2.map Ay).length)],Ab⟩) (M (fun p=>s.length-p.1.1) (J (M ⟨(0,[]),Ai _,rfl,by simp_all⟩ ?_) ?_))))
 .exact⟨Z5,Z2,Fh,X⟩
 intro⟨⟨j,l⟩,j1,j2,j3⟩;refine J ?_ ?_
 .intro hj;have hj:j<s.length:=aa0
  have hg:s[j]?=some s[j]:=Ge hj;have hd:s.drop j=s[j]::s.drop (j+1):=Bj hj;refine M (Ar s[j]) (J (J I aa2) (J rfl (J C4 (U (U (J ?_ ?_))))))
  .intro a ha;refine AE (aK (y:=s[j]) ha) (fun r hr=>?_);have e:=hr.2.2;subst e;have hf:BG x s[j]=some r:=by grind [cX]
   have j4:KC x s=(KC x (s.drop (j+1))).map ((l++[r])++·):=by
    rw[j3,hd,KC,hf]
    grind
   refine U (cU [(2,.ref 2 0),(7,.slice (.id 7 9) (l.map Ay)),(10,.ref 10 0),(11,Q true),(30,sl Ar s),(31,G (s.map Ar).length),(32,G j)] [(qq2 x P),(7,.tok 9 (l.map Ay).length),(10,.cells (Ay r))] Z7 Z3 (cU [(2,.ref 2 0),(7,.slice (.id 7 9) (l.map Ay)),(10,.ref 10 0),(30,sl Ar s),(31,G (s.map Ar).length),(32,G j)] [(qq2 x P),(7,.tok 9 (l.map Ay).length),(10,.cells (Ay r))] Z6 Z3 (U ?_)));have El:Cq 9 [Ay r]/\(l.map Ay).length=(l.map Ay).length/\((l.map Ay).length+[Ay r].length)*120<=2^47/\(l.map Ay).length+[Ay r].length<=2^63-1:=
    ⟨⟨rfl,trivial⟩,rfl,by grind,by grind⟩
   refine J El (J (Ii j I) ?_);have e1:AV.slice (.id 7 9) (l.map Ay++[Ay r])=.slice (.id 7 9) ((l++[r]).map Ay):=aa2
   have e2:HO.tok 9 ((l.map Ay).length+[Ay r].length)=.tok 9 ((l++[r]).map Ay).length:=aa2
   refine M ⟨(j+1,l++[r]),by omega,by grind,j4⟩ ?_;exact⟨by grind,⟨Z,⟨e1,rfl⟩,Z,Z,Z,X⟩,⟨Z,⟨e2,rfl⟩,X⟩,Fh,X⟩
  .intro hn;have hf:BG x s[j]=none:=by
    cases h:BG x s[j]with
    |none=>rfl
    |some r=>
     obtain⟨_,h2,h3⟩:=E9 h;exact absurd (Ap.2 ⟨r,h2,by grind⟩) (hn (.agg (Ay r)))
   have j4:KC x s=none:=by grind [KC]
   refine U (cU [(11,Q false)] [] Z1 X ?_)
   have e:AV.tup [.slice .none [],G 6]=pe x s:=aa2
   exact(AfU 6).trans (.of_eq e)
 .intro hj;have hj:¬j<s.length:=aa0
  have j4:KC x s=some l:=by grind [KC]
  have e:AV.tup [sl Ay l,G 0]=pe x s:=aa0
  exact .of_eq e
abbrev Pk:Value×AV:=(.string r.path,.agg (Ay r))
theorem UC{m:Ar0}{p:CS}{a:AV}(h:(Value.string p,a)∈m.map Pk):∃r∈m,r.path=p/\a=.agg (Ay r):=by
 grind
theorem KY:∀{m:Ar0},(m.map (·.path)).Nodup->∀{r:F},r∈m->m.find? (fun s=>decide (s.path=r.path))=some r
 |a::m,hn,r,hr=>by
  rw[A7,Gm]at hn;rw[Fu];rcases AJ.1 hr with rfl | hr
  .simp
  .have:¬a.path=r.path:=fun e=>hn.1 (Ap.2 ⟨r,hr,e.symm⟩)
   rw[Al this];exact KY hn.2 hr
theorem c86(m:Ar0)(hn:(m.map (·.path)).Nodup)(q:Rq)(hq:CC q.set):PC 53 [.agg (Ak q),.cptr [.cmap CU (m.map Pk)]] (Q (Dn m q)):=by
 refine Ps (FX [2]) func53 rfl C4 (J ?_ ?_)
 .intro a ha;refine AE (UC ha) (fun r hr=>?_);have e:=hr.2.2;subst e;have hf:m.find? (fun s=>decide (s.path=q.path))=some r:=by grind [KY]
  have hb:Dn m q=!has q.set (plc r.ver):=by grind [Dn]
  have hc:=c87 q.set (plc r.ver) hq;refine U (cU [(2,.ref 2 0),(4,.ref 4 0),(5,Q true)] [(2,.cells (Ak q)),(4,.cells (Ay r))] Z3 Z2 (U (H (c88 r) (Be (Bt (has q.set (plc r.ver))) (fun e=>?_) (fun e=>?_)))))
  .rw[e]at hc;refine H (hc) (J aa5 ?_);exact C Q (show false=Dn m q by simp_all)
  .rw[e]at hc;refine H (hc) (J aa5 ?_);exact C Q (show true=Dn m q by simp_all)
 .intro OB;have hf:m.find? (fun s=>decide (s.path=q.path))=none:=by
   rw[PN];intro r hr he;have he:=B7 he;exact OB _ (Ap.2 ⟨r,hr,by rw[<-he]⟩)
  have hb:Dn m q=true:=by grind [Dn]
  refine U (cU [(2,.ref 2 0),(4,.ref 4 0),(5,Q false)] [(2,.cells (Ak q)),(4,.cells pN)] Z3 Z2 (J aa5 ?_));exact C Q hb.symm
def Md:Bool:=decide (q.path.size<=100)&&decide (q.set.length<=8)
def Ef(l:Ar1):Bool:=l.all Md&&decide (l.length<=20)
theorem c35(l:Ar1)(hl:CC l):PC 37 [sl Ak l] (Q (Ef l)):=by
 unfold CC at hl;refine Ps CF func37 rfl C4 (M {i:Nat // i<=l.length/\∀j (hj:j<l.length),j<i->Md l[j]=true} (M (fun i=>⟨[(0,sl Ak l),(3,G i.1)],[],Ab⟩) (M (fun i=>l.length-i.1) (J (M ⟨0,Ai _,fun j _ h=>by omega⟩ ?_) ?_))))
 .exact⟨Z2,X,Fh,X⟩
 intro⟨i,h1,h2⟩;refine J ?_ ?_
 .intro h;have h:i<l.length:=aa0
  have hg:l[i]?=some l[i]:=Ge h;have no:Md l[i]=false->false=Ef l:=fun e=>by
   grind [Ef]
  refine M (Ak l[i]) (J (J I aa0) (J rfl ?_));refine J ?_ ?_
  .intro h3;exact C Q (no (by grind [Md]))
  intro h3;refine M (Ak l[i]) (J (J I aa0) (J rfl ?_));refine J ?_ ?_
  .intro h4;rw[Lm]at h4;exact C Q (no (by grind [Md]))
  intro h4;have h5:l[i].set.length<=8:=aa2
  refine J (by grind [As]) (M ⟨i+1,by omega,fun j hj IY=>?_⟩ ?_)
  .grind [Md]
  .exact⟨Dl l.length i I,Z2,X,Fh,X⟩
 .intro h;have h:¬i<l.length:=aa0
  have ha:l.all Md=true:=AZ.2 fun q hq=>by
   grind [List.getElem_of_mem]
  refine J ?_ ?_
  .intro h3;rw[Lm]at h3;exact C Q (show true=Ef l by grind [Ef])
  .intro h3;rw[Lm]at h3;exact C Q (show false=Ef l by grind [Ef])
def AcH:Bool:=decide (r.path.size<=100)&&decide (r.arch.size<=100)&&decide (r.ifc.size<=100)&&decide (r.cert.size<=100)&&Ef r.reqs
def SI(n:Nat):Bool:=x.all AcH&&decide (x.length<=n)
abbrev H45:Prop:=PC 21 [Sa x ifs,sl Ak roots,sl Ar s] (G (Hc x roots s))
theorem c80(hs:CC s):PC 59 [sl Ar s] (Q (B5 s)):=by
 unfold CC at hs;refine Ps CF func59 rfl C4 ?_;refine M {i:Nat // 1<=i/\(s=[]\/i<=s.length)/\B5 s=(match s[i-1]? with | none=>true | some y=>K3 (some y.path) (s.drop i))} (M (fun i=>⟨[(0,sl Ar s),(3,G i.1)],[],Ab⟩) (M (fun i=>s.length-i.1) (J (M ⟨1,Af _,by grind,by cases s<;>rfl⟩ ?_) ?_)))
 .exact⟨Z2,X,Fh,X⟩
 intro⟨i,h1,h2,h3⟩;refine J ?_ ?_
 .intro h;have h:i<s.length:=aa0
  have hg:s[i]?=some s[i]:=Ge h;have h' : i-1<s.length:=I
  have hg' : s[i-1]?=some s[i-1]:=Ge h';have e1:((i:Int)-1).toNat=i-1:=I
  have rN:B5 s=(E3 s[i-1].path s[i].path&&K3 (some s[i].path) (s.drop (i+1))):=by
   grind [dF]
  refine M (Ar s[i]) (J (J I aa0) (J rfl ?_));refine J (by grind [As]) (M (Ar s[i-1]) (J (J aa2 aa0) (J rfl ?_)));refine J ?_ ?_
  .intro h4;rw[<-Fy]at h4;refine J aa5 ?_;exact C Q (show false=B5 s by simp_all)
  .intro h4;rw[<-Fy,Tc]at h4;refine J aa5 (J (by grind [As]) (M ⟨i+1,by omega,.inr I,by simp_all⟩ ?_));exact⟨Dl s.length i I,Z2,X,Fh,X⟩
 .intro h;have h:¬i<s.length:=aa0
  have Af7:B5 s=true:=by
   rcases h2 with h2 | h2
   .grind
   .have e:i=s.length:=I
    rw[h3,e,List.drop_length];cases s[s.length-1]?<;>rfl
  exact C Q Af7.symm
abbrev si:Int:=match AR p with | none=>-1 | some m=>m
abbrev AdU:Prop:=∀p:CS,Er p->PC 115 [vs p] (G (si p))
abbrev AdV:Prop:=∀s:AY,CC s->PC 116 [sl Y s] (sl Y (canon s))
theorem xJ{r:List UInt8}(h:r.all Ch=true):0<=DF r:=by
 have:∀(l:List UInt8) (n:Int),0<=n->(∀c∈l,Ch c=true)->0<=l.foldl (fun n c=>10*n+((c.toNat:Int)-48)) n:=by
  intro l
  induction l<;>grind [Js]
 exact this r 0 (B6 _) (fun c hc=>AZ.1 h c hc)
theorem yH{s:List UInt8}{n:Int}(h:F9 s=some n):0<=n:=by
 unfold F9 at h;split at h
 .split at h
  .split at h
   .cases h
   .rename_i r _ hc;cases h;refine xJ ?_;simp_all
  simp_all
 simp_all
theorem sq{p:CS}(h:AR p=some m):0<=m:=by
 unfold AR Sf at h;split at h
 .cases h
 .rename_i n e;split at h
  .cases h
  .split at h
   .cases h;exact yH e
   simp_all
theorem sj:si p<0↔(AR p).isNone=true:=by
 unfold si;cases h:AR p with
 |none=>simp
 |some m=>have:=sq h;simp_all
theorem c68(Ab9:AdU)(Aba:AdV)(l:Ar1)(hs:∀q∈l,J5 q):PC 58 [sl Ak l] (G (Bb l)):=by
 refine Ps (FX []) func58 rfl C4 (J ?_ ?_)
 .intro h;exact C G (show(7:Int)=Bb l by grind [Bb])
 intro h;have hl:l.length<=16:=aa2
 have aw:Bb l=DL none l:=by grind [Bb]
 refine M {i:Nat // i<=l.length/\DL none l=DL (JE l i) (l.drop i)} (M (fun i=>⟨[(0,sl Ak l),(3,G i.1)],[],Ab⟩) (M (fun i=>l.length-i.1) (J (M ⟨0,Ai _,rfl⟩ ?_) ?_)))
 .exact⟨Z2,X,Fh,X⟩
 intro⟨i,h1,h2⟩;refine J ?_ ?_
 .intro h;have h:i<l.length:=aa0
  have hg:l[i]?=some l[i]:=Ge h;have hd:l.drop i=l[i]::l.drop (i+1):=Bj h;have hq:=hs l[i] (Am h);have MJ:DL none l=if GS (JE l i) l[i]=0 then DL (some l[i].path) (l.drop (i+1))else GS (JE l i) l[i]:=by rw[h2,hd];rfl
  have fail:∀e:Int,GS (JE l i) l[i]=e->e≠0->e=Bb l:=fun e he hz=>by omega
  have Uw:JE l (i+1)=some l[i].path:=cn h;refine M (Ak l[i]) (J (J I aa2) (J rfl (C1 (H (Ab9 l[i].path hq.2) (J ?_ ?_)))))
  .intro h3;exact C G (fail 4 (by grind [GS,sj]) aa3)
  intro h3;have hmj:(AR l[i].path).isNone=false:=by
   grind
  have er:GS (JE l i) l[i]=if(l[i].set.isEmpty||!decide (l[i].set=canon l[i].set)||(match JE l i with | some b=>!E3 b l[i].path | none=>false))=true then 1 else 0:=by unfold GS;grind
  refine M (Ak l[i]) (J (J I aa2) (J rfl (J ?_ ?_)))
  .intro h4;have h5:l[i].set.isEmpty=true:=by
    rw[Lm]at h4;rw[GU];exact AI I
   refine J aa5 ?_;exact C G (fail 1 aa2 aa3)
  intro h4;have h5:l[i].set.isEmpty=false:=by
   grind
  have he:=c75 l[i].set (canon l[i].set) hq.1;refine M (Ak l[i]) (J (J I aa2) (J rfl (M (Ak l[i]) (J (J I aa2) (J rfl (H (Aba l[i].set hq.1) (Be (Bt (decide (l[i].set=canon l[i].set))) (fun e=>?_) (fun e=>?_))))))))
  rotate_left
  .rw[e]at he;refine H (he) (J aa5 ?_);exact C G (fail 1 aa2 aa3)
  rw[e]at he;refine H (he) (J aa5 (J ?_ ?_))
  .intro h6;have h6:(0:Int)<i:=h6;have h7:i-1<l.length:=I
   have hb:JE l i=some l[i-1].path:=by
    grind
   refine M (Ak l[i]) (J (J I aa2) (J rfl (J (by grind [As]) (M (Ak l[i-1]) (J (J I (by rw[show((i:Int)-1).toNat=i-1 by omega];grind)) (J rfl ?_))))));refine J ?_ ?_
   .intro h8;refine J aa5 ?_;exact C G (fail 1 (by grind [Fy]) aa3)
   .intro h8;have h8:¬Op.bytesLess l[i-1].path.toList l[i].path.toList=false:=h8;have h8:Op.bytesLess l[i-1].path.toList l[i].path.toList=true:=aa2
    refine J aa5 (J (by grind [As]) (M ⟨i+1,by omega,by grind [Fy]⟩ ?_));exact⟨Dl l.length i I,Z2,X,Fh,X⟩
  .intro h6;have h6:¬(0:Int)<i:=h6;have h7:i=0:=I
   refine J aa5 (J (by show As ((i:Int)+1);grind [As]) (M ⟨i+1,by omega,by grind⟩ ?_));exact⟨Dl l.length i I,Z2,X,Fh,X⟩
 .intro h;have h:¬(i:Int)<(l.map Ak).length:=h;have h:¬i<l.length:=aa0
  have e:(0:Int)=Bb l:=by rw[aw,h2,KM I];rfl
  exact C G e
theorem iE(k:Nat)(hk:k<p.data.toList.length)(h1:p.data.toList[k]=47)(h2:∀j (hj:j<p.data.toList.length),k<j->p.data.toList[j]≠47):Go.Lib.lastIndex p.data.toList [47]=k:=by
 have hoc:∀i (hi:i<p.data.toList.length),Go.Lib.occAt p.data.toList [47] i=true↔p.data.toList[i]=47:=fun i hi=>by
  grind [Go.Lib.occAt,List.drop_eq_getElem_cons]
 grind [Go.Lib.lastIndex,Go.Lib.lastOcc_spec]
theorem pj{p:CS}(h:AR p=some m):(47:UInt8)∈p.data.toList:=by
 grind [PG,AR,Sf]
theorem Aeb(hp:Er p):PC 60 [vs p] (Yw V7 p):=by
 have hc:=Aei p hp;have hi:=AiS p hp;have EC:p.size=p.data.toList.length:=aa1
 unfold Yw;cases h:AR p with
 |none=>
  rw[h]at hi;refine Ps CF func60 rfl C4 (C1 (H (hi) ?_));exact .refl _
 |some n=>
  have hsm:=pj h;rw[h]at hc hi;unfold Er at hp;refine AE (show ∃q,∃hq:q<p.data.toList.length,p.data.toList[q]=47 from Om hsm) (fun q hq=>?_);refine AE hq (fun hq eq=>?_);refine Ps CF func60 rfl C4 (C1 (H (hi) (C1 (H (hc) (J (fun h=>absurd rfl h) (fun _=>?_))))));refine J (show As (((p.size:Nat):Int)-1) by grind [As]) ?_;refine M {k:Nat // k<p.data.toList.length/\∀j (hj:j<p.data.toList.length),k<j->p.data.toList[j]≠47} (M (fun k=>⟨[(0,vs p),(5,G n),(7,G k.1)],[],Ab⟩) (M (fun k=>k.1) (J (M ⟨p.data.toList.length-1,by omega,fun j hj IY=>by omega⟩ ?_) ?_)))
  .have e1:G (((p.size:Nat):Int)-1)=G ((p.data.toList.length-1:Nat):Int):=Aa G I;exact⟨⟨Z,Z,⟨e1,rfl⟩,X⟩,X,Fh,X⟩
  intro⟨k,k1,k2⟩;have Ij:(0:Int)<=k/\p.data[((k:Nat):Int).toNat]?=some p.data.toList[k]:=⟨by omega,by grind⟩;refine M p.data.toList[k] (J Ij (J (fun h2=>?_) (fun h2=>?_)))
  .have h2:p.data.toList[k]≠47:=fun e=>h2 (by rw[e];rfl);have hqk:q<=k:=by
    grind
   have Xd:q≠k:=fun e=>by grind
   refine J (show As ((k:Int)-1) by grind [As]) ?_;have e1:G ((k:Int)-1)=G ((k-1:Nat):Int):=Aa G I;refine M ⟨k-1,by omega,fun j hj IY=>?_⟩ ?_
   .grind
   .exact⟨by grind,⟨Z,Z,⟨e1,rfl⟩,X⟩,X,Fh,X⟩
  .have h2:p.data.toList[k]=47:=HN.1 aa2;have el:=iE p k k1 h2 k2;refine J ⟨B6 _,by grind,by grind⟩ ?_;have e3:p.extract 0 ((k:Nat):Int).toNat=V7 p:=aa2
   exact .of_eq (show AV.tup [vs (p.extract 0 ((k:Nat):Int).toNat),G n,G 0]=_ by rw[e3])
theorem Air(hp:Er p):PC 115 [vs p] (G (si p)):=by
 have hc:=Aeb p hp;unfold Yw at hc;unfold si;cases h:AR p with
 |none=>
  rw[h]at hc;refine Ps CF func115 rfl C4 (C1 (H (hc) (J (fun _=>?_) (fun h=>absurd (show(4:Int)≠0 by decide) h))));exact .refl _
 |some m=>
  rw[h]at hc;refine Ps CF func115 rfl C4 (C1 (H (hc) (J (fun h=>absurd rfl h) (fun _=>?_))));exact .refl _
theorem Ab9:AdU:=Air
abbrev Ag1:Of:=⟨[],[(3,0)],[(63,2)],[],[],[],[],[],[],[(112,7)],[4,6,10,11,14,16,17,18]⟩
theorem Rg(s:AY):∀cs∈s.map Y,cs.length=2:=fun cs h=>by
 grind
theorem RA{n:Nat}:∀{l:C0},(∀c∈l,c.length=n)->Cq n l
 | [],_=>trivial
 |c::_,h=>⟨h c (Ad ..),RA fun d hd=>h d (Aj _ hd)⟩
abbrev ON(s:AY)(k:Nat):C0:=((s.map Y).take (((s.map Y).length:Nat):Int).toNat).drop ((k:Nat):Int).toNat
theorem tO(s:AY)(k:Nat):ON s k=(s.drop k).map Y:=by
 grind [List.take_of_length_le,List.map_drop]
theorem zq(s:AY)(x:Int×Int)(k:Nat)(h:s.length<=2^30):Cq 2 (ON s k)/\[Y x].length=1/\([Y x].length+(ON s k).length)*16<=2^47/\[Y x].length+(ON s k).length<=2^63-1:=by
 grind [RA]
abbrev VJ(s:AY)(k:Nat):C0:=((s.map Y).take ((k:Nat):Int).toNat).drop ((0:Int)).toNat
theorem rz(s:AY)(k:Nat):VJ s k=(s.take k).map Y:=by
 grind [List.map_take]
theorem jT(s:AY)(x:Int×Int)(k:Nat)(hk:k<=s.length)(h:s.length<=2^30):Cq 2 ([Y x]++ON s k)/\(VJ s k).length=((k:Nat):Int).toNat-((0:Int)).toNat/\((VJ s k).length+([Y x]++ON s k).length)*16<=2^47/\(VJ s k).length+([Y x]++ON s k).length<=2^63-1:=by
 grind [RA]
theorem AkO(s:AY)(x:Int×Int)(k:Nat):VJ s k++([Y x]++ON s k)=(s.take k++([x]++s.drop k)).map Y:=by
 grind [tO,rz]
theorem nT{s:AY}(h:j<s.length)(hA:A=(Bz (s.take j)).reverse){y:Int×Int}(hy:A[A.length-1]?=some y)(Jo:s[j].1<=y.2):A.set (A.length-1) (y.1,max y.2 s[j].2)=(Bz (s.take (j+1))).reverse:=by
 rw[Fg s j h];cases hr:Bz (s.take j)with
 |nil=>simp_all
 |cons z t=>
  have eA:A=t.reverse++[z]:=aa0
  have eL:A.length-1=t.reverse.length:=aa0
  rw[eL,eA,Ba (Af _),IW]at hy;have ez:z=y:=EH hy;have e2:JU (z::t) s[j]=(z.1,max z.2 s[j].2)::t:=by show(if s[j].1<=z.2 then _ else _)=_;simp_all
  simp_all
theorem dK{s:AY}(h:j<s.length)(hA:A=(Bz (s.take j)).reverse)(hn:∀y,A[A.length-1]?=some y->¬s[j].1<=y.2):A++[s[j]]=(Bz (s.take (j+1))).reverse:=by
 rw[Fg s j h];cases hr:Bz (s.take j)with
 |nil=>rw[hA,hr];rfl
 |cons z t=>
  have eA:A=t.reverse++[z]:=aa0
  have eL:A.length-1=t.reverse.length:=aa0
  have:=hn z aa0
  have e2:JU (z::t) s[j]=s[j]::z::t:=by show(if s[j].1<=z.2 then _ else _)=_;simp_all
  simp_all
set_option maxHeartbeats 4000000 in
theorem Ais(l:AY)(hl:CC l):PC 116 [sl Y l] (sl Y (canon l)):=by
 refine Ps Ag1 func116 rfl C4 (M {p:Nat×AY // p.1<=l.length/\p.2.Perm (DG (l.take p.1))/\p.2.Pairwise fun a b=>a.1<=b.1} (M (fun p=>⟨[(0,sl Y l),(3,sl Y p.1.2),(4,G p.1.1)],[],Ab⟩) (M (fun p=>l.length-p.1.1) (J (M ⟨(0,[]),Ai _,.refl _,.nil⟩ ?_) ?_))))
 .exact⟨Z3,X,Fh,X⟩
 intro⟨⟨i,s⟩,i1,i2,i3⟩;have VO:s.length<=i:=by grind [Vc,List.Perm.length_eq]
 refine J (fun h=>?_) (fun h=>?_)
 .skip
  have h:i<l.length:=aa0
  have hg:l[i]?=some l[i]:=Ge h;refine M (Y l[i]) (J (J I aa0) (J rfl ?_));refine M (Y l[i]) (J (J I aa0) (J rfl ?_));refine U (J aa5 (M ⟨[(0,sl Y l),(3,sl Y s),(4,G i),(5,.ref 5 0)],[(5,.cells (Y (GO l[i])))],Ab⟩ (J ?_ ?_)))
  .have e0:HO.cells [G (max 0 l[i].1),G (min 1000000 l[i].2)]=.cells (Y (GO l[i])):=by
    rw[Int.max_comm,Int.min_comm];rfl
   exact⟨Z4,⟨⟨e0,rfl⟩,X⟩,Fh,X⟩
  refine J (fun h3=>?_) (fun h3=>?_)
  .refine cU [(0,sl Y l),(3,sl Y s),(4,G i)] [] Z3 X (J (by grind [As]) ?_);have e:=Vb h (show ¬(GO l[i]).1<(GO l[i]).2 by omega);refine M ⟨(i+1,s),by omega,by simp_all,i3⟩ ?_;exact⟨by grind,Z3,X,Fh,X⟩
  have e:=RI h (show(GO l[i]).1<(GO l[i]).2 by omega);refine M {k:Nat // k<=s.length/\∀j (hj:j<s.length),k<=j->(GO l[i]).1<s[j].1} (M (fun k=>⟨[(0,sl Y l),(3,sl Y s),(4,G i),(5,.ref 5 0),(6,G k.1)],[(5,.cells (Y (GO l[i])))],Ab⟩) (M (fun k=>k.1) (J (M ⟨s.length,Af _,fun j hj IY=>by omega⟩ ?_) ?_)))
  .have e1:G ((s.map Y).length:Int)=G (s.length:Int):=aa0
   exact⟨⟨Z,Z,Z,Z,⟨e1,rfl⟩,X⟩,Z1,Fh,X⟩
  intro⟨k,k1,k2⟩;refine J (fun h4=>?_) (fun h4=>?_)
  .have h4:(0:Int)<k:=h4;refine J (show As ((k:Int)-1) by grind [As]) ?_;have hk:k-1<s.length:=I
   have hg:s[k-1]?=some s[k-1]:=Ge hk;have hn:((k:Int)-1).toNat=k-1:=I
   refine M (Y s[k-1]) (J (J I aa0) (J rfl ?_));refine J (fun h5=>?_) (fun h5=>?_)
   .refine J aa5 (J (show As ((k:Int)-1) by grind [As]) ?_);have e1:G ((k:Int)-1)=G ((k-1:Nat):Int):=Aa G I;refine M ⟨k-1,by omega,fun j hj IY=>?_⟩ ?_
    .grind
    .exact⟨by grind,⟨Z,Z,Z,Z,⟨e1,rfl⟩,X⟩,Z1,Fh,X⟩
   have QB:k=0\/∃h:k-1<s.length,s[k-1].1<=(GO l[i]).1:=.inr ⟨hk,by omega⟩;refine J aa5 (cU [(0,sl Y l),(3,sl Y s),(4,G i),(5,.ref 5 0),(6,G k)] [(5,.cells (Y (GO l[i])))] Z5 Z1 (J (show(0:Int)<=0/\(0:Int)<=k/\(k:Int)=k/\(k:Int)<=((s.map Y).length:Nat) by simp_all) (J (Rg s) (U (J (show(0:Int)<=k/\(k:Int)<=((s.map Y).length:Nat)/\(((s.map Y).length:Nat):Int)<=((s.map Y).length:Nat) by simp_all) (J (Rg s) ?_))))));refine J (zq s (GO l[i]) k I) (J (jT s (GO l[i]) k k1 I) (J aa5 (AE (show ∃t,t=s.take k++([GO l[i]]++s.drop k)from⟨_,rfl⟩) (fun t ht=>?_))));refine M ⟨[(0,sl Y l),(3,sl Y t),(4,G i)],[],Ab⟩ (J ?_ ?_)
   .have e3:AV.slice .none (VJ s k++([Y (GO l[i])]++ON s k))=sl Y t:=by grind [AkO]
    exact⟨⟨Z,⟨e3,rfl⟩,Z,X⟩,X,Fh,X⟩
   refine J (by grind [As]) (M ⟨(i+1,t),by omega,by grind [rX],by grind [VV]⟩ ?_);exact⟨Dl l.length i I,Z3,X,Fh,X⟩
  .have h4:¬(0:Int)<k:=h4;have QB:k=0\/∃h:k-1<s.length,s[k-1].1<=(GO l[i]).1:=.inl I;refine J aa5 (cU [(0,sl Y l),(3,sl Y s),(4,G i),(5,.ref 5 0),(6,G k)] [(5,.cells (Y (GO l[i])))] Z5 Z1 (J (show(0:Int)<=0/\(0:Int)<=k/\(k:Int)=k/\(k:Int)<=((s.map Y).length:Nat) by omega) (J (Rg s) (U (J (show(0:Int)<=k/\(k:Int)<=((s.map Y).length:Nat)/\(((s.map Y).length:Nat):Int)<=((s.map Y).length:Nat) by omega) (J (Rg s) ?_))))));refine J (zq s (GO l[i]) k I) (J (jT s (GO l[i]) k k1 I) (J aa5 (AE (show ∃t,t=s.take k++([GO l[i]]++s.drop k)from⟨_,rfl⟩) (fun t ht=>?_))));refine M ⟨[(0,sl Y l),(3,sl Y t),(4,G i)],[],Ab⟩ (J ?_ ?_)
   .have e3:AV.slice .none (VJ s k++([Y (GO l[i])]++ON s k))=sl Y t:=aa2
    exact⟨⟨Z,⟨e3,rfl⟩,Z,X⟩,X,Fh,X⟩
   refine J (Ii i I) (M ⟨(i+1,t),by omega,by grind,by show t.Pairwise _;rw[ht];exact VV s _ k i3 k2 QB⟩ ?_);exact⟨Dl l.length i I,Z3,X,Fh,X⟩
 .skip
  have h:¬i<l.length:=aa0
  have fin:(Bz s).reverse=canon l:=Mk aa2 i3;refine cU [(3,sl Y s)] [] Z1 X (M {p:Nat×AY // p.1<=s.length/\p.2=(Bz (s.take p.1)).reverse} (M (fun p=>⟨[(3,sl Y s),(7,.msl 63 p.1.2.length),(8,G p.1.1)],[(63,GM p.1.2)],Ab⟩) (M (fun p=>s.length-p.1.1) (J (M ⟨(0,[]),Ai _,rfl⟩ ?_) ?_))))
  .exact⟨Z3,Z1,Fh,X⟩
  intro⟨⟨j,A⟩,j1,hA⟩;have j1:j<=s.length:=j1;have hA:A=(Bz (s.take j)).reverse:=hA;have hAl:A.length<=j:=by grind [Pq]
  refine J (fun h2=>?_) (fun h2=>?_)
  .have h2:(j:Int)<((s.map Y).length:Int):=h2;have h2:j<s.length:=aa0
   have hgj:s[j]?=some s[j]:=Ge h2;refine cU [(3,sl Y s),(7,.msl 63 A.length),(8,G j),(9,G A.length)] [(63,GM A)] Z4 Z1 (J (fun h3=>?_) (fun h3=>?_))
   .have h3:(0:Int)<A.length:=h3;have rA:As ((A.length:Int)-1):=by grind [As]
    have hn:((A.length:Int)-1).toNat=A.length-1:=I
    have nE:(0:Int)<=(A.length:Int)-1/\(A.length:Int)-1<(A.length:Int):=I
    have CL:A.length-1<A.length:=I
    have hg:A[A.length-1]?=some A[A.length-1]:=Ge CL;have hgm:(A.map Y)[((A.length:Int)-1).toNat]?=some (Y A[A.length-1]):=by rw[hn];grind
    have hln:A.length=(A.map Y).length:=aa0
    have hsj:(0:Int)<=j/\(s.map Y)[((j:Nat):Int).toNat]?=some (Y s[j]):=⟨by omega,by simp_all⟩;refine M (Y s[j]) (J hsj (J rfl (J rA (J nE (J hln (M (Y A[A.length-1]) (J hgm (J (fun h4=>?_) (fun h4=>?_)))))))))
    .have h4:s[j].1<=A[A.length-1].2:=h4;refine J aa5 (cU [(3,sl Y s),(7,.msl 63 A.length),(8,G j),(9,G A.length)] [(63,GM A)] Z4 Z1 (J rA (J rA (J nE (J hln (M (Y A[A.length-1]) (J hgm (M (Y s[j]) (J hsj (J rfl (J nE (J hln (M (Y A[A.length-1]) (J hgm (U (J aa5 (AE (show ∃B,B=A.set (A.length-1) (A[A.length-1].1,max A[A.length-1].2 s[j].2)from⟨_,rfl⟩) (fun B hB=>?_))))))))))))))))));have e2:HO.arr 2 ((A.map Y).set ((A.length:Int)-1).toNat [G A[A.length-1].1,G (max A[A.length-1].2 s[j].2)])=GM B:=aa0
     have e1:AV.msl 63 A.length=.msl 63 B.length:=aa0
     refine cU [(3,sl Y s),(7,.msl 63 B.length),(8,G j)] [(63,GM B)] ⟨Z,⟨e1,rfl⟩,Z,X⟩ ⟨⟨e2,rfl⟩,X⟩ (J (Ii j I) (M ⟨(j+1,B),by omega,by rw[hB];exact nT h2 hA hg h4⟩ ?_));exact⟨by grind,Z3,Z1,Fh,X⟩
    have h4:¬s[j].1<=A[A.length-1].2:=h4;have hjn:A++[s[j]]=(Bz (s.take (j+1))).reverse:=dK h2 hA fun y hy=>by
     simp_all
    refine J aa5 (cU [(3,sl Y s),(7,.msl 63 A.length),(8,G j),(9,G A.length)] [(63,GM A)] Z4 Z1 (M (Y s[j]) (J hsj (J rfl (U ?_)))));have El:Cq 2 [Y s[j]]/\(A.map Y).length=A.length/\((A.map Y).length+[Y s[j]].length)*16<=2^47/\(A.map Y).length+[Y s[j]].length<=2^63-1:=
     ⟨⟨rfl,trivial⟩,by omega,by rw[Lm,D0];omega,by rw[Lm,D0];omega⟩
    refine J El (AE (show ∃B,B=A++[s[j]]from⟨_,rfl⟩) (fun B hB=>?_));have e1:AV.msl 63 ((A.map Y).length+[Y s[j]].length)=.msl 63 B.length:=by rw[hB];simp
    have e2:HO.arr 2 (A.map Y++[Y s[j]])=GM B:=by rw[hB];simp
    refine cU [(3,sl Y s),(7,.msl 63 B.length),(8,G j)] [(63,GM B)] ⟨Z,⟨e1,rfl⟩,Z,X⟩ ⟨⟨e2,rfl⟩,X⟩ (J (Ii j I) (M ⟨(j+1,B),by omega,by simp_all⟩ ?_));exact⟨by grind,Z3,Z1,Fh,X⟩
   .have h3:¬(0:Int)<A.length:=h3;have hsj:(0:Int)<=j/\(s.map Y)[((j:Nat):Int).toNat]?=some (Y s[j]):=⟨by omega,by simp_all⟩;have hjn:A++[s[j]]=(Bz (s.take (j+1))).reverse:=dK h2 hA fun y hy=>by
     simp_all
    refine J aa5 (cU [(3,sl Y s),(7,.msl 63 A.length),(8,G j),(9,G A.length)] [(63,GM A)] Z4 Z1 (M (Y s[j]) (J hsj (J rfl (U ?_)))));have El:Cq 2 [Y s[j]]/\(A.map Y).length=A.length/\((A.map Y).length+[Y s[j]].length)*16<=2^47/\(A.map Y).length+[Y s[j]].length<=2^63-1:=
     ⟨⟨rfl,trivial⟩,by simp_all,by simp_all,by simp_all⟩
    refine J El (AE (show ∃B,B=A++[s[j]]from⟨_,rfl⟩) (fun B hB=>?_));have e1:AV.msl 63 ((A.map Y).length+[Y s[j]].length)=.msl 63 B.length:=aa2
    have e2:HO.arr 2 (A.map Y++[Y s[j]])=GM B:=aa2
    refine cU [(3,sl Y s),(7,.msl 63 B.length),(8,G j)] [(63,GM B)] ⟨Z,⟨e1,rfl⟩,Z,X⟩ ⟨⟨e2,rfl⟩,X⟩ (J (Ii j I) (M ⟨(j+1,B),by omega,by grind⟩ ?_));exact⟨by grind,Z3,Z1,Fh,X⟩
  .have h2:¬(j:Int)<((s.map Y).length:Int):=h2;have h2:¬j<s.length:=aa0
   refine J aa0 ?_;exact C (sl Y) (show A=canon l by grind)
theorem Aba:AdV:=Ais
end Go.Eng
