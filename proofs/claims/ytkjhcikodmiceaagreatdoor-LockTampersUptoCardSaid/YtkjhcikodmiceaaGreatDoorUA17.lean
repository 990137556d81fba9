/- Lemmas 17. -/
import Derived.Test.YtkjhcikodmiceaaGreatDoorUA16
namespace Go.Eng
open Go.Proofs
variable {nm:ByteArray->ByteArray}{l r:List Tm}{α:Type}{t:Tm}{k:Nat}(x:List Rl)(a:List Tm)(ifs:List (List AV))(s:ByteArray)(c:UInt8)(roots:List Rq)(b:List Tm)(d:List (List Tm))(p:ByteArray)(i:Nf)
theorem qz(l:List Tm)(hl:Cr l)(DT:l≠[]):AW Tryz.prog 345 [sl Am l] (Ae [] Ab) fun r h'=>r=.msl 2000 l.length/\h'=Ae [(2000,.arr 3 (l.map Am))] Ab:=by
 refine A7 (H5 (pla [(5,3)] [])) [(5,2000)] rfl Bu hm rfl Tryz.func345 aa0 rfl (Nz rfl) aa0 rfl ?_;have Di:BJ 3 (l.map Am)/\([]:List (List AV)).length=0/\(([]:List (List AV)).length+(l.map Am).length)*48<=140737488355328/\([]:List (List AV)).length+(l.map Am).length<=9223372036854775807:=by
  grind [Df]
 refine Yi ?_ ?_
 .intro _;refine Yi Di ?_;have e1:AV.msl 2000 (([]:List (List AV)).length+(l.map Am).length)=.msl 2000 l.length:=by simp
  refine Xi (.msl 2000 (([]:List (List AV)).length+(l.map Am).length)) (Yi (.refl _) (Yi e1 ?_))
  rfl
 .intro h;exact absurd (Dv.1 h) DT
theorem nP(x:Tm)(p:ByteArray):PC 343 [.agg (Am x),.cptr [vs p]] (vb (decide (x.path=p))):=by
 refine Ps D0 Tryz.func343 rfl (Nz rfl) (Yi ?_ ?_)
 .intro h;rw[As h];exact .refl _
 .intro h;rw[Av h];exact .refl _
theorem Ml{p:ByteArray}:∀{c:List Tm} {i:Nat},(Ee c).Nodup->∀(hi:i<c.length),c[i].path=p->c.eraseIdx i=Fr c p
 |t::c,0,hn,_,h=>by
  grind [Ee,Fr,List.filter_eq_self]
 |t::c,i+1,hn,hi,h=>by
  have hi:i<c.length:=by grind
  have h:c[i].path=p:=h;unfold Ee at hn;rw[Bb,FG]at hn
  have:t.path≠p:=fun e=>hn.1 (by simp_all)
  have ih:=Ml hn.2 hi h
  grind [Fr]
theorem OM{c:List Tm}(hl:Cr l)(h:Ck l=some c):Cr c:=by
 have h1:=M1 l l.length (Ai _);rw[KD]at h1;have h2:c=(EM l).filter fun t=>!Gx t:=by
  grind [Ck]
 have h3:c.length<=(EM l).length:=by grind
 have h4:(EM l).length=(CL l).length:=by
  grind [List.perm_ext_iff_of_nodup,Lp,G9,Hf,DO,Im,List.Perm.length_eq]
 omega
abbrev lr:AV:=.tup [.agg XZ,nzA,vb false]
abbrev m5:MF:=⟨[3],[],[],[],[],[],[],[],[(30,0),(34,1)],[],[]⟩
theorem fe(l:List Tm)(p:ByteArray)(hl:Cr l)(hs:∀t∈l,Cr t.set)(hn:EO l p=none):PC 296 [sl Am l,vs p] lr:=by
 have hc:=tv l hl hs;unfold EO at hn;cases e:Ck l with
 |none=>
  have e1:JR l=.tup [sl Am [],vb false]:=by grind [Pb]
  rw[e1]at hc;have hi:=jT (Ct.ptr [vs p]) [] (fun x=>decide (x.path=p)) (fun x _=>nP x p) B0;refine Ps m5 Tryz.func296 rfl (Nz rfl) (Xi .pure (Xi _ (Yi (hc) (Xi .pure (Xi _ (Yi (hi) (Yi (Nz rfl) (yN ?_))))))));exact .refl _
 |some c=>
  rw[e]at hn;have hn:(match CP c p with | none=>none | some t=>some (t,Fr c p))=none:=hn;have tN:CP c p=none:=by
   grind
  have e1:JR l=.tup [sl Am c,vb true]:=by grind [Pb]
  rw[e1]at hc;have kK:=OM hl e;have hi:=jT (Ct.ptr [vs p]) c (fun x=>decide (x.path=p)) (fun x _=>nP x p) ch;have hid:IJ (fun x:Tm=>decide (x.path=p)) c 0=-1:=by
   grind [Lc,CP]
  rw[hid]at hi;refine Ps m5 Tryz.func296 rfl (Nz rfl) (Xi .pure (Xi _ (Yi (hc) (Xi .pure (Xi _ (Yi (hi) (Yi ?_ ?_)))))))
  .intro _;refine Yi (Nz rfl) (yN ?_);exact .refl _
  .intro h;exact absurd (show(-1:Int)<0 by decide) h
abbrev o9:MF:=⟨[3],[],[],[],[],[],[],[],[(30,0),(34,2)],[],[]⟩
theorem ff(l:List Tm)(p:ByteArray)(hl:Cr l)(hs:∀t∈l,Cr t.set)(hn:EO l p=some (t,r)) :
  AW Tryz.prog 296 [sl Am l,vs p] (Ae [] Ab) fun v h'=>v=.tup [.agg (Am t),.msl 2000 r.length,vb true]/\h'=Ae [(2000,.arr 3 (r.map Am))] Ab:=by
 have hc:=tv l hl hs;unfold EO at hn;cases e:Ck l with
 |none=>simp_all
 |some c=>
  rw[e]at hn;have hn:(match CP c p with | none=>none | some t=>some (t,Fr c p))=some (t,r):=hn;have dZ:CP c p=some t/\Fr c p=r:=by
   grind
  have e1:JR l=.tup [sl Am c,vb true]:=by grind [Pb]
  rw[e1]at hc;have kK:=OM hl e;have hi:=jT (Ct.ptr [vs p]) c (fun x=>decide (x.path=p)) (fun x _=>nP x p) ch;rcases Lc (p:=fun x:Tm=>decide (x.path=p)) c 0 with ⟨_,h2⟩ | ⟨i,x,h1,h2,h3⟩
  .grind [CP]
  have hx:x=t:=by
   grind [CP]
  subst hx;rw[h1,FJ]at hi;obtain⟨tQ,hie⟩:=AZ.1 h2;have her:c.eraseIdx i=r:=by
   rw[<-dZ.2];exact Ml (Hf (Eg e)) tQ (by grind)
  have tX:c.length-1=r.length:=by grind
  have DT:c≠[]:=fun h=>by simp_all
  have AbK:c.length<=1073741824:=kK;refine A7 (H5 o9) [(13400,2000)] rfl Bu hm rfl Tryz.func296 aa0 rfl (Nz rfl) aa0 rfl (Xi .pure (Xi _ (Yi (hc) (Xi .pure (Xi _ (Yi (hi) (Yi ?_ ?_)))))))
  .intro h;omega
  intro _;have hg:(c.map Am)[((i:Nat):Int).toNat]?=some (Am x):=by simp_all
  refine Xi (Am x) (Yi (Yi ch hg) (Yi rfl (yN (Xi c.length (Xi 3 (Xi (c.map Am) (Yi rfl (Yi (qz c kK DT) (Yi (by grind [AQ]) (Xi (c.length-1) (Xi ((c.eraseIdx i).map Am) (Yi rfl (Yi (vw c i tQ) (yN (Yi aa0 (yN ?_))))))))))))))));have e2:AV.tup [.agg (Am x),.msl 2000 (c.length-1),vb true]=.tup [.agg (Am x),.msl 2000 r.length,vb true]:=by rw[tX]
  have e3:Ae [(2000,HO.arr 3 ((c.eraseIdx i).map Am))] Ab=Ae [(2000,.arr 3 (r.map Am))] Ab:=by rw[her]
  exact Xi _ (Yi (.refl _) (Yi e2 e3))
abbrev aR:MF:=⟨[],[],[],[],[],[],[],[],[],[(24,9),(30,12)],[2,3,5,6]⟩
abbrev sx:AV:=.tup [sl Am (AX a b p).1,vi (AX a b p).2]
theorem UE{p:ByteArray}(h:EO l p=some (t,r)):∃c,Ck l=some c/\t∈c/\r=Fr c p:=by
 grind [EO,F2]
theorem UF{p:ByteArray}(hl:Cr l)(h:EO l p=some (t,r)):Cr t.set/\Cr r/\∀u∈r,Cr u.set:=by
 obtain⟨c,h1,h2,rfl⟩:=UE h;have hs:=Eg h1
 grind [Qz,OM,Fr,By.canon]
theorem fj{c:List Tm}(h:Ck l=some c):c.length<=l.length:=by
 have h1:=M1 l l.length (Ai _);rw[KD]at h1;have h2:c=(EM l).filter fun t=>!Gx t:=by
  grind [Ck]
 have h3:c.length<=(EM l).length:=by grind
 grind [List.perm_ext_iff_of_nodup,Lp,G9,Hf,DO,Im,List.Perm.length_eq]
theorem UG{p:ByteArray}(h:EO l p=some (t,r)):r.length<=l.length:=by
 obtain⟨c,h1,h2,rfl⟩:=UE h;have h3:(Fr c p).length<=c.length:=Hg _ _
 have:=fj h1
 omega
theorem bY(a b:AS):Cr (Ou a b):=by
 grind [Hl,XV]
theorem qv(ha:a.length<=500000000)(hb:b.length<=500000000)(zW:∀t∈a,Cr t.set)(rU:∀t∈b,Cr t.set):PC 230 [sl Am a,sl Am b,vs p] (sx a b p):=by
 have mD:Cr a:=by omega
 have jt:Cr b:=by omega
 have er:∀{l:List Tm} {e:Int},AX a b p=(l,e)->sx a b p=.tup [sl Am l,vi e]:=fun h=>by simp_all
 have e0:DC (.tup [nzA,vi 1]) (.tup [.slice .none [],vi 1]):=DC.tup ⟨.nil,.refl _,trivial⟩;cases h1:EO a p with
 |none=>
  have hr:AX a b p=([],1):=by grind [AX]
  have c1:=fe a p mD zW h1;cases h2:EO b p with
  |none=>
   have c2:=fe b p jt rU h2;refine Ps aR Tryz.func230 rfl (Nz rfl) (Xi .pure (Xi _ (Yi (c1) (yN (Xi ⟨[(1,sl Am b),(2,vs p),(8,.ref 8 0),(9,nzA),(10,vb false)],[(8,.cells XZ)],Ab⟩ (Yi ⟨Z5,Z1,Fh,Tv⟩ (Xi .pure (Xi _ (Yi (c2) (yN (Xi ⟨[(8,.ref 8 0),(9,nzA),(10,vb false),(11,.ref 11 0),(12,nzA),(13,vb false)],[(8,.cells XZ),(11,.cells XZ)],Ab⟩ (Yi ⟨Z6,Z2,Fh,Tv⟩ ?_))))))))))))
   exact e0.trans (.of_eq (er hr).symm)
  |some q2=>
   obtain⟨t2,r2⟩:=q2;have c2:=ff b p jt rU h2;refine Ps aR Tryz.func230 rfl (Nz rfl) (Xi .pure (Xi _ (Yi (c1) (yN (Xi ⟨[(1,sl Am b),(2,vs p),(8,.ref 8 0),(9,nzA),(10,vb false)],[(8,.cells XZ)],Ab⟩ (Yi ⟨Z5,Z1,Fh,Tv⟩ ?_))))))
   have z2:r2.length=(r2.map Am).length:=by simp_all
   refine Xi (.gen [] 1) (Yi rfl (c2.imp ?_));intro v2 g2 q2;have pi:=q2.1;have un:=q2.2;subst pi;subst un;refine yN (Xi ⟨[(8,.ref 8 0),(9,nzA),(10,vb false),(11,.ref 11 0),(12,.msl 12600 r2.length),(13,vb true)],[(8,.cells XZ),(11,.cells (Am t2)),(12600,.arr 3 (r2.map Am))],Ab⟩ (Yi ⟨Z6,Z3,Fh,Tv⟩ (Yi z2 ?_)));exact e0.trans (.of_eq (er hr).symm)
 |some q1=>
  obtain⟨t1,r1⟩:=q1;have c1:=ff a p mD zW h1;obtain⟨f1,f2,f3⟩:=UF mD h1;cases h2:EO b p with
  |none=>
   have hr:AX a b p=([],1):=by grind [AX]
   have c2:=fe b p jt rU h2;refine Ps aR Tryz.func230 rfl (Nz rfl) (Xi (.gen [] 1) (Yi rfl (c1.imp ?_)));intro v1 g1 q1;have SC:=q1.1;have Oi:=q1.2;subst SC;subst Oi;refine yN (Xi ⟨[(1,sl Am b),(2,vs p),(8,.ref 8 0),(9,.msl 11900 r1.length),(10,vb true)],[(8,.cells (Am t1)),(11900,.arr 3 (r1.map Am))],Ab⟩ (Yi ⟨Z5,Z2,Fh,Tv⟩ ?_))
   have z1:r1.length=(r1.map Am).length:=by simp_all
   refine Yi z1 (Xi .pure (Xi _ (Yi (c2) (yN (Xi ⟨[(8,.ref 8 0),(9,.slice (.id 11900 3) (r1.map Am)),(10,vb true),(11,.ref 11 0),(12,nzA),(13,vb false)],[(8,.cells (Am t1)),(11,.cells XZ),(11900,.tok 3 (r1.map Am).length)],Ab⟩ (Yi ⟨Z6,Z3,Fh,Tv⟩ ?_))))))
   exact e0.trans (.of_eq (er hr).symm)
  |some q2=>
   obtain⟨t2,r2⟩:=q2;have c2:=ff b p jt rU h2;obtain⟨g1,g2,g3⟩:=UF jt h2;refine Ps aR Tryz.func230 rfl (Nz rfl) (Xi (.gen [] 1) (Yi rfl (c1.imp ?_)));intro v1 g1 q1;have SC:=q1.1;have Oi:=q1.2;subst SC;subst Oi;refine yN (Xi ⟨[(1,sl Am b),(2,vs p),(8,.ref 8 0),(9,.msl 11900 r1.length),(10,vb true)],[(8,.cells (Am t1)),(11900,.arr 3 (r1.map Am))],Ab⟩ (Yi ⟨Z5,Z2,Fh,Tv⟩ ?_))
   have z1:r1.length=(r1.map Am).length:=by simp_all
   have z2:r2.length=(r2.map Am).length:=by grind
   refine Yi z1 (Xi (.gen [] 1) (Yi rfl (c2.imp ?_)));intro v2 g2 q2;have pi:=q2.1;have un:=q2.2;subst pi;subst un;refine yN (Xi ⟨[(8,.ref 8 0),(9,.slice (.id 11900 3) (r1.map Am)),(10,vb true),(11,.ref 11 0),(12,.msl 12600 r2.length),(13,vb true)],[(8,.cells (Am t1)),(11,.cells (Am t2)),(11900,.tok 3 (r1.map Am).length),(12600,.arr 3 (r2.map Am))],Ab⟩ (Yi ⟨Z6,Z4,Fh,Tv⟩ (Yi z2 (Xi ⟨[(8,.ref 8 0),(9,.slice (.id 11900 3) (r1.map Am)),(11,.ref 11 0),(12,.slice (.id 12600 3) (r2.map Am))],[(8,.cells (Am t1)),(11,.cells (Am t2)),(11900,.tok 3 (r1.map Am).length),(12600,.tok 3 (r2.map Am).length)],Ab⟩ (Yi ⟨Z4,Z4,Fh,Tv⟩ ?_)))))
   have l1:=UG h1;have l2:=UG h2;have b1:BJ 3 (r2.map Am)/\(r1.map Am).length=(r1.map Am).length/\((r1.map Am).length+(r2.map Am).length)*48<=140737488355328/\(r1.map Am).length+(r2.map Am).length<=9223372036854775807:=
    ⟨Df (enc:=Am) (n:=3) (fun _=>rfl) r2,rfl,by omega,by omega⟩
   refine Yi b1 (Yi (Nz rfl) (yN (Xi _ (Yi (vr t1 t2 f1 g1) ?_))));have b2:BJ 3 [Am (CD t1 t2)]/\(r1.map Am++r2.map Am).length=(r1.map Am).length+(r2.map Am).length/\((r1.map Am++r2.map Am).length+[Am (CD t1 t2)].length)*48<=140737488355328/\(r1.map Am++r2.map Am).length+[Am (CD t1 t2)].length<=9223372036854775807:=
    ⟨⟨rfl,trivial⟩,by grind,by grind,by grind⟩
   refine Yi b2 ?_;have rh:=tv (r1++r2++[CD t1 t2]) (by grind) (fun u hu=>by
    rcases Bc.1 hu with hu | hu
    .grind
    .rw[AB.1 hu];exact bY _ _)
   have e1:sl Am (r1++r2++[CD t1 t2])=.slice .none (r1.map Am++r2.map Am++[Am (CD t1 t2)]):=by simp
   have zi:PC 297 [.slice .none (r1.map Am++r2.map Am++[Am (CD t1 t2)])] (JR (r1++r2++[CD t1 t2])):=e1▸rh;cases zl:Ck (r1++r2++[CD t1 t2])with
   |none=>
    have hr:AX a b p=([],8):=by grind [AX]
    have ec:JR (r1++r2++[CD t1 t2])=.tup [sl Am [],vb false]:=by grind [Pb]
    have hc:PC 297 [.slice .none (r1.map Am++r2.map Am++[Am (CD t1 t2)])] (.tup [sl Am [],vb false]):=ec▸zi;have e8:DC (.tup [nzA,vi 8]) (.tup [.slice .none [],vi 8]):=DC.tup ⟨.nil,.refl _,trivial⟩;refine Xi _ (Yi (hc) (Yi aa0 (Xi ⟨[(14,sl Am []),(15,vb false)],[],Ab⟩ (Yi ⟨Z2,Tv,Fh,Tv⟩ ?_))))
    exact e8.trans (.of_eq (er hr).symm)
   |some o=>
    have hr:AX a b p=(o,0):=by grind [AX]
    have ec:JR (r1++r2++[CD t1 t2])=.tup [sl Am o,vb true]:=by grind [Pb]
    have hc:PC 297 [.slice .none (r1.map Am++r2.map Am++[Am (CD t1 t2)])] (.tup [sl Am o,vb true]):=ec▸zi;refine Xi _ (Yi (hc) (Yi aa0 (Xi ⟨[(14,sl Am o),(15,vb true)],[],Ab⟩ (Yi ⟨Z2,Tv,Fh,Tv⟩ ?_))))
    exact .of_eq (er hr).symm
def Z0(h s:Nat->HO):Nat->Bool
 |0=>true
 |n+1=>(match h (1000+n)with |.free=>true |_=>(match s (1000+n)with |.free=>false |_=>true))&&Z0 h s n
theorem Rt{h s:Nat->HO}:∀{n:Nat},Z0 h s n=true->∀j,j<n->h (1000+j)≠.free->s (1000+j)≠.free
 |n+1,hd,j,hj,hn=>by
  simp only[Z0,Ag]at hd;rcases E4 j n with h1 | h1
  .exact Rt hd.2 j h1 hn
  grind
theorem Be{h s:Nat->HO}(hd:Z0 h s 1000=true):∀j,1000<=j->j<2000->h j≠.free->s j≠.free:=fun j h1 h2=>by
 have:=Rt hd (j-1000) ch
 simp_all
abbrev jX:List AV:=[sl Al x,.slice .none ifs,sl Ac roots,.slice (.id 1001 1) (d.map Ap)]
abbrev HP:HO:=.cells (jX x ifs roots d)
abbrev HX:HO:=.tok 1 (d.map Ap).length
abbrev Mi:List (Nat×HO):=[(1000,HP x ifs roots d),(1001,HX d)]
abbrev dW:List AV:=[vs ⟨#[]⟩,vi 0,vi 0,vi 0,nzA,vs ⟨#[]⟩,vs ⟨#[]⟩,vs ⟨#[]⟩,vb false]
abbrev Mx:Option Rl->AV
 |some r=>.tup [.agg (Al r),vb true]
 |none=>.tup [.agg dW,vb false]
theorem fK{p:α->Bool}{l:List α}{i:Nat}(hi:i<l.length)(hb:∀j (hj:j<l.length),j<i->p l[j]=false)(h:p l[i]=true):l.find? p=some l[i]:=by
 grind [List.find?_eq_some_iff_getElem]
theorem cc{p:α->Bool}{l:List α}(hb:∀j (hj:j<l.length),p l[j]=false):l.find? p=none:=by
 grind [List.getElem_of_mem]
theorem vh(pl:Int)(hx:Cr x) :
  AW Tryz.prog 358 [.ref 1000 0,vs p,vi pl] (Ae (Mi x ifs roots d) Ab) fun r h'=>r=Mx (E2 x p pl)/\h'=Ae (Mi x ifs roots d) Ab:=by
 unfold Cr at hx;refine A7 (H5 (Ec [4])) [(1000,1000),(1001,1001)] rfl Bu hm rfl Tryz.func358 aa0 rfl (Nz rfl) aa0 rfl (Xi {i:Nat // i<=x.length/\∀j (hj:j<x.length),j<i->(decide (x[j].path=p)&&decide (plc x[j].ver=pl))=false} (Xi (fun i=>⟨[(1,vs p),(2,vi pl),(6,.ref 6 0),(16,sl Al x),(17,vi (x.map Al).length),(18,vi i.1)],[(6,.cells dW),(1000,HP x ifs roots d),(1001,HX d)],Ab⟩) (Xi (fun i=>x.length-i.1) (Yi (Xi ⟨0,Ar _,fun j _ h=>by omega⟩ ?_) ?_))))
 .exact⟨Z6,Z3,Fh,Be aa0⟩
 intro⟨i,h1,h2⟩;refine Yi ?_ ?_
 .intro h;have h:(i:Int)<(x.map Al).length:=h;have h:i<x.length:=by simp_all
  have hg:x[i]?=some x[i]:=Ge h;refine Xi (Al x[i]) (Yi (Yi ch (by simp_all)) (Yi rfl ?_));refine Yi (Nz rfl) (yN (Xi ⟨[(1,vs p),(2,vi pl),(6,.ref 6 0),(9,.ref 9 0),(16,sl Al x),(17,vi (x.map Al).length),(18,vi i)],[(6,.cells dW),(9,.cells (Al x[i])),(1000,HP x ifs roots d),(1001,HX d)],Ab⟩ (Yi ⟨Z7,Z4,Fh,Be aa0⟩ (yN (Xi .pure (Xi _ (Yi (nR x[i].ver) ?_)))))));have next:(decide (x[i].path=p)&&decide (plc x[i].ver=pl))=false->∀j (hj:j<x.length),j<i+1->(decide (x[j].path=p)&&decide (plc x[j].ver=pl))=false:=fun hf j hj Jy=>by
   grind
  refine Yi ?_ ?_
  .intro hp;have hp:x[i].path=p:=hp;refine Yi ?_ ?_
   .intro hq;have hq:plc x[i].ver=pl:=hq;have hr:E2 x p pl=some x[i]:=fK h (fun j hj Jy=>h2 j hj Jy) (by simp_all);refine Yi (Nz rfl) (Yi (Nz rfl) (yN ?_));have e:AV.tup [.agg (Al x[i]),vb true]=Mx (E2 x p pl):=by rw[hr]
    exact Xi _ (Yi (.refl _) (Yi e rfl))
   .intro hq;have hq:¬plc x[i].ver=pl:=hq;refine Yi (by grind [AQ]) (Xi ⟨i+1,by omega,next (by simp_all)⟩ ?_)
    exact⟨by grind,Z6,Z3,Fh,Be aa0⟩
  .intro hp;have hp:¬x[i].path=p:=hp;refine Yi (by grind [AQ]) (Xi ⟨i+1,by omega,next (by simp_all)⟩ ?_)
   exact⟨by grind,Z6,Z3,Fh,Be aa0⟩
 .intro h;have h:¬(i:Int)<(x.map Al).length:=h;have h:¬i<x.length:=by simp_all
  have hr:E2 x p pl=none:=cc fun j hj=>h2 j hj ch;have e:AV.tup [.agg dW,vb false]=Mx (E2 x p pl):=by rw[hr]
  refine Yi (Nz rfl) (yN ?_);exact Xi _ (Yi (.refl _) (Yi e rfl))
abbrev KI:Option (List Tm)->AV
 |some t=>.tup [sl Am t,vb true]
 |none=>.tup [sl Am [],vb false]
theorem Kd:DC (.tup [nzA,vb false]) (KI none):=DC.tup ⟨.nil,.refl _,trivial⟩
theorem Oc{l:List α}{i:Int}(h:i<0):El l i=none:=by grind [El]
theorem Oa{l:List α}{i:Int}(h:(l.length:Int)<=i):El l i=none:=by
 grind [El]
theorem QH{l:List α}{i:Int}(h0:¬i<0)(h:¬(l.length:Int)<=i):∃x,El l i=some x/\l[i.toNat]?=some x/\x∈l:=by
 have hl:i.toNat<l.length:=by omega
 exact⟨l[i.toNat],by grind [El],Ge hl,Ao hl⟩
theorem uW(hr:∀q∈roots,Cr q.set) :
  AW Tryz.prog 315 [.ref 1000 0,.agg (AG i)] (Ae (Mi x ifs roots d) Ab) fun r h'=>r=KI ((El roots i.number).map Gc)/\h'=Ae (Mi x ifs roots d) Ab:=by
 refine A7 (H5 D0) [(1000,1000),(1001,1001)] rfl Bu hm rfl Tryz.func315 aa0 rfl (Nz rfl) aa0 rfl ?_;have Tw:El roots i.number=none->AV.tup [sl Am [],vb false]=KI ((El roots i.number).map Gc):=fun h=>by simp_all
 refine Yi ?_ ?_
 .intro h;have h:i.number<0:=h;have e:=Tw (Oc h);refine Yi aa0 ?_;exact Xi _ (Yi Kd (Yi e rfl))
 .intro h;have h:¬i.number<0:=h;refine Yi ?_ ?_
  .intro h2;have h2:((roots.map Ac).length:Int)<=i.number:=h2;have e:=Tw (Oa (by simp_all));refine Yi aa0 ?_;exact Xi _ (Yi Kd (Yi e rfl))
  .intro h2;have h2:¬((roots.map Ac).length:Int)<=i.number:=h2;refine Yi aa0 (AJ (QH h (by rw[Lm]at h2;exact h2)) (fun q hq=>?_));have hg:(roots.map Ac)[i.number.toNat]?=some (Ac q):=EE hq.2.1;refine Xi (Ac q) (Yi (Yi ch hg) (Yi rfl (yN (Xi _ (Yi (qr q (hr q hq.2.2)) (Yi aa0 ?_))))));have e:AV.tup [sl Am (Gc q),vb true]=KI ((El roots i.number).map Gc):=by simp_all
   exact Xi _ (Yi (.refl _) (Yi e rfl))
theorem aS(v:Ver):0<=plc v/\plc v<1000000:=by
 unfold plc;cases h:Cf v with
 |true=>exact ID h
 |false=>simp
theorem iF{x:List Rl}{p:ByteArray}{pl:Int}{r:Rl}(h:E2 x p pl=some r):r∈x/\r.path=p/\plc r.ver=pl:=by
 grind [E2]
theorem aI(h:¬(0:Int)<(l.map Am).length):AV.tup [sl Am l,vb false]=KI (QG l):=by
 cases l with
 |nil=>rfl
 |cons a l=>simp_all
theorem Xu(h:(0:Int)<(l.map Am).length):AV.tup [sl Am l,vb true]=KI (QG l):=by
 cases l with
 |nil=>simp_all
 |cons a l=>rfl
abbrev Tz:Option (List Tm):=match E2 x i.path i.place with
 |none=>none
 |some r=>match El r.reqs i.number with
  |none=>none
  |some q=>QG (Co i.path i.place q)
theorem uX(hx:Cr x)(hr:∀r∈x,∀q∈r.reqs,Cr q.set) :
  AW Tryz.prog 317 [.ref 1000 0,.agg (AG i)] (Ae (Mi x ifs roots d) Ab) fun r h'=>r=KI (Tz x i)/\h'=Ae (Mi x ifs roots d) Ab:=by
 have hc:=vh x ifs roots d i.path i.place hx;cases h1:E2 x i.path i.place with
 |none=>
  rw[h1]at hc;have e:AV.tup [sl Am [],vb false]=KI (Tz x i):=by grind
  refine A7 (H5 (Ec [2])) [(1000,1000),(1001,1001)] rfl Bu hm rfl Tryz.func317 aa0 rfl (Nz rfl) aa0 rfl (Xi (.gen [(1000,1000),(1001,1001)] 0) (Yi rfl (hc.imp ?_)));intro v1 g1 q1;have SC:=q1.1;have Oi:=q1.2;subst SC;subst Oi;refine yN (Xi ⟨[(0,.ref 1000 0),(3,.ref 3 0),(6,.ref 6 0),(7,vb false)],[(3,.cells (AG i)),(6,.cells dW),(1000,HP x ifs roots d),(1001,HX d)],Ab⟩ (Yi ⟨Z4,Z4,Fh,Be aa0⟩ ?_))
  exact Xi _ (Yi Kd (Yi e rfl))
 |some r=>
  rw[h1]at hc;obtain⟨m1,m2,m3⟩:=iF h1;have tZ:=aS r.ver;rw[m3]at tZ;have er:Tz x i=match El r.reqs i.number with | none=>none | some q=>QG (Co i.path i.place q):=by grind
  have Tw:El r.reqs i.number=none->AV.tup [sl Am [],vb false]=KI (Tz x i):=fun h=>by simp_all
  refine A7 (H5 (Ec [2,4,5])) [(1000,1000),(1001,1001)] rfl Bu hm rfl Tryz.func317 aa0 rfl (Nz rfl) aa0 rfl (Xi (.gen [(1000,1000),(1001,1001)] 0) (Yi rfl (hc.imp ?_)));intro v1 g1 q1;have SC:=q1.1;have Oi:=q1.2;subst SC;subst Oi;refine yN (Xi ⟨[(0,.ref 1000 0),(3,.ref 3 0),(6,.ref 6 0),(7,vb true)],[(3,.cells (AG i)),(6,.cells (Al r)),(1000,HP x ifs roots d),(1001,HX d)],Ab⟩ (Yi ⟨Z4,Z4,Fh,Be aa0⟩ (Yi ?_ ?_)))
  .intro h;have h:i.number<0:=h;have e:=Tw (Oc h);exact Xi _ (Yi Kd (Yi e rfl))
  .intro h;have h:¬i.number<0:=h;refine Yi ?_ ?_
   .intro h2;have h2:((r.reqs.map Ac).length:Int)<=i.number:=h2;have e:=Tw (Oa (by simp_all));exact Xi _ (Yi Kd (Yi e rfl))
   .intro h2;have h2:¬((r.reqs.map Ac).length:Int)<=i.number:=h2;refine AJ (QH h (by rw[Lm]at h2;exact h2)) (fun q hq=>?_);have hg:(r.reqs.map Ac)[i.number.toNat]?=some (Ac q):=EE hq.2.1;refine Xi ⟨[(3,.ref 3 0),(6,.ref 6 0)],[(3,.cells (AG i)),(6,.cells (Al r)),(1000,HP x ifs roots d),(1001,HX d)],Ab⟩ (Yi ⟨Z2,Z4,Fh,Be aa0⟩ (Xi (Ac q) (Yi (Yi ch hg) (Yi rfl (yN (Xi _ (Yi (qt i.path i.place q (by grind [AQ]) (hr r m1 q hq.2.2)) (Yi aa0 ?_))))))));have eq:Tz x i=QG (Co i.path i.place q):=by simp_all
    refine Xi ⟨[(8,sl Am (Co i.path i.place q))],[(1000,HP x ifs roots d),(1001,HX d)],Ab⟩ (Yi ⟨Z1,Z2,Fh,Be aa0⟩ (Yi ?_ ?_))
    .intro h3;have h3:(0:Int)<((Co i.path i.place q).map Am).length:=h3;have e:AV.tup [sl Am (Co i.path i.place q),vb true]=KI (Tz x i):=by grind [Xu]
     exact Xi _ (Yi (.refl _) (Yi e rfl))
    .intro h3;have h3:¬(0:Int)<((Co i.path i.place q).map Am).length:=h3;have e:AV.tup [sl Am (Co i.path i.place q),vb false]=KI (Tz x i):=by grind [aI]
     exact Xi _ (Yi (.refl _) (Yi e rfl))
abbrev bt(t:List Tm):Prop:=t.length<=500000000/\∀u∈t,Cr u.set
theorem lP{a b:List Tm}{p:ByteArray}(h:(AX a b p).2≠0):(AX a b p).1=[]:=by
 grind [AX]
abbrev SG:Option (List Tm):=match El d i.left,El d i.right with
 |some a,some b=>if(AX a b i.path).2=0 then some (AX a b i.path).1 else none
 |_,_=>none
theorem iH{d:List (List Tm)}{i:Nf}(h:El d i.left=none):SG d i=none:=by grind
theorem iI{d:List (List Tm)}{i:Nf}(h:El d i.right=none):SG d i=none:=by grind
theorem uZ(hi:∀t∈d,bt t) :
  AW Tryz.prog 321 [.ref 1000 0,.agg (AG i)] (Ae (Mi x ifs roots d) Ab) fun r h'=>r=KI (SG d i)/\h'=Ae (Mi x ifs roots d) Ab:=by
 have Tw:SG d i=none->AV.tup [sl Am [],vb false]=KI (SG d i):=fun h=>by rw[h]
 refine A7 (H5 (Ec [2,4,5])) [(1000,1000),(1001,1001)] rfl Bu hm rfl Tryz.func321 aa0 rfl (Nz rfl) aa0 rfl (Xi ⟨[(0,.ref 1000 0),(3,.ref 3 0),(6,vi (d.map Ap).length)],[(3,.cells (AG i)),(1000,HP x ifs roots d),(1001,HX d)],Ab⟩ (Yi ⟨Z3,Z3,Fh,Be aa0⟩ (Yi ?_ ?_)))
 .intro h;have h:i.left<0:=h;have e:=Tw (iH (Oc h));exact Xi _ (Yi Kd (Yi e rfl))
 intro h;have h:¬i.left<0:=h;refine Yi ?_ ?_
 .intro h2;have h2:((d.map Ap).length:Int)<=i.left:=h2;have e:=Tw (iH (Oa (by simp_all)));exact Xi _ (Yi Kd (Yi e rfl))
 intro h2;have h2:¬((d.map Ap).length:Int)<=i.left:=h2;refine Yi ?_ ?_
 .intro h3;have h3:i.right<0:=h3;have e:=Tw (iI (Oc h3));exact Xi _ (Yi Kd (Yi e rfl))
 intro h3;have h3:¬i.right<0:=h3;refine Yi ?_ ?_
 .intro h4;have h4:((d.map Ap).length:Int)<=i.right:=h4;have e:=Tw (iI (Oa (by simp_all)));exact Xi _ (Yi Kd (Yi e rfl))
 intro h4;have h4:¬((d.map Ap).length:Int)<=i.right:=h4;refine AJ (QH h (by rw[Lm]at h2;exact h2)) (fun a ha=>?_);refine AJ (QH h3 (by rw[Lm]at h4;exact h4)) (fun b hb=>?_);have ga:(d.map Ap)[i.left.toNat]?=some (Ap a):=EE ha.2.1;have gb:(d.map Ap)[i.right.toNat]?=some (Ap b):=EE hb.2.1;have mD:=hi a ha.2.2;have jt:=hi b hb.2.2;have hc:=qv a b i.path mD.1 jt.1 mD.2 jt.2;have er:SG d i=if(AX a b i.path).2=0 then some (AX a b i.path).1 else none:=by grind
 refine Xi ⟨[(0,.ref 1000 0),(3,.ref 3 0)],[(3,.cells (AG i)),(1000,HP x ifs roots d),(1001,HX d)],Ab⟩ (Yi ⟨Z2,Z3,Fh,Be aa0⟩ (Xi (Ap a) (Yi (Yi ch ga) (Yi rfl (Xi (Ap b) (Yi (Yi ch gb) (Yi rfl (Xi _ (Yi (hc) (Yi aa0 (Xi ⟨[(7,sl Am (AX a b i.path).1),(8,vi (AX a b i.path).2)],[(1000,HP x ifs roots d),(1001,HX d)],Ab⟩ (Yi ⟨Z2,Z2,Fh,Be aa0⟩ (Yi ?_ ?_)))))))))))))
 .intro h5;have h5:(AX a b i.path).2=0:=h5;have e:AV.tup [sl Am (AX a b i.path).1,vb true]=KI (SG d i):=by simp_all
  exact Xi _ (Yi (.refl _) (Yi e rfl))
 .intro h5;have h5:¬(AX a b i.path).2=0:=h5;have e:AV.tup [sl Am (AX a b i.path).1,vb false]=KI (SG d i):=by grind [lP]
  exact Xi _ (Yi (.refl _) (Yi e rfl))
theorem nF:PC 314 [.agg (AG i)] (.agg (AG { i with number:=0 })):=by
 refine Ps D0 Tryz.func314 rfl (Nz rfl) (Yi (Nz rfl) (Yi (Nz rfl) (Yi (Nz rfl) (yN ?_))));exact .refl _
theorem nG:PC 316 [.agg (AG i)] (.agg (AG { i with path:=mt,place:=0,number:=0 })):=by
 refine Ps D0 Tryz.func316 rfl (Nz rfl) (Yi (Nz rfl) (Yi (Nz rfl) (Yi (Nz rfl) (Yi (Nz rfl) (Yi (Nz rfl) (yN ?_))))));exact .refl _
theorem nH:PC 318 [.agg (AG i)] (.agg (AG { i with path:=mt })):=by
 refine Ps D0 Tryz.func318 rfl (Nz rfl) (Yi (Nz rfl) (Yi (Nz rfl) (Yi (Nz rfl) (yN ?_))));exact .refl _
theorem nI:PC 320 [.agg (AG i)] (.agg (AG { i with path:=mt,left:=0,right:=0 })):=by
 refine Ps D0 Tryz.func320 rfl (Nz rfl) (Yi (Nz rfl) (Yi (Nz rfl) (Yi (Nz rfl) (Yi (Nz rfl) (Yi (Nz rfl) (yN ?_))))));exact .refl _
theorem Qk:PC 256 [] (.agg [.v (Gl 314),.v (Gl 315),.v (Gl 316),.v (Gl 317),.v (Gl 318),.v (Gl 319),.v (Gl 320),.v (Gl 321)]):=by
 refine Ps D0 Tryz.func256 rfl (Nz rfl) (Yi (Nz rfl) (yN ?_));exact .refl _
theorem qq:PC 252 [vs s] (vb false):=by
 refine Ps D0 Tryz.func252 rfl (Nz rfl) (Yi ?_ ?_)
 .intro h;exact absurd rfl (show s≠s from h)
 .intro _;exact .refl _
theorem qx(z:Int):PC 313 [vi z] (vb false):=by
 refine Ps D0 Tryz.func313 rfl (Nz rfl) (Yi ?_ ?_)
 .intro h;exact absurd rfl (show z≠z from h)
 .intro _;exact .refl _
theorem uU(a b:ByteArray):PC 175 [vs a,vs b] (vi (JW a b)):=by
 refine Ps D0 Tryz.func175 rfl (Nz rfl) (Xi .pure (Xi _ (Yi (qq a) (Xi .pure (Xi _ (Yi (qq b) (Yi ?_ ?_)))))))
 .intro h;exact .of_eq (Aa vi (show(-1:Int)=JW a b by grind [JW,Gg]))
 .intro h;refine Yi ?_ ?_
  .intro h2;exact .of_eq (Aa vi (show(1:Int)=JW a b by grind [JW,Gg]))
  .intro h2;exact .of_eq (Aa vi (show(0:Int)=JW a b by grind [JW,Gg]))
theorem nJ(a b:Int):PC 253 [vi a,vi b] (vi (GU a b)):=by
 refine Ps D0 Tryz.func253 rfl (Nz rfl) (Xi .pure (Xi _ (Yi (qx a) (Xi .pure (Xi _ (Yi (qx b) (Yi ?_ ?_)))))))
 .intro h;exact .of_eq (Aa vi (show(-1:Int)=GU a b by grind [GU]))
 .intro h;refine Yi ?_ ?_
  .intro h2;exact .of_eq (Aa vi (show(1:Int)=GU a b by grind [GU]))
  .intro h2;exact .of_eq (Aa vi (show(0:Int)=GU a b by grind [GU]))
theorem uT(a b:Int):PC 174 [.slice .none [[vi a],[vi b]]] (vi (if a≠0 then a else b)):=by
 refine Ps D0 Tryz.func174 rfl (Nz rfl) (Xi {i:Nat // i<=2/\(0<i->a=0)/\(1<i->b=0)} (Xi (fun i=>⟨[(3,vi 0),(6,.slice .none [[vi a],[vi b]]),(7,vi 2),(8,vi i.1)],[],Ab⟩) (Xi (fun i=>2-i.1) (Yi (Xi ⟨0,by omega,by omega,by omega⟩ ?_) ?_))))
 .exact⟨Z4,Tv,Fh,Tv⟩
 intro⟨i,h1,h2,h3⟩;refine Yi ?_ ?_
 .intro h;have h:(i:Int)<2:=h
  match i,h1,h2,h3,h with
  |0,h1,h2,h3,h=>
   refine Xi [vi a] (Yi (Yi (B6 _) rfl) (Yi rfl (Yi ?_ ?_)))
   .intro h4;exact .of_eq (Aa vi (A1 h4).symm)
   .intro h4;refine Yi (by grind [AQ]) (Xi ⟨1,by omega,fun _=>by omega,fun q=>absurd q Wk⟩ ?_);exact⟨by simp_all,Z4,Tv,Fh,Tv⟩
  |1,h1,h2,h3,h=>
   have ha:=h2 Wk;refine Xi [vi b] (Yi (Yi ch rfl) (Yi rfl (Yi ?_ ?_)))
   .intro h4;exact .of_eq (Aa vi (AO ch).symm)
   .intro h4;refine Yi (by grind [AQ]) (Xi ⟨2,by omega,fun _=>ha,fun q=>by omega⟩ ?_);exact⟨by simp_all,Z4,Tv,Fh,Tv⟩
  |i+2,h1,h2,h3,h=>omega
 .intro h;have h:¬(i:Int)<2:=h;have ha:=h2 ch;have hb:=h3 ch;exact .of_eq (Aa vi (show(0:Int)=if a≠0 then a else b by omega))
theorem Rh(a b:Ver)(i:Nat)(hi:i<3)(h:∀j,j<i->GU (part a j) (part b j)=0)(hn:GU (part a i) (part b i)≠0):Rg a b=GU (part a i) (part b i):=by
 unfold Rg
 match i,hi,h,hn with
 |0,_,_,hn=>exact A1 hn
 |1,_,h,hn=>
  have h0:GU a.a b.a=0:=h 0 Wk;rw[AO ch];exact A1 hn
 |2,_,h,hn=>
  have h0:GU a.a b.a=0:=h 0 Wk;have h1:GU a.b b.b=0:=h 1 Wk;rw[AO ch,AO ch];rfl
theorem fw(a b:Ver)(h:∀j,j<3->GU (part a j) (part b j)=0):Rg a b=0:=by
 unfold Rg;have h0:GU a.a b.a=0:=h 0 Wk;have h1:GU a.b b.b=0:=h 1 Wk;have h2:GU a.c b.c=0:=h 2 Wk;omega
theorem uV(a b:Ver):PC 176 [.agg (Gi a),.agg (Gi b)] (vi (Rg a b)):=by
 refine Ps D0 Tryz.func176 rfl (Nz rfl) (yN (Xi _ (Yi (nD a) (yN (Xi _ (Yi (nD b) (Yi (Nz rfl) (yN (Yi aa0 (Xi {i:Nat // i<=3/\∀j,j<i->GU (part a j) (part b j)=0} (Xi (fun i=>⟨[(5,.ref 5 0),(6,.ref 6 0),(13,vi i.1)],[(5,.cells (Gi a)),(6,.cells (Gi b))],Ab⟩) (Xi (fun i=>3-i.1) (Yi (Xi ⟨0,by omega,fun j h=>by omega⟩ ?_) ?_)))))))))))))
 .exact⟨Z3,Z2,Fh,Tv⟩
 intro⟨i,h1,h2⟩;refine Yi ?_ ?_
 .intro h;have h:(i:Int)<3:=h;have next:GU (part a i) (part b i)=0->∀j,j<i+1->GU (part a j) (part b j)=0:=fun hz j hj=>by
   grind
  match i,h1,h2,h,next with
  |0,h1,h2,h,next=>
   refine Yi ⟨by omega,by omega⟩ ?_;refine Yi ⟨by omega,by omega⟩ ?_;refine Xi _ (Yi (nJ (part a 0) (part b 0)) (Yi aa0 (Yi ?_ ?_)))
   .intro h4;exact .of_eq (Aa vi (Rh a b 0 Wk h2 h4).symm)
   .intro h4;refine Yi (by grind [AQ]) (Xi ⟨1,by omega,next (FH h4)⟩ ?_)
    exact⟨by simp_all,Z3,Z2,Fh,Tv⟩
  |1,h1,h2,h,next=>
   refine Yi ⟨by omega,by omega⟩ ?_;refine Yi ⟨by omega,by omega⟩ ?_;refine Xi _ (Yi (nJ (part a 1) (part b 1)) (Yi aa0 (Yi ?_ ?_)))
   .intro h4;exact .of_eq (Aa vi (Rh a b 1 Wk h2 h4).symm)
   .intro h4;refine Yi (by grind [AQ]) (Xi ⟨2,by omega,next (FH h4)⟩ ?_)
    exact⟨by simp_all,Z3,Z2,Fh,Tv⟩
  |2,h1,h2,h,next=>
   refine Yi ⟨by omega,by omega⟩ ?_;refine Yi ⟨by omega,by omega⟩ ?_;refine Xi _ (Yi (nJ (part a 2) (part b 2)) (Yi aa0 (Yi ?_ ?_)))
   .intro h4;exact .of_eq (Aa vi (Rh a b 2 Wk h2 h4).symm)
   .intro h4;have h4:¬GU (part a 2) (part b 2)≠0:=h4;refine Yi (by grind [AQ]) (Xi ⟨3,by omega,next (FH h4)⟩ ?_)
    exact⟨by simp_all,Z3,Z2,Fh,Tv⟩
  |i+3,h1,h2,h,next=>omega
 .intro h;have h:¬(i:Int)<3:=h;exact .of_eq (Aa vi (fw a b fun j hj=>h2 j ch).symm)
theorem uK(a b:Rl):PC 99 [.agg (Al a),.agg (Al b)] (vi (Wp a b)):=by
 refine Ps D0 Tryz.func99 rfl (Nz rfl) (Xi _ (Yi (uU a.path b.path) (Yi (Nz rfl) (yN (Xi _ (Yi (uV a.ver b.ver) (Xi _ (Yi (uT (JW a.path b.path) (Rg a.ver b.ver)) (Yi aa0 ?_)))))))));exact .refl _
abbrev GB:Prop:=s.size<=1073741824
abbrev KL(q:Rq):Prop:=Cr q.set/\GB q.path
abbrev Ir(r:Rl):Prop:=GB r.path/\∀q∈r.reqs,KL q
abbrev mV(nm:ByteArray->ByteArray)(p:ByteArray):AV:=match Bw p with
 |some m=>.tup [vs (nm p),vi m,vi 0]
 |none=>.tup [vs ⟨#[]⟩,vi 0,vi 4]
abbrev Tf(nm:ByteArray->ByteArray):Prop:=∀p:ByteArray,GB p->PC 66 [vs p] (mV nm p)
theorem Tf.none(h:Tf nm){p:ByteArray}(hp:GB p)(e:Bw p=.none):PC 66 [vs p] (.tup [vs ⟨#[]⟩,vi 0,vi 4]):=by
 grind
theorem Tf.some(h:Tf nm){p:ByteArray}{m:Int}(hp:GB p)(e:Bw p=.some m):PC 66 [vs p] (.tup [vs (nm p),vi m,vi 0]):=by
 grind
theorem qk(hL:Tf nm)(q:Rq)(hq:Cr q.set)(hp:GB q.path):PC 177 [.agg (Ac q),.v (.pointer none)] (vi (Hq none q)):=by
 cases aw:Bw q.path with
 |none=>
  have e:(4:Int)=Hq none q:=by grind [Hq]
  have hl:=hL.none hp aw;refine Ps D0 Tryz.func177 rfl (Nz rfl) (Xi .pure (Xi _ (Yi (hl) (Yi ?_ ?_))))
  .intro _;exact .of_eq (Aa vi e)
  .intro h;exact absurd (show(4:Int)≠0 by decide) h
 |some m=>
  have er:Hq none q=if(q.set.isEmpty||!decide (q.set=canon q.set)||false)=true then 1 else 0:=by grind [Hq]
  have hl:=hL.some hp aw;have hc:=Wl q.set hq;have he:=qn q.set (canon q.set) hq;have om:∀{n:Int},n=(q.set.map Aj).length->n=0->q.set.isEmpty=true:=fun h1 h2=>by
   rw[Lm]at h1;rw[KC];exact AI ch
  have gq:¬((q.set.map Aj).length:Int)=0->q.set.isEmpty=false:=fun h=>by
   simp_all
  rcases Bt (decide (q.set=canon q.set))with h2 | h2
  .rw[h2]at he;refine Ps (Ec []) Tryz.func177 rfl (Nz rfl) (Xi .pure (Xi _ (Yi (hl) (Yi ?_ ?_))))
   .intro h;exact absurd rfl h
   intro _;refine Yi ?_ ?_
   .intro h;have e:(1:Int)=Hq none q:=by grind
    refine Yi aa0 ?_;exact .of_eq (Aa vi e)
   intro h;have hn:=gq h;refine Xi _ (Yi (hc) (Xi _ (Yi (he) (Yi aa0 ?_))));have e:(0:Int)=Hq none q:=by grind
   exact .of_eq (Aa vi e)
  .rw[h2]at he;refine Ps (Ec []) Tryz.func177 rfl (Nz rfl) (Xi .pure (Xi _ (Yi (hl) (Yi ?_ ?_))))
   .intro h;exact absurd rfl h
   intro _;refine Yi ?_ ?_
   .intro h;have e:(1:Int)=Hq none q:=by simp_all
    refine Yi aa0 ?_;exact .of_eq (Aa vi e)
   intro h;have hn:=gq h;refine Xi _ (Yi (hc) (Xi _ (Yi (he) (Yi aa0 ?_))));have e:(1:Int)=Hq none q:=by simp_all
   exact .of_eq (Aa vi e)
theorem ql(hL:Tf nm)(q b:Rq)(hq:Cr q.set)(hp:GB q.path):PC 177 [.agg (Ac q),.cptr (Ac b)] (vi (Hq (some b.path) q)):=by
 cases aw:Bw q.path with
 |none=>
  have e:(4:Int)=Hq (some b.path) q:=by grind [Hq]
  have hl:=hL.none hp aw;refine Ps D0 Tryz.func177 rfl (Nz rfl) (Xi .pure (Xi _ (Yi (hl) (Yi ?_ ?_))))
  .intro _;exact .of_eq (Aa vi e)
  .intro h;exact absurd (show(4:Int)≠0 by decide) h
 |some m=>
  have er:Hq (some b.path) q=if(q.set.isEmpty||!decide (q.set=canon q.set)||!EL b.path q.path)=true then 1 else 0:=by grind [Hq]
  have hl:=hL.some hp aw;have hc:=Wl q.set hq;have he:=qn q.set (canon q.set) hq;have om:∀{n:Int},n=(q.set.map Aj).length->n=0->q.set.isEmpty=true:=fun h1 h2=>by
   rw[Lm]at h1;rw[KC];exact AI ch
  have gq:¬((q.set.map Aj).length:Int)=0->q.set.isEmpty=false:=fun h=>by
   simp_all
  rcases Bt (decide (q.set=canon q.set))with h2 | h2
  .rw[h2]at he;refine Ps (Ec []) Tryz.func177 rfl (Nz rfl) (Xi .pure (Xi _ (Yi (hl) (Yi ?_ ?_))))
   .intro h;exact absurd rfl h
   intro _;refine Yi ?_ ?_
   .intro h;have e:(1:Int)=Hq (some b.path) q:=by grind
    refine Yi aa0 ?_;exact .of_eq (Aa vi e)
   intro h;have hn:=gq h;refine Xi _ (Yi (hc) (Xi _ (Yi (he) (Yi ?_ ?_))))
   .intro h3;refine Yi aa0 ?_;have e:(1:Int)=Hq (some b.path) q:=by grind [Gg]
    exact .of_eq (Aa vi e)
   .intro h3;have h3:Op.bytesLess b.path.toList q.path.toList=true:=by grind
    refine Yi aa0 ?_;have e:(0:Int)=Hq (some b.path) q:=by grind [Gg]
    exact .of_eq (Aa vi e)
  .rw[h2]at he;refine Ps (Ec []) Tryz.func177 rfl (Nz rfl) (Xi .pure (Xi _ (Yi (hl) (Yi ?_ ?_))))
   .intro h;exact absurd rfl h
   intro _;refine Yi ?_ ?_
   .intro h;have e:(1:Int)=Hq (some b.path) q:=by simp_all
    refine Yi aa0 ?_;exact .of_eq (Aa vi e)
   intro h;have hn:=gq h;refine Xi _ (Yi (hc) (Xi _ (Yi (he) (Yi aa0 ?_))));have e:(1:Int)=Hq (some b.path) q:=by simp_all
   exact .of_eq (Aa vi e)
abbrev Nw(l:List Rq)(k:Nat):List AV:=((l.map Ac)[k]?).getD []
abbrev qi(l:List Rq):Nat->AV
 |0=>.v (.pointer none)
 |k+1=>.cptr (Nw l k)
abbrev QX(l:List Rq):Nat->Option ByteArray
 |0=>none
 |k+1=>(l[k]?).map (·.path)
theorem Yr{l:List Rq}(h:k<l.length):Nw l k=Ac l[k]:=by
 grind
theorem eY{l:List Rq}(h:k<l.length):QX l (k+1)=some l[k].path:=by
 simp_all
theorem tA(hL:Tf nm)(l:List Rq)(hs:∀q∈l,KL q):PC 100 [sl Ac l] (vi (A8 l)):=by
 refine Ps (Ec []) Tryz.func100 rfl (Nz rfl) (Yi ?_ ?_)
 .intro h;exact .of_eq (Aa vi (show(7:Int)=A8 l by grind [A8]))
 intro h;have hl:l.length<=16:=by grind
 have WU:A8 l=Ff none l:=by grind [A8]
 refine Xi {i:Nat // i<=l.length/\Ff none l=Ff (QX l i) (l.drop i)} (Xi (fun i=>⟨[(0,sl Ac l),(3,qi l i.1),(10,sl Ac l),(11,vi (l.map Ac).length),(12,vi i.1)],[],Ab⟩) (Xi (fun i=>l.length-i.1) (Yi (Xi ⟨0,Ar _,rfl⟩ ?_) ?_)))
 .exact⟨Z5,Tv,Fh,Tv⟩
 intro⟨i,h1,h2⟩;refine Yi ?_ ?_
 .intro h;have h:i<l.length:=by simp_all
  have hg:l[i]?=some l[i]:=Ge h;have hd:l.drop i=l[i]::l.drop (i+1):=FA h;have hq:=hs l[i] (Ao h);have hc:PC 177 [.agg (Ac l[i]),qi l i] (vi (Hq (QX l i) l[i])):=by
   cases i with
   |zero=>exact qk hL _ hq.1 hq.2
   |succ k=>
    rw[eY (by omega:k<l.length)];show PC 177 [_,.cptr (Nw l k)] _;rw[Yr (by omega:k<l.length)];exact ql hL _ _ hq.1 hq.2
  have La:Ff none l=if Hq (QX l i) l[i]=0 then Ff (some l[i].path) (l.drop (i+1))else Hq (QX l i) l[i]:=by rw[h2,hd];rfl
  match i,h1,h2,h,hg,hd,hc,La with
  |0,h1,h2,h,hg,hd,hc,La=>
   refine Xi (Ac l[0]) (Yi (Yi ch (by grind)) (Yi rfl (Yi (Nz rfl) (Yi (Nz rfl) (yN (Xi .pure (Xi _ (Yi (hc) (Yi ?_ ?_)))))))))
   .intro h4;exact .of_eq (Aa vi (show Hq (QX l (0)) l[0]=A8 l by omega))
   .intro h4;refine Xi (Ac l[0]) (Yi (Yi ch (by grind)) (Yi rfl (Yi (by grind [AQ]) (Xi ⟨0+1,by omega,by grind⟩ ?_))));have e1:AV.cptr (Ac l[0])=.cptr (Nw l (0)):=by grind
    exact⟨by show l.length-(0+1)<l.length-(0);omega,⟨Zr,⟨e1,rfl⟩,Zr,Zr,Zr,Tv⟩,Tv,Fh,Tv⟩
  |k+1,h1,h2,h,hg,hd,hc,La=>
   refine Xi (Ac l[k+1]) (Yi (Yi ch (by simp[hg])) (Yi rfl ?_));refine Yi (Nz rfl) (Yi (Nz rfl) (yN (Xi .pure (Xi _ (Yi (hc) (Yi ?_ ?_))))))
   .intro h4;exact .of_eq (Aa vi (show Hq (QX l (k+1)) l[k+1]=A8 l by omega))
   .intro h4;refine Xi (Ac l[k+1]) (Yi (Yi ch (by simp[hg])) (Yi rfl ?_));refine Yi (by show AQ (((k+1:Nat):Int)+1);unfold AQ;omega) ?_;refine Xi ⟨k+1+1,by omega,by grind⟩ ?_;have e1:AV.cptr (Ac l[k+1])=.cptr (Nw l (k+1)):=by grind
    exact⟨by show l.length-(k+1+1)<l.length-(k+1);omega,⟨Zr,⟨e1,rfl⟩,Zr,Zr,Zr,Tv⟩,Tv,Fh,Tv⟩
 .intro h;have h:¬i<l.length:=by simp_all
  have e:(0:Int)=A8 l:=by rw[WU,h2,Tg ch];rfl
  exact .of_eq (Aa vi e)
abbrev ka(r:Rl):Nat->ByteArray
 |0=>r.arch
 |1=>r.ifc
 |_=>r.cert
theorem nV{r:Rl}(h:∀j,j<3->DW (ka r j)=true):(DW r.arch&&DW r.ifc&&DW r.cert)=true:=by
 have h0:DW r.arch=true:=h 0 Wk;have h1:DW r.ifc=true:=h 1 Wk;have h2:DW r.cert=true:=h 2 Wk;simp_all
theorem uJ(hL:Tf nm)(r:Rl)(hr:Ir r):PC 97 [.agg (Al r)] (vi (DN r)):=by
 cases aw:Bw r.path with
 |none=>
  have e:(4:Int)=DN r:=by grind [DN]
  have hl:=hL.none hr.1 aw;refine Ps D0 Tryz.func97 rfl (Nz rfl) (Xi .pure (Xi _ (Yi (hl) (Yi ?_ ?_))))
  .intro _;exact .of_eq (Aa vi e)
  .intro h;exact absurd (show(4:Int)≠0 by decide) h
 |some m=>
  have er:DN r=if(!Cf r.ver||!decide (r.ver.a=m))=true then 2 else if A8 r.reqs≠0 then A8 r.reqs else if(DW r.arch&&DW r.ifc&&DW r.cert)=true then 0 else 1:=by grind [DN]
  have hl:=hL.some hr.1 aw;have hv:=jS r.ver;have hc:=tA hL r.reqs hr.2;rcases Bt (Cf r.ver)with h2 | h2
  .rw[h2]at hv;refine Ps (Ec []) Tryz.func97 rfl (Nz rfl) (Xi .pure (Xi _ (Yi (hl) (Yi ?_ ?_))))
   .intro h;exact absurd rfl h
   intro _;refine yN (Xi .pure (Xi _ (Yi (hv) (Yi ?_ ?_))))
   .intro h;have e:(2:Int)=DN r:=by simp_all
    exact .of_eq (Aa vi e)
   intro h;have h3:r.ver.a=m:=FH h;have vL:DN r=if A8 r.reqs≠0 then A8 r.reqs else if(DW r.arch&&DW r.ifc&&DW r.cert)=true then 0 else 1:=by simp_all
   refine Xi .pure (Xi _ (Yi (hc) (Yi ?_ ?_)))
   .intro h4;exact .of_eq (Aa vi (show A8 r.reqs=DN r by omega))
   intro h4;have er3:DN r=if(DW r.arch&&DW r.ifc&&DW r.cert)=true then 0 else 1:=by omega
   refine Xi {i:Nat // i<=3/\∀j,j<i->DW (ka r j)=true} (Xi (fun i=>⟨[(41,.slice (.id 41 1) [[vs r.arch],[vs r.ifc],[vs r.cert]]),(42,vi 3),(43,vi i.1)],[(41,.tok 1 3)],Ab⟩) (Xi (fun i=>3-i.1) (Yi (Xi ⟨0,by omega,fun j h=>by omega⟩ ?_) ?_)))
   .exact⟨Z3,Z1,Fh,Tv⟩
   intro⟨i,i1,i2⟩;refine Yi ?_ ?_
   .intro h;have h:(i:Int)<3:=h;have next:DW (ka r i)=true->∀j,j<i+1->DW (ka r j)=true:=fun hz j hj=>by
     grind
    match i,i1,i2,h,next with
    |0,i1,i2,h,next=>
     refine Xi [vs r.arch] (Yi (Yi ch rfl) (Yi rfl (Yi ?_ ?_)))
     .intro h5;refine Yi ?_ ?_
      .intro h6;have e:(1:Int)=DN r:=by grind [DW]
       exact .of_eq (Aa vi e)
      .intro h6;refine Yi (by grind [AQ]) (Xi ⟨1,by omega,next (show DW r.arch=true by grind [DW])⟩ ?_)
       exact⟨by simp_all,Z3,Z1,Fh,Tv⟩
     .intro h5;refine Yi (by grind [AQ]) (Xi ⟨1,by omega,next (show DW r.arch=true by grind [DW])⟩ ?_)
      exact⟨by simp_all,Z3,Z1,Fh,Tv⟩
    |1,i1,i2,h,next=>
     refine Xi [vs r.ifc] (Yi (Yi ch rfl) (Yi rfl (Yi ?_ ?_)))
     .intro h5;have h5:((r.ifc.size:Nat):Int)≠0:=h5;refine Yi ?_ ?_
      .intro h6;have h6:((r.ifc.size:Nat):Int)≠32:=h6;have e:(1:Int)=DN r:=by grind [DW]
       exact .of_eq (Aa vi e)
      .intro h6;have h6:¬((r.ifc.size:Nat):Int)≠32:=h6;refine Yi (by grind [AQ]) (Xi ⟨2,by omega,next (show DW r.ifc=true by grind [DW])⟩ ?_)
       exact⟨by simp_all,Z3,Z1,Fh,Tv⟩
     .intro h5;have h5:¬((r.ifc.size:Nat):Int)≠0:=h5;refine Yi (by grind [AQ]) (Xi ⟨2,by omega,next (show DW r.ifc=true by grind [DW])⟩ ?_)
      exact⟨by simp_all,Z3,Z1,Fh,Tv⟩
    |2,i1,i2,h,next=>
     refine Xi [vs r.cert] (Yi (Yi ch rfl) (Yi rfl (Yi ?_ ?_)))
     .intro h5;have h5:((r.cert.size:Nat):Int)≠0:=h5;refine Yi ?_ ?_
      .intro h6;have h6:((r.cert.size:Nat):Int)≠32:=h6;have e:(1:Int)=DN r:=by grind [DW]
       exact .of_eq (Aa vi e)
      .intro h6;have h6:¬((r.cert.size:Nat):Int)≠32:=h6;refine Yi (by grind [AQ]) (Xi ⟨3,by omega,next (show DW r.cert=true by grind [DW])⟩ ?_)
       exact⟨by simp_all,Z3,Z1,Fh,Tv⟩
     .intro h5;have h5:¬((r.cert.size:Nat):Int)≠0:=h5;refine Yi (by grind [AQ]) (Xi ⟨3,by omega,next (show DW r.cert=true by grind [DW])⟩ ?_)
      exact⟨by simp_all,Z3,Z1,Fh,Tv⟩
    |i+3,i1,i2,h,next=>omega
   .intro h;have h:¬(i:Int)<3:=h;have e:(0:Int)=DN r:=by grind [nV]
    exact .of_eq (Aa vi e)
  .rw[h2]at hv;have e:(2:Int)=DN r:=by simp_all
   refine Ps (Ec []) Tryz.func97 rfl (Nz rfl) (Xi .pure (Xi _ (Yi (hl) (Yi ?_ ?_))))
   .intro h;exact absurd rfl h
   intro _;refine yN (Xi .pure (Xi _ (Yi (hv) ?_)));exact .of_eq (Aa vi e)
theorem oQ{a b:Rl}(h:a.path=b.path/\a.ver.a=b.ver.a/\a.ver.b=b.ver.b/\a.ver.c=b.ver.c):Dd a=Dd b:=by
 unfold Dd;obtain⟨h1,h2,h3,h4⟩:=h
 have:a.ver=b.ver:=by
  cases ha:a.ver<;>simp_all
 simp_all
theorem cL{a b:Rl}(h:Dd a=Dd b):a.path=b.path/\a.ver.a=b.ver.a/\a.ver.b=b.ver.b/\a.ver.c=b.ver.c:=by
 grind [Dd]
abbrev jL:Nat->Option Rl
 |0=>none
 |k+1=>x[k]?
theorem qA(hL:Tf nm)(x:List Rl)(ifs:List (List AV))(hs:∀r∈x,Ir r):PC 47 [.agg (Ic x ifs)] (vi (AC x)):=by
 refine Ps (Ec []) Tryz.func47 rfl (Nz rfl) (Yi ?_ ?_)
 .intro h;exact .of_eq (Aa vi (show(7:Int)=AC x by grind [AC]))
 intro h;have hl:x.length<=256:=by grind
 have WU:AC x=DX none x:=by grind [AC]
 refine Xi {i:Nat // i<=x.length/\DX none x=DX (jL x i) (x.drop i)} (Xi (fun i=>⟨[(1,.ref 1 0),(12,sl Al x),(13,vi (x.map Al).length),(14,vi i.1)],[(1,.cells (Ic x ifs))],Ab⟩) (Xi (fun i=>x.length-i.1) (Yi (Xi ⟨0,Ar _,rfl⟩ ?_) ?_)))
 .exact⟨Z4,Z1,Fh,Tv⟩
 intro⟨i,h1,h2⟩;refine Yi ?_ ?_
 .intro h;have h:i<x.length:=by simp_all
  have hg:x[i]?=some x[i]:=Ge h;have hd:x.drop i=x[i]::x.drop (i+1):=FA h;have hc:=uJ hL x[i] (hs x[i] (Ao h));have La:DX none x=if DN x[i]≠0 then DN x[i]else match jL x i with
   |none=>DX (some x[i]) (x.drop (i+1))
   |some b=>if Dd b=Dd x[i]then 5 else if 0<Wp b x[i]then 1 else DX (some x[i]) (x.drop (i+1)):=by rw[h2,hd];rfl
  have zJ:jL x (i+1)=some x[i]:=Ge h;refine Xi (Al x[i]) (Yi (Yi ch (by simp[hg])) (Yi rfl ?_));refine Yi (Nz rfl) (Yi (Nz rfl) (yN (Xi .pure (Xi _ (Yi (hc) (Yi ?_ ?_))))))
  .intro h4;exact .of_eq (Aa vi (show DN x[i]=AC x by omega))
  intro h4;refine Yi ?_ ?_
  .intro h5;have h5:(i:Int)=0:=h5;have h6:i=0:=by omega
   refine Yi (Ii i ch) (Xi ⟨i+1,by omega,by grind⟩ ?_);exact⟨Dl x.length i ch,Z4,Z1,Fh,Tv⟩
  intro h5;have h5:¬(i:Int)=0:=h5;have hi1:i-1<x.length:=by omega
  have hb:jL x i=some x[i-1]:=by
   grind
  have wD:DX none x=if Dd x[i-1]=Dd x[i]then 5 else if 0<Wp x[i-1] x[i]then 1 else DX (some x[i]) (x.drop (i+1)):=by grind
  refine Yi (by grind [AQ]) ?_;have ct:(x.map Al)[((i:Int)-1).toNat]?=some (Al x[i-1]):=by rw[show((i:Int)-1).toNat=i-1 by omega];grind
  refine Xi (Al x[i-1]) (Yi (Yi ch ct) (Yi rfl (Yi (Nz rfl) (yN (yN (Xi _ (Yi (nB x[i-1]) (yN (Xi _ (Yi (nB x[i]) (Yi ?_ ?_)))))))))))
  .intro h6;refine Yi aa0 ?_;have e:(5:Int)=AC x:=by rw[WU,wD,A1 (oQ ⟨h6.1,h6.2.1,h6.2.2.1,h6.2.2.2.1⟩)]
   exact .of_eq (Aa vi e)
  intro h6;refine Yi aa0 ?_;have h7:¬Dd x[i-1]=Dd x[i]:=fun e=>by
   have e:=cL e;exact h6 ⟨e.1,e.2.1,e.2.2.1,e.2.2.2,trivial⟩
  refine Yi (Nz rfl) (yN (Xi .pure (Xi _ (Yi (uK x[i-1] x[i]) (Yi ?_ ?_)))))
  .intro h8;have e:(1:Int)=AC x:=by grind
   exact .of_eq (Aa vi e)
  .intro h8;refine Yi (Ii i ch) (Xi ⟨i+1,by omega,by grind⟩ ?_);exact⟨Dl x.length i ch,Z4,Z1,Fh,Tv⟩
 .intro h;have h:¬i<x.length:=by simp_all
  have e:(0:Int)=AC x:=by rw[WU,h2,Tg ch];rfl
  exact .of_eq (Aa vi e)
abbrev uo(r:Rl)(a:AV):List AV:=[vs r.path,vi r.ver.a,vi r.ver.b,vi r.ver.c,a,vs r.arch,vs r.ifc,vs r.cert,vb r.yanked]
abbrev xI:MF:=⟨[],[],[],[],[],[],[],[(9,(1,4,900,2))],[],[],[]⟩
theorem c98(r:Rl)(hr:r.reqs.length<=1000)(hs:∀q∈r.reqs,Cr q.set):PC 86 [.agg (Al r)] (.agg (Al r)):=by
 refine Ps xI Tryz.func86 rfl (Nz rfl) (yN (Xi {i:Nat // i<=r.reqs.length} (Xi (fun i=>⟨[(1,.ref 1 0),(2,.ref 2 0),(9,sl Ac r.reqs),(10,vi (r.reqs.map Ac).length),(11,vi i.1)],[(1,.cells (uo r (.slice (.id 900 2) ((r.reqs.take i.1).map Ac)))),(2,.cells dW),(900,.tok 2 ((r.reqs.take i.1).map Ac).length)],Ab⟩) (Xi (fun i=>r.reqs.length-i.1) (Yi (Xi ⟨0,Ar _⟩ ?_) ?_)))))
 .exact⟨Z5,Z3,Fh,Tv⟩
 intro⟨i,h1⟩;refine Yi ?_ ?_
 .intro h;have h:i<r.reqs.length:=by simp_all
  have hg:r.reqs[i]?=some r.reqs[i]:=Ge h;refine Xi (Ac r.reqs[i]) (Yi (Yi ch (by simp_all)) (Yi rfl ?_));have hq:=hs r.reqs[i] (Ao h);refine Yi (Nz rfl) (yN (Xi .pure (Xi _ (Yi (qm r.reqs[i].set hq) (yN (yN ?_))))));have Di:BJ 2 [Ac r.reqs[i]]/\((r.reqs.take i).map Ac).length=((r.reqs.take i).map Ac).length/\(((r.reqs.take i).map Ac).length+[Ac r.reqs[i]].length)*40<=140737488355328/\((r.reqs.take i).map Ac).length+[Ac r.reqs[i]].length<=9223372036854775807:=
   ⟨⟨rfl,trivial⟩,rfl,by grind,by grind⟩
  refine Yi Di (yN (Yi (by grind [AQ]) (Xi ⟨i+1,by omega⟩ ?_)));have et:(r.reqs.take (i+1)).map Ac=(r.reqs.take i).map Ac++[Ac r.reqs[i]]:=by rw[FL,hg,Bm];rfl
  have e1:HO.cells (uo r (.slice (.id 900 2) ((r.reqs.take i).map Ac++[Ac r.reqs[i]])))=.cells (uo r (.slice (.id 900 2) ((r.reqs.take (i+1)).map Ac))):=by rw[et]
  have e2:HO.tok 2 (((r.reqs.take i).map Ac).length+[Ac r.reqs[i]].length)=.tok 2 ((r.reqs.take (i+1)).map Ac).length:=by simp_all
  exact⟨by grind,Z5,⟨⟨e1,rfl⟩,Zr,⟨e2,rfl⟩,Tv⟩,Fh,Tv⟩
 .intro h;have h:¬i<r.reqs.length:=by simp_all
  refine Yi (Nz rfl) (Yi (Nz rfl) (yN ?_));have e:AV.agg (uo r (.slice .none ((r.reqs.take i).map Ac)))=.agg (Al r):=by grind
  exact .of_eq e
abbrev vc:AV:=.v (.int .u8 c.toNat)
theorem jg(a:UInt8)(n:Nat)(h:n<256):decide (UInt8.ofNat n<=a)=decide ((n:Int)<=(a.toNat:Int)):=by
 grind [UInt8.le_iff_toNat_le,UInt8.toNat_ofNat']
theorem jf(a:UInt8)(n:Nat)(h:n<256):decide (a<=UInt8.ofNat n)=decide ((a.toNat:Int)<=(n:Int)):=by
 grind [UInt8.le_iff_toNat_le,UInt8.toNat_ofNat']
theorem nM:PC 199 [vc c] (vb (GF c)):=by
 refine Ps D0 Tryz.func199 rfl (Nz rfl) ?_;have e1:decide ((97:UInt8)<=c)=decide ((97:Int)<=(c.toNat:Int)):=jg c 97 Wk;have e2:decide (c<=(122:UInt8))=decide ((c.toNat:Int)<=(122:Int)):=jf c 122 Wk;have es:GF c=(decide ((97:Int)<=(c.toNat:Int))&&decide ((c.toNat:Int)<=(122:Int))):=by grind [GF]
 refine Yi ?_ ?_
 .intro h;refine Yi ?_ ?_
  .intro h2;exact .of_eq (Aa vb (show true=GF c by simp_all))
  .intro h2;exact .of_eq (Aa vb (show false=GF c by simp_all))
 .intro h;exact .of_eq (Aa vb (show false=GF c by simp_all))
theorem nN:PC 200 [vc c] (vb (Eo c)):=by
 refine Ps D0 Tryz.func200 rfl (Nz rfl) ?_;have e1:decide ((48:UInt8)<=c)=decide ((48:Int)<=(c.toNat:Int)):=jg c 48 Wk;have e2:decide (c<=(57:UInt8))=decide ((c.toNat:Int)<=(57:Int)):=jf c 57 Wk;have es:Eo c=(decide ((48:Int)<=(c.toNat:Int))&&decide ((c.toNat:Int)<=(57:Int))):=by grind [Eo]
 refine Yi ?_ ?_
 .intro h;refine Yi ?_ ?_
  .intro h2;exact .of_eq (Aa vb (show true=Eo c by simp_all))
  .intro h2;exact .of_eq (Aa vb (show false=Eo c by simp_all))
 .intro h;exact .of_eq (Aa vb (show false=Eo c by simp_all))
theorem vA:PC 330 [vc c] (vb (U5 c)):=by
 refine Ps D0 Tryz.func330 rfl (Nz rfl) ?_;have e1:decide ((65:UInt8)<=c)=decide ((65:Int)<=(c.toNat:Int)):=jg c 65 Wk;have e2:decide (c<=(90:UInt8))=decide ((c.toNat:Int)<=(90:Int)):=jf c 90 Wk;have es:U5 c=(decide ((65:Int)<=(c.toNat:Int))&&decide ((c.toNat:Int)<=(90:Int))):=by grind [U5]
 refine Yi ?_ ?_
 .intro h;refine Yi ?_ ?_
  .intro h2;exact .of_eq (Aa vb (show true=U5 c by simp_all))
  .intro h2;exact .of_eq (Aa vb (show false=U5 c by simp_all))
 .intro h;exact .of_eq (Aa vb (show false=U5 c by simp_all))
abbrev iU:Bool:=GF c||Eo c
theorem vq:PC 198 [vc c] (vb (iU c)):=by
 have h1:=nM c;have h2:=nN c;rcases Bt (GF c)with e | e
 .rw[e]at h1;refine Ps D0 Tryz.func198 rfl (Nz rfl) (Xi .pure (Xi _ (Yi (h1) ?_)));exact .of_eq (Aa vb (show true=iU c by simp_all))
 .rw[e]at h1;refine Ps D0 Tryz.func198 rfl (Nz rfl) (Xi .pure (Xi _ (Yi (h1) (Xi .pure (Xi _ (Yi (h2) ?_))))));exact .of_eq (Aa vb (show Eo c=iU c by simp_all))
theorem vu:PC 265 [vc c] (vb (LG c)):=by
 have h1:=nM c;have h2:=vA c;have h3:=nN c;have ew:LG c=(GF c||U5 c||Eo c||decide (c=95)):=rfl;rcases Bt (GF c)with e | e
 .rw[e]at h1;refine Ps D0 Tryz.func265 rfl (Nz rfl) (Xi .pure (Xi _ (Yi (h1) ?_)));exact .of_eq (Aa vb (show true=LG c by simp_all))
 rw[e]at h1;rcases Bt (U5 c)with e2 | e2
 .rw[e2]at h2;refine Ps D0 Tryz.func265 rfl (Nz rfl) (Xi .pure (Xi _ (Yi (h1) (Xi .pure (Xi _ (Yi (h2) ?_))))));exact .of_eq (Aa vb (show true=LG c by simp_all))
 rw[e2]at h2;rcases Bt (Eo c)with e3 | e3
 .rw[e3]at h3;refine Ps D0 Tryz.func265 rfl (Nz rfl) (Xi .pure (Xi _ (Yi (h1) (Xi .pure (Xi _ (Yi (h2) (Xi .pure (Xi _ (Yi (h3) ?_)))))))));exact .of_eq (Aa vb (show true=LG c by simp_all))
 rw[e3]at h3;refine Ps D0 Tryz.func265 rfl (Nz rfl) (Xi .pure (Xi _ (Yi (h1) (Xi .pure (Xi _ (Yi (h2) (Xi .pure (Xi _ (Yi (h3) ?_)))))))));have eb:decide (c=95)=decide ((c.toNat:Int)=95):=by
  rw[CN,A5,A5];constructor
  .simp_all
  .intro h;exact UInt8.toNat_inj.1 (by grind)
 refine Yi ?_ ?_
 .intro h;exact .of_eq (Aa vb (show true=LG c by simp_all))
 .intro h;exact .of_eq (Aa vb (show false=LG c by simp_all))
theorem jI(i:Nat)(h:i<s.data.toList.length):s.data[i]?=some s.data.toList[i]:=by
 simp_all
theorem nL(f:Nat)(q:UInt8->Bool)(hf:∀c,PC f [vc c] (vb (q c)))(hs:s.data.toList.length<4611686018427387904):PC 197 [vs s,.v (Gl f)] (vb (s.data.toList.all q)):=by
 have Fi:s.size=s.data.toList.length:=by simp
 refine Ps D0 Tryz.func197 rfl (Nz rfl) (Xi {i:Nat // i<=s.data.toList.length/\∀j (hj:j<s.data.toList.length),j<i->q s.data.toList[j]=true} (Xi (fun i=>⟨[(0,vs s),(1,.v (Gl f)),(7,vi s.size),(8,vi i.1)],[],Ab⟩) (Xi (fun i=>s.data.toList.length-i.1) (Yi (Xi ⟨0,Ar _,fun j _ h=>by omega⟩ ?_) ?_))))
 .exact⟨Z4,Tv,Fh,Tv⟩
 intro⟨i,h1,h2⟩;refine Yi ?_ ?_
 .intro h;have h:(i:Int)<(s.size:Nat):=h;have h:i<s.data.toList.length:=by omega
  refine Xi s.data.toList[i] (Yi ⟨by omega,by grind⟩ ?_);have hc:=hf s.data.toList[i];refine Bs (Bt (q s.data.toList[i])) (fun e=>?_) (fun e=>?_)
  .rw[e]at hc;refine Xi .pure (Xi _ (Yi (hc) (Yi (by grind [AQ]) (Xi ⟨i+1,by omega,fun j hj Jy=>?_⟩ ?_))))
   .grind
   .exact⟨by grind,Z4,Tv,Fh,Tv⟩
  .rw[e]at hc;refine Xi .pure (Xi _ (Yi (hc) ?_));have er:s.data.toList.all q=false:=by
    grind
   exact .of_eq (Aa vb er.symm)
 .intro h;have h:¬(i:Int)<(s.size:Nat):=h;have er:s.data.toList.all q=true:=AF.2 fun c hc=>by
   grind [List.getElem_of_mem]
  exact .of_eq (Aa vb er.symm)
theorem cU{cx:Cx}{st:St}{K:LS -> Prop}(t:List (Nat×AV))(h:List (Nat×HO))(h1:ui st (LS.st ⟨t,h,Ab⟩).h t)(h2:uh st (LS.st ⟨t,h,Ab⟩).h h)(k:K ⟨t,h,Ab⟩)
    (h3:match cx.ext with | false => True | true => ∀j,1000 <= j -> j<2000 -> st.h j ≠ .free -> (LS.st ⟨t,h,Ab⟩).h j ≠ .free := by first | exact trivial | exact Be aa0):∃s,St.le cx st s /\ K s := ⟨_,⟨h1,h2,fun _ => .inl rfl,h3⟩,k⟩
end Go.Eng
