/- Lemmas 17. -/
import Derived.Test.YtkjhcikodmiceaaGreatDoorCA16
namespace Go.Eng
open Go.Proofs Go.Proofs.Tryz
abbrev Aq7:=List V
variable {nm:CS->CS}{l r:Aq7}{α:Type}{t:V}{k:Nat}(x:List F)(a:Aq7)(ifs:C0)(s:CS)(c:UInt8)(roots:List Rq)(b:Aq7)(d:List (Aq7))(p:CS)(i:Nf)
theorem Aem(l:Aq7)(hl:CC l)(Ec:l≠[]):A1 prog 345 [sl E l] (Ah [] Ab) fun r h'=>r=.msl 2000 l.length/\h'=Ah [(2000,.arr 3 (l.map E))] Ab:=by
 refine Bv (Ky (pla [(5,3)] [])) [(5,2000)] rfl BO hm rfl func345 aa5 rfl C4 aa5 rfl ?_;have El:Cq 3 (l.map E)/\([]:C0).length=0/\(([]:C0).length+(l.map E).length)*48<=2^47/\([]:C0).length+(l.map E).length<=2^63-1:=by
  grind [DK]
 refine J ?_ ?_
 .intro _;refine J El ?_;have e1:AV.msl 2000 (([]:C0).length+(l.map E).length)=.msl 2000 l.length:=aa1
  refine M (.msl 2000 (([]:C0).length+(l.map E).length)) (J (.refl _) (J e1 ?_))
  rfl
 .intro h;exact absurd (DR.1 h) Ec
theorem AaQ(x:V)(p:CS):PC 343 [.agg (E x),.cptr [vs p]] (Q (decide (x.path=p))):=by
 refine Ps CF func343 rfl C4 (J ?_ ?_)
 .intro h;rw[Aq h];exact .refl _
 .intro h;rw[Al h];exact .refl _
theorem Ov{p:CS}:∀{c:Aq7} {i:Nat},(EE c).Nodup->∀(hi:i<c.length),c[i].path=p->c.eraseIdx i=FY c p
 |t::c,0,hn,_,h=>by
  grind [EE,FY,List.filter_eq_self]
 |t::c,i+1,hn,hi,h=>by
  have hi:i<c.length:=aa2
  have h:c[i].path=p:=h;unfold EE at hn;rw[A7,Gm]at hn
  have:t.path≠p:=fun e=>hn.1 aa0
  have ih:=Ov hn.2 hi h
  grind [FY]
theorem RN{c:Aq7}(hl:CC l)(h:CK l=some c):CC c:=by
 have h1:=Pp l l.length (Af _);rw[IV]at h1;have h2:c=(Fl l).filter fun t=>!G6 t:=by
  grind [CK]
 have h3:c.length<=(Fl l).length:=aa2
 have h4:(Fl l).length=(Df l).length:=by
  grind [List.perm_ext_iff_of_nodup,No,H6,Ih,Ed,Ju,List.Perm.length_eq]
 omega
abbrev xG:AV:=.tup [.agg gc,nzA,Q false]
abbrev Aa6:Of:=⟨[3],[],[],[],[],[],[],[],[(30,0),(34,1)],[],[]⟩
theorem qm(l:Aq7)(p:CS)(hl:CC l)(hs:∀t∈l,CC t.set)(hn:Fo l p=none):PC 296 [sl E l,vs p] xG:=by
 have hc:=c29 l hl hs;unfold Fo at hn;cases e:CK l with
 |none=>
  have e1:LA l=.tup [sl E [],Q false]:=by grind [So]
  rw[e1]at hc;have hi:=vU (CX.ptr [vs p]) [] (fun x=>decide (x.path=p)) (fun x _=>AaQ x p) aa1;refine Ps Aa6 func296 rfl C4 (C1 (H (hc) (C1 (H (hi) (J C4 (U ?_))))));exact .refl _
 |some c=>
  rw[e]at hn;have hn:(match Di c p with | none=>none | some t=>some (t,FY c p))=none:=hn;have hfn:Di c p=none:=by
   grind
  have e1:LA l=.tup [sl E c,Q true]:=by grind [So]
  rw[e1]at hc;have zD:=RN hl e;have hi:=vU (CX.ptr [vs p]) c (fun x=>decide (x.path=p)) (fun x _=>AaQ x p) I;have hid:KI (fun x:V=>decide (x.path=p)) c 0=-1:=by
   grind [Nb,Di]
  rw[hid]at hi;refine Ps Aa6 func296 rfl C4 (C1 (H (hc) (C1 (H (hi) (J ?_ ?_)))))
  .intro _;refine J C4 (U ?_);exact .refl _
  .intro h;exact absurd (show(-1:Int)<0 by decide) h
abbrev Acj:Of:=⟨[3],[],[],[],[],[],[],[],[(30,0),(34,2)],[],[]⟩
theorem qn(l:Aq7)(p:CS)(hl:CC l)(hs:∀t∈l,CC t.set)(hn:Fo l p=some (t,r)) :
  A1 prog 296 [sl E l,vs p] (Ah [] Ab) fun v h'=>v=.tup [.agg (E t),.msl 2000 r.length,Q true]/\h'=Ah [(2000,.arr 3 (r.map E))] Ab:=by
 have hc:=c29 l hl hs;unfold Fo at hn;cases e:CK l with
 |none=>simp_all
 |some c=>
  rw[e]at hn;have hn:(match Di c p with | none=>none | some t=>some (t,FY c p))=some (t,r):=hn;have hft:Di c p=some t/\FY c p=r:=by
   grind
  have e1:LA l=.tup [sl E c,Q true]:=by grind [So]
  rw[e1]at hc;have zD:=RN hl e;have hi:=vU (CX.ptr [vs p]) c (fun x=>decide (x.path=p)) (fun x _=>AaQ x p) I;rcases Nb (p:=fun x:V=>decide (x.path=p)) c 0 with ⟨_,h2⟩ | ⟨i,x,h1,h2,h3⟩
  .grind [Di]
  have hx:x=t:=by
   grind [Di]
  subst hx;rw[h1,Gq]at hi;obtain⟨hic,hie⟩:=AN.1 h2;have her:c.eraseIdx i=r:=by
   rw[<-hft.2];exact Ov (Ih (EI e)) hic aa2
  have hlr:c.length-1=r.length:=aa2
  have Ec:c≠[]:=fun h=>by simp_all
  have Api:c.length<=2^30:=zD;refine Bv (Ky Acj) [(13400,2000)] rfl BO hm rfl func296 aa5 rfl C4 aa5 rfl (C1 (H (hc) (C1 (H (hi) (J ?_ ?_)))))
  .intro h;omega
  intro _;have hg:(c.map E)[((i:Nat):Int).toNat]?=some (E x):=aa0
  refine M (E x) (J (J I hg) (J rfl (U (M c.length (M 3 (M (c.map E) (J rfl (J (Aem c zD Ec) (J (by grind [As]) (M (c.length-1) (M ((c.eraseIdx i).map E) (J rfl (J (Aj3 c i hic) (U (J aa5 (U ?_))))))))))))))));have e2:AV.tup [.agg (E x),.msl 2000 (c.length-1),Q true]=.tup [.agg (E x),.msl 2000 r.length,Q true]:=by rw[hlr]
  have e3:Ah [(2000,HO.arr 3 ((c.eraseIdx i).map E))] Ab=Ah [(2000,.arr 3 (r.map E))] Ab:=by rw[her]
  exact H (.refl _) (J e2 e3)
abbrev lD:Of:=⟨[],[],[],[],[],[],[],[],[],[(24,9),(30,12)],[2,3,5,6]⟩
abbrev Ag7:AV:=.tup [sl E (Bc a b p).1,G (Bc a b p).2]
theorem Zq{p:CS}(h:Fo l p=some (t,r)):∃c,CK l=some c/\t∈c/\r=FY c p:=by
 grind [Fo,GI]
theorem Zs{p:CS}(hl:CC l)(h:Fo l p=some (t,r)):CC t.set/\CC r/\∀u∈r,CC u.set:=by
 obtain⟨c,h1,h2,rfl⟩:=Zq h;have hs:=EI h1
 grind [Uv,RN,FY,BI.canon]
theorem qr{c:Aq7}(h:CK l=some c):c.length<=l.length:=by
 have h1:=Pp l l.length (Af _);rw[IV]at h1;have h2:c=(Fl l).filter fun t=>!G6 t:=by
  grind [CK]
 have h3:c.length<=(Fl l).length:=aa2
 grind [List.perm_ext_iff_of_nodup,No,H6,Ih,Ed,Ju,List.Perm.length_eq]
theorem Zt{p:CS}(h:Fo l p=some (t,r)):r.length<=l.length:=by
 obtain⟨c,h1,h2,rfl⟩:=Zq h;have h3:(FY c p).length<=c.length:=CW _ _
 have:=qr h1
 omega
theorem ng(a b:AY):CC (Rk a b):=by
 grind [Io,fP]
theorem Aeh(ha:a.length<=500000000)(hb:b.length<=500000000)(hsa:∀t∈a,CC t.set)(hsb:∀t∈b,CC t.set):PC 230 [sl E a,sl E b,vs p] (Ag7 a b p):=by
 have zC:CC a:=I
 have ip:CC b:=I
 have er:∀{l:Aq7} {e:Int},Bc a b p=(l,e)->Ag7 a b p=.tup [sl E l,G e]:=fun h=>by simp_all
 have e0:Da (.tup [nzA,G 1]) (.tup [.slice .none [],G 1]):=Da.tup ⟨.nil,.refl _,trivial⟩;cases h1:Fo a p with
 |none=>
  have hr:Bc a b p=([],1):=by grind [Bc]
  have c1:=qm a p zC hsa h1;cases h2:Fo b p with
  |none=>
   have c2:=qm b p ip hsb h2;refine Ps lD func230 rfl C4 (C1 (H (c1) (U (M ⟨[(1,sl E b),(2,vs p),(8,.ref 8 0),(9,nzA),(10,Q false)],[(8,.cells gc)],Ab⟩ (J ⟨Z5,Z1,Fh,X⟩ (C1 (H (c2) (U (M ⟨[(8,.ref 8 0),(9,nzA),(10,Q false),(11,.ref 11 0),(12,nzA),(13,Q false)],[(8,.cells gc),(11,.cells gc)],Ab⟩ (J ⟨Z6,Z2,Fh,X⟩ ?_))))))))))
   exact e0.trans (.of_eq (er hr).symm)
  |some q2=>
   obtain⟨t2,r2⟩:=q2;have c2:=qn b p ip hsb h2;refine Ps lD func230 rfl C4 (C1 (H (c1) (U (M ⟨[(1,sl E b),(2,vs p),(8,.ref 8 0),(9,nzA),(10,Q false)],[(8,.cells gc)],Ab⟩ (J ⟨Z5,Z1,Fh,X⟩ ?_)))))
   have z2:r2.length=(r2.map E).length:=aa0
   refine M (.gen [] 1) (J rfl (c2.imp ?_));intro v2 g2 q2;have q21:=q2.1;have q22:=q2.2;subst q21;subst q22;refine U (M ⟨[(8,.ref 8 0),(9,nzA),(10,Q false),(11,.ref 11 0),(12,.msl 12600 r2.length),(13,Q true)],[(8,.cells gc),(11,.cells (E t2)),(12600,.arr 3 (r2.map E))],Ab⟩ (J ⟨Z6,Z3,Fh,X⟩ (J z2 ?_)));exact e0.trans (.of_eq (er hr).symm)
 |some q1=>
  obtain⟨t1,r1⟩:=q1;have c1:=qn a p zC hsa h1;obtain⟨f1,f2,f3⟩:=Zs zC h1;cases h2:Fo b p with
  |none=>
   have hr:Bc a b p=([],1):=by grind [Bc]
   have c2:=qm b p ip hsb h2;refine Ps lD func230 rfl C4 (M (.gen [] 1) (J rfl (c1.imp ?_)));intro v1 g1 q1;have xX:=q1.1;have iZ:=q1.2;subst xX;subst iZ;refine U (M ⟨[(1,sl E b),(2,vs p),(8,.ref 8 0),(9,.msl 11900 r1.length),(10,Q true)],[(8,.cells (E t1)),(11900,.arr 3 (r1.map E))],Ab⟩ (J ⟨Z5,Z2,Fh,X⟩ ?_))
   have z1:r1.length=(r1.map E).length:=aa0
   refine J z1 (C1 (H (c2) (U (M ⟨[(8,.ref 8 0),(9,.slice (.id 11900 3) (r1.map E)),(10,Q true),(11,.ref 11 0),(12,nzA),(13,Q false)],[(8,.cells (E t1)),(11,.cells gc),(11900,.tok 3 (r1.map E).length)],Ab⟩ (J ⟨Z6,Z3,Fh,X⟩ ?_)))))
   exact e0.trans (.of_eq (er hr).symm)
  |some q2=>
   obtain⟨t2,r2⟩:=q2;have c2:=qn b p ip hsb h2;obtain⟨g1,g2,g3⟩:=Zs ip h2;refine Ps lD func230 rfl C4 (M (.gen [] 1) (J rfl (c1.imp ?_)));intro v1 g1 q1;have xX:=q1.1;have iZ:=q1.2;subst xX;subst iZ;refine U (M ⟨[(1,sl E b),(2,vs p),(8,.ref 8 0),(9,.msl 11900 r1.length),(10,Q true)],[(8,.cells (E t1)),(11900,.arr 3 (r1.map E))],Ab⟩ (J ⟨Z5,Z2,Fh,X⟩ ?_))
   have z1:r1.length=(r1.map E).length:=aa0
   have z2:r2.length=(r2.map E).length:=aa2
   refine J z1 (M (.gen [] 1) (J rfl (c2.imp ?_)));intro v2 g2 q2;have q21:=q2.1;have q22:=q2.2;subst q21;subst q22;refine U (M ⟨[(8,.ref 8 0),(9,.slice (.id 11900 3) (r1.map E)),(10,Q true),(11,.ref 11 0),(12,.msl 12600 r2.length),(13,Q true)],[(8,.cells (E t1)),(11,.cells (E t2)),(11900,.tok 3 (r1.map E).length),(12600,.arr 3 (r2.map E))],Ab⟩ (J ⟨Z6,Z4,Fh,X⟩ (J z2 (M ⟨[(8,.ref 8 0),(9,.slice (.id 11900 3) (r1.map E)),(11,.ref 11 0),(12,.slice (.id 12600 3) (r2.map E))],[(8,.cells (E t1)),(11,.cells (E t2)),(11900,.tok 3 (r1.map E).length),(12600,.tok 3 (r2.map E).length)],Ab⟩ (J ⟨Z4,Z4,Fh,X⟩ ?_)))))
   have l1:=Zt h1;have l2:=Zt h2;have b1:Cq 3 (r2.map E)/\(r1.map E).length=(r1.map E).length/\((r1.map E).length+(r2.map E).length)*48<=2^47/\(r1.map E).length+(r2.map E).length<=2^63-1:=
    ⟨DK (enc:=E) (n:=3) (fun _=>rfl) r2,rfl,by omega,by omega⟩
   refine J b1 (J C4 (U (H (AiW t1 t2 f1 g1) ?_)));have b2:Cq 3 [E (Dd t1 t2)]/\(r1.map E++r2.map E).length=(r1.map E).length+(r2.map E).length/\((r1.map E++r2.map E).length+[E (Dd t1 t2)].length)*48<=2^47/\(r1.map E++r2.map E).length+[E (Dd t1 t2)].length<=2^63-1:=
    ⟨⟨rfl,trivial⟩,by grind,by grind,by grind⟩
   refine J b2 ?_;have zA:=c29 (r1++r2++[Dd t1 t2]) aa2 (fun u hu=>by
    rcases Bh.1 hu with hu | hu
    .grind
    .rw[AA.1 hu];exact ng _ _)
   have e1:sl E (r1++r2++[Dd t1 t2])=.slice .none (r1.map E++r2.map E++[E (Dd t1 t2)]):=aa1
   have hc1:PC 297 [.slice .none (r1.map E++r2.map E++[E (Dd t1 t2)])] (LA (r1++r2++[Dd t1 t2])):=e1▸zA;cases hcn:CK (r1++r2++[Dd t1 t2])with
   |none=>
    have hr:Bc a b p=([],8):=by grind [Bc]
    have ec:LA (r1++r2++[Dd t1 t2])=.tup [sl E [],Q false]:=by grind [So]
    have hc:PC 297 [.slice .none (r1.map E++r2.map E++[E (Dd t1 t2)])] (.tup [sl E [],Q false]):=ec▸hc1;have e8:Da (.tup [nzA,G 8]) (.tup [.slice .none [],G 8]):=Da.tup ⟨.nil,.refl _,trivial⟩;refine H (hc) (J aa5 (M ⟨[(14,sl E []),(15,Q false)],[],Ab⟩ (J ⟨Z2,X,Fh,X⟩ ?_)))
    exact e8.trans (.of_eq (er hr).symm)
   |some o=>
    have hr:Bc a b p=(o,0):=by grind [Bc]
    have ec:LA (r1++r2++[Dd t1 t2])=.tup [sl E o,Q true]:=by grind [So]
    have hc:PC 297 [.slice .none (r1.map E++r2.map E++[E (Dd t1 t2)])] (.tup [sl E o,Q true]):=ec▸hc1;refine H (hc) (J aa5 (M ⟨[(14,sl E o),(15,Q true)],[],Ab⟩ (J ⟨Z2,X,Fh,X⟩ ?_)))
    exact .of_eq (er hr).symm
def kh(h s:Nat->HO):Nat->Bool
 |0=>true
 |n+1=>(match h (1000+n)with |.free=>true |_=>(match s (1000+n)with |.free=>false |_=>true))&&kh h s n
theorem Vp{h s:Nat->HO}:∀{n:Nat},kh h s n=true->∀j,j<n->h (1000+j)≠.free->s (1000+j)≠.free
 |n+1,hd,j,hj,hn=>by
  simp only[kh,Ao]at hd;rcases BR j n with h1 | h1
  .exact Vp hd.2 j h1 hn
  grind
theorem AX{h s:Nat->HO}(hd:kh h s 1000=true):∀j,1000<=j->j<2000->h j≠.free->s j≠.free:=fun j h1 h2=>by
 have:=Vp hd (j-1000) I
 simp_all
abbrev ckC:List AV:=[sl Ay x,.slice .none ifs,sl Ak roots,.slice (.id 1001 1) (d.map BD)]
abbrev gQ:HO:=.cells (ckC x ifs roots d)
abbrev js:HO:=.tok 1 (d.map BD).length
abbrev Xr:List (Nat×HO):=[(1000,gQ x ifs roots d),(1001,js d)]
abbrev pN:List AV:=[vs ⟨#[]⟩,G 0,G 0,G 0,nzA,vs ⟨#[]⟩,vs ⟨#[]⟩,vs ⟨#[]⟩,Q false]
abbrev OK:Option F->AV
 |some r=>.tup [.agg (Ay r),Q true]
 |none=>.tup [.agg pN,Q false]
theorem qP{p:α->Bool}{l:List α}{i:Nat}(hi:i<l.length)(hb:∀j (hj:j<l.length),j<i->p l[j]=false)(h:p l[i]=true):l.find? p=some l[i]:=by
 grind [List.find?_eq_some_iff_getElem]
theorem nk{p:α->Bool}{l:List α}(hb:∀j (hj:j<l.length),p l[j]=false):l.find? p=none:=by
 grind [List.getElem_of_mem]
theorem AiR(pl:Int)(hx:CC x) :
  A1 prog 358 [.ref 1000 0,vs p,G pl] (Ah (Xr x ifs roots d) Ab) fun r h'=>r=OK (FC x p pl)/\h'=Ah (Xr x ifs roots d) Ab:=by
 unfold CC at hx;refine Bv (Ky (FX [4])) [(1000,1000),(1001,1001)] rfl BO hm rfl func358 aa5 rfl C4 aa5 rfl (M {i:Nat // i<=x.length/\∀j (hj:j<x.length),j<i->(decide (x[j].path=p)&&decide (plc x[j].ver=pl))=false} (M (fun i=>⟨[(1,vs p),(2,G pl),(6,.ref 6 0),(16,sl Ay x),(17,G (x.map Ay).length),(18,G i.1)],[(6,.cells pN),(1000,gQ x ifs roots d),(1001,js d)],Ab⟩) (M (fun i=>x.length-i.1) (J (M ⟨0,Ai _,fun j _ h=>by omega⟩ ?_) ?_))))
 .exact⟨Z6,Z3,Fh,AX aa5⟩
 intro⟨i,h1,h2⟩;refine J ?_ ?_
 .intro h;have h:(i:Int)<(x.map Ay).length:=h;have h:i<x.length:=aa0
  have hg:x[i]?=some x[i]:=Ge h;refine M (Ay x[i]) (J (J I aa0) (J rfl ?_));refine J C4 (U (M ⟨[(1,vs p),(2,G pl),(6,.ref 6 0),(9,.ref 9 0),(16,sl Ay x),(17,G (x.map Ay).length),(18,G i)],[(6,.cells pN),(9,.cells (Ay x[i])),(1000,gQ x ifs roots d),(1001,js d)],Ab⟩ (J ⟨Z7,Z4,Fh,AX aa5⟩ (U (C1 (H (c56 x[i].ver) ?_))))));have next:(decide (x[i].path=p)&&decide (plc x[i].ver=pl))=false->∀j (hj:j<x.length),j<i+1->(decide (x[j].path=p)&&decide (plc x[j].ver=pl))=false:=fun hf j hj IY=>by
   grind
  refine J ?_ ?_
  .intro hp;have hp:x[i].path=p:=hp;refine J ?_ ?_
   .intro hq;have hq:plc x[i].ver=pl:=hq;have hr:FC x p pl=some x[i]:=qP h (fun j hj IY=>h2 j hj IY) aa0;refine J C4 (J C4 (U ?_));have e:AV.tup [.agg (Ay x[i]),Q true]=OK (FC x p pl):=by rw[hr]
    exact H (.refl _) (J e rfl)
   .intro hq;have hq:¬plc x[i].ver=pl:=hq;refine J (by grind [As]) (M ⟨i+1,by omega,next aa0⟩ ?_)
    exact⟨by grind,Z6,Z3,Fh,AX aa5⟩
  .intro hp;have hp:¬x[i].path=p:=hp;refine J (by grind [As]) (M ⟨i+1,by omega,next aa0⟩ ?_)
   exact⟨by grind,Z6,Z3,Fh,AX aa5⟩
 .intro h;have h:¬(i:Int)<(x.map Ay).length:=h;have h:¬i<x.length:=aa0
  have hr:FC x p pl=none:=nk fun j hj=>h2 j hj I;have e:AV.tup [.agg pN,Q false]=OK (FC x p pl):=by rw[hr]
  refine J C4 (U ?_);exact H (.refl _) (J e rfl)
abbrev K4:Option (Aq7)->AV
 |some t=>.tup [sl E t,Q true]
 |none=>.tup [sl E [],Q false]
theorem L1:Da (.tup [nzA,Q false]) (K4 none):=Da.tup ⟨.nil,.refl _,trivial⟩
theorem QO{l:List α}{i:Int}(h:i<0):E5 l i=none:=by grind [E5]
theorem QN{l:List α}{i:Int}(h:(l.length:Int)<=i):E5 l i=none:=by
 grind [E5]
theorem UE{l:List α}{i:Int}(h0:¬i<0)(h:¬(l.length:Int)<=i):∃x,E5 l i=some x/\l[i.toNat]?=some x/\x∈l:=by
 have hl:i.toNat<l.length:=I
 exact⟨l[i.toNat],by grind [E5],Ge hl,Am hl⟩
theorem AiF(hr:∀q∈roots,CC q.set) :
  A1 prog 315 [.ref 1000 0,.agg (A8 i)] (Ah (Xr x ifs roots d) Ab) fun r h'=>r=K4 ((E5 roots i.number).map Ib)/\h'=Ah (Xr x ifs roots d) Ab:=by
 refine Bv (Ky CF) [(1000,1000),(1001,1001)] rfl BO hm rfl func315 aa5 rfl C4 aa5 rfl ?_;have XB:E5 roots i.number=none->AV.tup [sl E [],Q false]=K4 ((E5 roots i.number).map Ib):=fun h=>by simp_all
 refine J ?_ ?_
 .intro h;have h:i.number<0:=h;have e:=XB (QO h);refine J aa5 ?_;exact H L1 (J e rfl)
 .intro h;have h:¬i.number<0:=h;refine J ?_ ?_
  .intro h2;have h2:((roots.map Ak).length:Int)<=i.number:=h2;have e:=XB (QN aa0);refine J aa5 ?_;exact H L1 (J e rfl)
  .intro h2;have h2:¬((roots.map Ak).length:Int)<=i.number:=h2;refine J aa5 (AE (UE h (by rw[Lm]at h2;exact h2)) (fun q hq=>?_));have hg:(roots.map Ak)[i.number.toNat]?=some (Ak q):=FB hq.2.1;refine M (Ak q) (J (J I hg) (J rfl (U (H (Aee q (hr q hq.2.2)) (J aa5 ?_)))));have e:AV.tup [sl E (Ib q),Q true]=K4 ((E5 roots i.number).map Ib):=aa0
   exact H (.refl _) (J e rfl)
theorem lE(v:Ver):0<=plc v/\plc v<10^6:=by
 unfold plc;cases h:Cf v with
 |true=>exact JQ h
 |false=>simp
theorem tG{x:List F}{p:CS}{pl:Int}{r:F}(h:FC x p pl=some r):r∈x/\r.path=p/\plc r.ver=pl:=by
 grind [FC]
theorem ll(h:¬(0:Int)<(l.map E).length):AV.tup [sl E l,Q false]=K4 (ne0 l):=by
 cases l with
 |nil=>rfl
 |cons a l=>simp_all
theorem d7(h:(0:Int)<(l.map E).length):AV.tup [sl E l,Q true]=K4 (ne0 l):=by
 cases l with
 |nil=>simp_all
 |cons a l=>rfl
abbrev jc:Option (Aq7):=match FC x i.path i.place with
 |none=>none
 |some r=>match E5 r.reqs i.number with
  |none=>none
  |some q=>ne0 (Dc i.path i.place q)
theorem AiH(hx:CC x)(hr:∀r∈x,∀q∈r.reqs,CC q.set) :
  A1 prog 317 [.ref 1000 0,.agg (A8 i)] (Ah (Xr x ifs roots d) Ab) fun r h'=>r=K4 (jc x i)/\h'=Ah (Xr x ifs roots d) Ab:=by
 have hc:=AiR x ifs roots d i.path i.place hx;cases h1:FC x i.path i.place with
 |none=>
  rw[h1]at hc;have e:AV.tup [sl E [],Q false]=K4 (jc x i):=aa2
  refine Bv (Ky (FX [2])) [(1000,1000),(1001,1001)] rfl BO hm rfl func317 aa5 rfl C4 aa5 rfl (M (.gen [(1000,1000),(1001,1001)] 0) (J rfl (hc.imp ?_)));intro v1 g1 q1;have xX:=q1.1;have iZ:=q1.2;subst xX;subst iZ;refine U (M ⟨[(0,.ref 1000 0),(3,.ref 3 0),(6,.ref 6 0),(7,Q false)],[(3,.cells (A8 i)),(6,.cells pN),(1000,gQ x ifs roots d),(1001,js d)],Ab⟩ (J ⟨Z4,Z4,Fh,AX aa5⟩ ?_))
  exact H L1 (J e rfl)
 |some r=>
  rw[h1]at hc;obtain⟨m1,m2,m3⟩:=tG h1;have hpl:=lE r.ver;rw[m3]at hpl;have er:jc x i=match E5 r.reqs i.number with | none=>none | some q=>ne0 (Dc i.path i.place q):=aa2
  have XB:E5 r.reqs i.number=none->AV.tup [sl E [],Q false]=K4 (jc x i):=fun h=>by simp_all
  refine Bv (Ky (FX [2,4,5])) [(1000,1000),(1001,1001)] rfl BO hm rfl func317 aa5 rfl C4 aa5 rfl (M (.gen [(1000,1000),(1001,1001)] 0) (J rfl (hc.imp ?_)));intro v1 g1 q1;have xX:=q1.1;have iZ:=q1.2;subst xX;subst iZ;refine U (M ⟨[(0,.ref 1000 0),(3,.ref 3 0),(6,.ref 6 0),(7,Q true)],[(3,.cells (A8 i)),(6,.cells (Ay r)),(1000,gQ x ifs roots d),(1001,js d)],Ab⟩ (J ⟨Z4,Z4,Fh,AX aa5⟩ (J ?_ ?_)))
  .intro h;have e:=XB (QO h);exact H L1 (J e rfl)
  .intro h;refine J ?_ ?_
   .intro h2;have e:=XB (QN aa0);exact H L1 (J e rfl)
   .intro h2;refine AE (UE h (by rw[Lm]at h2;exact h2)) (fun q hq=>?_);have hg:(r.reqs.map Ak)[i.number.toNat]?=some (Ak q):=FB hq.2.1;refine M ⟨[(3,.ref 3 0),(6,.ref 6 0)],[(3,.cells (A8 i)),(6,.cells (Ay r)),(1000,gQ x ifs roots d),(1001,js d)],Ab⟩ (J ⟨Z2,Z4,Fh,AX aa5⟩ (M (Ak q) (J (J I hg) (J rfl (U (H (Aef i.path i.place q (by grind [As]) (hr r m1 q hq.2.2)) (J aa5 ?_)))))));have eq:jc x i=ne0 (Dc i.path i.place q):=aa0
    refine M ⟨[(8,sl E (Dc i.path i.place q))],[(1000,gQ x ifs roots d),(1001,js d)],Ab⟩ (J ⟨Z1,Z2,Fh,AX aa5⟩ (J ?_ ?_))
    .intro h3;have e:AV.tup [sl E (Dc i.path i.place q),Q true]=K4 (jc x i):=by grind [d7]
     exact H (.refl _) (J e rfl)
    .intro h3;have e:AV.tup [sl E (Dc i.path i.place q),Q false]=K4 (jc x i):=by grind [ll]
     exact H (.refl _) (J e rfl)
abbrev mB(t:Aq7):Prop:=t.length<=500000000/\∀u∈t,CC u.set
theorem yb{a b:Aq7}{p:CS}(h:(Bc a b p).2≠0):(Bc a b p).1=[]:=by
 grind [Bc]
abbrev fy:Option (Aq7):=match E5 d i.left,E5 d i.right with
 |some a,some b=>if(Bc a b i.path).2=0 then some (Bc a b i.path).1 else none
 |_,_=>none
theorem tK{d:List (Aq7)}{i:Nf}(h:E5 d i.left=none):fy d i=none:=aa2
theorem tM{d:List (Aq7)}{i:Nf}(h:E5 d i.right=none):fy d i=none:=aa2
theorem AiL(hi:∀t∈d,mB t) :
  A1 prog 321 [.ref 1000 0,.agg (A8 i)] (Ah (Xr x ifs roots d) Ab) fun r h'=>r=K4 (fy d i)/\h'=Ah (Xr x ifs roots d) Ab:=by
 have XB:fy d i=none->AV.tup [sl E [],Q false]=K4 (fy d i):=fun h=>by rw[h]
 refine Bv (Ky (FX [2,4,5])) [(1000,1000),(1001,1001)] rfl BO hm rfl func321 aa5 rfl C4 aa5 rfl (M ⟨[(0,.ref 1000 0),(3,.ref 3 0),(6,G (d.map BD).length)],[(3,.cells (A8 i)),(1000,gQ x ifs roots d),(1001,js d)],Ab⟩ (J ⟨Z3,Z3,Fh,AX aa5⟩ (J ?_ ?_)))
 .intro h;have e:=XB (tK (QO h));exact H L1 (J e rfl)
 intro h;refine J ?_ ?_
 .intro h2;have e:=XB (tK (QN aa0));exact H L1 (J e rfl)
 intro h2;refine J ?_ ?_
 .intro h3;have e:=XB (tM (QO h3));exact H L1 (J e rfl)
 intro h3;refine J ?_ ?_
 .intro h4;have e:=XB (tM (QN aa0));exact H L1 (J e rfl)
 intro h4;refine AE (UE h (by rw[Lm]at h2;exact h2)) (fun a ha=>?_);refine AE (UE h3 (by rw[Lm]at h4;exact h4)) (fun b hb=>?_);have ga:(d.map BD)[i.left.toNat]?=some (BD a):=FB ha.2.1;have gb:(d.map BD)[i.right.toNat]?=some (BD b):=FB hb.2.1;have zC:=hi a ha.2.2;have ip:=hi b hb.2.2;have hc:=Aeh a b i.path zC.1 ip.1 zC.2 ip.2;have er:fy d i=if(Bc a b i.path).2=0 then some (Bc a b i.path).1 else none:=aa2
 refine M ⟨[(0,.ref 1000 0),(3,.ref 3 0)],[(3,.cells (A8 i)),(1000,gQ x ifs roots d),(1001,js d)],Ab⟩ (J ⟨Z2,Z3,Fh,AX aa5⟩ (M (BD a) (J (J I ga) (J rfl (M (BD b) (J (J I gb) (J rfl (H (hc) (J aa5 (M ⟨[(7,sl E (Bc a b i.path).1),(8,G (Bc a b i.path).2)],[(1000,gQ x ifs roots d),(1001,js d)],Ab⟩ (J ⟨Z2,Z2,Fh,AX aa5⟩ (J ?_ ?_))))))))))))
 .intro h5;have e:AV.tup [sl E (Bc a b i.path).1,Q true]=K4 (fy d i):=aa0
  exact H (.refl _) (J e rfl)
 .intro h5;have e:AV.tup [sl E (Bc a b i.path).1,Q false]=K4 (fy d i):=by grind [yb]
  exact H (.refl _) (J e rfl)
theorem AiE:PC 314 [.agg (A8 i)] (.agg (A8 { i with number:=0 })):=by
 refine Ps CF func314 rfl C4 (J C4 (J C4 (J C4 (U ?_))));exact .refl _
theorem AiG:PC 316 [.agg (A8 i)] (.agg (A8 { i with path:=mt,place:=0,number:=0 })):=by
 refine Ps CF func316 rfl C4 (J C4 (J C4 (J C4 (J C4 (J C4 (U ?_))))));exact .refl _
theorem AiI:PC 318 [.agg (A8 i)] (.agg (A8 { i with path:=mt })):=by
 refine Ps CF func318 rfl C4 (J C4 (J C4 (J C4 (U ?_))));exact .refl _
theorem AiK:PC 320 [.agg (A8 i)] (.agg (A8 { i with path:=mt,left:=0,right:=0 })):=by
 refine Ps CF func320 rfl C4 (J C4 (J C4 (J C4 (J C4 (J C4 (U ?_))))));exact .refl _
theorem Aiq:PC 256 [] (.agg [.v (TG 314),.v (TG 315),.v (TG 316),.v (TG 317),.v (TG 318),.v (TG 319),.v (TG 320),.v (TG 321)]):=by
 refine Ps CF func256 rfl C4 (J C4 (U ?_));exact .refl _
theorem Aed:PC 252 [vs s] (Q false):=by
 refine Ps CF func252 rfl C4 (J ?_ ?_)
 .intro h;exact absurd rfl (show s≠s from h)
 .intro _;exact .refl _
theorem Aek(z:Int):PC 313 [G z] (Q false):=by
 refine Ps CF func313 rfl C4 (J ?_ ?_)
 .intro h;exact absurd rfl (show z≠z from h)
 .intro _;exact .refl _
theorem AiC(a b:CS):PC 175 [vs a,vs b] (G (LG a b)):=by
 refine Ps CF func175 rfl C4 (C1 (H (Aed a) (C1 (H (Aed b) (J ?_ ?_)))))
 .intro h;exact C G (show(-1:Int)=LG a b by grind [LG,Fy])
 .intro h;refine J ?_ ?_
  .intro h2;exact C G (show(1:Int)=LG a b by grind [LG,Fy])
  .intro h2;exact C G (show(0:Int)=LG a b by grind [LG,Fy])
theorem AaJ(a b:Int):PC 253 [G a,G b] (G (HD a b)):=by
 refine Ps CF func253 rfl C4 (C1 (H (Aek a) (C1 (H (Aek b) (J ?_ ?_)))))
 .intro h;exact C G (show(-1:Int)=HD a b by grind [HD])
 .intro h;refine J ?_ ?_
  .intro h2;exact C G (show(1:Int)=HD a b by grind [HD])
  .intro h2;exact C G (show(0:Int)=HD a b by grind [HD])
theorem AiB(a b:Int):PC 174 [.slice .none [[G a],[G b]]] (G (if a≠0 then a else b)):=by
 refine Ps CF func174 rfl C4 (M {i:Nat // i<=2/\(0<i->a=0)/\(1<i->b=0)} (M (fun i=>⟨[(3,G 0),(6,.slice .none [[G a],[G b]]),(7,G 2),(8,G i.1)],[],Ab⟩) (M (fun i=>2-i.1) (J (M ⟨0,by omega,by omega,by omega⟩ ?_) ?_))))
 .exact⟨Z4,X,Fh,X⟩
 intro⟨i,h1,h2,h3⟩;refine J ?_ ?_
 .intro h;have h:(i:Int)<2:=h
  match i,h1,h2,h3,h with
  |0,h1,h2,h3,h=>
   refine M [G a] (J (J (B6 _) rfl) (J rfl (J ?_ ?_)))
   .intro h4;exact C G (AO h4).symm
   .intro h4;refine J (by grind [As]) (M ⟨1,by omega,fun _=>by omega,fun q=>absurd q aa3⟩ ?_);exact⟨by simp_all,Z4,X,Fh,X⟩
  |1,h1,h2,h3,h=>
   have ha:=h2 aa3;refine M [G b] (J (J I rfl) (J rfl (J ?_ ?_)))
   .intro h4;exact C G (AB I).symm
   .intro h4;refine J (by grind [As]) (M ⟨2,by omega,fun _=>ha,fun q=>by omega⟩ ?_);exact⟨by simp_all,Z4,X,Fh,X⟩
  |i+2,h1,h2,h3,h=>omega
 .intro h;have h:¬(i:Int)<2:=h;have ha:=h2 I;have hb:=h3 I;exact C G (show(0:Int)=if a≠0 then a else b by omega)
theorem Ve(a b:Ver)(i:Nat)(hi:i<3)(h:∀j,j<i->HD (part a j) (part b j)=0)(hn:HD (part a i) (part b i)≠0):Vd a b=HD (part a i) (part b i):=by
 unfold Vd
 match i,hi,h,hn with
 |0,_,_,hn=>exact AO hn
 |1,_,h,hn=>
  have h0:HD a.a b.a=0:=h 0 aa3;rw[AB I];exact AO hn
 |2,_,h,hn=>
  have h0:HD a.a b.a=0:=h 0 aa3;have h1:HD a.b b.b=0:=h 1 aa3;rw[AB I,AB I];rfl
theorem qA(a b:Ver)(h:∀j,j<3->HD (part a j) (part b j)=0):Vd a b=0:=by
 unfold Vd;have h0:HD a.a b.a=0:=h 0 aa3;have h1:HD a.b b.b=0:=h 1 aa3;have h2:HD a.c b.c=0:=h 2 aa3;omega
theorem AiD(a b:Ver):PC 176 [.agg (Ir a),.agg (Ir b)] (G (Vd a b)):=by
 refine Ps CF func176 rfl C4 (U (H (AaH a) (U (H (AaH b) (J C4 (U (J aa5 (M {i:Nat // i<=3/\∀j,j<i->HD (part a j) (part b j)=0} (M (fun i=>⟨[(5,.ref 5 0),(6,.ref 6 0),(13,G i.1)],[(5,.cells (Ir a)),(6,.cells (Ir b))],Ab⟩) (M (fun i=>3-i.1) (J (M ⟨0,by omega,fun j h=>by omega⟩ ?_) ?_)))))))))))
 .exact⟨Z3,Z2,Fh,X⟩
 intro⟨i,h1,h2⟩;refine J ?_ ?_
 .intro h;have h:(i:Int)<3:=h;have next:HD (part a i) (part b i)=0->∀j,j<i+1->HD (part a j) (part b j)=0:=fun hz j hj=>by
   grind
  match i,h1,h2,h,next with
  |0,h1,h2,h,next=>
   refine J ⟨by omega,by omega⟩ ?_;refine J ⟨by omega,by omega⟩ ?_;refine H (AaJ (part a 0) (part b 0)) (J aa5 (J ?_ ?_))
   .intro h4;exact C G (Ve a b 0 aa3 h2 h4).symm
   .intro h4;refine J (by grind [As]) (M ⟨1,by omega,next (Gn h4)⟩ ?_)
    exact⟨by simp_all,Z3,Z2,Fh,X⟩
  |1,h1,h2,h,next=>
   refine J ⟨by omega,by omega⟩ ?_;refine J ⟨by omega,by omega⟩ ?_;refine H (AaJ (part a 1) (part b 1)) (J aa5 (J ?_ ?_))
   .intro h4;exact C G (Ve a b 1 aa3 h2 h4).symm
   .intro h4;refine J (by grind [As]) (M ⟨2,by omega,next (Gn h4)⟩ ?_)
    exact⟨by simp_all,Z3,Z2,Fh,X⟩
  |2,h1,h2,h,next=>
   refine J ⟨by omega,by omega⟩ ?_;refine J ⟨by omega,by omega⟩ ?_;refine H (AaJ (part a 2) (part b 2)) (J aa5 (J ?_ ?_))
   .intro h4;exact C G (Ve a b 2 aa3 h2 h4).symm
   .intro h4;have h4:¬HD (part a 2) (part b 2)≠0:=h4;refine J (by grind [As]) (M ⟨3,by omega,next (Gn h4)⟩ ?_)
    exact⟨by simp_all,Z3,Z2,Fh,X⟩
  |i+3,h1,h2,h,next=>omega
 .intro h;have h:¬(i:Int)<3:=h;exact C G (qA a b fun j hj=>h2 j I).symm
theorem Aip(a b:F):PC 99 [.agg (Ay a),.agg (Ay b)] (G (cw a b)):=by
 refine Ps CF func99 rfl C4 (H (AiC a.path b.path) (J C4 (U (H (AiD a.ver b.ver) (H (AiB (LG a.path b.path) (Vd a.ver b.ver)) (J aa5 ?_))))));exact .refl _
abbrev Er:Prop:=s.size<=2^30
abbrev J5(q:Rq):Prop:=CC q.set/\Er q.path
abbrev Jz(r:F):Prop:=Er r.path/\∀q∈r.reqs,J5 q
abbrev Yw(nm:CS->CS)(p:CS):AV:=match AR p with
 |some m=>.tup [vs (nm p),G m,G 0]
 |none=>.tup [vs ⟨#[]⟩,G 0,G 4]
abbrev Xh(nm:CS->CS):Prop:=∀p:CS,Er p->PC 66 [vs p] (Yw nm p)
theorem Xh.none(h:Xh nm){p:CS}(hp:Er p)(e:AR p=.none):PC 66 [vs p] (.tup [vs ⟨#[]⟩,G 0,G 4]):=by
 grind
theorem Xh.some(h:Xh nm){p:CS}{m:Int}(hp:Er p)(e:AR p=.some m):PC 66 [vs p] (.tup [vs (nm p),G m,G 0]):=by
 grind
theorem Ae6(hL:Xh nm)(q:Rq)(hq:CC q.set)(hp:Er q.path):PC 177 [.agg (Ak q),.v (.pointer none)] (G (GS none q)):=by
 cases kM:AR q.path with
 |none=>
  have e:(4:Int)=GS none q:=by grind [GS]
  have hl:=hL.none hp kM;refine Ps CF func177 rfl C4 (C1 (H (hl) (J ?_ ?_)))
  .intro _;exact C G e
  .intro h;exact absurd (show(4:Int)≠0 by decide) h
 |some m=>
  have er:GS none q=if(q.set.isEmpty||!decide (q.set=canon q.set)||false)=true then 1 else 0:=by grind [GS]
  have hl:=hL.some hp kM;have hc:=cr q.set hq;have he:=Ae9 q.set (canon q.set) hq;have wT:∀{n:Int},n=(q.set.map Y).length->n=0->q.set.isEmpty=true:=fun h1 h2=>by
   rw[Lm]at h1;rw[GU];exact AI I
  have rE:¬((q.set.map Y).length:Int)=0->q.set.isEmpty=false:=fun h=>by
   simp_all
  rcases Bt (decide (q.set=canon q.set))with h2 | h2
  .rw[h2]at he;refine Ps (FX []) func177 rfl C4 (C1 (H (hl) (J ?_ ?_)))
   .intro h;exact absurd rfl h
   intro _;refine J ?_ ?_
   .intro h;have e:(1:Int)=GS none q:=aa2
    refine J aa5 ?_;exact C G e
   intro h;have hn:=rE h;refine H (hc) (H (he) (J aa5 ?_));have e:(0:Int)=GS none q:=aa2
   exact C G e
  .rw[h2]at he;refine Ps (FX []) func177 rfl C4 (C1 (H (hl) (J ?_ ?_)))
   .intro h;exact absurd rfl h
   intro _;refine J ?_ ?_
   .intro h;have e:(1:Int)=GS none q:=aa0
    refine J aa5 ?_;exact C G e
   intro h;have hn:=rE h;refine H (hc) (H (he) (J aa5 ?_));have e:(1:Int)=GS none q:=aa0
   exact C G e
theorem Ae7(hL:Xh nm)(q b:Rq)(hq:CC q.set)(hp:Er q.path):PC 177 [.agg (Ak q),.cptr (Ak b)] (G (GS (some b.path) q)):=by
 cases kM:AR q.path with
 |none=>
  have e:(4:Int)=GS (some b.path) q:=by grind [GS]
  have hl:=hL.none hp kM;refine Ps CF func177 rfl C4 (C1 (H (hl) (J ?_ ?_)))
  .intro _;exact C G e
  .intro h;exact absurd (show(4:Int)≠0 by decide) h
 |some m=>
  have er:GS (some b.path) q=if(q.set.isEmpty||!decide (q.set=canon q.set)||!E3 b.path q.path)=true then 1 else 0:=by grind [GS]
  have hl:=hL.some hp kM;have hc:=cr q.set hq;have he:=Ae9 q.set (canon q.set) hq;have wT:∀{n:Int},n=(q.set.map Y).length->n=0->q.set.isEmpty=true:=fun h1 h2=>by
   rw[Lm]at h1;rw[GU];exact AI I
  have rE:¬((q.set.map Y).length:Int)=0->q.set.isEmpty=false:=fun h=>by
   simp_all
  rcases Bt (decide (q.set=canon q.set))with h2 | h2
  .rw[h2]at he;refine Ps (FX []) func177 rfl C4 (C1 (H (hl) (J ?_ ?_)))
   .intro h;exact absurd rfl h
   intro _;refine J ?_ ?_
   .intro h;have e:(1:Int)=GS (some b.path) q:=aa2
    refine J aa5 ?_;exact C G e
   intro h;have hn:=rE h;refine H (hc) (H (he) (J ?_ ?_))
   .intro h3;refine J aa5 ?_;have e:(1:Int)=GS (some b.path) q:=by grind [Fy]
    exact C G e
   .intro h3;have h3:Op.bytesLess b.path.toList q.path.toList=true:=aa2
    refine J aa5 ?_;have e:(0:Int)=GS (some b.path) q:=by grind [Fy]
    exact C G e
  .rw[h2]at he;refine Ps (FX []) func177 rfl C4 (C1 (H (hl) (J ?_ ?_)))
   .intro h;exact absurd rfl h
   intro _;refine J ?_ ?_
   .intro h;have e:(1:Int)=GS (some b.path) q:=aa0
    refine J aa5 ?_;exact C G e
   intro h;have hn:=rE h;refine H (hc) (H (he) (J aa5 ?_));have e:(1:Int)=GS (some b.path) q:=aa0
   exact C G e
abbrev Qc(l:List Rq)(k:Nat):List AV:=((l.map Ak)[k]?).getD []
abbrev Ae3(l:List Rq):Nat->AV
 |0=>.v (.pointer none)
 |k+1=>.cptr (Qc l k)
abbrev JE(l:List Rq):Nat->Option CS
 |0=>none
 |k+1=>(l[k]?).map (·.path)
theorem gO{l:List Rq}(h:k<l.length):Qc l k=Ak l[k]:=by
 grind
theorem cn{l:List Rq}(h:k<l.length):JE l (k+1)=some l[k].path:=by
 simp_all
theorem c65(hL:Xh nm)(l:List Rq)(hs:∀q∈l,J5 q):PC 100 [sl Ak l] (G (Bb l)):=by
 refine Ps (FX []) func100 rfl C4 (J ?_ ?_)
 .intro h;exact C G (show(7:Int)=Bb l by grind [Bb])
 intro h;have hl:l.length<=16:=aa2
 have aw:Bb l=DL none l:=by grind [Bb]
 refine M {i:Nat // i<=l.length/\DL none l=DL (JE l i) (l.drop i)} (M (fun i=>⟨[(0,sl Ak l),(3,Ae3 l i.1),(10,sl Ak l),(11,G (l.map Ak).length),(12,G i.1)],[],Ab⟩) (M (fun i=>l.length-i.1) (J (M ⟨0,Ai _,rfl⟩ ?_) ?_)))
 .exact⟨Z5,X,Fh,X⟩
 intro⟨i,h1,h2⟩;refine J ?_ ?_
 .intro h;have h:i<l.length:=aa0
  have hg:l[i]?=some l[i]:=Ge h;have hd:l.drop i=l[i]::l.drop (i+1):=Bj h;have hq:=hs l[i] (Am h);have hc:PC 177 [.agg (Ak l[i]),Ae3 l i] (G (GS (JE l i) l[i])):=by
   cases i with
   |zero=>exact Ae6 hL _ hq.1 hq.2
   |succ k=>
    rw[cn (by omega:k<l.length)];show PC 177 [_,.cptr (Qc l k)] _;rw[gO (by omega:k<l.length)];exact Ae7 hL _ _ hq.1 hq.2
  have MJ:DL none l=if GS (JE l i) l[i]=0 then DL (some l[i].path) (l.drop (i+1))else GS (JE l i) l[i]:=by rw[h2,hd];rfl
  match i,h1,h2,h,hg,hd,hc,MJ with
  |0,h1,h2,h,hg,hd,hc,MJ=>
   refine M (Ak l[0]) (J (J I aa2) (J rfl (J C4 (J C4 (U (C1 (H (hc) (J ?_ ?_))))))))
   .intro h4;exact C G (show GS (JE l (0)) l[0]=Bb l by omega)
   .intro h4;refine M (Ak l[0]) (J (J I aa2) (J rfl (J (by grind [As]) (M ⟨0+1,by omega,by grind⟩ ?_))));have e1:AV.cptr (Ak l[0])=.cptr (Qc l (0)):=aa2
    exact⟨by show l.length-(0+1)<l.length-(0);omega,⟨Z,⟨e1,rfl⟩,Z,Z,Z,X⟩,X,Fh,X⟩
  |k+1,h1,h2,h,hg,hd,hc,MJ=>
   refine M (Ak l[k+1]) (J (J I (by simp[hg])) (J rfl ?_));refine J C4 (J C4 (U (C1 (H (hc) (J ?_ ?_)))))
   .intro h4;exact C G (show GS (JE l (k+1)) l[k+1]=Bb l by omega)
   .intro h4;refine M (Ak l[k+1]) (J (J I (by simp[hg])) (J rfl ?_));refine J (by show As (((k+1:Nat):Int)+1);unfold As;omega) ?_;refine M ⟨k+1+1,by omega,by grind⟩ ?_;have e1:AV.cptr (Ak l[k+1])=.cptr (Qc l (k+1)):=aa2
    exact⟨by show l.length-(k+1+1)<l.length-(k+1);omega,⟨Z,⟨e1,rfl⟩,Z,Z,Z,X⟩,X,Fh,X⟩
 .intro h;have h:¬i<l.length:=aa0
  have e:(0:Int)=Bb l:=by rw[aw,h2,KM I];rfl
  exact C G e
abbrev wh(r:F):Nat->CS
 |0=>r.arch
 |1=>r.ifc
 |_=>r.cert
theorem Ab3{r:F}(h:∀j,j<3->Dr (wh r j)=true):(Dr r.arch&&Dr r.ifc&&Dr r.cert)=true:=by
 have h0:Dr r.arch=true:=h 0 aa3;have h1:Dr r.ifc=true:=h 1 aa3;have h2:Dr r.cert=true:=h 2 aa3;simp_all
theorem Aio(hL:Xh nm)(r:F)(hr:Jz r):PC 97 [.agg (Ay r)] (G (Eb r)):=by
 cases kM:AR r.path with
 |none=>
  have e:(4:Int)=Eb r:=by grind [Eb]
  have hl:=hL.none hr.1 kM;refine Ps CF func97 rfl C4 (C1 (H (hl) (J ?_ ?_)))
  .intro _;exact C G e
  .intro h;exact absurd (show(4:Int)≠0 by decide) h
 |some m=>
  have er:Eb r=if(!Cf r.ver||!decide (r.ver.a=m))=true then 2 else if Bb r.reqs≠0 then Bb r.reqs else if(Dr r.arch&&Dr r.ifc&&Dr r.cert)=true then 0 else 1:=by grind [Eb]
  have hl:=hL.some hr.1 kM;have hv:=vT r.ver;have hc:=c65 hL r.reqs hr.2;rcases Bt (Cf r.ver)with h2 | h2
  .rw[h2]at hv;refine Ps (FX []) func97 rfl C4 (C1 (H (hl) (J ?_ ?_)))
   .intro h;exact absurd rfl h
   intro _;refine U (C1 (H (hv) (J ?_ ?_)))
   .intro h;have e:(2:Int)=Eb r:=aa0
    exact C G e
   intro h;have h3:r.ver.a=m:=Gn h;have er2:Eb r=if Bb r.reqs≠0 then Bb r.reqs else if(Dr r.arch&&Dr r.ifc&&Dr r.cert)=true then 0 else 1:=aa0
   refine C1 (H (hc) (J ?_ ?_))
   .intro h4;exact C G (show Bb r.reqs=Eb r by omega)
   intro h4;have er3:Eb r=if(Dr r.arch&&Dr r.ifc&&Dr r.cert)=true then 0 else 1:=I
   refine M {i:Nat // i<=3/\∀j,j<i->Dr (wh r j)=true} (M (fun i=>⟨[(41,.slice (.id 41 1) [[vs r.arch],[vs r.ifc],[vs r.cert]]),(42,G 3),(43,G i.1)],[(41,.tok 1 3)],Ab⟩) (M (fun i=>3-i.1) (J (M ⟨0,by omega,fun j h=>by omega⟩ ?_) ?_)))
   .exact⟨Z3,Z1,Fh,X⟩
   intro⟨i,i1,i2⟩;refine J ?_ ?_
   .intro h;have h:(i:Int)<3:=h;have next:Dr (wh r i)=true->∀j,j<i+1->Dr (wh r j)=true:=fun hz j hj=>by
     grind
    match i,i1,i2,h,next with
    |0,i1,i2,h,next=>
     refine M [vs r.arch] (J (J I rfl) (J rfl (J ?_ ?_)))
     .intro h5;refine J ?_ ?_
      .intro h6;have e:(1:Int)=Eb r:=by grind [Dr]
       exact C G e
      .intro h6;refine J (by grind [As]) (M ⟨1,by omega,next (show Dr r.arch=true by grind [Dr])⟩ ?_)
       exact⟨by simp_all,Z3,Z1,Fh,X⟩
     .intro h5;refine J (by grind [As]) (M ⟨1,by omega,next (show Dr r.arch=true by grind [Dr])⟩ ?_)
      exact⟨by simp_all,Z3,Z1,Fh,X⟩
    |1,i1,i2,h,next=>
     refine M [vs r.ifc] (J (J I rfl) (J rfl (J ?_ ?_)))
     .intro h5;refine J ?_ ?_
      .intro h6;have h6:((r.ifc.size:Nat):Int)≠32:=h6;have e:(1:Int)=Eb r:=by grind [Dr]
       exact C G e
      .intro h6;have h6:¬((r.ifc.size:Nat):Int)≠32:=h6;refine J (by grind [As]) (M ⟨2,by omega,next (show Dr r.ifc=true by grind [Dr])⟩ ?_)
       exact⟨by simp_all,Z3,Z1,Fh,X⟩
     .intro h5;have h5:¬((r.ifc.size:Nat):Int)≠0:=h5;refine J (by grind [As]) (M ⟨2,by omega,next (show Dr r.ifc=true by grind [Dr])⟩ ?_)
      exact⟨by simp_all,Z3,Z1,Fh,X⟩
    |2,i1,i2,h,next=>
     refine M [vs r.cert] (J (J I rfl) (J rfl (J ?_ ?_)))
     .intro h5;have h5:((r.cert.size:Nat):Int)≠0:=h5;refine J ?_ ?_
      .intro h6;have h6:((r.cert.size:Nat):Int)≠32:=h6;have e:(1:Int)=Eb r:=by grind [Dr]
       exact C G e
      .intro h6;have h6:¬((r.cert.size:Nat):Int)≠32:=h6;refine J (by grind [As]) (M ⟨3,by omega,next (show Dr r.cert=true by grind [Dr])⟩ ?_)
       exact⟨by simp_all,Z3,Z1,Fh,X⟩
     .intro h5;have h5:¬((r.cert.size:Nat):Int)≠0:=h5;refine J (by grind [As]) (M ⟨3,by omega,next (show Dr r.cert=true by grind [Dr])⟩ ?_)
      exact⟨by simp_all,Z3,Z1,Fh,X⟩
    |i+3,i1,i2,h,next=>omega
   .intro h;have h:¬(i:Int)<3:=h;have e:(0:Int)=Eb r:=by grind [Ab3]
    exact C G e
  .rw[h2]at hv;have e:(2:Int)=Eb r:=aa0
   refine Ps (FX []) func97 rfl C4 (C1 (H (hl) (J ?_ ?_)))
   .intro h;exact absurd rfl h
   intro _;refine U (C1 (H (hv) ?_));exact C G e
theorem AbX{a b:F}(h:a.path=b.path/\a.ver.a=b.ver.a/\a.ver.b=b.ver.b/\a.ver.c=b.ver.c):DJ a=DJ b:=by
 unfold DJ;obtain⟨h1,h2,h3,h4⟩:=h
 have:a.ver=b.ver:=by
  cases ha:a.ver<;>simp_all
 simp_all
theorem nY{a b:F}(h:DJ a=DJ b):a.path=b.path/\a.ver.a=b.ver.a/\a.ver.b=b.ver.b/\a.ver.c=b.ver.c:=by
 grind [DJ]
abbrev vM:Nat->Option F
 |0=>none
 |k+1=>x[k]?
theorem c64(hL:Xh nm)(x:List F)(ifs:C0)(hs:∀r∈x,Jz r):PC 47 [.agg (Ic x ifs)] (G (AU x)):=by
 refine Ps (FX []) func47 rfl C4 (J ?_ ?_)
 .intro h;exact C G (show(7:Int)=AU x by grind [AU])
 intro h;have hl:x.length<=256:=aa2
 have aw:AU x=Em none x:=by grind [AU]
 refine M {i:Nat // i<=x.length/\Em none x=Em (vM x i) (x.drop i)} (M (fun i=>⟨[(1,.ref 1 0),(12,sl Ay x),(13,G (x.map Ay).length),(14,G i.1)],[(1,.cells (Ic x ifs))],Ab⟩) (M (fun i=>x.length-i.1) (J (M ⟨0,Ai _,rfl⟩ ?_) ?_)))
 .exact⟨Z4,Z1,Fh,X⟩
 intro⟨i,h1,h2⟩;refine J ?_ ?_
 .intro h;have h:i<x.length:=aa0
  have hg:x[i]?=some x[i]:=Ge h;have hd:x.drop i=x[i]::x.drop (i+1):=Bj h;have hc:=Aio hL x[i] (hs x[i] (Am h));have MJ:Em none x=if Eb x[i]≠0 then Eb x[i]else match vM x i with
   |none=>Em (some x[i]) (x.drop (i+1))
   |some b=>if DJ b=DJ x[i]then 5 else if 0<cw b x[i]then 1 else Em (some x[i]) (x.drop (i+1)):=by rw[h2,hd];rfl
  have Ane:vM x (i+1)=some x[i]:=Ge h;refine M (Ay x[i]) (J (J I (by simp[hg])) (J rfl ?_));refine J C4 (J C4 (U (C1 (H (hc) (J ?_ ?_)))))
  .intro h4;exact C G (show Eb x[i]=AU x by omega)
  intro h4;refine J ?_ ?_
  .intro h5;have h5:(i:Int)=0:=h5;have h6:i=0:=I
   refine J (Ii i I) (M ⟨i+1,by omega,by grind⟩ ?_);exact⟨Dl x.length i I,Z4,Z1,Fh,X⟩
  intro h5;have h5:¬(i:Int)=0:=h5;have rA:i-1<x.length:=I
  have hb:vM x i=some x[i-1]:=by
   grind
  have Ak6:Em none x=if DJ x[i-1]=DJ x[i]then 5 else if 0<cw x[i-1] x[i]then 1 else Em (some x[i]) (x.drop (i+1)):=aa2
  refine J (by grind [As]) ?_;have kG:(x.map Ay)[((i:Int)-1).toNat]?=some (Ay x[i-1]):=by rw[show((i:Int)-1).toNat=i-1 by omega];grind
  refine M (Ay x[i-1]) (J (J I kG) (J rfl (J C4 (U (U (H (AaF x[i-1]) (U (H (AaF x[i]) (J ?_ ?_)))))))))
  .intro h6;refine J aa5 ?_;have e:(5:Int)=AU x:=by rw[aw,Ak6,AO (AbX ⟨h6.1,h6.2.1,h6.2.2.1,h6.2.2.2.1⟩)]
   exact C G e
  intro h6;refine J aa5 ?_;have h7:¬DJ x[i-1]=DJ x[i]:=fun e=>by
   have e:=nY e;exact h6 ⟨e.1,e.2.1,e.2.2.1,e.2.2.2,trivial⟩
  refine J C4 (U (C1 (H (Aip x[i-1] x[i]) (J ?_ ?_))))
  .intro h8;have e:(1:Int)=AU x:=aa2
   exact C G e
  .intro h8;refine J (Ii i I) (M ⟨i+1,by omega,by grind⟩ ?_);exact⟨Dl x.length i I,Z4,Z1,Fh,X⟩
 .intro h;have h:¬i<x.length:=aa0
  have e:(0:Int)=AU x:=by rw[aw,h2,KM I];rfl
  exact C G e
abbrev rlC(r:F)(a:AV):List AV:=[vs r.path,G r.ver.a,G r.ver.b,G r.ver.c,a,vs r.arch,vs r.ifc,vs r.cert,Q r.yanked]
abbrev Al7:Of:=⟨[],[],[],[],[],[],[],[(9,(1,4,900,2))],[],[],[]⟩
theorem c98(r:F)(hr:r.reqs.length<=1000)(hs:∀q∈r.reqs,CC q.set):PC 86 [.agg (Ay r)] (.agg (Ay r)):=by
 refine Ps Al7 func86 rfl C4 (U (M {i:Nat // i<=r.reqs.length} (M (fun i=>⟨[(1,.ref 1 0),(2,.ref 2 0),(9,sl Ak r.reqs),(10,G (r.reqs.map Ak).length),(11,G i.1)],[(1,.cells (rlC r (.slice (.id 900 2) ((r.reqs.take i.1).map Ak)))),(2,.cells pN),(900,.tok 2 ((r.reqs.take i.1).map Ak).length)],Ab⟩) (M (fun i=>r.reqs.length-i.1) (J (M ⟨0,Ai _⟩ ?_) ?_)))))
 .exact⟨Z5,Z3,Fh,X⟩
 intro⟨i,h1⟩;refine J ?_ ?_
 .intro h;have h:i<r.reqs.length:=aa0
  have hg:r.reqs[i]?=some r.reqs[i]:=Ge h;refine M (Ak r.reqs[i]) (J (J I aa0) (J rfl ?_));have hq:=hs r.reqs[i] (Am h);refine J C4 (U (C1 (H (Ae8 r.reqs[i].set hq) (U (U ?_)))));have El:Cq 2 [Ak r.reqs[i]]/\((r.reqs.take i).map Ak).length=((r.reqs.take i).map Ak).length/\(((r.reqs.take i).map Ak).length+[Ak r.reqs[i]].length)*40<=2^47/\((r.reqs.take i).map Ak).length+[Ak r.reqs[i]].length<=2^63-1:=
   ⟨⟨rfl,trivial⟩,rfl,by grind,by grind⟩
  refine J El (U (J (by grind [As]) (M ⟨i+1,by omega⟩ ?_)));have et:(r.reqs.take (i+1)).map Ak=(r.reqs.take i).map Ak++[Ak r.reqs[i]]:=by rw[DV,hg,Au];rfl
  have e1:HO.cells (rlC r (.slice (.id 900 2) ((r.reqs.take i).map Ak++[Ak r.reqs[i]])))=.cells (rlC r (.slice (.id 900 2) ((r.reqs.take (i+1)).map Ak))):=by rw[et]
  have e2:HO.tok 2 (((r.reqs.take i).map Ak).length+[Ak r.reqs[i]].length)=.tok 2 ((r.reqs.take (i+1)).map Ak).length:=aa0
  exact⟨by grind,Z5,⟨⟨e1,rfl⟩,Z,⟨e2,rfl⟩,X⟩,Fh,X⟩
 .intro h;have h:¬i<r.reqs.length:=aa0
  refine J C4 (J C4 (U ?_));have e:AV.agg (rlC r (.slice .none ((r.reqs.take i).map Ak)))=.agg (Ay r):=aa2
  exact .of_eq e
abbrev vc:AV:=.v (.int .u8 c.toNat)
theorem Zw(a:UInt8)(n:Nat)(h:n<256):decide (UInt8.ofNat n<=a)=decide ((n:Int)<=(a.toNat:Int)):=by
 grind [UInt8.le_iff_toNat_le,UInt8.toNat_ofNat']
theorem Zv(a:UInt8)(n:Nat)(h:n<256):decide (a<=UInt8.ofNat n)=decide ((a.toNat:Int)<=(n:Int)):=by
 grind [UInt8.le_iff_toNat_le,UInt8.toNat_ofNat']
theorem AaN:PC 199 [vc c] (Q (Ei c)):=by
 refine Ps CF func199 rfl C4 ?_;have e1:decide ((97:UInt8)<=c)=decide ((97:Int)<=(c.toNat:Int)):=Zw c 97 aa3;have e2:decide (c<=(122:UInt8))=decide ((c.toNat:Int)<=(122:Int)):=Zv c 122 aa3;have es:Ei c=(decide ((97:Int)<=(c.toNat:Int))&&decide ((c.toNat:Int)<=(122:Int))):=by grind [Ei]
 refine J ?_ ?_
 .intro h;refine J ?_ ?_
  .intro h2;exact C Q (show true=Ei c by simp_all)
  .intro h2;exact C Q (show false=Ei c by simp_all)
 .intro h;exact C Q (show false=Ei c by simp_all)
theorem AaO:PC 200 [vc c] (Q (Ch c)):=by
 refine Ps CF func200 rfl C4 ?_;have e1:decide ((48:UInt8)<=c)=decide ((48:Int)<=(c.toNat:Int)):=Zw c 48 aa3;have e2:decide (c<=(57:UInt8))=decide ((c.toNat:Int)<=(57:Int)):=Zv c 57 aa3;have es:Ch c=(decide ((48:Int)<=(c.toNat:Int))&&decide ((c.toNat:Int)<=(57:Int))):=by grind [Ch]
 refine J ?_ ?_
 .intro h;refine J ?_ ?_
  .intro h2;exact C Q (show true=Ch c by simp_all)
  .intro h2;exact C Q (show false=Ch c by simp_all)
 .intro h;exact C Q (show false=Ch c by simp_all)
theorem Aj6:PC 330 [vc c] (Q (MW c)):=by
 refine Ps CF func330 rfl C4 ?_;have e1:decide ((65:UInt8)<=c)=decide ((65:Int)<=(c.toNat:Int)):=Zw c 65 aa3;have e2:decide (c<=(90:UInt8))=decide ((c.toNat:Int)<=(90:Int)):=Zv c 90 aa3;have es:MW c=(decide ((65:Int)<=(c.toNat:Int))&&decide ((c.toNat:Int)<=(90:Int))):=by grind [MW]
 refine J ?_ ?_
 .intro h;refine J ?_ ?_
  .intro h2;exact C Q (show true=MW c by simp_all)
  .intro h2;exact C Q (show false=MW c by simp_all)
 .intro h;exact C Q (show false=MW c by simp_all)
abbrev WJ:Bool:=Ei c||Ch c
theorem AiV:PC 198 [vc c] (Q (WJ c)):=by
 have h1:=AaN c;have h2:=AaO c;rcases Bt (Ei c)with e | e
 .rw[e]at h1;refine Ps CF func198 rfl C4 (C1 (H (h1) ?_));exact C Q (show true=WJ c by simp_all)
 .rw[e]at h1;refine Ps CF func198 rfl C4 (C1 (H (h1) (C1 (H (h2) ?_))));exact C Q (show Ch c=WJ c by simp_all)
theorem Aj1:PC 265 [vc c] (Q (FD c)):=by
 have h1:=AaN c;have h2:=Aj6 c;have h3:=AaO c;have ew:FD c=(Ei c||MW c||Ch c||decide (c=95)):=rfl;rcases Bt (Ei c)with e | e
 .rw[e]at h1;refine Ps CF func265 rfl C4 (C1 (H (h1) ?_));exact C Q (show true=FD c by simp_all)
 rw[e]at h1;rcases Bt (MW c)with e2 | e2
 .rw[e2]at h2;refine Ps CF func265 rfl C4 (C1 (H (h1) (C1 (H (h2) ?_))));exact C Q (show true=FD c by simp_all)
 rw[e2]at h2;rcases Bt (Ch c)with e3 | e3
 .rw[e3]at h3;refine Ps CF func265 rfl C4 (C1 (H (h1) (C1 (H (h2) (C1 (H (h3) ?_))))));exact C Q (show true=FD c by simp_all)
 rw[e3]at h3;refine Ps CF func265 rfl C4 (C1 (H (h1) (C1 (H (h2) (C1 (H (h3) ?_))))));have eb:decide (c=95)=decide ((c.toNat:Int)=95):=by
  rw[DD,AP,AP];constructor
  .simp_all
  .intro h;exact HN.1 aa2
 refine J ?_ ?_
 .intro h;exact C Q (show true=FD c by simp_all)
 .intro h;exact C Q (show false=FD c by simp_all)
theorem vJ(i:Nat)(h:i<s.data.toList.length):s.data[i]?=some s.data.toList[i]:=by
 simp_all
theorem AaM(f:Nat)(q:UInt8->Bool)(hf:∀c,PC f [vc c] (Q (q c)))(hs:s.data.toList.length<2^62):PC 197 [vs s,.v (TG f)] (Q (s.data.toList.all q)):=by
 have EC:s.size=s.data.toList.length:=aa1
 refine Ps CF func197 rfl C4 (M {i:Nat // i<=s.data.toList.length/\∀j (hj:j<s.data.toList.length),j<i->q s.data.toList[j]=true} (M (fun i=>⟨[(0,vs s),(1,.v (TG f)),(7,G s.size),(8,G i.1)],[],Ab⟩) (M (fun i=>s.data.toList.length-i.1) (J (M ⟨0,Ai _,fun j _ h=>by omega⟩ ?_) ?_))))
 .exact⟨Z4,X,Fh,X⟩
 intro⟨i,h1,h2⟩;refine J ?_ ?_
 .intro h;have h:(i:Int)<(s.size:Nat):=h;have h:i<s.data.toList.length:=I
  refine M s.data.toList[i] (J ⟨by omega,by grind⟩ ?_);have hc:=hf s.data.toList[i];refine Be (Bt (q s.data.toList[i])) (fun e=>?_) (fun e=>?_)
  .rw[e]at hc;refine C1 (H (hc) (J (by grind [As]) (M ⟨i+1,by omega,fun j hj IY=>?_⟩ ?_)))
   .grind
   .exact⟨by grind,Z4,X,Fh,X⟩
  .rw[e]at hc;refine C1 (H (hc) ?_);have er:s.data.toList.all q=false:=by
    grind
   exact C Q er.symm
 .intro h;have h:¬(i:Int)<(s.size:Nat):=h;have er:s.data.toList.all q=true:=AZ.2 fun c hc=>by
   grind [List.getElem_of_mem]
  exact C Q er.symm
theorem cU{cx:Cx}{st:St}{K:LS -> Prop}(t:List (Nat×AV))(h:List (Nat×HO))(h1:leT st (LS.st ⟨t,h,Ab⟩).h t)(h2:leH st (LS.st ⟨t,h,Ab⟩).h h)(k:K ⟨t,h,Ab⟩)
    (h3:match cx.ext with | false => True | true => ∀j,1000 <= j -> j<2000 -> st.h j ≠ .free -> (LS.st ⟨t,h,Ab⟩).h j ≠ .free:=by first | exact trivial | exact AX aa5):∃s,St.le cx st s /\ K s:=⟨_,⟨h1,h2,fun _ => .inl rfl,h3⟩,k⟩
end Go.Eng
