/- Lemmas 16. -/
import Derived.Test.YteaiieomnhbmgaaGreatDoorAA15
import Derived.Shelf.Strings.SplitShaped
import Derived.Shelf.Strings.LastIndexAll
import Derived.Shelf.Strings.Search3
import Derived.Shelf.Small.Wraps
import Derived.Ground.NamesProg
namespace Go.Eng
open Go.Proofs Go.Proofs.Tryz
variable {nm:CS->CS}{l r:List Tm}{t:Tm}{α:Type}{k:Nat}(a:List Tm)(s:CS)(c:UInt8)(b:List Tm)(i:Nat)(p:CS)
theorem Aac(l:List Tm)(hl:BD l)(Ef:l≠[]):AU Tryz.prog 345 [sl AH l] (Ak [] Ae) fun r h'=>r=.msl 2000 l.length/\h'=Ak [(2000,.arr 3 (l.map AH))] Ae:=by
 refine BX (Ms (pla [(5,3)] [])) [(5,2000)] rfl Ct hm rfl func345 aa1 rfl (Nz rfl) aa1 rfl ?_;have F5:Bi 3 (l.map AH)/\([]:C0).length=0/\(([]:C0).length+(l.map AH).length)*48<=140737488355328/\([]:C0).length+(l.map AH).length<=9223372036854775807:=by
  grind [BV]
 refine Yi ?_ ?_
 .intro _;refine Yi F5 ?_;have e1:AV.msl 2000 (([]:C0).length+(l.map AH).length)=.msl 2000 l.length:=Cl
  refine Xi (.msl 2000 (([]:C0).length+(l.map AH).length)) (Yi (.refl _) (Yi e1 ?_))
  rfl
 .intro h;exact absurd (Eg.1 h) Ef
theorem wu(x:Tm)(p:CS):PC 343 [.agg (AH x),.cptr [vs p]] (vb (decide (x.path=p))):=by
 refine Ps CQ func343 rfl (Nz rfl) (Yi ?_ ?_)
 .intro h;rw[AB h];exact .refl _
 .intro h;rw[Aw h];exact .refl _
theorem NL{p:CS}:∀{c:List Tm} {i:Nat},(E6 c).Nodup->∀(hi:i<c.length),c[i].path=p->c.eraseIdx i=Gb c p
 |t::c,0,hn,_,h=>by
  grind [E6,Gb,List.filter_eq_self]
 |t::c,i+1,hn,hi,h=>by
  have hi:i<c.length:=aa0
  have h:c[i].path=p:=h;unfold E6 at hn;rw[Bq,HN]at hn
  have:t.path≠p:=fun e=>hn.1 B0
  have ih:=NL hn.2 hi h
  grind [Gb]
theorem QK{c:List Tm}(hl:BD l)(h:C3 l=some c):BD c:=by
 have h1:=Ol l l.length (Ao _);rw[Cf]at h1;have h2:c=(Fy l).filter fun t=>!Hc t:=by
  grind [C3]
 have h3:c.length<=(Fy l).length:=aa0
 have h4:(Fy l).length=(Dz l).length:=by
  grind [List.perm_ext_iff_of_nodup,MJ,H1,H7,ED,Jr,List.Perm.length_eq]
 omega
abbrev sX:AV:=.tup [.agg cr,nzA,vb false]
abbrev vq:Qx:=⟨[3],[],[],[],[],[],[],[],[(30,0),(34,1)],[],[]⟩
theorem me(l:List Tm)(p:CS)(hl:BD l)(hs:∀t∈l,BD t.set)(hn:Fz l p=none):PC 311 [sl AH l,vs p] sX:=by
 have hc:=c29 l hl hs;unfold Fz at hn;cases e:C3 l with
 |none=>
  have e1:Lj l=.tup [sl AH [],vb false]:=by grind [QZ]
  rw[e1]at hc;have hi:=rr (Cc.ptr [vs p]) [] (fun x=>decide (x.path=p)) (fun x _=>wu x p) Cl;refine Ps vq func311 rfl (Nz rfl) (C1 (C2 (hc) (C1 (C2 (hi) (Yi (Nz rfl) (yN ?_))))));exact .refl _
 |some c=>
  rw[e]at hn;have hn:(match DB c p with | none=>none | some t=>some (t,Gb c p))=none:=hn;have hfn:DB c p=none:=by
   grind
  have e1:Lj l=.tup [sl AH c,vb true]:=by grind [QZ]
  rw[e1]at hc;have uS:=QK hl e;have hi:=rr (Cc.ptr [vs p]) c (fun x=>decide (x.path=p)) (fun x _=>wu x p) ch;have hid:I7 (fun x:Tm=>decide (x.path=p)) c 0=-1:=by
   grind [PB,DB]
  rw[hid]at hi;refine Ps vq func311 rfl (Nz rfl) (C1 (C2 (hc) (C1 (C2 (hi) (Yi ?_ ?_)))))
  .intro _;refine Yi (Nz rfl) (yN ?_);exact .refl _
  .intro h;exact absurd (show(-1:Int)<0 by decide) h
abbrev xP:Qx:=⟨[3],[],[],[],[],[],[],[],[(30,0),(34,2)],[],[]⟩
theorem mf(l:List Tm)(p:CS)(hl:BD l)(hs:∀t∈l,BD t.set)(hn:Fz l p=some (t,r)) :
  AU Tryz.prog 311 [sl AH l,vs p] (Ak [] Ae) fun v h'=>v=.tup [.agg (AH t),.msl 2000 r.length,vb true]/\h'=Ak [(2000,.arr 3 (r.map AH))] Ae:=by
 have hc:=c29 l hl hs;unfold Fz at hn;cases e:C3 l with
 |none=>simp_all
 |some c=>
  rw[e]at hn;have hn:(match DB c p with | none=>none | some t=>some (t,Gb c p))=some (t,r):=hn;have Yq:DB c p=some t/\Gb c p=r:=by
   grind
  have e1:Lj l=.tup [sl AH c,vb true]:=by grind [QZ]
  rw[e1]at hc;have uS:=QK hl e;have hi:=rr (Cc.ptr [vs p]) c (fun x=>decide (x.path=p)) (fun x _=>wu x p) ch;rcases PB (p:=fun x:Tm=>decide (x.path=p)) c 0 with ⟨_,h2⟩ | ⟨i,x,h1,h2,h3⟩
  .grind [DB]
  have hx:x=t:=by
   grind [DB]
  subst hx;rw[h1,Ev]at hi;obtain⟨hic,hie⟩:=Bf.1 h2;have her:c.eraseIdx i=r:=by
   rw[<-Yq.2];exact NL (H7 (E8 e)) hic aa0
  have hlr:c.length-1=r.length:=aa0
  have Ef:c≠[]:=fun h=>by simp_all
  have Ak9:c.length<=1073741824:=uS;refine BX (Ms xP) [(13400,2000)] rfl Ct hm rfl func311 aa1 rfl (Nz rfl) aa1 rfl (C1 (C2 (hc) (C1 (C2 (hi) (Yi ?_ ?_)))))
  .intro h;omega
  intro _;have hg:(c.map AH)[((i:Nat):Int).toNat]?=some (AH x):=B0
  refine Xi (AH x) (Yi (Yi ch hg) (Yi rfl (yN (Xi c.length (Xi 3 (Xi (c.map AH) (Yi rfl (Yi (Aac c uS Ef) (Yi (by grind [Az]) (Xi (c.length-1) (Xi ((c.eraseIdx i).map AH) (Yi rfl (Yi (Aey c i hic) (yN (Yi aa1 (yN ?_))))))))))))))));have e2:AV.tup [.agg (AH x),.msl 2000 (c.length-1),vb true]=.tup [.agg (AH x),.msl 2000 r.length,vb true]:=by rw[hlr]
  have e3:Ak [(2000,HO.arr 3 ((c.eraseIdx i).map AH))] Ae=Ak [(2000,.arr 3 (r.map AH))] Ae:=by rw[her]
  exact C2 (.refl _) (Yi e2 e3)
abbrev gQ:Qx:=⟨[],[],[],[],[],[],[],[],[],[(24,9),(30,12)],[2,3,5,6]⟩
abbrev AbL:AV:=.tup [sl AH (BG a b p).1,vi (BG a b p).2]
theorem Xp{p:CS}(h:Fz l p=some (t,r)):∃c,C3 l=some c/\t∈c/\r=Gb c p:=by
 grind [Fz,GM]
theorem Xq{p:CS}(hl:BD l)(h:Fz l p=some (t,r)):BD t.set/\BD r/\∀u∈r,BD u.set:=by
 obtain⟨c,h1,h2,rfl⟩:=Xp h;have hs:=E8 h1
 grind [SL,QK,Gb,BP.canon]
theorem ml{c:List Tm}(h:C3 l=some c):c.length<=l.length:=by
 have h1:=Ol l l.length (Ao _);rw[Cf]at h1;have h2:c=(Fy l).filter fun t=>!Hc t:=by
  grind [C3]
 have h3:c.length<=(Fy l).length:=aa0
 grind [List.perm_ext_iff_of_nodup,MJ,H1,H7,ED,Jr,List.Perm.length_eq]
theorem Xr{p:CS}(h:Fz l p=some (t,r)):r.length<=l.length:=by
 obtain⟨c,h1,h2,rfl⟩:=Xp h;have h3:(Gb c p).length<=c.length:=Em _ _
 have:=ml h1
 omega
theorem jj(a b:A7):BD (Qo a b):=by
 grind [Ij,bZ]
theorem Aem(ha:a.length<=500000000)(hb:b.length<=500000000)(hsa:∀t∈a,BD t.set)(hsb:∀t∈b,BD t.set):PC 262 [sl AH a,sl AH b,vs p] (AbL a b p):=by
 have hfa:BD a:=ch
 have wU:BD b:=ch
 have er:∀{l:List Tm} {e:Int},BG a b p=(l,e)->AbL a b p=.tup [sl AH l,vi e]:=fun h=>by simp_all
 have e0:BC (.tup [nzA,vi 1]) (.tup [.slice .none [],vi 1]):=BC.tup ⟨.nil,.refl _,trivial⟩;cases h1:Fz a p with
 |none=>
  have hr:BG a b p=([],1):=by grind [BG]
  have c1:=me a p hfa hsa h1;cases h2:Fz b p with
  |none=>
   have c2:=me b p wU hsb h2;refine Ps gQ func262 rfl (Nz rfl) (C1 (C2 (c1) (yN (Xi ⟨[(1,sl AH b),(2,vs p),(8,.ref 8 0),(9,nzA),(10,vb false)],[(8,.cells cr)],Ae⟩ (Yi ⟨Z5,Z1,Fh,Tv⟩ (C1 (C2 (c2) (yN (Xi ⟨[(8,.ref 8 0),(9,nzA),(10,vb false),(11,.ref 11 0),(12,nzA),(13,vb false)],[(8,.cells cr),(11,.cells cr)],Ae⟩ (Yi ⟨Z6,Z2,Fh,Tv⟩ ?_))))))))))
   exact e0.trans (.of_eq (er hr).symm)
  |some q2=>
   obtain⟨t2,r2⟩:=q2;have c2:=mf b p wU hsb h2;refine Ps gQ func262 rfl (Nz rfl) (C1 (C2 (c1) (yN (Xi ⟨[(1,sl AH b),(2,vs p),(8,.ref 8 0),(9,nzA),(10,vb false)],[(8,.cells cr)],Ae⟩ (Yi ⟨Z5,Z1,Fh,Tv⟩ ?_)))))
   have z2:r2.length=(r2.map AH).length:=B0
   refine Xi (.gen [] 1) (Yi rfl (c2.imp ?_));intro v2 g2 q2;have q21:=q2.1;have q22:=q2.2;subst q21;subst q22;refine yN (Xi ⟨[(8,.ref 8 0),(9,nzA),(10,vb false),(11,.ref 11 0),(12,.msl 12600 r2.length),(13,vb true)],[(8,.cells cr),(11,.cells (AH t2)),(12600,.arr 3 (r2.map AH))],Ae⟩ (Yi ⟨Z6,Z3,Fh,Tv⟩ (Yi z2 ?_)));exact e0.trans (.of_eq (er hr).symm)
 |some q1=>
  obtain⟨t1,r1⟩:=q1;have c1:=mf a p hfa hsa h1;obtain⟨f1,f2,f3⟩:=Xq hfa h1;cases h2:Fz b p with
  |none=>
   have hr:BG a b p=([],1):=by grind [BG]
   have c2:=me b p wU hsb h2;refine Ps gQ func262 rfl (Nz rfl) (Xi (.gen [] 1) (Yi rfl (c1.imp ?_)));intro v1 g1 q1;have q11:=q1.1;have tu:=q1.2;subst q11;subst tu;refine yN (Xi ⟨[(1,sl AH b),(2,vs p),(8,.ref 8 0),(9,.msl 11900 r1.length),(10,vb true)],[(8,.cells (AH t1)),(11900,.arr 3 (r1.map AH))],Ae⟩ (Yi ⟨Z5,Z2,Fh,Tv⟩ ?_))
   have z1:r1.length=(r1.map AH).length:=B0
   refine Yi z1 (C1 (C2 (c2) (yN (Xi ⟨[(8,.ref 8 0),(9,.slice (.id 11900 3) (r1.map AH)),(10,vb true),(11,.ref 11 0),(12,nzA),(13,vb false)],[(8,.cells (AH t1)),(11,.cells cr),(11900,.tok 3 (r1.map AH).length)],Ae⟩ (Yi ⟨Z6,Z3,Fh,Tv⟩ ?_)))))
   exact e0.trans (.of_eq (er hr).symm)
  |some q2=>
   obtain⟨t2,r2⟩:=q2;have c2:=mf b p wU hsb h2;obtain⟨g1,g2,g3⟩:=Xq wU h2;refine Ps gQ func262 rfl (Nz rfl) (Xi (.gen [] 1) (Yi rfl (c1.imp ?_)));intro v1 g1 q1;have q11:=q1.1;have tu:=q1.2;subst q11;subst tu;refine yN (Xi ⟨[(1,sl AH b),(2,vs p),(8,.ref 8 0),(9,.msl 11900 r1.length),(10,vb true)],[(8,.cells (AH t1)),(11900,.arr 3 (r1.map AH))],Ae⟩ (Yi ⟨Z5,Z2,Fh,Tv⟩ ?_))
   have z1:r1.length=(r1.map AH).length:=B0
   have z2:r2.length=(r2.map AH).length:=aa0
   refine Yi z1 (Xi (.gen [] 1) (Yi rfl (c2.imp ?_)));intro v2 g2 q2;have q21:=q2.1;have q22:=q2.2;subst q21;subst q22;refine yN (Xi ⟨[(8,.ref 8 0),(9,.slice (.id 11900 3) (r1.map AH)),(10,vb true),(11,.ref 11 0),(12,.msl 12600 r2.length),(13,vb true)],[(8,.cells (AH t1)),(11,.cells (AH t2)),(11900,.tok 3 (r1.map AH).length),(12600,.arr 3 (r2.map AH))],Ae⟩ (Yi ⟨Z6,Z4,Fh,Tv⟩ (Yi z2 (Xi ⟨[(8,.ref 8 0),(9,.slice (.id 11900 3) (r1.map AH)),(11,.ref 11 0),(12,.slice (.id 12600 3) (r2.map AH))],[(8,.cells (AH t1)),(11,.cells (AH t2)),(11900,.tok 3 (r1.map AH).length),(12600,.tok 3 (r2.map AH).length)],Ae⟩ (Yi ⟨Z4,Z4,Fh,Tv⟩ ?_)))))
   have l1:=Xr h1;have l2:=Xr h2;have b1:Bi 3 (r2.map AH)/\(r1.map AH).length=(r1.map AH).length/\((r1.map AH).length+(r2.map AH).length)*48<=140737488355328/\(r1.map AH).length+(r2.map AH).length<=9223372036854775807:=
    ⟨BV (enc:=AH) (n:=3) (fun _=>rfl) r2,rfl,by omega,by omega⟩
   refine Yi b1 (Yi (Nz rfl) (yN (C2 (Aer t1 t2 f1 g1) ?_)));have b2:Bi 3 [AH (Ds t1 t2)]/\(r1.map AH++r2.map AH).length=(r1.map AH).length+(r2.map AH).length/\((r1.map AH++r2.map AH).length+[AH (Ds t1 t2)].length)*48<=140737488355328/\(r1.map AH++r2.map AH).length+[AH (Ds t1 t2)].length<=9223372036854775807:=
    ⟨⟨rfl,trivial⟩,by grind,by grind,by grind⟩
   refine Yi b2 ?_;have hc0:=c29 (r1++r2++[Ds t1 t2]) aa0 (fun u hu=>by
    rcases Bh.1 hu with hu | hu
    .grind
    .rw[AQ.1 hu];exact jj _ _)
   have e1:sl AH (r1++r2++[Ds t1 t2])=.slice .none (r1.map AH++r2.map AH++[AH (Ds t1 t2)]):=Cl
   have hc1:PC 312 [.slice .none (r1.map AH++r2.map AH++[AH (Ds t1 t2)])] (Lj (r1++r2++[Ds t1 t2])):=e1▸hc0;cases hcn:C3 (r1++r2++[Ds t1 t2])with
   |none=>
    have hr:BG a b p=([],8):=by grind [BG]
    have ec:Lj (r1++r2++[Ds t1 t2])=.tup [sl AH [],vb false]:=by grind [QZ]
    have hc:PC 312 [.slice .none (r1.map AH++r2.map AH++[AH (Ds t1 t2)])] (.tup [sl AH [],vb false]):=ec▸hc1;have e8:BC (.tup [nzA,vi 8]) (.tup [.slice .none [],vi 8]):=BC.tup ⟨.nil,.refl _,trivial⟩;refine C2 (hc) (Yi aa1 (Xi ⟨[(14,sl AH []),(15,vb false)],[],Ae⟩ (Yi ⟨Z2,Tv,Fh,Tv⟩ ?_)))
    exact e8.trans (.of_eq (er hr).symm)
   |some o=>
    have hr:BG a b p=(o,0):=by grind [BG]
    have ec:Lj (r1++r2++[Ds t1 t2])=.tup [sl AH o,vb true]:=by grind [QZ]
    have hc:PC 312 [.slice .none (r1.map AH++r2.map AH++[AH (Ds t1 t2)])] (.tup [sl AH o,vb true]):=ec▸hc1;refine C2 (hc) (Yi aa1 (Xi ⟨[(14,sl AH o),(15,vb true)],[],Ae⟩ (Yi ⟨Z2,Tv,Fh,Tv⟩ ?_)))
    exact .of_eq (er hr).symm
def fQ(h s:Nat->HO):Nat->Bool
 |0=>true
 |n+1=>(match h (1000+n)with |.free=>true |_=>(match s (1000+n)with |.free=>false |_=>true))&&fQ h s n
theorem TV{h s:Nat->HO}:∀{n:Nat},fQ h s n=true->∀j,j<n->h (1000+j)≠.free->s (1000+j)≠.free
 |n+1,hd,j,hj,hn=>by
  simp only[fQ,At]at hd;rcases Db j n with h1 | h1
  .exact TV hd.2 j h1 hn
  grind
theorem Bu{h s:Nat->HO}(hd:fQ h s 1000=true):∀j,1000<=j->j<2000->h j≠.free->s j≠.free:=fun j h1 h2=>by
 have:=TV hd (j-1000) ch
 simp_all
abbrev qQ:List AV:=[vs ⟨#[]⟩,vi 0,vi 0,vi 0,nzA,vs ⟨#[]⟩,vs ⟨#[]⟩,vs ⟨#[]⟩,vb false]
abbrev Sc:Option Rl->AV
 |some r=>.tup [.agg (Au r),vb true]
 |none=>.tup [.agg qQ,vb false]
theorem aj{p:α->Bool}{l:List α}{i:Nat}(hi:i<l.length)(hb:∀j (hj:j<l.length),j<i->p l[j]=false)(h:p l[i]=true):l.find? p=some l[i]:=by
 grind [List.find?_eq_some_iff_getElem]
theorem jo{p:α->Bool}{l:List α}(hb:∀j (hj:j<l.length),p l[j]=false):l.find? p=none:=by
 grind [List.getElem_of_mem]
theorem tq(v:Ver):0<=plc v/\plc v<1000000:=by
 unfold plc;cases h:BN v with
 |true=>exact JO h
 |false=>simp
abbrev vI(t:List Tm):Prop:=t.length<=500000000/\∀u∈t,BD u.set
theorem wj:PC 198 [vs s] (vb false):=by
 refine Ps CQ func198 rfl (Nz rfl) (Yi ?_ ?_)
 .intro h;exact absurd rfl (show s≠s from h)
 .intro _;exact .refl _
theorem Aaa(z:Int):PC 265 [vi z] (vb false):=by
 refine Ps CQ func265 rfl (Nz rfl) (Yi ?_ ?_)
 .intro h;exact absurd rfl (show z≠z from h)
 .intro _;exact .refl _
theorem Aea(a b:CS):PC 145 [vs a,vs b] (vi (IT a b)):=by
 refine Ps CQ func145 rfl (Nz rfl) (C1 (C2 (wj a) (C1 (C2 (wj b) (Yi ?_ ?_)))))
 .intro h;exact .of_eq (Aa vi (show(-1:Int)=IT a b by grind [IT,DZ]))
 .intro h;refine Yi ?_ ?_
  .intro h2;exact .of_eq (Aa vi (show(1:Int)=IT a b by grind [IT,DZ]))
  .intro h2;exact .of_eq (Aa vi (show(0:Int)=IT a b by grind [IT,DZ]))
theorem wk(a b:Int):PC 199 [vi a,vi b] (vi (FG a b)):=by
 refine Ps CQ func199 rfl (Nz rfl) (C1 (C2 (Aaa a) (C1 (C2 (Aaa b) (Yi ?_ ?_)))))
 .intro h;exact .of_eq (Aa vi (show(-1:Int)=FG a b by grind [FG]))
 .intro h;refine Yi ?_ ?_
  .intro h2;exact .of_eq (Aa vi (show(1:Int)=FG a b by grind [FG]))
  .intro h2;exact .of_eq (Aa vi (show(0:Int)=FG a b by grind [FG]))
theorem Ae9(a b:Int):PC 144 [.slice .none [[vi a],[vi b]]] (vi (if a≠0 then a else b)):=by
 refine Ps CQ func144 rfl (Nz rfl) (Xi {i:Nat // i<=2/\(0<i->a=0)/\(1<i->b=0)} (Xi (fun i=>⟨[(3,vi 0),(6,.slice .none [[vi a],[vi b]]),(7,vi 2),(8,vi i.1)],[],Ae⟩) (Xi (fun i=>2-i.1) (Yi (Xi ⟨0,by omega,by omega,by omega⟩ ?_) ?_))))
 .exact⟨Z4,Tv,Fh,Tv⟩
 intro⟨i,h1,h2,h3⟩;refine Yi ?_ ?_
 .intro h;have h:(i:Int)<2:=h
  match i,h1,h2,h3,h with
  |0,h1,h2,h3,h=>
   refine Xi [vi a] (Yi (Yi (Bs _) rfl) (Yi rfl (Yi ?_ ?_)))
   .intro h4;exact .of_eq (Aa vi (Ax h4).symm)
   .intro h4;refine Yi (by grind [Az]) (Xi ⟨1,by omega,fun _=>by omega,fun q=>absurd q Wk⟩ ?_);exact⟨by simp_all,Z4,Tv,Fh,Tv⟩
  |1,h1,h2,h3,h=>
   have ha:=h2 Wk;refine Xi [vi b] (Yi (Yi ch rfl) (Yi rfl (Yi ?_ ?_)))
   .intro h4;exact .of_eq (Aa vi (AA ch).symm)
   .intro h4;refine Yi (by grind [Az]) (Xi ⟨2,by omega,fun _=>ha,fun q=>by omega⟩ ?_);exact⟨by simp_all,Z4,Tv,Fh,Tv⟩
  |i+2,h1,h2,h3,h=>omega
 .intro h;have h:¬(i:Int)<2:=h;have ha:=h2 ch;have hb:=h3 ch;exact .of_eq (Aa vi (show(0:Int)=if a≠0 then a else b by omega))
theorem TL(a b:Ver)(i:Nat)(hi:i<3)(h:∀j,j<i->FG (part a j) (part b j)=0)(hn:FG (part a i) (part b i)≠0):Ik a b=FG (part a i) (part b i):=by
 unfold Ik
 match i,hi,h,hn with
 |0,_,_,hn=>exact Ax hn
 |1,_,h,hn=>
  have h0:FG a.a b.a=0:=h 0 Wk;rw[AA ch];exact Ax hn
 |2,_,h,hn=>
  have h0:FG a.a b.a=0:=h 0 Wk;have h1:FG a.b b.b=0:=h 1 Wk;rw[AA ch,AA ch];rfl
theorem mA(a b:Ver)(h:∀j,j<3->FG (part a j) (part b j)=0):Ik a b=0:=by
 unfold Ik;have h0:FG a.a b.a=0:=h 0 Wk;have h1:FG a.b b.b=0:=h 1 Wk;have h2:FG a.c b.c=0:=h 2 Wk;omega
theorem Aeb(a b:Ver):PC 146 [.agg (CK a),.agg (CK b)] (vi (Ik a b)):=by
 refine Ps CQ func146 rfl (Nz rfl) (yN (C2 (wg a) (yN (C2 (wg b) (Yi (Nz rfl) (yN (Yi aa1 (Xi {i:Nat // i<=3/\∀j,j<i->FG (part a j) (part b j)=0} (Xi (fun i=>⟨[(5,.ref 5 0),(6,.ref 6 0),(13,vi i.1)],[(5,.cells (CK a)),(6,.cells (CK b))],Ae⟩) (Xi (fun i=>3-i.1) (Yi (Xi ⟨0,by omega,fun j h=>by omega⟩ ?_) ?_)))))))))))
 .exact⟨Z3,Z2,Fh,Tv⟩
 intro⟨i,h1,h2⟩;refine Yi ?_ ?_
 .intro h;have h:(i:Int)<3:=h;have next:FG (part a i) (part b i)=0->∀j,j<i+1->FG (part a j) (part b j)=0:=fun hz j hj=>by
   grind
  match i,h1,h2,h,next with
  |0,h1,h2,h,next=>
   refine Yi ⟨by omega,by omega⟩ ?_;refine Yi ⟨by omega,by omega⟩ ?_;refine C2 (wk (part a 0) (part b 0)) (Yi aa1 (Yi ?_ ?_))
   .intro h4;exact .of_eq (Aa vi (TL a b 0 Wk h2 h4).symm)
   .intro h4;refine Yi (by grind [Az]) (Xi ⟨1,by omega,next (Mj h4)⟩ ?_)
    exact⟨by simp_all,Z3,Z2,Fh,Tv⟩
  |1,h1,h2,h,next=>
   refine Yi ⟨by omega,by omega⟩ ?_;refine Yi ⟨by omega,by omega⟩ ?_;refine C2 (wk (part a 1) (part b 1)) (Yi aa1 (Yi ?_ ?_))
   .intro h4;exact .of_eq (Aa vi (TL a b 1 Wk h2 h4).symm)
   .intro h4;refine Yi (by grind [Az]) (Xi ⟨2,by omega,next (Mj h4)⟩ ?_)
    exact⟨by simp_all,Z3,Z2,Fh,Tv⟩
  |2,h1,h2,h,next=>
   refine Yi ⟨by omega,by omega⟩ ?_;refine Yi ⟨by omega,by omega⟩ ?_;refine C2 (wk (part a 2) (part b 2)) (Yi aa1 (Yi ?_ ?_))
   .intro h4;exact .of_eq (Aa vi (TL a b 2 Wk h2 h4).symm)
   .intro h4;have h4:¬FG (part a 2) (part b 2)≠0:=h4;refine Yi (by grind [Az]) (Xi ⟨3,by omega,next (Mj h4)⟩ ?_)
    exact⟨by simp_all,Z3,Z2,Fh,Tv⟩
  |i+3,h1,h2,h,next=>omega
 .intro h;have h:¬(i:Int)<3:=h;exact .of_eq (Aa vi (mA a b fun j hj=>h2 j ch).symm)
theorem Aa1(a b:Rl):PC 85 [.agg (Au a),.agg (Au b)] (vi (CB a b)):=by
 refine Ps CQ func85 rfl (Nz rfl) (C2 (Aea a.path b.path) (Yi (Nz rfl) (yN (C2 (Aeb a.ver b.ver) (C2 (Ae9 (IT a.path b.path) (Ik a.ver b.ver)) (Yi aa1 ?_))))));exact .refl _
abbrev ES:Prop:=s.size<=1073741824
abbrev Jb(q:Rq):Prop:=BD q.set/\ES q.path
abbrev CX(r:Rl):Prop:=ES r.path/\∀q∈r.reqs,Jb q
abbrev aV(nm:CS->CS)(p:CS):AV:=match Bc p with
 |some m=>.tup [vs (nm p),vi m,vi 0]
 |none=>.tup [vs ⟨#[]⟩,vi 0,vi 4]
abbrev VA(nm:CS->CS):Prop:=∀p:CS,ES p->PC 167 [vs p] (aV nm p)
theorem VA.none(h:VA nm){p:CS}(hp:ES p)(e:Bc p=.none):PC 167 [vs p] (.tup [vs ⟨#[]⟩,vi 0,vi 4]):=by
 grind
theorem VA.some(h:VA nm){p:CS}{m:Int}(hp:ES p)(e:Bc p=.some m):PC 167 [vs p] (.tup [vs (nm p),vi m,vi 0]):=by
 grind
theorem Aa2(hL:VA nm)(q:Rq)(hq:BD q.set)(hp:ES q.path):PC 107 [.agg (AI q),.v (.pointer none)] (vi (GZ none q)):=by
 cases Zl:Bc q.path with
 |none=>
  have e:(4:Int)=GZ none q:=by grind [GZ]
  have hl:=hL.none hp Zl;refine Ps CQ func107 rfl (Nz rfl) (C1 (C2 (hl) (Yi ?_ ?_)))
  .intro _;exact .of_eq (Aa vi e)
  .intro h;exact absurd (show(4:Int)≠0 by decide) h
 |some m=>
  have er:GZ none q=if(q.set.isEmpty||!decide (q.set=canon q.set)||false)=true then 1 else 0:=by grind [GZ]
  have hl:=hL.some hp Zl;have hc:=XZ q.set hq;have he:=rp q.set (canon q.set) hq;have se:∀{n:Int},n=(q.set.map Ag).length->n=0->q.set.isEmpty=true:=fun h1 h2=>by
   rw[Lm]at h1;rw[L7];exact AY ch
  have nJ:¬((q.set.map Ag).length:Int)=0->q.set.isEmpty=false:=fun h=>by
   simp_all
  rcases Bt (decide (q.set=canon q.set))with h2 | h2
  .rw[h2]at he;refine Ps (Hy []) func107 rfl (Nz rfl) (C1 (C2 (hl) (Yi ?_ ?_)))
   .intro h;exact absurd rfl h
   intro _;refine Yi ?_ ?_
   .intro h;have e:(1:Int)=GZ none q:=aa0
    refine Yi aa1 ?_;exact .of_eq (Aa vi e)
   intro h;have hn:=nJ h;refine C2 (hc) (C2 (he) (Yi aa1 ?_));have e:(0:Int)=GZ none q:=aa0
   exact .of_eq (Aa vi e)
  .rw[h2]at he;refine Ps (Hy []) func107 rfl (Nz rfl) (C1 (C2 (hl) (Yi ?_ ?_)))
   .intro h;exact absurd rfl h
   intro _;refine Yi ?_ ?_
   .intro h;have e:(1:Int)=GZ none q:=B0
    refine Yi aa1 ?_;exact .of_eq (Aa vi e)
   intro h;have hn:=nJ h;refine C2 (hc) (C2 (he) (Yi aa1 ?_));have e:(1:Int)=GZ none q:=B0
   exact .of_eq (Aa vi e)
theorem Aa3(hL:VA nm)(q b:Rq)(hq:BD q.set)(hp:ES q.path):PC 107 [.agg (AI q),.cptr (AI b)] (vi (GZ (some b.path) q)):=by
 cases Zl:Bc q.path with
 |none=>
  have e:(4:Int)=GZ (some b.path) q:=by grind [GZ]
  have hl:=hL.none hp Zl;refine Ps CQ func107 rfl (Nz rfl) (C1 (C2 (hl) (Yi ?_ ?_)))
  .intro _;exact .of_eq (Aa vi e)
  .intro h;exact absurd (show(4:Int)≠0 by decide) h
 |some m=>
  have er:GZ (some b.path) q=if(q.set.isEmpty||!decide (q.set=canon q.set)||!Dq b.path q.path)=true then 1 else 0:=by grind [GZ]
  have hl:=hL.some hp Zl;have hc:=XZ q.set hq;have he:=rp q.set (canon q.set) hq;have se:∀{n:Int},n=(q.set.map Ag).length->n=0->q.set.isEmpty=true:=fun h1 h2=>by
   rw[Lm]at h1;rw[L7];exact AY ch
  have nJ:¬((q.set.map Ag).length:Int)=0->q.set.isEmpty=false:=fun h=>by
   simp_all
  rcases Bt (decide (q.set=canon q.set))with h2 | h2
  .rw[h2]at he;refine Ps (Hy []) func107 rfl (Nz rfl) (C1 (C2 (hl) (Yi ?_ ?_)))
   .intro h;exact absurd rfl h
   intro _;refine Yi ?_ ?_
   .intro h;have e:(1:Int)=GZ (some b.path) q:=aa0
    refine Yi aa1 ?_;exact .of_eq (Aa vi e)
   intro h;have hn:=nJ h;refine C2 (hc) (C2 (he) (Yi ?_ ?_))
   .intro h3;refine Yi aa1 ?_;have e:(1:Int)=GZ (some b.path) q:=by grind [DZ]
    exact .of_eq (Aa vi e)
   .intro h3;have h3:Op.bytesLess b.path.toList q.path.toList=true:=aa0
    refine Yi aa1 ?_;have e:(0:Int)=GZ (some b.path) q:=by grind [DZ]
    exact .of_eq (Aa vi e)
  .rw[h2]at he;refine Ps (Hy []) func107 rfl (Nz rfl) (C1 (C2 (hl) (Yi ?_ ?_)))
   .intro h;exact absurd rfl h
   intro _;refine Yi ?_ ?_
   .intro h;have e:(1:Int)=GZ (some b.path) q:=B0
    refine Yi aa1 ?_;exact .of_eq (Aa vi e)
   intro h;have hn:=nJ h;refine C2 (hc) (C2 (he) (Yi aa1 ?_));have e:(1:Int)=GZ (some b.path) q:=B0
   exact .of_eq (Aa vi e)
abbrev OY(l:List Rq)(k:Nat):List AV:=((l.map AI)[k]?).getD []
abbrev zY(l:List Rq):Nat->AV
 |0=>.v (.pointer none)
 |k+1=>.cptr (OY l k)
abbrev Jz(l:List Rq):Nat->Option CS
 |0=>none
 |k+1=>(l[k]?).map (·.path)
theorem c8{l:List Rq}(h:k<l.length):OY l k=AI l[k]:=by
 grind
theorem ZC{l:List Rq}(h:k<l.length):Jz l (k+1)=some l[k].path:=by
 simp_all
theorem c65(hL:VA nm)(l:List Rq)(hs:∀q∈l,Jb q):PC 64 [sl AI l] (vi (A8 l)):=by
 refine Ps (Hy []) func64 rfl (Nz rfl) (Yi ?_ ?_)
 .intro h;exact .of_eq (Aa vi (show(7:Int)=A8 l by grind [A8]))
 intro h;have hl:l.length<=16:=aa0
 have Uj:A8 l=D7 none l:=by grind [A8]
 refine Xi {i:Nat // i<=l.length/\D7 none l=D7 (Jz l i) (l.drop i)} (Xi (fun i=>⟨[(0,sl AI l),(3,zY l i.1),(10,sl AI l),(11,vi (l.map AI).length),(12,vi i.1)],[],Ae⟩) (Xi (fun i=>l.length-i.1) (Yi (Xi ⟨0,Aj _,rfl⟩ ?_) ?_)))
 .exact⟨Z5,Tv,Fh,Tv⟩
 intro⟨i,h1,h2⟩;refine Yi ?_ ?_
 .intro h;have h:i<l.length:=B0
  have hg:l[i]?=some l[i]:=Ge h;have hd:l.drop i=l[i]::l.drop (i+1):=AD h;have hq:=hs l[i] (Ai h);have hc:PC 107 [.agg (AI l[i]),zY l i] (vi (GZ (Jz l i) l[i])):=by
   cases i with
   |zero=>exact Aa2 hL _ hq.1 hq.2
   |succ k=>
    rw[ZC (by omega:k<l.length)];show PC 107 [_,.cptr (OY l k)] _;rw[c8 (by omega:k<l.length)];exact Aa3 hL _ _ hq.1 hq.2
  have JD:D7 none l=if GZ (Jz l i) l[i]=0 then D7 (some l[i].path) (l.drop (i+1))else GZ (Jz l i) l[i]:=by rw[h2,hd];rfl
  match i,h1,h2,h,hg,hd,hc,JD with
  |0,h1,h2,h,hg,hd,hc,JD=>
   refine Xi (AI l[0]) (Yi (Yi ch aa0) (Yi rfl (Yi (Nz rfl) (Yi (Nz rfl) (yN (C1 (C2 (hc) (Yi ?_ ?_))))))))
   .intro h4;exact .of_eq (Aa vi (show GZ (Jz l (0)) l[0]=A8 l by omega))
   .intro h4;refine Xi (AI l[0]) (Yi (Yi ch aa0) (Yi rfl (Yi (by grind [Az]) (Xi ⟨0+1,by omega,by grind⟩ ?_))));have e1:AV.cptr (AI l[0])=.cptr (OY l (0)):=aa0
    exact⟨by show l.length-(0+1)<l.length-(0);omega,⟨Zr,⟨e1,rfl⟩,Zr,Zr,Zr,Tv⟩,Tv,Fh,Tv⟩
  |k+1,h1,h2,h,hg,hd,hc,JD=>
   refine Xi (AI l[k+1]) (Yi (Yi ch (by simp[hg])) (Yi rfl ?_));refine Yi (Nz rfl) (Yi (Nz rfl) (yN (C1 (C2 (hc) (Yi ?_ ?_)))))
   .intro h4;exact .of_eq (Aa vi (show GZ (Jz l (k+1)) l[k+1]=A8 l by omega))
   .intro h4;refine Xi (AI l[k+1]) (Yi (Yi ch (by simp[hg])) (Yi rfl ?_));refine Yi (by show Az (((k+1:Nat):Int)+1);unfold Az;omega) ?_;refine Xi ⟨k+1+1,by omega,by grind⟩ ?_;have e1:AV.cptr (AI l[k+1])=.cptr (OY l (k+1)):=aa0
    exact⟨by show l.length-(k+1+1)<l.length-(k+1);omega,⟨Zr,⟨e1,rfl⟩,Zr,Zr,Zr,Tv⟩,Tv,Fh,Tv⟩
 .intro h;have h:¬i<l.length:=B0
  have e:(0:Int)=A8 l:=by rw[Uj,h2,KD ch];rfl
  exact .of_eq (Aa vi e)
abbrev rE(r:Rl):Nat->CS
 |0=>r.arch
 |1=>r.ifc
 |_=>r.cert
theorem wD{r:Rl}(h:∀j,j<3->Er (rE r j)=true):(Er r.arch&&Er r.ifc&&Er r.cert)=true:=by
 have h0:Er r.arch=true:=h 0 Wk;have h1:Er r.ifc=true:=h 1 Wk;have h2:Er r.cert=true:=h 2 Wk;simp_all
theorem AdW(hL:VA nm)(r:Rl)(hr:CX r):PC 147 [.agg (Au r)] (vi (CM r)):=by
 cases Zl:Bc r.path with
 |none=>
  have e:(4:Int)=CM r:=by grind [CM]
  have hl:=hL.none hr.1 Zl;refine Ps CQ func147 rfl (Nz rfl) (C1 (C2 (hl) (Yi ?_ ?_)))
  .intro _;exact .of_eq (Aa vi e)
  .intro h;exact absurd (show(4:Int)≠0 by decide) h
 |some m=>
  have er:CM r=if(!BN r.ver||!decide (r.ver.a=m))=true then 2 else if A8 r.reqs≠0 then A8 r.reqs else if(Er r.arch&&Er r.ifc&&Er r.cert)=true then 0 else 1:=by grind [CM]
  have hl:=hL.some hr.1 Zl;have hv:=Aa0 r.ver;have hc:=c65 hL r.reqs hr.2;rcases Bt (BN r.ver)with h2 | h2
  .rw[h2]at hv;refine Ps (Hy []) func147 rfl (Nz rfl) (C1 (C2 (hl) (Yi ?_ ?_)))
   .intro h;exact absurd rfl h
   intro _;refine yN (C1 (C2 (hv) (Yi ?_ ?_)))
   .intro h;have e:(2:Int)=CM r:=B0
    exact .of_eq (Aa vi e)
   intro h;have h3:r.ver.a=m:=Mj h;have er2:CM r=if A8 r.reqs≠0 then A8 r.reqs else if(Er r.arch&&Er r.ifc&&Er r.cert)=true then 0 else 1:=B0
   refine C1 (C2 (hc) (Yi ?_ ?_))
   .intro h4;exact .of_eq (Aa vi (show A8 r.reqs=CM r by omega))
   intro h4;have er3:CM r=if(Er r.arch&&Er r.ifc&&Er r.cert)=true then 0 else 1:=ch
   refine Xi {i:Nat // i<=3/\∀j,j<i->Er (rE r j)=true} (Xi (fun i=>⟨[(41,.slice (.id 41 1) [[vs r.arch],[vs r.ifc],[vs r.cert]]),(42,vi 3),(43,vi i.1)],[(41,.tok 1 3)],Ae⟩) (Xi (fun i=>3-i.1) (Yi (Xi ⟨0,by omega,fun j h=>by omega⟩ ?_) ?_)))
   .exact⟨Z3,Z1,Fh,Tv⟩
   intro⟨i,i1,i2⟩;refine Yi ?_ ?_
   .intro h;have h:(i:Int)<3:=h;have next:Er (rE r i)=true->∀j,j<i+1->Er (rE r j)=true:=fun hz j hj=>by
     grind
    match i,i1,i2,h,next with
    |0,i1,i2,h,next=>
     refine Xi [vs r.arch] (Yi (Yi ch rfl) (Yi rfl (Yi ?_ ?_)))
     .intro h5;refine Yi ?_ ?_
      .intro h6;have e:(1:Int)=CM r:=by grind [Er]
       exact .of_eq (Aa vi e)
      .intro h6;refine Yi (by grind [Az]) (Xi ⟨1,by omega,next (show Er r.arch=true by grind [Er])⟩ ?_)
       exact⟨by simp_all,Z3,Z1,Fh,Tv⟩
     .intro h5;refine Yi (by grind [Az]) (Xi ⟨1,by omega,next (show Er r.arch=true by grind [Er])⟩ ?_)
      exact⟨by simp_all,Z3,Z1,Fh,Tv⟩
    |1,i1,i2,h,next=>
     refine Xi [vs r.ifc] (Yi (Yi ch rfl) (Yi rfl (Yi ?_ ?_)))
     .intro h5;have h5:((r.ifc.size:Nat):Int)≠0:=h5;refine Yi ?_ ?_
      .intro h6;have h6:((r.ifc.size:Nat):Int)≠32:=h6;have e:(1:Int)=CM r:=by grind [Er]
       exact .of_eq (Aa vi e)
      .intro h6;have h6:¬((r.ifc.size:Nat):Int)≠32:=h6;refine Yi (by grind [Az]) (Xi ⟨2,by omega,next (show Er r.ifc=true by grind [Er])⟩ ?_)
       exact⟨by simp_all,Z3,Z1,Fh,Tv⟩
     .intro h5;have h5:¬((r.ifc.size:Nat):Int)≠0:=h5;refine Yi (by grind [Az]) (Xi ⟨2,by omega,next (show Er r.ifc=true by grind [Er])⟩ ?_)
      exact⟨by simp_all,Z3,Z1,Fh,Tv⟩
    |2,i1,i2,h,next=>
     refine Xi [vs r.cert] (Yi (Yi ch rfl) (Yi rfl (Yi ?_ ?_)))
     .intro h5;have h5:((r.cert.size:Nat):Int)≠0:=h5;refine Yi ?_ ?_
      .intro h6;have h6:((r.cert.size:Nat):Int)≠32:=h6;have e:(1:Int)=CM r:=by grind [Er]
       exact .of_eq (Aa vi e)
      .intro h6;have h6:¬((r.cert.size:Nat):Int)≠32:=h6;refine Yi (by grind [Az]) (Xi ⟨3,by omega,next (show Er r.cert=true by grind [Er])⟩ ?_)
       exact⟨by simp_all,Z3,Z1,Fh,Tv⟩
     .intro h5;have h5:¬((r.cert.size:Nat):Int)≠0:=h5;refine Yi (by grind [Az]) (Xi ⟨3,by omega,next (show Er r.cert=true by grind [Er])⟩ ?_)
      exact⟨by simp_all,Z3,Z1,Fh,Tv⟩
    |i+3,i1,i2,h,next=>omega
   .intro h;have h:¬(i:Int)<3:=h;have e:(0:Int)=CM r:=by grind [wD]
    exact .of_eq (Aa vi e)
  .rw[h2]at hv;have e:(2:Int)=CM r:=B0
   refine Ps (Hy []) func147 rfl (Nz rfl) (C1 (C2 (hl) (Yi ?_ ?_)))
   .intro h;exact absurd rfl h
   intro _;refine yN (C1 (C2 (hv) ?_));exact .of_eq (Aa vi e)
theorem xw{a b:Rl}(h:a.path=b.path/\a.ver.a=b.ver.a/\a.ver.b=b.ver.b/\a.ver.c=b.ver.c):Fa a=Fa b:=by
 unfold Fa;obtain⟨h1,h2,h3,h4⟩:=h
 have:a.ver=b.ver:=by
  cases ha:a.ver<;>simp_all
 simp_all
theorem WO{a b:Rl}(h:Fa a=Fa b):a.path=b.path/\a.ver.a=b.ver.a/\a.ver.b=b.ver.b/\a.ver.c=b.ver.c:=by
 grind [Fa]
abbrev XT(x:List Rl):Nat->Option Rl
 |0=>none
 |k+1=>x[k]?
theorem zg(hL:VA nm)(x:List Rl)(ifs:C0)(hs:∀r∈x,CX r):PC 86 [.agg (Ic x ifs)] (vi (AL x)):=by
 refine Ps (Hy []) func86 rfl (Nz rfl) (Yi ?_ ?_)
 .intro h;exact .of_eq (Aa vi (show(7:Int)=AL x by grind [AL]))
 intro h;have hl:x.length<=256:=aa0
 have Uj:AL x=B5 none x:=by grind [AL]
 refine Xi {i:Nat // i<=x.length/\B5 none x=B5 (XT x i) (x.drop i)} (Xi (fun i=>⟨[(1,.ref 1 0),(12,sl Au x),(13,vi (x.map Au).length),(14,vi i.1)],[(1,.cells (Ic x ifs))],Ae⟩) (Xi (fun i=>x.length-i.1) (Yi (Xi ⟨0,Aj _,rfl⟩ ?_) ?_)))
 .exact⟨Z4,Z1,Fh,Tv⟩
 intro⟨i,h1,h2⟩;refine Yi ?_ ?_
 .intro h;have h:i<x.length:=B0
  have hg:x[i]?=some x[i]:=Ge h;have hd:x.drop i=x[i]::x.drop (i+1):=AD h;have hc:=AdW hL x[i] (hs x[i] (Ai h));have JD:B5 none x=if CM x[i]≠0 then CM x[i]else match XT x i with
   |none=>B5 (some x[i]) (x.drop (i+1))
   |some b=>if Fa b=Fa x[i]then 5 else if 0<CB b x[i]then 1 else B5 (some x[i]) (x.drop (i+1)):=by rw[h2,hd];rfl
  have uW:XT x (i+1)=some x[i]:=Ge h;refine Xi (Au x[i]) (Yi (Yi ch (by simp[hg])) (Yi rfl ?_));refine Yi (Nz rfl) (Yi (Nz rfl) (yN (C1 (C2 (hc) (Yi ?_ ?_)))))
  .intro h4;exact .of_eq (Aa vi (show CM x[i]=AL x by omega))
  intro h4;refine Yi ?_ ?_
  .intro h5;have h5:(i:Int)=0:=h5;have h6:i=0:=ch
   refine Yi (Ii i ch) (Xi ⟨i+1,by omega,by grind⟩ ?_);exact⟨Dl x.length i ch,Z4,Z1,Fh,Tv⟩
  intro h5;have h5:¬(i:Int)=0:=h5;have nI:i-1<x.length:=ch
  have hb:XT x i=some x[i-1]:=by
   grind
  have Afz:B5 none x=if Fa x[i-1]=Fa x[i]then 5 else if 0<CB x[i-1] x[i]then 1 else B5 (some x[i]) (x.drop (i+1)):=aa0
  refine Yi (by grind [Az]) ?_;have gj:(x.map Au)[((i:Int)-1).toNat]?=some (Au x[i-1]):=by rw[show((i:Int)-1).toNat=i-1 by omega];grind
  refine Xi (Au x[i-1]) (Yi (Yi ch gj) (Yi rfl (Yi (Nz rfl) (yN (yN (C2 (wd x[i-1]) (yN (C2 (wd x[i]) (Yi ?_ ?_)))))))))
  .intro h6;refine Yi aa1 ?_;have e:(5:Int)=AL x:=by rw[Uj,Afz,Ax (xw ⟨h6.1,h6.2.1,h6.2.2.1,h6.2.2.2.1⟩)]
   exact .of_eq (Aa vi e)
  intro h6;refine Yi aa1 ?_;have h7:¬Fa x[i-1]=Fa x[i]:=fun e=>by
   have e:=WO e;exact h6 ⟨e.1,e.2.1,e.2.2.1,e.2.2.2,trivial⟩
  refine Yi (Nz rfl) (yN (C1 (C2 (Aa1 x[i-1] x[i]) (Yi ?_ ?_))))
  .intro h8;have e:(1:Int)=AL x:=aa0
   exact .of_eq (Aa vi e)
  .intro h8;refine Yi (Ii i ch) (Xi ⟨i+1,by omega,by grind⟩ ?_);exact⟨Dl x.length i ch,Z4,Z1,Fh,Tv⟩
 .intro h;have h:¬i<x.length:=B0
  have e:(0:Int)=AL x:=by rw[Uj,h2,KD ch];rfl
  exact .of_eq (Aa vi e)
abbrev rlC(r:Rl)(a:AV):List AV:=[vs r.path,vi r.ver.a,vi r.ver.b,vi r.ver.c,a,vs r.arch,vs r.ifc,vs r.cert,vb r.yanked]
abbrev Agg:Qx:=⟨[],[],[],[],[],[],[],[(9,(1,4,900,2))],[],[],[]⟩
theorem c98(r:Rl)(hr:r.reqs.length<=1000)(hs:∀q∈r.reqs,BD q.set):PC 83 [.agg (Au r)] (.agg (Au r)):=by
 refine Ps Agg func83 rfl (Nz rfl) (yN (Xi {i:Nat // i<=r.reqs.length} (Xi (fun i=>⟨[(1,.ref 1 0),(2,.ref 2 0),(9,sl AI r.reqs),(10,vi (r.reqs.map AI).length),(11,vi i.1)],[(1,.cells (rlC r (.slice (.id 900 2) ((r.reqs.take i.1).map AI)))),(2,.cells qQ),(900,.tok 2 ((r.reqs.take i.1).map AI).length)],Ae⟩) (Xi (fun i=>r.reqs.length-i.1) (Yi (Xi ⟨0,Aj _⟩ ?_) ?_)))))
 .exact⟨Z5,Z3,Fh,Tv⟩
 intro⟨i,h1⟩;refine Yi ?_ ?_
 .intro h;have h:i<r.reqs.length:=B0
  have hg:r.reqs[i]?=some r.reqs[i]:=Ge h;refine Xi (AI r.reqs[i]) (Yi (Yi ch B0) (Yi rfl ?_));have hq:=hs r.reqs[i] (Ai h);refine Yi (Nz rfl) (yN (C1 (C2 (Ae5 r.reqs[i].set hq) (yN (yN ?_)))));have F5:Bi 2 [AI r.reqs[i]]/\((r.reqs.take i).map AI).length=((r.reqs.take i).map AI).length/\(((r.reqs.take i).map AI).length+[AI r.reqs[i]].length)*40<=140737488355328/\((r.reqs.take i).map AI).length+[AI r.reqs[i]].length<=9223372036854775807:=
   ⟨⟨rfl,trivial⟩,rfl,by grind,by grind⟩
  refine Yi F5 (yN (Yi (by grind [Az]) (Xi ⟨i+1,by omega⟩ ?_)));have et:(r.reqs.take (i+1)).map AI=(r.reqs.take i).map AI++[AI r.reqs[i]]:=by rw[DI,hg,Ar];rfl
  have e1:HO.cells (rlC r (.slice (.id 900 2) ((r.reqs.take i).map AI++[AI r.reqs[i]])))=.cells (rlC r (.slice (.id 900 2) ((r.reqs.take (i+1)).map AI))):=by rw[et]
  have e2:HO.tok 2 (((r.reqs.take i).map AI).length+[AI r.reqs[i]].length)=.tok 2 ((r.reqs.take (i+1)).map AI).length:=B0
  exact⟨by grind,Z5,⟨⟨e1,rfl⟩,Zr,⟨e2,rfl⟩,Tv⟩,Fh,Tv⟩
 .intro h;have h:¬i<r.reqs.length:=B0
  refine Yi (Nz rfl) (Yi (Nz rfl) (yN ?_));have e:AV.agg (rlC r (.slice .none ((r.reqs.take i).map AI)))=.agg (Au r):=aa0
  exact .of_eq e
abbrev vc:AV:=.v (.int .u8 c.toNat)
theorem Xw(a:UInt8)(n:Nat)(h:n<256):decide (UInt8.ofNat n<=a)=decide ((n:Int)<=(a.toNat:Int)):=by
 grind [UInt8.le_iff_toNat_le,UInt8.toNat_ofNat']
theorem Xv(a:UInt8)(n:Nat)(h:n<256):decide (a<=UInt8.ofNat n)=decide ((a.toNat:Int)<=(n:Int)):=by
 grind [UInt8.le_iff_toNat_le,UInt8.toNat_ofNat']
theorem wo:PC 286 [vc c] (vb (EL c)):=by
 refine Ps CQ func286 rfl (Nz rfl) ?_;have e1:decide ((97:UInt8)<=c)=decide ((97:Int)<=(c.toNat:Int)):=Xw c 97 Wk;have e2:decide (c<=(122:UInt8))=decide ((c.toNat:Int)<=(122:Int)):=Xv c 122 Wk;have es:EL c=(decide ((97:Int)<=(c.toNat:Int))&&decide ((c.toNat:Int)<=(122:Int))):=by grind [EL]
 refine Yi ?_ ?_
 .intro h;refine Yi ?_ ?_
  .intro h2;exact .of_eq (Aa vb (show true=EL c by simp_all))
  .intro h2;exact .of_eq (Aa vb (show false=EL c by simp_all))
 .intro h;exact .of_eq (Aa vb (show false=EL c by simp_all))
theorem wq:PC 287 [vc c] (vb (Cs c)):=by
 refine Ps CQ func287 rfl (Nz rfl) ?_;have e1:decide ((48:UInt8)<=c)=decide ((48:Int)<=(c.toNat:Int)):=Xw c 48 Wk;have e2:decide (c<=(57:UInt8))=decide ((c.toNat:Int)<=(57:Int)):=Xv c 57 Wk;have es:Cs c=(decide ((48:Int)<=(c.toNat:Int))&&decide ((c.toNat:Int)<=(57:Int))):=by grind [Cs]
 refine Yi ?_ ?_
 .intro h;refine Yi ?_ ?_
  .intro h2;exact .of_eq (Aa vb (show true=Cs c by simp_all))
  .intro h2;exact .of_eq (Aa vb (show false=Cs c by simp_all))
 .intro h;exact .of_eq (Aa vb (show false=Cs c by simp_all))
theorem AeB:PC 357 [vc c] (vb (Mo c)):=by
 refine Ps CQ func357 rfl (Nz rfl) ?_;have e1:decide ((65:UInt8)<=c)=decide ((65:Int)<=(c.toNat:Int)):=Xw c 65 Wk;have e2:decide (c<=(90:UInt8))=decide ((c.toNat:Int)<=(90:Int)):=Xv c 90 Wk;have es:Mo c=(decide ((65:Int)<=(c.toNat:Int))&&decide ((c.toNat:Int)<=(90:Int))):=by grind [Mo]
 refine Yi ?_ ?_
 .intro h;refine Yi ?_ ?_
  .intro h2;exact .of_eq (Aa vb (show true=Mo c by simp_all))
  .intro h2;exact .of_eq (Aa vb (show false=Mo c by simp_all))
 .intro h;exact .of_eq (Aa vb (show false=Mo c by simp_all))
abbrev Va:Bool:=EL c||Cs c
theorem Aeq:PC 285 [vc c] (vb (Va c)):=by
 have h1:=wo c;have h2:=wq c;rcases Bt (EL c)with e | e
 .rw[e]at h1;refine Ps CQ func285 rfl (Nz rfl) (C1 (C2 (h1) ?_));exact .of_eq (Aa vb (show true=Va c by simp_all))
 .rw[e]at h1;refine Ps CQ func285 rfl (Nz rfl) (C1 (C2 (h1) (C1 (C2 (h2) ?_))));exact .of_eq (Aa vb (show Cs c=Va c by simp_all))
theorem Aew:PC 322 [vc c] (vb (FO c)):=by
 have h1:=wo c;have h2:=AeB c;have h3:=wq c;have ew:FO c=(EL c||Mo c||Cs c||decide (c=95)):=rfl;rcases Bt (EL c)with e | e
 .rw[e]at h1;refine Ps CQ func322 rfl (Nz rfl) (C1 (C2 (h1) ?_));exact .of_eq (Aa vb (show true=FO c by simp_all))
 rw[e]at h1;rcases Bt (Mo c)with e2 | e2
 .rw[e2]at h2;refine Ps CQ func322 rfl (Nz rfl) (C1 (C2 (h1) (C1 (C2 (h2) ?_))));exact .of_eq (Aa vb (show true=FO c by simp_all))
 rw[e2]at h2;rcases Bt (Cs c)with e3 | e3
 .rw[e3]at h3;refine Ps CQ func322 rfl (Nz rfl) (C1 (C2 (h1) (C1 (C2 (h2) (C1 (C2 (h3) ?_))))));exact .of_eq (Aa vb (show true=FO c by simp_all))
 rw[e3]at h3;refine Ps CQ func322 rfl (Nz rfl) (C1 (C2 (h1) (C1 (C2 (h2) (C1 (C2 (h3) ?_))))));have eb:decide (c=95)=decide ((c.toNat:Int)=95):=by
  rw[Eu,Bj,Bj];constructor
  .simp_all
  .intro h;exact HP.1 aa0
 refine Yi ?_ ?_
 .intro h;exact .of_eq (Aa vb (show true=FO c by simp_all))
 .intro h;exact .of_eq (Aa vb (show false=FO c by simp_all))
theorem q9(h:i<s.data.toList.length):s.data[i]?=some s.data.toList[i]:=by
 simp_all
theorem wm(f:Nat)(q:UInt8->Bool)(hf:∀c,PC f [vc c] (vb (q c)))(hs:s.data.toList.length<4611686018427387904):PC 284 [vs s,.v (Ye f)] (vb (s.data.toList.all q)):=by
 have FE:s.size=s.data.toList.length:=Cl
 refine Ps CQ func284 rfl (Nz rfl) (Xi {i:Nat // i<=s.data.toList.length/\∀j (hj:j<s.data.toList.length),j<i->q s.data.toList[j]=true} (Xi (fun i=>⟨[(0,vs s),(1,.v (Ye f)),(7,vi s.size),(8,vi i.1)],[],Ae⟩) (Xi (fun i=>s.data.toList.length-i.1) (Yi (Xi ⟨0,Aj _,fun j _ h=>by omega⟩ ?_) ?_))))
 .exact⟨Z4,Tv,Fh,Tv⟩
 intro⟨i,h1,h2⟩;refine Yi ?_ ?_
 .intro h;have h:(i:Int)<(s.size:Nat):=h;have h:i<s.data.toList.length:=ch
  refine Xi s.data.toList[i] (Yi ⟨by omega,by grind⟩ ?_);have hc:=hf s.data.toList[i];refine A1 (Bt (q s.data.toList[i])) (fun e=>?_) (fun e=>?_)
  .rw[e]at hc;refine C1 (C2 (hc) (Yi (by grind [Az]) (Xi ⟨i+1,by omega,fun j hj G8=>?_⟩ ?_)))
   .grind
   .exact⟨by grind,Z4,Tv,Fh,Tv⟩
  .rw[e]at hc;refine C1 (C2 (hc) ?_);have er:s.data.toList.all q=false:=by
    grind
   exact .of_eq (Aa vb er.symm)
 .intro h;have h:¬(i:Int)<(s.size:Nat):=h;have er:s.data.toList.all q=true:=AS.2 fun c hc=>by
   grind [List.getElem_of_mem]
  exact .of_eq (Aa vb er.symm)
end Go.Eng
namespace Go.Proofs
open Go.Proofs.Tryz
open Go.Shelf
def Tryz.laySplit_ren:Go.Shelf.Ren:=⟨fun | 146=>281 | 221=>320 | 268=>353 | 138=>354 | 143=>355 | 195=>370 | 197=>371 | 218=>372 | 219=>373 | 260=>386 | 217=>387 | 225=>388 | 224=>389 | 267=>390 | 266=>404 | 314=>405 | n=>n,fun | 9=>9 | 31=>52 | 3=>3 | 4=>4 | 0=>0 | 105=>425 | 21=>21 | 5=>5 | 46=>99 | 119=>442 | 139=>445 | 138=>444 | 146=>349 | 51=>229 | n=>n,fun | 1=>0 | 3=>4 | 4=>5 | n=>n⟩
theorem Tryz.laySplit:Go.Proofs.Lays.n146 Tryz.prog Tryz.laySplit_ren:={
 mixed:=by kernel_rfl
 f138:=Go.Eng.A0a func354
 f143:=Go.Eng.A0a func355
 f146:=Go.Eng.A0a func281
 f195:=Go.Eng.A0a func370
 f197:=Go.Eng.A0a func371
 f217:=Go.Eng.A0a func387
 f218:=Go.Eng.A0a func372
 f219:=Go.Eng.A0a func373
 f221:=Go.Eng.A0a func320
 f224:=Go.Eng.A0a func389
 f225:=Go.Eng.A0a func388
 f260:=Go.Eng.A0a func386
 f266:=Go.Eng.A0a func404
 f267:=Go.Eng.A0a func390
 f268:=Go.Eng.A0a func353
 f314:=Go.Eng.A0a func405
 t0:=underlying0
 a0:=isAgg0
 z0:=sizeOf0
 v0:=zeroValue0
 t3:=underlying3
 a3:=isAgg3
 z3:=sizeOf3
 v3:=zeroValue3
 t4:=underlying4
 a4:=isAgg4
 z4:=sizeOf4
 v4:=zeroValue4
 t5:=underlying5
 a5:=isAgg5
 z5:=sizeOf5
 v5:=zeroValue5
 t9:=underlying9
 a9:=isAgg9
 z9:=sizeOf9
 v9:=zeroValue9
 t21:=underlying21
 a21:=isAgg21
 z21:=sizeOf21
 v21:=zeroValue21
 t31:=underlying52
 a31:=isAgg52
 z31:=sizeOf52
 v31:=zeroValue52
 t46:=underlying99
 a46:=isAgg99
 z46:=sizeOf99
 v46:=zeroValue99
 t51:=underlying229
 a51:=isAgg229
 z51:=sizeOf229
 v51:=zeroValue229
 t105:=underlying425
 a105:=isAgg425
 z105:=sizeOf425
 v105:=zeroValue425
 t119:=underlying442
 a119:=isAgg442
 z119:=sizeOf442
 t138:=underlying444
 a138:=isAgg444
 z138:=sizeOf444
 v138:=zeroValue444
 t139:=underlying445
 a139:=isAgg445
 z139:=sizeOf445
 v139:=zeroValue445
 t146:=underlying349
 a146:=isAgg349
 z146:=sizeOf349
 v146:=zeroValue349
 g1:=by kernel_rfl
 g3:=by kernel_rfl
 g4:=by kernel_rfl }
def Tryz.layLast_ren:Go.Shelf.Ren:=⟨fun | 148=>234 | 222=>288 | 223=>289 | 269=>324 | n=>n,fun | 9=>9 | 3=>3 | 4=>4 | 5=>5 | 146=>349 | 51=>229 | 46=>99 | n=>n,fun | n=>n⟩
theorem Tryz.layLast:Go.Proofs.Lays.n148 Tryz.prog Tryz.layLast_ren:={
 mixed:=by kernel_rfl
 f148:=Go.Eng.A0a func234
 f222:=Go.Eng.A0a func288
 f223:=Go.Eng.A0a func289
 f269:=Go.Eng.A0a func324
 t3:=underlying3
 a3:=isAgg3
 z3:=sizeOf3
 v3:=zeroValue3
 t4:=underlying4
 a4:=isAgg4
 z4:=sizeOf4
 v4:=zeroValue4
 t5:=underlying5
 a5:=isAgg5
 z5:=sizeOf5
 v5:=zeroValue5
 t9:=underlying9
 a9:=isAgg9
 z9:=sizeOf9
 v9:=zeroValue9
 t46:=underlying99
 a46:=isAgg99
 z46:=sizeOf99
 v46:=zeroValue99
 t51:=underlying229
 a51:=isAgg229
 z51:=sizeOf229
 v51:=zeroValue229
 t146:=underlying349
 a146:=isAgg349
 z146:=sizeOf349
 v146:=zeroValue349 }
def Tryz.layCut_ren:Go.Shelf.Ren:=⟨fun | 103=>321 | 210=>356 | 206=>269 | n=>n,fun | 9=>9 | 4=>4 | 24=>370 | 3=>3 | n=>n,fun | n=>n⟩
theorem Tryz.layCut:Go.Proofs.Lays.n103 Tryz.prog Tryz.layCut_ren:={
 mixed:=by kernel_rfl
 f103:=Go.Eng.A0a func321
 f206:=Go.Eng.A0a func269
 f210:=Go.Eng.A0a func356
 t3:=underlying3
 a3:=isAgg3
 z3:=sizeOf3
 v3:=zeroValue3
 t4:=underlying4
 a4:=isAgg4
 z4:=sizeOf4
 v4:=zeroValue4
 t9:=underlying9
 a9:=isAgg9
 z9:=sizeOf9
 v9:=zeroValue9
 t24:=underlying370
 a24:=isAgg370
 z24:=sizeOf370
 v24:=zeroValue370 }
def Tryz.layCont_ren:Go.Shelf.Ren:=⟨fun | 144=>358 | 143=>355 | 219=>373 | 217=>387 | 225=>388 | 224=>389 | 267=>390 | 266=>404 | 314=>405 | n=>n,fun | 9=>9 | 4=>4 | 3=>3 | 5=>5 | 46=>99 | 146=>349 | 51=>229 | n=>n,fun | 1=>0 | n=>n⟩
theorem Tryz.layCont:Go.Proofs.Lays.n144 Tryz.prog Tryz.layCont_ren:={
 mixed:=by kernel_rfl
 f143:=Go.Eng.A0a func355
 f144:=Go.Eng.A0a func358
 f217:=Go.Eng.A0a func387
 f219:=Go.Eng.A0a func373
 f224:=Go.Eng.A0a func389
 f225:=Go.Eng.A0a func388
 f266:=Go.Eng.A0a func404
 f267:=Go.Eng.A0a func390
 f314:=Go.Eng.A0a func405
 t3:=underlying3
 a3:=isAgg3
 z3:=sizeOf3
 v3:=zeroValue3
 t4:=underlying4
 a4:=isAgg4
 z4:=sizeOf4
 v4:=zeroValue4
 t5:=underlying5
 a5:=isAgg5
 z5:=sizeOf5
 v5:=zeroValue5
 t9:=underlying9
 a9:=isAgg9
 z9:=sizeOf9
 v9:=zeroValue9
 t46:=underlying99
 a46:=isAgg99
 z46:=sizeOf99
 v46:=zeroValue99
 t51:=underlying229
 a51:=isAgg229
 z51:=sizeOf229
 v51:=zeroValue229
 t146:=underlying349
 a146:=isAgg349
 z146:=sizeOf349
 v146:=zeroValue349
 g1:=by kernel_rfl }
end Go.Proofs
namespace Go.Eng
open Go.Proofs Go.Proofs.Tryz
variable (s p:CS)
abbrev cW:CS:=⟨#[47]⟩
abbrev BK:List CS:=Go.Lib.splitB cW 0 (Go.Lib.countB s cW) s
theorem PY:(BK s).map (·.data.toList)=CL 47 s.data.toList:=kT s 47
abbrev Gx:List AV:=[vs s]
theorem Aa9(hs:ES s):PC 281 [vs s,vs cW] (sl Gx (BK s)):=by
 unfold ES at hs;have h:=kB (P:=Tryz.prog) (f:=281) (args:=[vs s,vs cW]) [.string s,.string cW] ((BK s).map Value.string) 9 (ZX 281 func281 aa1 rfl) rfl (fun x hx=>by
  obtain⟨y,_,rfl⟩:=Ay.1 hx;rfl) (fun w hm=>by
  obtain⟨m,hm⟩:=hm;have hl:(BK s).length=Go.Lib.countB s cW+1:=Go.Lib.splitB_all cW Wk 0 _ s rfl;refine(Any.strings_Split Tryz.laySplit aa1 s cW m w ch hm Wk).mono ?_
  rintro e w' ⟨rfl,rfl⟩
  exact⟨by simp_all,rfl⟩)
 rw[Bw]at h;exact h
theorem Aei(hs:ES s):PC 234 [vs s,vs p] (vi (Go.Lib.lastIndex s.data.toList p.data.toList)):=by
 unfold ES at hs;exact JN [.string s,.string p] (.int .i64 (Go.Lib.lastIndex s.data.toList p.data.toList)) (ZX 234 func234 aa1 rfl) rfl (fun g w=>.v _ _) fun w _=>Any.strings_LastIndex Tryz.layLast s p ch w
theorem Aev:PC 321 [vs s,vs p] (.tup [vs ⟨(Go.Lib.trimPrefix s.data.toList p.data.toList).toArray⟩,vb (Go.Lib.hasPrefix s.data.toList p.data.toList)]):=by
 exact JN [.string s,.string p] _ (ZX 321 func321 aa1 rfl) rfl (fun g w=>pv [.string ⟨(Go.Lib.trimPrefix s.data.toList p.data.toList).toArray⟩,.bool (Go.Lib.hasPrefix s.data.toList p.data.toList)]) fun w _=>Any.strings_CutPrefix Tryz.layCut s p w
theorem AeC(hs:ES s):PC 358 [vs s,vs p] (vb (Go.Lib.contains s.data.toList p.data.toList)):=by
 unfold ES at hs;exact JN [.string s,.string p] (.bool (Go.Lib.contains s.data.toList p.data.toList)) (ZX 358 func358 aa1 rfl) rfl (fun g w=>.v _ _) fun w hm=>by
  obtain⟨m,hm⟩:=hm;exact Any.strings_Contains Tryz.layCont s p m w ch hm
theorem gS:∀x y:List UInt8,Qb x y=x.isPrefixOf y
 | [],_=>by simp[Qb]
 |_::_,[]=>rfl
 |a::x,b::y=>by
  rw[Qb,List.isPrefixOf_cons_cons,gS x y]
  rfl
theorem nX(x:List UInt8):∀y:List UInt8,qL x y=Go.Lib.contains y x
 | []=>by
  unfold Go.Lib.contains Go.Lib.index;cases x<;>rfl
 |b::y=>by
  rw[qL,gS,nX x y]
  grind [Go.Lib.contains,Go.Lib.index]
theorem Od:∀(l:List UInt8) (h:0<l.length),l.headD 0=l[0]
 | [],h=>by grind
 |_::_,_=>rfl
abbrev u9:CS:=⟨⟨dL⟩⟩
theorem Aex(hs:ES s):PC 323 [vs s] (vb (VL s.data.toList)):=by
 unfold ES at hs;have hc:=AeC u9 ((⟨#[32]⟩++s)++⟨#[32]⟩) (Gc aa1);have e:Go.Lib.contains u9.data.toList ((⟨#[32]⟩++s:CS)++⟨#[32]⟩).data.toList=VL s.data.toList:=by
  unfold VL;rw[nX]
  congr 1
 rw[e]at hc;refine Ps CQ func323 rfl (Nz rfl) (Yi (by show(((1+s.size:Nat)):Int)<=_;omega) ?_);refine Yi (by show(((⟨#[32]⟩++s:CS).size+1:Nat):Int)<=_;rw[A2];show(((1+s.size)+1:Nat):Int)<=_;omega) ?_;refine C1 (C2 (hc) ?_);exact .refl _
theorem Aep(hs:ES s):PC 283 [vs s] (vb (Gq s.data.toList)):=by
 have hk:=Aex s hs;have hw:=wm s 322 FO Aew (by unfold ES at hs;simp;omega);have FE:s.size=s.data.toList.length:=Cl
 have en:Gq s.data.toList=(!s.data.toList.isEmpty&&decide (s.data.toList.length<=32)&&EL (s.data.toList.headD 0)&&s.data.toList.all FO&&!VL s.data.toList):=rfl
 by_cases h0:s=⟨#[]⟩
 .subst h0;refine Ps CQ func283 rfl (Nz rfl) (Yi ?_ ?_)
  .intro h;exact absurd rfl (show(⟨#[]⟩:CS)≠⟨#[]⟩from h)
  .intro _;exact .refl _
 have h0' : s.data.toList≠[]:=fun e=>h0 (by
  have:s.data=#[]:=B0
  cases s;simp_all)
 have Dr:0<s.data.toList.length:=Jc.2 h0';have se:s.data.toList.isEmpty=false:=by
  grind
 have hhd:s.data.toList.headD 0=s.data.toList[0]:=Od _ Dr;have xi:=wo s.data.toList[0];refine Ps CQ func283 rfl (Nz rfl) (Yi ?_ ?_)
 rotate_left
 .intro h;exact absurd h0 h
 intro _;refine Yi ?_ ?_
 rotate_left
 .intro h;exact .of_eq (Aa vb (show false=Gq s.data.toList by grind))
 intro h;refine Xi s.data.toList[0] (Yi ⟨Bs _,q9 s 0 Dr⟩ (A1 (Bt (EL s.data.toList[0])) (fun e1=>?_) (fun e1=>?_)))
 rotate_left
 .rw[e1]at xi;refine C1 (C2 (xi) ?_);exact .of_eq (Aa vb (show false=Gq s.data.toList by grind))
 rw[e1]at xi;refine C1 (C2 (xi) (A1 (Bt (s.data.toList.all FO)) (fun e2=>?_) (fun e2=>?_)))
 rotate_left
 .rw[e2]at hw;refine C1 (C2 (hw) ?_);exact .of_eq (Aa vb (show false=Gq s.data.toList by grind))
 rw[e2]at hw;refine C1 (C2 (hw) ?_);have ef:Gq s.data.toList=!VL s.data.toList:=aa0
 refine A1 (Bt (VL s.data.toList)) (fun e3=>?_) (fun e3=>?_)
 .rw[e3]at hk;refine C1 (C2 (hk) ?_);exact .of_eq (Aa vb (show false=Gq s.data.toList by grind))
 .rw[e3]at hk;refine C1 (C2 (hk) ?_);exact .of_eq (Aa vb (show true=Gq s.data.toList by grind))
theorem cU{cx:Cx}{st:St}{K:LS -> Prop}(t:List (Nat×AV))(h:List (Nat×HO))(h1:leT st (LS.st ⟨t,h,Ae⟩).h t)(h2:leH st (LS.st ⟨t,h,Ae⟩).h h)(k:K ⟨t,h,Ae⟩)
    (h3:match cx.ext with | false => True | true => ∀j,1000 <= j -> j<2000 -> st.h j ≠ .free -> (LS.st ⟨t,h,Ae⟩).h j ≠ .free:=by first | exact trivial | exact Bu aa1):∃s,St.le cx st s /\ K s:=⟨_,⟨h1,h2,fun _ => .inl rfl,h3⟩,k⟩
end Go.Eng
