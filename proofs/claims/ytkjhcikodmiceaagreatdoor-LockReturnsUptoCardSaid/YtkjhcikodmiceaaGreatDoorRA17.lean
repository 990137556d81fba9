/- Lemmas 17. -/
import Derived.Test.YtkjhcikodmiceaaGreatDoorRA16
import Derived.Shelf.Slices.Delete
namespace Go.Eng
open Go.Proofs Go.Shelf Go.RowKit Go.Lib Go.Sort
theorem qM(F:Array Value)(i n:Nat)(hF:F.size=n*3)(hi:i<n)(z:List Value)(hz:z.length=3):(lay (lay F (i*3) (F.toList.drop ((i+1)*3))) ((n-1)*3) z).toList=F.toList.take (i*3)++F.toList.drop ((i+1)*3)++z:=by
 have l1:(F.toList.take (i*3)).length=i*3:=by simp;omega
 have l2:(F.toList.drop ((i+1)*3)).length=(n-(i+1))*3:=by simp;omega
 apply Cr
 intro t
 rw[Be,lay_get? _ _ _ _ (by rw[Lib.lay_size];omega),lay_get? _ _ _ _ (by rw[l2];omega)]
 rw[hz,l2]
 by_cases c1:t<i*3
 .rw[AB B0,AB B0,B8 (by rw[Aa];omega),B8 B0,List.getElem?_take,As c1,Be]
 .by_cases c2:t<(n-1)*3
  .rw[AB B0,As B0,B8 (by rw[Aa];omega),Bf B0,l1]
  .rw[Bf (by rw[Aa];omega),Aa,l1,l2]
   by_cases c3:t<n*3
   .rw[As B0];congr 1;omega
   .rw[AB B0,AB B0,T9 B0,EI B0]
abbrev ll:List Value:=[.string ⟨#[]⟩,.bool false,.slice none 0 0]
set_option maxHeartbeats 4000000 in
set_option maxRecDepth 1000000 in
theorem ie(w:World)(b cap i n:Nat)(F:Array Value)(hF:F.size=n*3)(hi:i<n)(OE:n<=cap)(hH:Holds id w b 0 F)(h1:∀x∈F.toList,x.oneCell'=true) :
  Calls Tryz.prog 344 #[.slice (some ⟨b,0,none⟩) n cap,.int .i64 i,.int .i64 ((i:Int)+1)] w fun e w'=>e=.returned (.slice (some ⟨b,0,none⟩) (n-1) cap) /\
   w'=putRow id (Sort.ahead w 1) b 0 (lay (lay F (i*3) (F.toList.drop ((i+1)*3))) ((n-1)*3) ll):=by
 obtain⟨i0,yQ,T6⟩:∃i0,Tryz.prog.info? 325=some i0/\i0.size=3:=by
  obtain⟨i,z,h1,_,h2,_⟩:=Hb (P:=Tryz.prog) (T:=nY) BB (e:=325) (n:=2) aa3
  exact⟨i,h1,h2.trans aa3⟩
 obtain⟨news,HE⟩:∃news,news=F.toList.drop ((i+1)*3):=⟨_,rfl⟩
 have CF:news.length=(n-(i+1))*3:=by rw[HE];simp;omega
 have Fi:∀t,t<(n-(i+1))*3->news[t]?=some F[(i+1)*3+t]!:=by
  intro t ht
  rw[HE,ER,Be,NA F ((i+1)*3+t) B0,BG B0]
 obtain⟨A,hA,qD⟩:∃A:Addr,(if cap=i+1 then some (⟨b,0,none⟩:Addr)else some ⟨b,(i+1)*3,none⟩)=some A/\Hid (∀t u,news[t]?=some u->w.drew.cell? (A.add t)=some u):=by
  by_cases h:cap=i+1
  .refine⟨⟨b,0,none⟩,by simp[h],fun t u hu=>?_⟩
   have h0:news.length=0:=by rw[CF];omega
   rw[List.length_eq_zero_iff.1 h0]at hu
   simp at hu
  .refine⟨⟨b,(i+1)*3,none⟩,by simp[h],fun t u hu=>?_⟩
   have ht:t<(n-(i+1))*3:=by
    have:=(AE.1 hu).1
    rwa [CF]at this
   rw[Fi t ht]at hu
   rw[Addr.add_lit]
   have:=(hH ((i+1)*3+t) B0).1
   rw[Bz]at this
   exact this.trans hu
 have s1:Hid (news.length=(n-(i+1))*3):=CF
 have s2:Hid (∀u∈news,u.oneCell'=true):=by
  intro u hu
  rw[HE]at hu
  exact h1 u (H1 hu)
 have s3:Hid (∀t,t<news.length->(w.drew.cell? ⟨b,0+i*3+t,none⟩).isSome=true/\w.drew.frozen? ⟨b,0+i*3+t,none⟩=false):=by
  intro t ht
  rw[CF]at ht
  have:=hH (i*3+t) B0
  rw[Ft]
  exact⟨by show(w.cell? _).isSome=true;rw[this.1];rfl,this.2⟩
 obtain⟨W1,Wa⟩:∃W1,W1=w.drew.setCells b (0+i*3) news:=⟨_,rfl⟩
 have qh : W1=putRow id (Sort.ahead w 1) b 0 (lay F (i*3) news):=by
  have:=putRow_setCells id (Sort.ahead w 1) b 0 news F (i*3) B0
  rw[putRow_self id (Sort.ahead w 1) b 0 F (holds_ahead id w 1 b 0 F hH),Jk]at this
  rw[Wa,<-this]
  rfl
 have yc:Holds id W1 b 0 (lay F (i*3) news):=by rw[qh];exact holds_putRow id _ b 0 F _ (holds_ahead id w 1 b 0 F hH) (Lib.lay_size _ _ _)
 have IM:(storeCells ⟨b,0+(n-1)*3,none⟩ ll 0).run Tryz.prog W1=.ok () (W1.setCells b (0+(n-1)*3) ll):=by
  have:=run_storeCells_cells (P:=Tryz.prog) b (0+(n-1)*3) ll 0 W1 (fun j hj=>by
   have hj:j<3:=hj
   have:=yc ((n-1)*3+j) (by rw[Lib.lay_size];omega)
   rw[show 0+(n-1)*3+0+j=0+((n-1)*3+j) by omega,this.1];rfl) (fun j hj=>by
   have hj:j<3:=hj
   have:=yc ((n-1)*3+j) (by rw[Lib.lay_size];omega)
   rw[show 0+(n-1)*3+0+j=0+((n-1)*3+j) by omega];exact this.2) (fun v hv=>by
   simp only[AM,Lc,or_false]at hv
   rcases hv with rfl | rfl | rfl<;>rfl)
  exact this
 have hcl:∀ty c,(Builtin.clear_ #[258] ty #[.slice (some ⟨b,(n-1)*3,none⟩) 1 c]).run Tryz.prog W1=.ok (.tuple #[]) (W1.setCells b (0+(n-1)*3) ll):=fun ty c=>by
  have hv:=Tryz.zeroValue325
  rw[Bz]at IM⊢
  have hz:(Builtin.zeroCells (Value.agg #[Value.string { data:=#[] },Value.bool false,Value.slice none 0 0]).cells 1).toList=ll:=by kernel_rfl
  simp[Builtin.clear_,run_underlying Tryz.underlying258,hv,hz,IM]
 have Adp:∀ty,(Builtin.clear_ #[258] ty #[.slice (some ⟨b,(i+(n-(i+1)))*3,none⟩) (n-(i+(n-(i+1)))) (cap-(i+(n-(i+1))))]).run Tryz.prog W1=.ok (.tuple #[]) (W1.setCells b (0+(n-1)*3) ll):=fun ty=>by
  have e1:i+(n-(i+1))=n-1:=B0
  have e2:n-(n-1)=1:=B0
  rw[e1,e2];exact hcl ty _
 have X:Aside (W1=putRow id (Sort.ahead w 1) b 0 (lay F (i*3) news)):=qh
 have hW:Hid (W1=w.drew.setCells b (0+i*3) news):=Wa
 have Y:Aside (news=F.toList.drop ((i+1)*3)):=HE
 have Z:Aside (news.length=(n-(i+1))*3):=CF
 have yS:i<=cap:=B0
 have hjc:i+1<=cap:=B0
 have mixed:=Go.Eng.hm
 have hb1:(0:Int)<=(i:Int)+1:=B0
 have OD:(i:Int)+1<=(n:Int):=B0
 clear Wa qh yc hH Fi HE CF IM hcl
 go_enter Tryz.func344,Tryz.ntmps344
 go_wp2_with fail
 go_region_law_o (refine step_append_room rfl (.tmp 22) (.tmp 25) 258 rfl 325 i0 3 Tryz.underlying258 yQ T6 b 0 i cap (by simp[Act.eval,Act.put]) A (n-(i+1)) (cap-(i+1)) news (by simp[Act.eval,Act.put]) s1.out qD.out s2.out B0 s3.out ?_;rw[<-hW.out])
 go_wp2
 go_ret
 refine⟨by rw[show i+(n-(i+1))=n-1 by omega];rfl,?_⟩
 rw[X.out]
 have e1:=Y.out
 have e2:=Z.out
 rw[<-e1]
 have:=putRow_setCells id (Sort.ahead w 1) b 0 ll (lay F (i*3) news) ((n-1)*3) (by rw[Lib.lay_size];show _+3<=_;omega)
 rw[Jk,Bz]at this
 exact this
abbrev Zi:List AV:=[Go.Eng.vs ⟨#[]⟩,vb false,nzA]
theorem xI(l:List Tm)(i:Nat)(hi:i<l.length) :
  Bd Tryz.prog 344 [.msl 1000 l.length,vi i,vi ((i:Int)+1)] (Ag [(1000,.arr 3 (l.map Az))] Ad) fun r h'=>r=.msl 2000 (l.length-1)/\h'=Ag [(1000,.dead),(2000,.arr 3 ((l.eraseIdx i).map Az))] Ad:=by
 have hE:FN Tryz.prog 344:=dI 344 Tryz.func344 aa3 rfl
 have CF:(l.eraseIdx i).length=l.length-1:=List.length_eraseIdx_of_lt hi
 have Ix:=Uu (P:=Tryz.prog) (f:=344) (es:=l.map Az) (sz:=3) (rest:=[.int .i64 i,.int .i64 ((i:Int)+1)]) (n':=l.length-1) (Q:=fun Fp=>Fp=(l.eraseIdx i).map Az++[Zi]) hE (fun e=>by
  rw[DO]at e;subst e;simp at hi) (by rw[AW];omega) ?_
 .rw[AW]at Ix
  refine⟨hE,fun g w vals q1 q2 q3=>(Ix.2 g w vals q1 q2 q3).mono fun _ _ ⟨v,r,h',g',e1,⟨e2,Fp,p1,p2⟩,rest⟩=>⟨v,r,h',g',e1,⟨e2,by rw[p2,p1,Lq (by rw[AW,CF];exact Ai _),Bj (by rw[AW,CF];exact Ai _)]⟩,rest⟩⟩
 .intro g w b cap F hr hF hH hb hc
  rw[AW]at hF hc⊢
  have hu:∀e∈l.map Az,e.length=3:=fun e he=>by
   obtain⟨t,_,rfl⟩:=Ar.1 he;rfl
  refine(ie w b cap i l.length F hF hi hc hH hr.2.1).mono ?_
  rintro e w' ⟨rfl,rfl⟩
  refine⟨rfl,_,_,1,#[],?_,rfl,?_,fun cs hcs=>?_,fun g w hr=>?_,rfl⟩
  .rw[Lib.lay_size,Lib.lay_size]
  .rw[Aa,AW,CF,A5];omega
  .rcases Bk.1 hcs with h | h
   .obtain⟨t,_,rfl⟩:=Ar.1 h;rfl
   .rw[AC.1 h];rfl
  .rw[qM F i l.length hF hi ll rfl,List.eraseIdx_eq_take_drop_succ,CM,AG,CM,List.map_take,List.map_drop,<-Kx _ i hu,<-Ou _ (i+1) hu]
   refine Cg.append (Cg.append (hr.take _) (hr.drop _)) ?_
   exact MH g w DR ll fun x hx=>by
    simp only[AM,Lc,or_false]at hx
    rcases hx with rfl | rfl | rfl<;>rfl
end Go.Eng
namespace Go.Eng
open Go.Proofs
variable {nm:ByteArray->ByteArray}{l r:List Tm}{α:Type}{c:List Tm}{t:Tm}{k:Nat}(x:List Rl)(a:List Tm)(ifs:List (List AV))(s:ByteArray)(roots:List Rq)(b:List Tm)(d:List (List Tm))(p:ByteArray)(i:Nf)
theorem sC(l:List Tm)(hl:Cz l)(CU:l≠[]):Bd Tryz.prog 345 [sl Az l] (Ag [] Ad) fun r h'=>r=.msl 2000 l.length/\h'=Ag [(2000,.arr 3 (l.map Az))] Ad:=by
 refine Bm (IF (pla [(5,3)] [])) [(5,2000)] rfl BB hm rfl Tryz.func345 aa3 rfl (Nz rfl) aa3 rfl ?_;have DG:BX 3 (l.map Az)/\([]:List (List AV)).length=0/\(([]:List (List AV)).length+(l.map Az).length)*48<=140737488355328/\([]:List (List AV)).length+(l.map Az).length<=9223372036854775807:=by
  grind [DK]
 refine Yi ?_ ?_
 .intro _;refine Yi DG ?_;have e1:AV.msl 2000 (([]:List (List AV)).length+(l.map Az).length)=.msl 2000 l.length:=aa0
  refine Xi (.msl 2000 (([]:List (List AV)).length+(l.map Az).length)) (Yi (.refl _) (Yi e1 ?_))
  rfl
 .intro h;exact absurd (DO.1 h) CU
theorem pV(x:Tm)(p:ByteArray):PC 343 [.agg (Az x),.cptr [vs p]] (vb (decide (x.path=p))):=by
 refine Ps Ea Tryz.func343 rfl (Nz rfl) (Yi ?_ ?_)
 .intro h;rw[Ay h];exact .refl _
 .intro h;rw[Au h];exact .refl _
theorem MZ{p:ByteArray}:∀{c:List Tm} {i:Nat},(Ey c).Nodup->∀(hi:i<c.length),c[i].path=p->c.eraseIdx i=FJ c p
 |t::c,0,hn,_,h=>by
  grind [Ey,FJ,List.filter_eq_self]
 |t::c,i+1,hn,hi,h=>by
  have hi:i<c.length:=aa1
  have h:c[i].path=p:=h;unfold Ey at hn;rw[Bb,FY]at hn
  have:t.path≠p:=fun e=>hn.1 Wk
  have ih:=MZ hn.2 hi h
  grind [FJ]
theorem Pz(hl:Cz l)(h:CD l=some c):Cz c:=by
 have h1:=NL l l.length (Ai _);rw[Dh]at h1;have h2:c=(E4 l).filter fun t=>!GJ t:=by
  grind [CD]
 have h3:c.length<=(E4 l).length:=aa1
 have h4:(E4 l).length=(Dc l).length:=by
  grind [List.perm_ext_iff_of_nodup,L6,Ht,Hz,D6,IT,List.Perm.length_eq]
 omega
abbrev ng:AV:=.tup [.agg Zi,nzA,vb false]
abbrev pe:Nm:=⟨[3],[],[],[],[],[],[],[],[(30,0),(34,1)],[],[]⟩
theorem gR(l:List Tm)(p:ByteArray)(hl:Cz l)(hs:∀t∈l,Cz t.set)(hn:E6 l p=none):PC 296 [sl Az l,vs p] ng:=by
 have hc:=vP l hl hs;unfold E6 at hn;cases e:CD l with
 |none=>
  have e1:Kl l=.tup [sl Az [],vb false]:=by grind [PT]
  rw[e1]at hc;have hi:=lK (CN.ptr [vs p]) [] (fun x=>decide (x.path=p)) (fun x _=>pV x p) aa0;refine Ps pe Tryz.func296 rfl (Nz rfl) (Xi .pure (Xi _ (Yi (hc) (Xi .pure (Xi _ (Yi (hi) (Yi (Nz rfl) (yN ?_))))))));exact .refl _
 |some c=>
  rw[e]at hn;have hn:(match Df c p with | none=>none | some t=>some (t,FJ c p))=none:=hn;have hfn:Df c p=none:=by
   grind
  have e1:Kl l=.tup [sl Az c,vb true]:=by grind [PT]
  rw[e1]at hc;have oF:=Pz hl e;have hi:=lK (CN.ptr [vs p]) c (fun x=>decide (x.path=p)) (fun x _=>pV x p) B0;have hid:JI (fun x:Tm=>decide (x.path=p)) c 0=-1:=by
   grind [LR,Df]
  rw[hid]at hi;refine Ps pe Tryz.func296 rfl (Nz rfl) (Xi .pure (Xi _ (Yi (hc) (Xi .pure (Xi _ (Yi (hi) (Yi ?_ ?_)))))))
  .intro _;refine Yi (Nz rfl) (yN ?_);exact .refl _
  .intro h;exact absurd (show(-1:Int)<0 by decide) h
abbrev qU:Nm:=⟨[3],[],[],[],[],[],[],[],[(30,0),(34,2)],[],[]⟩
theorem gT(l:List Tm)(p:ByteArray)(hl:Cz l)(hs:∀t∈l,Cz t.set)(hn:E6 l p=some (t,r)) :
  Bd Tryz.prog 296 [sl Az l,vs p] (Ag [] Ad) fun v h'=>v=.tup [.agg (Az t),.msl 2000 r.length,vb true]/\h'=Ag [(2000,.arr 3 (r.map Az))] Ad:=by
 have hc:=vP l hl hs;unfold E6 at hn;cases e:CD l with
 |none=>simp_all
 |some c=>
  rw[e]at hn;have hn:(match Df c p with | none=>none | some t=>some (t,FJ c p))=some (t,r):=hn;have rP:Df c p=some t/\FJ c p=r:=by
   grind
  have e1:Kl l=.tup [sl Az c,vb true]:=by grind [PT]
  rw[e1]at hc;have oF:=Pz hl e;have hi:=lK (CN.ptr [vs p]) c (fun x=>decide (x.path=p)) (fun x _=>pV x p) B0;rcases LR (p:=fun x:Tm=>decide (x.path=p)) c 0 with ⟨_,h2⟩ | ⟨i,x,h1,h2,h3⟩
  .grind [Df]
  have hx:x=t:=by
   grind [Df]
  subst hx;rw[h1,F0]at hi;obtain⟨yS,hie⟩:=AE.1 h2;have her:c.eraseIdx i=r:=by
   rw[<-rP.2];exact MZ (Hz (EA e)) yS aa1
  have wj:c.length-1=r.length:=aa1
  have CU:c≠[]:=fun h=>by simp_all
  have Adx:c.length<=1073741824:=oF;refine Bm (IF qU) [(13400,2000)] rfl BB hm rfl Tryz.func296 aa3 rfl (Nz rfl) aa3 rfl (Xi .pure (Xi _ (Yi (hc) (Xi .pure (Xi _ (Yi (hi) (Yi ?_ ?_)))))))
  .intro h;omega
  intro _;have hg:(c.map Az)[((i:Nat):Int).toNat]?=some (Az x):=Wk
  refine Xi (Az x) (Yi (Yi B0 hg) (Yi rfl (yN (Xi c.length (Xi 3 (Xi (c.map Az) (Yi rfl (Yi (sC c oF CU) (Yi (by grind [A8]) (Xi (c.length-1) (Xi ((c.eraseIdx i).map Az) (Yi rfl (Yi (xI c i yS) (yN (Yi aa3 (yN ?_))))))))))))))));have e2:AV.tup [.agg (Az x),.msl 2000 (c.length-1),vb true]=.tup [.agg (Az x),.msl 2000 r.length,vb true]:=by rw[wj]
  have e3:Ag [(2000,HO.arr 3 ((c.eraseIdx i).map Az))] Ad=Ag [(2000,.arr 3 (r.map Az))] Ad:=by rw[her]
  exact Xi _ (Yi (.refl _) (Yi e2 e3))
abbrev cA:Nm:=⟨[],[],[],[],[],[],[],[],[],[(24,9),(30,12)],[2,3,5,6]⟩
abbrev uG:AV:=.tup [sl Az (Bg a b p).1,vi (Bg a b p).2]
theorem Vp{p:ByteArray}(h:E6 l p=some (t,r)):∃c,CD l=some c/\t∈c/\r=FJ c p:=by
 grind [E6,Gk]
theorem Vq{p:ByteArray}(hl:Cz l)(h:E6 l p=some (t,r)):Cz t.set/\Cz r/\∀u∈r,Cz u.set:=by
 obtain⟨c,h1,h2,rfl⟩:=Vp h;have hs:=EA h1
 grind [RD,Pz,FJ,BO.canon]
theorem gW(h:CD l=some c):c.length<=l.length:=by
 have h1:=NL l l.length (Ai _);rw[Dh]at h1;have h2:c=(E4 l).filter fun t=>!GJ t:=by
  grind [CD]
 have h3:c.length<=(E4 l).length:=aa1
 grind [List.perm_ext_iff_of_nodup,L6,Ht,Hz,D6,IT,List.Perm.length_eq]
theorem Vr{p:ByteArray}(h:E6 l p=some (t,r)):r.length<=l.length:=by
 obtain⟨c,h1,h2,rfl⟩:=Vp h;have h3:(FJ c p).length<=c.length:=CL _ _
 have:=gW h1
 omega
theorem dK(a b:Ba):Cz (Pg a b):=by
 grind [HG,Ze]
theorem sw(ha:a.length<=500000000)(hb:b.length<=500000000)(hsa:∀t∈a,Cz t.set)(ub:∀t∈b,Cz t.set):PC 230 [sl Az a,sl Az b,vs p] (uG a b p):=by
 have oE:Cz a:=B0
 have dW:Cz b:=B0
 have er:∀{l:List Tm} {e:Int},Bg a b p=(l,e)->uG a b p=.tup [sl Az l,vi e]:=fun h=>by simp_all
 have e0:DW (.tup [nzA,vi 1]) (.tup [.slice .none [],vi 1]):=DW.tup ⟨.nil,.refl _,trivial⟩;cases h1:E6 a p with
 |none=>
  have hr:Bg a b p=([],1):=by grind [Bg]
  have c1:=gR a p oE hsa h1;cases h2:E6 b p with
  |none=>
   have c2:=gR b p dW ub h2;refine Ps cA Tryz.func230 rfl (Nz rfl) (Xi .pure (Xi _ (Yi (c1) (yN (Xi ⟨[(1,sl Az b),(2,vs p),(8,.ref 8 0),(9,nzA),(10,vb false)],[(8,.cells Zi)],Ad⟩ (Yi ⟨Z5,Z1,Fh,Tv⟩ (Xi .pure (Xi _ (Yi (c2) (yN (Xi ⟨[(8,.ref 8 0),(9,nzA),(10,vb false),(11,.ref 11 0),(12,nzA),(13,vb false)],[(8,.cells Zi),(11,.cells Zi)],Ad⟩ (Yi ⟨Z6,Z2,Fh,Tv⟩ ?_))))))))))))
   exact e0.trans (.of_eq (er hr).symm)
  |some q2=>
   obtain⟨t2,r2⟩:=q2;have c2:=gT b p dW ub h2;refine Ps cA Tryz.func230 rfl (Nz rfl) (Xi .pure (Xi _ (Yi (c1) (yN (Xi ⟨[(1,sl Az b),(2,vs p),(8,.ref 8 0),(9,nzA),(10,vb false)],[(8,.cells Zi)],Ad⟩ (Yi ⟨Z5,Z1,Fh,Tv⟩ ?_))))))
   have z2:r2.length=(r2.map Az).length:=Wk
   refine Xi (.gen [] 1) (Yi rfl (c2.imp ?_));intro v2 g2 q2;have q8:=q2.1;have wI:=q2.2;subst q8;subst wI;refine yN (Xi ⟨[(8,.ref 8 0),(9,nzA),(10,vb false),(11,.ref 11 0),(12,.msl 12600 r2.length),(13,vb true)],[(8,.cells Zi),(11,.cells (Az t2)),(12600,.arr 3 (r2.map Az))],Ad⟩ (Yi ⟨Z6,Z3,Fh,Tv⟩ (Yi z2 ?_)));exact e0.trans (.of_eq (er hr).symm)
 |some q1=>
  obtain⟨t1,r1⟩:=q1;have c1:=gT a p oE hsa h1;obtain⟨f1,f2,f3⟩:=Vq oE h1;cases h2:E6 b p with
  |none=>
   have hr:Bg a b p=([],1):=by grind [Bg]
   have c2:=gR b p dW ub h2;refine Ps cA Tryz.func230 rfl (Nz rfl) (Xi (.gen [] 1) (Yi rfl (c1.imp ?_)));intro v1 g1 q1;have TG:=q1.1;have OY:=q1.2;subst TG;subst OY;refine yN (Xi ⟨[(1,sl Az b),(2,vs p),(8,.ref 8 0),(9,.msl 11900 r1.length),(10,vb true)],[(8,.cells (Az t1)),(11900,.arr 3 (r1.map Az))],Ad⟩ (Yi ⟨Z5,Z2,Fh,Tv⟩ ?_))
   have z1:r1.length=(r1.map Az).length:=Wk
   refine Yi z1 (Xi .pure (Xi _ (Yi (c2) (yN (Xi ⟨[(8,.ref 8 0),(9,.slice (.id 11900 3) (r1.map Az)),(10,vb true),(11,.ref 11 0),(12,nzA),(13,vb false)],[(8,.cells (Az t1)),(11,.cells Zi),(11900,.tok 3 (r1.map Az).length)],Ad⟩ (Yi ⟨Z6,Z3,Fh,Tv⟩ ?_))))))
   exact e0.trans (.of_eq (er hr).symm)
  |some q2=>
   obtain⟨t2,r2⟩:=q2;have c2:=gT b p dW ub h2;obtain⟨g1,g2,g3⟩:=Vq dW h2;refine Ps cA Tryz.func230 rfl (Nz rfl) (Xi (.gen [] 1) (Yi rfl (c1.imp ?_)));intro v1 g1 q1;have TG:=q1.1;have OY:=q1.2;subst TG;subst OY;refine yN (Xi ⟨[(1,sl Az b),(2,vs p),(8,.ref 8 0),(9,.msl 11900 r1.length),(10,vb true)],[(8,.cells (Az t1)),(11900,.arr 3 (r1.map Az))],Ad⟩ (Yi ⟨Z5,Z2,Fh,Tv⟩ ?_))
   have z1:r1.length=(r1.map Az).length:=Wk
   have z2:r2.length=(r2.map Az).length:=aa1
   refine Yi z1 (Xi (.gen [] 1) (Yi rfl (c2.imp ?_)));intro v2 g2 q2;have q8:=q2.1;have wI:=q2.2;subst q8;subst wI;refine yN (Xi ⟨[(8,.ref 8 0),(9,.slice (.id 11900 3) (r1.map Az)),(10,vb true),(11,.ref 11 0),(12,.msl 12600 r2.length),(13,vb true)],[(8,.cells (Az t1)),(11,.cells (Az t2)),(11900,.tok 3 (r1.map Az).length),(12600,.arr 3 (r2.map Az))],Ad⟩ (Yi ⟨Z6,Z4,Fh,Tv⟩ (Yi z2 (Xi ⟨[(8,.ref 8 0),(9,.slice (.id 11900 3) (r1.map Az)),(11,.ref 11 0),(12,.slice (.id 12600 3) (r2.map Az))],[(8,.cells (Az t1)),(11,.cells (Az t2)),(11900,.tok 3 (r1.map Az).length),(12600,.tok 3 (r2.map Az).length)],Ad⟩ (Yi ⟨Z4,Z4,Fh,Tv⟩ ?_)))))
   have l1:=Vr h1;have l2:=Vr h2;have b1:BX 3 (r2.map Az)/\(r1.map Az).length=(r1.map Az).length/\((r1.map Az).length+(r2.map Az).length)*48<=140737488355328/\(r1.map Az).length+(r2.map Az).length<=9223372036854775807:=
    ⟨DK (enc:=Az) (n:=3) (fun _=>rfl) r2,rfl,by omega,by omega⟩
   refine Yi b1 (Yi (Nz rfl) (yN (Xi _ (Yi (xE t1 t2 f1 g1) ?_))));have b2:BX 3 [Az (CX t1 t2)]/\(r1.map Az++r2.map Az).length=(r1.map Az).length+(r2.map Az).length/\((r1.map Az++r2.map Az).length+[Az (CX t1 t2)].length)*48<=140737488355328/\(r1.map Az++r2.map Az).length+[Az (CX t1 t2)].length<=9223372036854775807:=
    ⟨⟨rfl,trivial⟩,by grind,by grind,by grind⟩
   refine Yi b2 ?_;have tv:=vP (r1++r2++[CX t1 t2]) aa1 (fun u hu=>by
    rcases Bk.1 hu with hu | hu
    .grind
    .rw[AC.1 hu];exact dK _ _)
   have e1:sl Az (r1++r2++[CX t1 t2])=.slice .none (r1.map Az++r2.map Az++[Az (CX t1 t2)]):=aa0
   have hc1:PC 297 [.slice .none (r1.map Az++r2.map Az++[Az (CX t1 t2)])] (Kl (r1++r2++[CX t1 t2])):=e1▸tv;cases hcn:CD (r1++r2++[CX t1 t2])with
   |none=>
    have hr:Bg a b p=([],8):=by grind [Bg]
    have ec:Kl (r1++r2++[CX t1 t2])=.tup [sl Az [],vb false]:=by grind [PT]
    have hc:PC 297 [.slice .none (r1.map Az++r2.map Az++[Az (CX t1 t2)])] (.tup [sl Az [],vb false]):=ec▸hc1;have e8:DW (.tup [nzA,vi 8]) (.tup [.slice .none [],vi 8]):=DW.tup ⟨.nil,.refl _,trivial⟩;refine Xi _ (Yi (hc) (Yi aa3 (Xi ⟨[(14,sl Az []),(15,vb false)],[],Ad⟩ (Yi ⟨Z2,Tv,Fh,Tv⟩ ?_))))
    exact e8.trans (.of_eq (er hr).symm)
   |some o=>
    have hr:Bg a b p=(o,0):=by grind [Bg]
    have ec:Kl (r1++r2++[CX t1 t2])=.tup [sl Az o,vb true]:=by grind [PT]
    have hc:PC 297 [.slice .none (r1.map Az++r2.map Az++[Az (CX t1 t2)])] (.tup [sl Az o,vb true]):=ec▸hc1;refine Xi _ (Yi (hc) (Yi aa3 (Xi ⟨[(14,sl Az o),(15,vb true)],[],Ad⟩ (Yi ⟨Z2,Tv,Fh,Tv⟩ ?_))))
    exact .of_eq (er hr).symm
def bD(h s:Nat->HO):Nat->Bool
 |0=>true
 |n+1=>(match h (1000+n)with |.free=>true |_=>(match s (1000+n)with |.free=>false |_=>true))&&bD h s n
theorem Sw{h s:Nat->HO}:∀{n:Nat},bD h s n=true->∀j,j<n->h (1000+j)≠.free->s (1000+j)≠.free
 |n+1,hd,j,hj,hn=>by
  simp only[bD,Aj]at hd;rcases BJ j n with h1 | h1
  .exact Sw hd.2 j h1 hn
  grind
theorem Bp{h s:Nat->HO}(hd:bD h s 1000=true):∀j,1000<=j->j<2000->h j≠.free->s j≠.free:=fun j h1 h2=>by
 have:=Sw hd (j-1000) B0
 simp_all
abbrev lO:List AV:=[sl At x,.slice .none ifs,sl Af roots,.slice (.id 1001 1) (d.map AD)]
abbrev Ik:HO:=.cells (lO x ifs roots d)
abbrev Ir:HO:=.tok 1 (d.map AD).length
abbrev MW:List (Nat×HO):=[(1000,Ik x ifs roots d),(1001,Ir d)]
abbrev gw:List AV:=[vs ⟨#[]⟩,vi 0,vi 0,vi 0,nzA,vs ⟨#[]⟩,vs ⟨#[]⟩,vs ⟨#[]⟩,vb false]
abbrev M9:Option Rl->AV
 |some r=>.tup [.agg (At r),vb true]
 |none=>.tup [.agg gw,vb false]
theorem iq{p:α->Bool}{l:List α}{i:Nat}(hi:i<l.length)(hb:∀j (hj:j<l.length),j<i->p l[j]=false)(h:p l[i]=true):l.find? p=some l[i]:=by
 grind [List.find?_eq_some_iff_getElem]
theorem dN{p:α->Bool}{l:List α}(hb:∀j (hj:j<l.length),p l[j]=false):l.find? p=none:=by
 grind [List.getElem_of_mem]
theorem xA(pl:Int)(hx:Cz x) :
  Bd Tryz.prog 358 [.ref 1000 0,vs p,vi pl] (Ag (MW x ifs roots d) Ad) fun r h'=>r=M9 (Fk x p pl)/\h'=Ag (MW x ifs roots d) Ad:=by
 unfold Cz at hx;refine Bm (IF (Eu [4])) [(1000,1000),(1001,1001)] rfl BB hm rfl Tryz.func358 aa3 rfl (Nz rfl) aa3 rfl (Xi {i:Nat // i<=x.length/\∀j (hj:j<x.length),j<i->(decide (x[j].path=p)&&decide (plc x[j].ver=pl))=false} (Xi (fun i=>⟨[(1,vs p),(2,vi pl),(6,.ref 6 0),(16,sl At x),(17,vi (x.map At).length),(18,vi i.1)],[(6,.cells gw),(1000,Ik x ifs roots d),(1001,Ir d)],Ad⟩) (Xi (fun i=>x.length-i.1) (Yi (Xi ⟨0,Ao _,fun j _ h=>by omega⟩ ?_) ?_))))
 .exact⟨Z6,Z3,Fh,Bp aa3⟩
 intro⟨i,h1,h2⟩;refine Yi ?_ ?_
 .intro h;have h:(i:Int)<(x.map At).length:=h;have h:i<x.length:=Wk
  have hg:x[i]?=some x[i]:=Ge h;refine Xi (At x[i]) (Yi (Yi B0 Wk) (Yi rfl ?_));refine Yi (Nz rfl) (yN (Xi ⟨[(1,vs p),(2,vi pl),(6,.ref 6 0),(9,.ref 9 0),(16,sl At x),(17,vi (x.map At).length),(18,vi i)],[(6,.cells gw),(9,.cells (At x[i])),(1000,Ik x ifs roots d),(1001,Ir d)],Ad⟩ (Yi ⟨Z7,Z4,Fh,Bp aa3⟩ (yN (Xi .pure (Xi _ (Yi (pX x[i].ver) ?_)))))));have next:(decide (x[i].path=p)&&decide (plc x[i].ver=pl))=false->∀j (hj:j<x.length),j<i+1->(decide (x[j].path=p)&&decide (plc x[j].ver=pl))=false:=fun hf j hj JY=>by
   grind
  refine Yi ?_ ?_
  .intro hp;have hp:x[i].path=p:=hp;refine Yi ?_ ?_
   .intro hq;have hq:plc x[i].ver=pl:=hq;have hr:Fk x p pl=some x[i]:=iq h (fun j hj JY=>h2 j hj JY) Wk;refine Yi (Nz rfl) (Yi (Nz rfl) (yN ?_));have e:AV.tup [.agg (At x[i]),vb true]=M9 (Fk x p pl):=by rw[hr]
    exact Xi _ (Yi (.refl _) (Yi e rfl))
   .intro hq;have hq:¬plc x[i].ver=pl:=hq;refine Yi (by grind [A8]) (Xi ⟨i+1,by omega,next Wk⟩ ?_)
    exact⟨by grind,Z6,Z3,Fh,Bp aa3⟩
  .intro hp;have hp:¬x[i].path=p:=hp;refine Yi (by grind [A8]) (Xi ⟨i+1,by omega,next Wk⟩ ?_)
   exact⟨by grind,Z6,Z3,Fh,Bp aa3⟩
 .intro h;have h:¬(i:Int)<(x.map At).length:=h;have h:¬i<x.length:=Wk
  have hr:Fk x p pl=none:=dN fun j hj=>h2 j hj B0;have e:AV.tup [.agg gw,vb false]=M9 (Fk x p pl):=by rw[hr]
  refine Yi (Nz rfl) (yN ?_);exact Xi _ (Yi (.refl _) (Yi e rfl))
abbrev Lj:Option (List Tm)->AV
 |some t=>.tup [sl Az t,vb true]
 |none=>.tup [sl Az [],vb false]
theorem KG:DW (.tup [nzA,vb false]) (Lj none):=DW.tup ⟨.nil,.refl _,trivial⟩
theorem OS{l:List α}{i:Int}(h:i<0):EH l i=none:=by grind [EH]
theorem OR{l:List α}{i:Int}(h:(l.length:Int)<=i):EH l i=none:=by
 grind [EH]
theorem RL{l:List α}{i:Int}(h0:¬i<0)(h:¬(l.length:Int)<=i):∃x,EH l i=some x/\l[i.toNat]?=some x/\x∈l:=by
 have hl:i.toNat<l.length:=B0
 exact⟨l[i.toNat],by grind [EH],Ge hl,Am hl⟩
theorem xq(hr:∀q∈roots,Cz q.set) :
  Bd Tryz.prog 315 [.ref 1000 0,.agg (AR i)] (Ag (MW x ifs roots d) Ad) fun r h'=>r=Lj ((EH roots i.number).map Gt)/\h'=Ag (MW x ifs roots d) Ad:=by
 refine Bm (IF Ea) [(1000,1000),(1001,1001)] rfl BB hm rfl Tryz.func315 aa3 rfl (Nz rfl) aa3 rfl ?_;have Uo:EH roots i.number=none->AV.tup [sl Az [],vb false]=Lj ((EH roots i.number).map Gt):=fun h=>by simp_all
 refine Yi ?_ ?_
 .intro h;have h:i.number<0:=h;have e:=Uo (OS h);refine Yi aa3 ?_;exact Xi _ (Yi KG (Yi e rfl))
 .intro h;have h:¬i.number<0:=h;refine Yi ?_ ?_
  .intro h2;have h2:((roots.map Af).length:Int)<=i.number:=h2;have e:=Uo (OR Wk);refine Yi aa3 ?_;exact Xi _ (Yi KG (Yi e rfl))
  .intro h2;have h2:¬((roots.map Af).length:Int)<=i.number:=h2;refine Yi aa3 (A1 (RL h (by rw[Lm]at h2;exact h2)) (fun q hq=>?_));have hg:(roots.map Af)[i.number.toNat]?=some (Af q):=Fj hq.2.1;refine Xi (Af q) (Yi (Yi B0 hg) (Yi rfl (yN (Xi _ (Yi (sr q (hr q hq.2.2)) (Yi aa3 ?_))))));have e:AV.tup [sl Az (Gt q),vb true]=Lj ((EH roots i.number).map Gt):=Wk
   exact Xi _ (Yi (.refl _) (Yi e rfl))
theorem cB(v:Ver):0<=plc v/\plc v<1000000:=by
 unfold plc;cases h:Ct v with
 |true=>exact I7 h
 |false=>simp
theorem j8{x:List Rl}{p:ByteArray}{pl:Int}{r:Rl}(h:Fk x p pl=some r):r∈x/\r.path=p/\plc r.ver=pl:=by
 grind [Fk]
theorem cn(h:¬(0:Int)<(l.map Az).length):AV.tup [sl Az l,vb false]=Lj (ne0 l):=by
 cases l with
 |nil=>rfl
 |cons a l=>simp_all
theorem Yh(h:(0:Int)<(l.map Az).length):AV.tup [sl Az l,vb true]=Lj (ne0 l):=by
 cases l with
 |nil=>simp_all
 |cons a l=>rfl
abbrev Uq:Option (List Tm):=match Fk x i.path i.place with
 |none=>none
 |some r=>match EH r.reqs i.number with
  |none=>none
  |some q=>ne0 (CW i.path i.place q)
theorem xr(hx:Cz x)(hr:∀r∈x,∀q∈r.reqs,Cz q.set) :
  Bd Tryz.prog 317 [.ref 1000 0,.agg (AR i)] (Ag (MW x ifs roots d) Ad) fun r h'=>r=Lj (Uq x i)/\h'=Ag (MW x ifs roots d) Ad:=by
 have hc:=xA x ifs roots d i.path i.place hx;cases h1:Fk x i.path i.place with
 |none=>
  rw[h1]at hc;have e:AV.tup [sl Az [],vb false]=Lj (Uq x i):=aa1
  refine Bm (IF (Eu [2])) [(1000,1000),(1001,1001)] rfl BB hm rfl Tryz.func317 aa3 rfl (Nz rfl) aa3 rfl (Xi (.gen [(1000,1000),(1001,1001)] 0) (Yi rfl (hc.imp ?_)));intro v1 g1 q1;have TG:=q1.1;have OY:=q1.2;subst TG;subst OY;refine yN (Xi ⟨[(0,.ref 1000 0),(3,.ref 3 0),(6,.ref 6 0),(7,vb false)],[(3,.cells (AR i)),(6,.cells gw),(1000,Ik x ifs roots d),(1001,Ir d)],Ad⟩ (Yi ⟨Z4,Z4,Fh,Bp aa3⟩ ?_))
  exact Xi _ (Yi KG (Yi e rfl))
 |some r=>
  rw[h1]at hc;obtain⟨m1,m2,m3⟩:=j8 h1;have wm:=cB r.ver;rw[m3]at wm;have er:Uq x i=match EH r.reqs i.number with | none=>none | some q=>ne0 (CW i.path i.place q):=aa1
  have Uo:EH r.reqs i.number=none->AV.tup [sl Az [],vb false]=Lj (Uq x i):=fun h=>by simp_all
  refine Bm (IF (Eu [2,4,5])) [(1000,1000),(1001,1001)] rfl BB hm rfl Tryz.func317 aa3 rfl (Nz rfl) aa3 rfl (Xi (.gen [(1000,1000),(1001,1001)] 0) (Yi rfl (hc.imp ?_)));intro v1 g1 q1;have TG:=q1.1;have OY:=q1.2;subst TG;subst OY;refine yN (Xi ⟨[(0,.ref 1000 0),(3,.ref 3 0),(6,.ref 6 0),(7,vb true)],[(3,.cells (AR i)),(6,.cells (At r)),(1000,Ik x ifs roots d),(1001,Ir d)],Ad⟩ (Yi ⟨Z4,Z4,Fh,Bp aa3⟩ (Yi ?_ ?_)))
  .intro h;have e:=Uo (OS h);exact Xi _ (Yi KG (Yi e rfl))
  .intro h;refine Yi ?_ ?_
   .intro h2;have e:=Uo (OR Wk);exact Xi _ (Yi KG (Yi e rfl))
   .intro h2;refine A1 (RL h (by rw[Lm]at h2;exact h2)) (fun q hq=>?_);have hg:(r.reqs.map Af)[i.number.toNat]?=some (Af q):=Fj hq.2.1;refine Xi ⟨[(3,.ref 3 0),(6,.ref 6 0)],[(3,.cells (AR i)),(6,.cells (At r)),(1000,Ik x ifs roots d),(1001,Ir d)],Ad⟩ (Yi ⟨Z2,Z4,Fh,Bp aa3⟩ (Xi (Af q) (Yi (Yi B0 hg) (Yi rfl (yN (Xi _ (Yi (su i.path i.place q (by grind [A8]) (hr r m1 q hq.2.2)) (Yi aa3 ?_))))))));have eq:Uq x i=ne0 (CW i.path i.place q):=Wk
    refine Xi ⟨[(8,sl Az (CW i.path i.place q))],[(1000,Ik x ifs roots d),(1001,Ir d)],Ad⟩ (Yi ⟨Z1,Z2,Fh,Bp aa3⟩ (Yi ?_ ?_))
    .intro h3;have e:AV.tup [sl Az (CW i.path i.place q),vb true]=Lj (Uq x i):=by grind [Yh]
     exact Xi _ (Yi (.refl _) (Yi e rfl))
    .intro h3;have e:AV.tup [sl Az (CW i.path i.place q),vb false]=Lj (Uq x i):=by grind [cn]
     exact Xi _ (Yi (.refl _) (Yi e rfl))
abbrev cZ(t:List Tm):Prop:=t.length<=500000000/\∀u∈t,Cz u.set
theorem nK{a b:List Tm}{p:ByteArray}(h:(Bg a b p).2≠0):(Bg a b p).1=[]:=by
 grind [Bg]
abbrev TL:Option (List Tm):=match EH d i.left,EH d i.right with
 |some a,some b=>if(Bg a b i.path).2=0 then some (Bg a b i.path).1 else none
 |_,_=>none
theorem ka{d:List (List Tm)}{i:Nf}(h:EH d i.left=none):TL d i=none:=aa1
theorem kg{d:List (List Tm)}{i:Nf}(h:EH d i.right=none):TL d i=none:=aa1
theorem xu(hi:∀t∈d,cZ t) :
  Bd Tryz.prog 321 [.ref 1000 0,.agg (AR i)] (Ag (MW x ifs roots d) Ad) fun r h'=>r=Lj (TL d i)/\h'=Ag (MW x ifs roots d) Ad:=by
 have Uo:TL d i=none->AV.tup [sl Az [],vb false]=Lj (TL d i):=fun h=>by rw[h]
 refine Bm (IF (Eu [2,4,5])) [(1000,1000),(1001,1001)] rfl BB hm rfl Tryz.func321 aa3 rfl (Nz rfl) aa3 rfl (Xi ⟨[(0,.ref 1000 0),(3,.ref 3 0),(6,vi (d.map AD).length)],[(3,.cells (AR i)),(1000,Ik x ifs roots d),(1001,Ir d)],Ad⟩ (Yi ⟨Z3,Z3,Fh,Bp aa3⟩ (Yi ?_ ?_)))
 .intro h;have e:=Uo (ka (OS h));exact Xi _ (Yi KG (Yi e rfl))
 intro h;refine Yi ?_ ?_
 .intro h2;have e:=Uo (ka (OR Wk));exact Xi _ (Yi KG (Yi e rfl))
 intro h2;refine Yi ?_ ?_
 .intro h3;have e:=Uo (kg (OS h3));exact Xi _ (Yi KG (Yi e rfl))
 intro h3;refine Yi ?_ ?_
 .intro h4;have e:=Uo (kg (OR Wk));exact Xi _ (Yi KG (Yi e rfl))
 intro h4;refine A1 (RL h (by rw[Lm]at h2;exact h2)) (fun a ha=>?_);refine A1 (RL h3 (by rw[Lm]at h4;exact h4)) (fun b hb=>?_);have ga:(d.map AD)[i.left.toNat]?=some (AD a):=Fj ha.2.1;have gb:(d.map AD)[i.right.toNat]?=some (AD b):=Fj hb.2.1;have oE:=hi a ha.2.2;have dW:=hi b hb.2.2;have hc:=sw a b i.path oE.1 dW.1 oE.2 dW.2;have er:TL d i=if(Bg a b i.path).2=0 then some (Bg a b i.path).1 else none:=aa1
 refine Xi ⟨[(0,.ref 1000 0),(3,.ref 3 0)],[(3,.cells (AR i)),(1000,Ik x ifs roots d),(1001,Ir d)],Ad⟩ (Yi ⟨Z2,Z3,Fh,Bp aa3⟩ (Xi (AD a) (Yi (Yi B0 ga) (Yi rfl (Xi (AD b) (Yi (Yi B0 gb) (Yi rfl (Xi _ (Yi (hc) (Yi aa3 (Xi ⟨[(7,sl Az (Bg a b i.path).1),(8,vi (Bg a b i.path).2)],[(1000,Ik x ifs roots d),(1001,Ir d)],Ad⟩ (Yi ⟨Z2,Z2,Fh,Bp aa3⟩ (Yi ?_ ?_)))))))))))))
 .intro h5;have e:AV.tup [sl Az (Bg a b i.path).1,vb true]=Lj (TL d i):=Wk
  exact Xi _ (Yi (.refl _) (Yi e rfl))
 .intro h5;have e:AV.tup [sl Az (Bg a b i.path).1,vb false]=Lj (TL d i):=by grind [nK]
  exact Xi _ (Yi (.refl _) (Yi e rfl))
theorem pK:PC 314 [.agg (AR i)] (.agg (AR { i with number:=0 })):=by
 refine Ps Ea Tryz.func314 rfl (Nz rfl) (Yi (Nz rfl) (Yi (Nz rfl) (Yi (Nz rfl) (yN ?_))));exact .refl _
theorem pL:PC 316 [.agg (AR i)] (.agg (AR { i with path:=mt,place:=0,number:=0 })):=by
 refine Ps Ea Tryz.func316 rfl (Nz rfl) (Yi (Nz rfl) (Yi (Nz rfl) (Yi (Nz rfl) (Yi (Nz rfl) (Yi (Nz rfl) (yN ?_))))));exact .refl _
theorem pM:PC 318 [.agg (AR i)] (.agg (AR { i with path:=mt })):=by
 refine Ps Ea Tryz.func318 rfl (Nz rfl) (Yi (Nz rfl) (Yi (Nz rfl) (Yi (Nz rfl) (yN ?_))));exact .refl _
theorem pN:PC 320 [.agg (AR i)] (.agg (AR { i with path:=mt,left:=0,right:=0 })):=by
 refine Ps Ea Tryz.func320 rfl (Nz rfl) (Yi (Nz rfl) (Yi (Nz rfl) (Yi (Nz rfl) (Yi (Nz rfl) (Yi (Nz rfl) (yN ?_))))));exact .refl _
theorem Rk:PC 256 [] (.agg [.v (Gz 314),.v (Gz 315),.v (Gz 316),.v (Gz 317),.v (Gz 318),.v (Gz 319),.v (Gz 320),.v (Gz 321)]):=by
 refine Ps Ea Tryz.func256 rfl (Nz rfl) (Yi (Nz rfl) (yN ?_));exact .refl _
theorem sq:PC 252 [vs s] (vb false):=by
 refine Ps Ea Tryz.func252 rfl (Nz rfl) (Yi ?_ ?_)
 .intro h;exact absurd rfl (show s≠s from h)
 .intro _;exact .refl _
theorem sy(z:Int):PC 313 [vi z] (vb false):=by
 refine Ps Ea Tryz.func313 rfl (Nz rfl) (Yi ?_ ?_)
 .intro h;exact absurd rfl (show z≠z from h)
 .intro _;exact .refl _
theorem xo(a b:ByteArray):PC 175 [vs a,vs b] (vi (Kq a b)):=by
 refine Ps Ea Tryz.func175 rfl (Nz rfl) (Xi .pure (Xi _ (Yi (sq a) (Xi .pure (Xi _ (Yi (sq b) (Yi ?_ ?_)))))))
 .intro h;exact .of_eq (Ab vi (show(-1:Int)=Kq a b by grind [Kq,Gw]))
 .intro h;refine Yi ?_ ?_
  .intro h2;exact .of_eq (Ab vi (show(1:Int)=Kq a b by grind [Kq,Gw]))
  .intro h2;exact .of_eq (Ab vi (show(0:Int)=Kq a b by grind [Kq,Gw]))
theorem pO(a b:Int):PC 253 [vi a,vi b] (vi (G6 a b)):=by
 refine Ps Ea Tryz.func253 rfl (Nz rfl) (Xi .pure (Xi _ (Yi (sy a) (Xi .pure (Xi _ (Yi (sy b) (Yi ?_ ?_)))))))
 .intro h;exact .of_eq (Ab vi (show(-1:Int)=G6 a b by grind [G6]))
 .intro h;refine Yi ?_ ?_
  .intro h2;exact .of_eq (Ab vi (show(1:Int)=G6 a b by grind [G6]))
  .intro h2;exact .of_eq (Ab vi (show(0:Int)=G6 a b by grind [G6]))
theorem xn(a b:Int):PC 174 [.slice .none [[vi a],[vi b]]] (vi (if a≠0 then a else b)):=by
 refine Ps Ea Tryz.func174 rfl (Nz rfl) (Xi {i:Nat // i<=2/\(0<i->a=0)/\(1<i->b=0)} (Xi (fun i=>⟨[(3,vi 0),(6,.slice .none [[vi a],[vi b]]),(7,vi 2),(8,vi i.1)],[],Ad⟩) (Xi (fun i=>2-i.1) (Yi (Xi ⟨0,by omega,by omega,by omega⟩ ?_) ?_))))
 .exact⟨Z4,Tv,Fh,Tv⟩
 intro⟨i,h1,h2,h3⟩;refine Yi ?_ ?_
 .intro h;have h:(i:Int)<2:=h
  match i,h1,h2,h3,h with
  |0,h1,h2,h3,h=>
   refine Xi [vi a] (Yi (Yi (Cp _) rfl) (Yi rfl (Yi ?_ ?_)))
   .intro h4;exact .of_eq (Ab vi (As h4).symm)
   .intro h4;refine Yi (by grind [A8]) (Xi ⟨1,by omega,fun _=>by omega,fun q=>absurd q aa2⟩ ?_);exact⟨by simp_all,Z4,Tv,Fh,Tv⟩
  |1,h1,h2,h3,h=>
   have ha:=h2 aa2;refine Xi [vi b] (Yi (Yi B0 rfl) (Yi rfl (Yi ?_ ?_)))
   .intro h4;exact .of_eq (Ab vi (AB B0).symm)
   .intro h4;refine Yi (by grind [A8]) (Xi ⟨2,by omega,fun _=>ha,fun q=>by omega⟩ ?_);exact⟨by simp_all,Z4,Tv,Fh,Tv⟩
  |i+2,h1,h2,h3,h=>omega
 .intro h;have h:¬(i:Int)<2:=h;have ha:=h2 B0;have hb:=h3 B0;exact .of_eq (Ab vi (show(0:Int)=if a≠0 then a else b by omega))
theorem Sm(a b:Ver)(i:Nat)(hi:i<3)(h:∀j,j<i->G6 (part a j) (part b j)=0)(hn:G6 (part a i) (part b i)≠0):Sj a b=G6 (part a i) (part b i):=by
 unfold Sj
 match i,hi,h,hn with
 |0,_,_,hn=>exact As hn
 |1,_,h,hn=>
  have h0:G6 a.a b.a=0:=h 0 aa2;rw[AB B0];exact As hn
 |2,_,h,hn=>
  have h0:G6 a.a b.a=0:=h 0 aa2;have h1:G6 a.b b.b=0:=h 1 aa2;rw[AB B0,AB B0];rfl
theorem ia(a b:Ver)(h:∀j,j<3->G6 (part a j) (part b j)=0):Sj a b=0:=by
 unfold Sj;have h0:G6 a.a b.a=0:=h 0 aa2;have h1:G6 a.b b.b=0:=h 1 aa2;have h2:G6 a.c b.c=0:=h 2 aa2;omega
theorem xp(a b:Ver):PC 176 [.agg (Il a),.agg (Il b)] (vi (Sj a b)):=by
 refine Ps Ea Tryz.func176 rfl (Nz rfl) (yN (Xi _ (Yi (pI a) (yN (Xi _ (Yi (pI b) (Yi (Nz rfl) (yN (Yi aa3 (Xi {i:Nat // i<=3/\∀j,j<i->G6 (part a j) (part b j)=0} (Xi (fun i=>⟨[(5,.ref 5 0),(6,.ref 6 0),(13,vi i.1)],[(5,.cells (Il a)),(6,.cells (Il b))],Ad⟩) (Xi (fun i=>3-i.1) (Yi (Xi ⟨0,by omega,fun j h=>by omega⟩ ?_) ?_)))))))))))))
 .exact⟨Z3,Z2,Fh,Tv⟩
 intro⟨i,h1,h2⟩;refine Yi ?_ ?_
 .intro h;have h:(i:Int)<3:=h;have next:G6 (part a i) (part b i)=0->∀j,j<i+1->G6 (part a j) (part b j)=0:=fun hz j hj=>by
   grind
  match i,h1,h2,h,next with
  |0,h1,h2,h,next=>
   refine Yi ⟨by omega,by omega⟩ ?_;refine Yi ⟨by omega,by omega⟩ ?_;refine Xi _ (Yi (pO (part a 0) (part b 0)) (Yi aa3 (Yi ?_ ?_)))
   .intro h4;exact .of_eq (Ab vi (Sm a b 0 aa2 h2 h4).symm)
   .intro h4;refine Yi (by grind [A8]) (Xi ⟨1,by omega,next (FZ h4)⟩ ?_)
    exact⟨by simp_all,Z3,Z2,Fh,Tv⟩
  |1,h1,h2,h,next=>
   refine Yi ⟨by omega,by omega⟩ ?_;refine Yi ⟨by omega,by omega⟩ ?_;refine Xi _ (Yi (pO (part a 1) (part b 1)) (Yi aa3 (Yi ?_ ?_)))
   .intro h4;exact .of_eq (Ab vi (Sm a b 1 aa2 h2 h4).symm)
   .intro h4;refine Yi (by grind [A8]) (Xi ⟨2,by omega,next (FZ h4)⟩ ?_)
    exact⟨by simp_all,Z3,Z2,Fh,Tv⟩
  |2,h1,h2,h,next=>
   refine Yi ⟨by omega,by omega⟩ ?_;refine Yi ⟨by omega,by omega⟩ ?_;refine Xi _ (Yi (pO (part a 2) (part b 2)) (Yi aa3 (Yi ?_ ?_)))
   .intro h4;exact .of_eq (Ab vi (Sm a b 2 aa2 h2 h4).symm)
   .intro h4;have h4:¬G6 (part a 2) (part b 2)≠0:=h4;refine Yi (by grind [A8]) (Xi ⟨3,by omega,next (FZ h4)⟩ ?_)
    exact⟨by simp_all,Z3,Z2,Fh,Tv⟩
  |i+3,h1,h2,h,next=>omega
 .intro h;have h:¬(i:Int)<3:=h;exact .of_eq (Ab vi (ia a b fun j hj=>h2 j B0).symm)
theorem xe(a b:Rl):PC 99 [.agg (At a),.agg (At b)] (vi (Xf a b)):=by
 refine Ps Ea Tryz.func99 rfl (Nz rfl) (Xi _ (Yi (xo a.path b.path) (Yi (Nz rfl) (yN (Xi _ (Yi (xp a.ver b.ver) (Xi _ (Yi (xn (Kq a.path b.path) (Sj a.ver b.ver)) (Yi aa3 ?_)))))))));exact .refl _
abbrev Fx:Prop:=s.size<=1073741824
abbrev Jz(q:Rq):Prop:=Cz q.set/\Fx q.path
abbrev IX(r:Rl):Prop:=Fx r.path/\∀q∈r.reqs,Jz q
abbrev o0(nm:ByteArray->ByteArray)(p:ByteArray):AV:=match BF p with
 |some m=>.tup [vs (nm p),vi m,vi 0]
 |none=>.tup [vs ⟨#[]⟩,vi 0,vi 4]
abbrev Ub(nm:ByteArray->ByteArray):Prop:=∀p:ByteArray,Fx p->PC 66 [vs p] (o0 nm p)
theorem Ub.none(h:Ub nm){p:ByteArray}(hp:Fx p)(e:BF p=.none):PC 66 [vs p] (.tup [vs ⟨#[]⟩,vi 0,vi 4]):=by
 grind
theorem Ub.some(h:Ub nm){p:ByteArray}{m:Int}(hp:Fx p)(e:BF p=.some m):PC 66 [vs p] (.tup [vs (nm p),vi m,vi 0]):=by
 grind
theorem si(hL:Ub nm)(q:Rq)(hq:Cz q.set)(hp:Fx q.path):PC 177 [.agg (Af q),.v (.pointer none)] (vi (HP none q)):=by
 cases bT:BF q.path with
 |none=>
  have e:(4:Int)=HP none q:=by grind [HP]
  have hl:=hL.none hp bT;refine Ps Ea Tryz.func177 rfl (Nz rfl) (Xi .pure (Xi _ (Yi (hl) (Yi ?_ ?_))))
  .intro _;exact .of_eq (Ab vi e)
  .intro h;exact absurd (show(4:Int)≠0 by decide) h
 |some m=>
  have er:HP none q=if(q.set.isEmpty||!decide (q.set=canon q.set)||false)=true then 1 else 0:=by grind [HP]
  have hl:=hL.some hp bT;have hc:=Xb q.set hq;have he:=sn q.set (canon q.set) hq;have qm:∀{n:Int},n=(q.set.map Ap).length->n=0->q.set.isEmpty=true:=fun h1 h2=>by
   rw[Lm]at h1;rw[Ij];exact AU B0
  have iV:¬((q.set.map Ap).length:Int)=0->q.set.isEmpty=false:=fun h=>by
   simp_all
  rcases Bt (decide (q.set=canon q.set))with h2 | h2
  .rw[h2]at he;refine Ps (Eu []) Tryz.func177 rfl (Nz rfl) (Xi .pure (Xi _ (Yi (hl) (Yi ?_ ?_))))
   .intro h;exact absurd rfl h
   intro _;refine Yi ?_ ?_
   .intro h;have e:(1:Int)=HP none q:=aa1
    refine Yi aa3 ?_;exact .of_eq (Ab vi e)
   intro h;have hn:=iV h;refine Xi _ (Yi (hc) (Xi _ (Yi (he) (Yi aa3 ?_))));have e:(0:Int)=HP none q:=aa1
   exact .of_eq (Ab vi e)
  .rw[h2]at he;refine Ps (Eu []) Tryz.func177 rfl (Nz rfl) (Xi .pure (Xi _ (Yi (hl) (Yi ?_ ?_))))
   .intro h;exact absurd rfl h
   intro _;refine Yi ?_ ?_
   .intro h;have e:(1:Int)=HP none q:=Wk
    refine Yi aa3 ?_;exact .of_eq (Ab vi e)
   intro h;have hn:=iV h;refine Xi _ (Yi (hc) (Xi _ (Yi (he) (Yi aa3 ?_))));have e:(1:Int)=HP none q:=Wk
   exact .of_eq (Ab vi e)
theorem sj(hL:Ub nm)(q b:Rq)(hq:Cz q.set)(hp:Fx q.path):PC 177 [.agg (Af q),.cptr (Af b)] (vi (HP (some b.path) q)):=by
 cases bT:BF q.path with
 |none=>
  have e:(4:Int)=HP (some b.path) q:=by grind [HP]
  have hl:=hL.none hp bT;refine Ps Ea Tryz.func177 rfl (Nz rfl) (Xi .pure (Xi _ (Yi (hl) (Yi ?_ ?_))))
  .intro _;exact .of_eq (Ab vi e)
  .intro h;exact absurd (show(4:Int)≠0 by decide) h
 |some m=>
  have er:HP (some b.path) q=if(q.set.isEmpty||!decide (q.set=canon q.set)||!E0 b.path q.path)=true then 1 else 0:=by grind [HP]
  have hl:=hL.some hp bT;have hc:=Xb q.set hq;have he:=sn q.set (canon q.set) hq;have qm:∀{n:Int},n=(q.set.map Ap).length->n=0->q.set.isEmpty=true:=fun h1 h2=>by
   rw[Lm]at h1;rw[Ij];exact AU B0
  have iV:¬((q.set.map Ap).length:Int)=0->q.set.isEmpty=false:=fun h=>by
   simp_all
  rcases Bt (decide (q.set=canon q.set))with h2 | h2
  .rw[h2]at he;refine Ps (Eu []) Tryz.func177 rfl (Nz rfl) (Xi .pure (Xi _ (Yi (hl) (Yi ?_ ?_))))
   .intro h;exact absurd rfl h
   intro _;refine Yi ?_ ?_
   .intro h;have e:(1:Int)=HP (some b.path) q:=aa1
    refine Yi aa3 ?_;exact .of_eq (Ab vi e)
   intro h;have hn:=iV h;refine Xi _ (Yi (hc) (Xi _ (Yi (he) (Yi ?_ ?_))))
   .intro h3;refine Yi aa3 ?_;have e:(1:Int)=HP (some b.path) q:=by grind [Gw]
    exact .of_eq (Ab vi e)
   .intro h3;have h3:Op.bytesLess b.path.toList q.path.toList=true:=aa1
    refine Yi aa3 ?_;have e:(0:Int)=HP (some b.path) q:=by grind [Gw]
    exact .of_eq (Ab vi e)
  .rw[h2]at he;refine Ps (Eu []) Tryz.func177 rfl (Nz rfl) (Xi .pure (Xi _ (Yi (hl) (Yi ?_ ?_))))
   .intro h;exact absurd rfl h
   intro _;refine Yi ?_ ?_
   .intro h;have e:(1:Int)=HP (some b.path) q:=Wk
    refine Yi aa3 ?_;exact .of_eq (Ab vi e)
   intro h;have hn:=iV h;refine Xi _ (Yi (hc) (Xi _ (Yi (he) (Yi aa3 ?_))));have e:(1:Int)=HP (some b.path) q:=Wk
   exact .of_eq (Ab vi e)
abbrev Od(l:List Rq)(k:Nat):List AV:=((l.map Af)[k]?).getD []
abbrev se(l:List Rq):Nat->AV
 |0=>.v (.pointer none)
 |k+1=>.cptr (Od l k)
abbrev Sa(l:List Rq):Nat->Option ByteArray
 |0=>none
 |k+1=>(l[k]?).map (·.path)
theorem ZK{l:List Rq}(h:k<l.length):Od l k=Af l[k]:=by
 grind
theorem gN{l:List Rq}(h:k<l.length):Sa l (k+1)=some l[k].path:=by
 simp_all
theorem vQ(hL:Ub nm)(l:List Rq)(hs:∀q∈l,Jz q):PC 100 [sl Af l] (vi (Bu l)):=by
 refine Ps (Eu []) Tryz.func100 rfl (Nz rfl) (Yi ?_ ?_)
 .intro h;exact .of_eq (Ab vi (show(7:Int)=Bu l by grind [Bu]))
 intro h;have hl:l.length<=16:=aa1
 have XK:Bu l=FA none l:=by grind [Bu]
 refine Xi {i:Nat // i<=l.length/\FA none l=FA (Sa l i) (l.drop i)} (Xi (fun i=>⟨[(0,sl Af l),(3,se l i.1),(10,sl Af l),(11,vi (l.map Af).length),(12,vi i.1)],[],Ad⟩) (Xi (fun i=>l.length-i.1) (Yi (Xi ⟨0,Ao _,rfl⟩ ?_) ?_)))
 .exact⟨Z5,Tv,Fh,Tv⟩
 intro⟨i,h1,h2⟩;refine Yi ?_ ?_
 .intro h;have h:i<l.length:=Wk
  have hg:l[i]?=some l[i]:=Ge h;have hd:l.drop i=l[i]::l.drop (i+1):=Bh h;have hq:=hs l[i] (Am h);have hc:PC 177 [.agg (Af l[i]),se l i] (vi (HP (Sa l i) l[i])):=by
   cases i with
   |zero=>exact si hL _ hq.1 hq.2
   |succ k=>
    rw[gN (by omega:k<l.length)];show PC 177 [_,.cptr (Od l k)] _;rw[ZK (by omega:k<l.length)];exact sj hL _ _ hq.1 hq.2
  have LL:FA none l=if HP (Sa l i) l[i]=0 then FA (some l[i].path) (l.drop (i+1))else HP (Sa l i) l[i]:=by rw[h2,hd];rfl
  match i,h1,h2,h,hg,hd,hc,LL with
  |0,h1,h2,h,hg,hd,hc,LL=>
   refine Xi (Af l[0]) (Yi (Yi B0 aa1) (Yi rfl (Yi (Nz rfl) (Yi (Nz rfl) (yN (Xi .pure (Xi _ (Yi (hc) (Yi ?_ ?_)))))))))
   .intro h4;exact .of_eq (Ab vi (show HP (Sa l (0)) l[0]=Bu l by omega))
   .intro h4;refine Xi (Af l[0]) (Yi (Yi B0 aa1) (Yi rfl (Yi (by grind [A8]) (Xi ⟨0+1,by omega,by grind⟩ ?_))));have e1:AV.cptr (Af l[0])=.cptr (Od l (0)):=aa1
    exact⟨by show l.length-(0+1)<l.length-(0);omega,⟨Zr,⟨e1,rfl⟩,Zr,Zr,Zr,Tv⟩,Tv,Fh,Tv⟩
  |k+1,h1,h2,h,hg,hd,hc,LL=>
   refine Xi (Af l[k+1]) (Yi (Yi B0 (by simp[hg])) (Yi rfl ?_));refine Yi (Nz rfl) (Yi (Nz rfl) (yN (Xi .pure (Xi _ (Yi (hc) (Yi ?_ ?_))))))
   .intro h4;exact .of_eq (Ab vi (show HP (Sa l (k+1)) l[k+1]=Bu l by omega))
   .intro h4;refine Xi (Af l[k+1]) (Yi (Yi B0 (by simp[hg])) (Yi rfl ?_));refine Yi (by show A8 (((k+1:Nat):Int)+1);unfold A8;omega) ?_;refine Xi ⟨k+1+1,by omega,by grind⟩ ?_;have e1:AV.cptr (Af l[k+1])=.cptr (Od l (k+1)):=aa1
    exact⟨by show l.length-(k+1+1)<l.length-(k+1);omega,⟨Zr,⟨e1,rfl⟩,Zr,Zr,Zr,Tv⟩,Tv,Fh,Tv⟩
 .intro h;have h:¬i<l.length:=Wk
  have e:(0:Int)=Bu l:=by rw[XK,h2,Uc B0];rfl
  exact .of_eq (Ab vi e)
abbrev lV(r:Rl):Nat->ByteArray
 |0=>r.arch
 |1=>r.ifc
 |_=>r.cert
theorem p7{r:Rl}(h:∀j,j<3->Eg (lV r j)=true):(Eg r.arch&&Eg r.ifc&&Eg r.cert)=true:=by
 have h0:Eg r.arch=true:=h 0 aa2;have h1:Eg r.ifc=true:=h 1 aa2;have h2:Eg r.cert=true:=h 2 aa2;simp_all
theorem xd(hL:Ub nm)(r:Rl)(hr:IX r):PC 97 [.agg (At r)] (vi (D5 r)):=by
 cases bT:BF r.path with
 |none=>
  have e:(4:Int)=D5 r:=by grind [D5]
  have hl:=hL.none hr.1 bT;refine Ps Ea Tryz.func97 rfl (Nz rfl) (Xi .pure (Xi _ (Yi (hl) (Yi ?_ ?_))))
  .intro _;exact .of_eq (Ab vi e)
  .intro h;exact absurd (show(4:Int)≠0 by decide) h
 |some m=>
  have er:D5 r=if(!Ct r.ver||!decide (r.ver.a=m))=true then 2 else if Bu r.reqs≠0 then Bu r.reqs else if(Eg r.arch&&Eg r.ifc&&Eg r.cert)=true then 0 else 1:=by grind [D5]
  have hl:=hL.some hr.1 bT;have hv:=lJ r.ver;have hc:=vQ hL r.reqs hr.2;rcases Bt (Ct r.ver)with h2 | h2
  .rw[h2]at hv;refine Ps (Eu []) Tryz.func97 rfl (Nz rfl) (Xi .pure (Xi _ (Yi (hl) (Yi ?_ ?_))))
   .intro h;exact absurd rfl h
   intro _;refine yN (Xi .pure (Xi _ (Yi (hv) (Yi ?_ ?_))))
   .intro h;have e:(2:Int)=D5 r:=Wk
    exact .of_eq (Ab vi e)
   intro h;have h3:r.ver.a=m:=FZ h;have x6:D5 r=if Bu r.reqs≠0 then Bu r.reqs else if(Eg r.arch&&Eg r.ifc&&Eg r.cert)=true then 0 else 1:=Wk
   refine Xi .pure (Xi _ (Yi (hc) (Yi ?_ ?_)))
   .intro h4;exact .of_eq (Ab vi (show Bu r.reqs=D5 r by omega))
   intro h4;have er3:D5 r=if(Eg r.arch&&Eg r.ifc&&Eg r.cert)=true then 0 else 1:=B0
   refine Xi {i:Nat // i<=3/\∀j,j<i->Eg (lV r j)=true} (Xi (fun i=>⟨[(41,.slice (.id 41 1) [[vs r.arch],[vs r.ifc],[vs r.cert]]),(42,vi 3),(43,vi i.1)],[(41,.tok 1 3)],Ad⟩) (Xi (fun i=>3-i.1) (Yi (Xi ⟨0,by omega,fun j h=>by omega⟩ ?_) ?_)))
   .exact⟨Z3,Z1,Fh,Tv⟩
   intro⟨i,i1,i2⟩;refine Yi ?_ ?_
   .intro h;have h:(i:Int)<3:=h;have next:Eg (lV r i)=true->∀j,j<i+1->Eg (lV r j)=true:=fun hz j hj=>by
     grind
    match i,i1,i2,h,next with
    |0,i1,i2,h,next=>
     refine Xi [vs r.arch] (Yi (Yi B0 rfl) (Yi rfl (Yi ?_ ?_)))
     .intro h5;refine Yi ?_ ?_
      .intro h6;have e:(1:Int)=D5 r:=by grind [Eg]
       exact .of_eq (Ab vi e)
      .intro h6;refine Yi (by grind [A8]) (Xi ⟨1,by omega,next (show Eg r.arch=true by grind [Eg])⟩ ?_)
       exact⟨by simp_all,Z3,Z1,Fh,Tv⟩
     .intro h5;refine Yi (by grind [A8]) (Xi ⟨1,by omega,next (show Eg r.arch=true by grind [Eg])⟩ ?_)
      exact⟨by simp_all,Z3,Z1,Fh,Tv⟩
    |1,i1,i2,h,next=>
     refine Xi [vs r.ifc] (Yi (Yi B0 rfl) (Yi rfl (Yi ?_ ?_)))
     .intro h5;refine Yi ?_ ?_
      .intro h6;have h6:((r.ifc.size:Nat):Int)≠32:=h6;have e:(1:Int)=D5 r:=by grind [Eg]
       exact .of_eq (Ab vi e)
      .intro h6;have h6:¬((r.ifc.size:Nat):Int)≠32:=h6;refine Yi (by grind [A8]) (Xi ⟨2,by omega,next (show Eg r.ifc=true by grind [Eg])⟩ ?_)
       exact⟨by simp_all,Z3,Z1,Fh,Tv⟩
     .intro h5;have h5:¬((r.ifc.size:Nat):Int)≠0:=h5;refine Yi (by grind [A8]) (Xi ⟨2,by omega,next (show Eg r.ifc=true by grind [Eg])⟩ ?_)
      exact⟨by simp_all,Z3,Z1,Fh,Tv⟩
    |2,i1,i2,h,next=>
     refine Xi [vs r.cert] (Yi (Yi B0 rfl) (Yi rfl (Yi ?_ ?_)))
     .intro h5;have h5:((r.cert.size:Nat):Int)≠0:=h5;refine Yi ?_ ?_
      .intro h6;have h6:((r.cert.size:Nat):Int)≠32:=h6;have e:(1:Int)=D5 r:=by grind [Eg]
       exact .of_eq (Ab vi e)
      .intro h6;have h6:¬((r.cert.size:Nat):Int)≠32:=h6;refine Yi (by grind [A8]) (Xi ⟨3,by omega,next (show Eg r.cert=true by grind [Eg])⟩ ?_)
       exact⟨by simp_all,Z3,Z1,Fh,Tv⟩
     .intro h5;have h5:¬((r.cert.size:Nat):Int)≠0:=h5;refine Yi (by grind [A8]) (Xi ⟨3,by omega,next (show Eg r.cert=true by grind [Eg])⟩ ?_)
      exact⟨by simp_all,Z3,Z1,Fh,Tv⟩
    |i+3,i1,i2,h,next=>omega
   .intro h;have h:¬(i:Int)<3:=h;have e:(0:Int)=D5 r:=by grind [p7]
    exact .of_eq (Ab vi e)
  .rw[h2]at hv;have e:(2:Int)=D5 r:=Wk
   refine Ps (Eu []) Tryz.func97 rfl (Nz rfl) (Xi .pure (Xi _ (Yi (hl) (Yi ?_ ?_))))
   .intro h;exact absurd rfl h
   intro _;refine yN (Xi .pure (Xi _ (Yi (hv) ?_)));exact .of_eq (Ab vi e)
theorem qJ{a b:Rl}(h:a.path=b.path/\a.ver.a=b.ver.a/\a.ver.b=b.ver.b/\a.ver.c=b.ver.c):DJ a=DJ b:=by
 unfold DJ;obtain⟨h1,h2,h3,h4⟩:=h
 have:a.ver=b.ver:=by
  cases ha:a.ver<;>simp_all
 simp_all
theorem eT{a b:Rl}(h:DJ a=DJ b):a.path=b.path/\a.ver.a=b.ver.a/\a.ver.b=b.ver.b/\a.ver.c=b.ver.c:=by
 grind [DJ]
abbrev lA:Nat->Option Rl
 |0=>none
 |k+1=>x[k]?
theorem sD(hL:Ub nm)(x:List Rl)(ifs:List (List AV))(hs:∀r∈x,IX r):PC 47 [.agg (Ic x ifs)] (vi (AX x)):=by
 refine Ps (Eu []) Tryz.func47 rfl (Nz rfl) (Yi ?_ ?_)
 .intro h;exact .of_eq (Ab vi (show(7:Int)=AX x by grind [AX]))
 intro h;have hl:x.length<=256:=aa1
 have XK:AX x=Eh none x:=by grind [AX]
 refine Xi {i:Nat // i<=x.length/\Eh none x=Eh (lA x i) (x.drop i)} (Xi (fun i=>⟨[(1,.ref 1 0),(12,sl At x),(13,vi (x.map At).length),(14,vi i.1)],[(1,.cells (Ic x ifs))],Ad⟩) (Xi (fun i=>x.length-i.1) (Yi (Xi ⟨0,Ao _,rfl⟩ ?_) ?_)))
 .exact⟨Z4,Z1,Fh,Tv⟩
 intro⟨i,h1,h2⟩;refine Yi ?_ ?_
 .intro h;have h:i<x.length:=Wk
  have hg:x[i]?=some x[i]:=Ge h;have hd:x.drop i=x[i]::x.drop (i+1):=Bh h;have hc:=xd hL x[i] (hs x[i] (Am h));have LL:Eh none x=if D5 x[i]≠0 then D5 x[i]else match lA x i with
   |none=>Eh (some x[i]) (x.drop (i+1))
   |some b=>if DJ b=DJ x[i]then 5 else if 0<Xf b x[i]then 1 else Eh (some x[i]) (x.drop (i+1)):=by rw[h2,hd];rfl
  have Abw:lA x (i+1)=some x[i]:=Ge h;refine Xi (At x[i]) (Yi (Yi B0 (by simp[hg])) (Yi rfl ?_));refine Yi (Nz rfl) (Yi (Nz rfl) (yN (Xi .pure (Xi _ (Yi (hc) (Yi ?_ ?_))))))
  .intro h4;exact .of_eq (Ab vi (show D5 x[i]=AX x by omega))
  intro h4;refine Yi ?_ ?_
  .intro h5;have h5:(i:Int)=0:=h5;have h6:i=0:=B0
   refine Yi (Ii i B0) (Xi ⟨i+1,by omega,by grind⟩ ?_);exact⟨Dl x.length i B0,Z4,Z1,Fh,Tv⟩
  intro h5;have h5:¬(i:Int)=0:=h5;have hi1:i-1<x.length:=B0
  have hb:lA x i=some x[i-1]:=by
   grind
  have yM:Eh none x=if DJ x[i-1]=DJ x[i]then 5 else if 0<Xf x[i-1] x[i]then 1 else Eh (some x[i]) (x.drop (i+1)):=aa1
  refine Yi (by grind [A8]) ?_;have bO:(x.map At)[((i:Int)-1).toNat]?=some (At x[i-1]):=by rw[show((i:Int)-1).toNat=i-1 by omega];grind
  refine Xi (At x[i-1]) (Yi (Yi B0 bO) (Yi rfl (Yi (Nz rfl) (yN (yN (Xi _ (Yi (pG x[i-1]) (yN (Xi _ (Yi (pG x[i]) (Yi ?_ ?_)))))))))))
  .intro h6;refine Yi aa3 ?_;have e:(5:Int)=AX x:=by rw[XK,yM,As (qJ ⟨h6.1,h6.2.1,h6.2.2.1,h6.2.2.2.1⟩)]
   exact .of_eq (Ab vi e)
  intro h6;refine Yi aa3 ?_;have h7:¬DJ x[i-1]=DJ x[i]:=fun e=>by
   have e:=eT e;exact h6 ⟨e.1,e.2.1,e.2.2.1,e.2.2.2,trivial⟩
  refine Yi (Nz rfl) (yN (Xi .pure (Xi _ (Yi (xe x[i-1] x[i]) (Yi ?_ ?_)))))
  .intro h8;have e:(1:Int)=AX x:=aa1
   exact .of_eq (Ab vi e)
  .intro h8;refine Yi (Ii i B0) (Xi ⟨i+1,by omega,by grind⟩ ?_);exact⟨Dl x.length i B0,Z4,Z1,Fh,Tv⟩
 .intro h;have h:¬i<x.length:=Wk
  have e:(0:Int)=AX x:=by rw[XK,h2,Uc B0];rfl
  exact .of_eq (Ab vi e)
theorem cU{cx:Cx}{st:St}{K:LS -> Prop}(t:List (Nat×AV))(h:List (Nat×HO))(h1:wF st (LS.st ⟨t,h,Ad⟩).h t)(h2:wE st (LS.st ⟨t,h,Ad⟩).h h)(k:K ⟨t,h,Ad⟩)
    (h3:match cx.ext with | false => True | true => ∀j,1000 <= j -> j<2000 -> st.h j ≠ .free -> (LS.st ⟨t,h,Ad⟩).h j ≠ .free := by first | exact trivial | exact Bp aa3):∃s,St.le cx st s /\ K s := ⟨_,⟨h1,h2,fun _ => .inl rfl,h3⟩,k⟩
end Go.Eng
