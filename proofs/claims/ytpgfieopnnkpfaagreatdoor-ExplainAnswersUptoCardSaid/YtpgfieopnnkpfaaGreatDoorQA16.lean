/- Lemmas 16. -/
import Derived.Test.YtpgfieopnnkpfaaGreatDoorQA15
import Derived.Test.YtpgfieopnnkpfaaGreatDoorQA13
import Derived.Shelf.Slices.Delete
namespace Go.Eng
open Go.Proofs Go.Shelf Go.RowKit Go.Lib Go.Sort
theorem rK(F:Array Value)(i n:Nat)(hF:F.size=n*3)(hi:i<n)(z:List Value)(hz:z.length=3):(lay (lay F (i*3) (F.toList.drop ((i+1)*3))) ((n-1)*3) z).toList=F.toList.take (i*3)++F.toList.drop ((i+1)*3)++z:=by
 have l1:(F.toList.take (i*3)).length=i*3:=by simp;omega
 have l2:(F.toList.drop ((i+1)*3)).length=(n-(i+1))*3:=by simp;omega
 apply CR
 intro t
 rw[Co,lay_get? _ _ _ _ (by rw[Lib.lay_size];omega),lay_get? _ _ _ _ (by rw[l2];omega)]
 rw[hz,l2]
 by_cases c1:t<i*3
 .rw[Aw aa0,Aw aa0,DL (by rw[As];omega),DL aa0,N3,AE c1,Co]
 .by_cases c2:t<(n-1)*3
  .rw[Aw aa0,AE aa0,DL (by rw[As];omega),B7 aa0,l1]
  .rw[B7 (by rw[As];omega),As,l1,l2]
   by_cases c3:t<n*3
   .rw[AE aa0];congr 1;omega
   .rw[Aw aa0,Aw aa0,Array.getElem?_eq_none aa0,List.getElem?_eq_none aa0]
abbrev mf:List Value:=[.string ⟨#[]⟩,.bool false,.slice none 0 0]
set_option maxHeartbeats 4000000 in
set_option maxRecDepth 1000000 in
theorem iO(w:World)(b cap i n:Nat)(F:Array Value)(hF:F.size=n*3)(hi:i<n)(NC:n<=cap)(hH:Holds id w b 0 F)(h1:∀x∈F.toList,x.oneCell'=true) :
  Calls Tryz.prog 347 #[.slice (some ⟨b,0,none⟩) n cap,.int .i64 i,.int .i64 ((i:Int)+1)] w fun e w'=>e=.returned (.slice (some ⟨b,0,none⟩) (n-1) cap) /\
   w'=putRow id (Sort.ahead w 1) b 0 (lay (lay F (i*3) (F.toList.drop ((i+1)*3))) ((n-1)*3) mf):=by
 obtain⟨i0,MW,ry⟩:∃i0,Tryz.prog.info? 29=some i0/\i0.size=3:=by
  obtain⟨i,z,h1,_,h2,_⟩:=Hs (P:=Tryz.prog) (T:=pa) B8 (e:=29) (n:=2) aa3
  exact⟨i,h1,h2.trans aa3⟩
 obtain⟨news,IB⟩:∃news,news=F.toList.drop ((i+1)*3):=⟨_,rfl⟩
 have Cy:news.length=(n-(i+1))*3:=by rw[IB];simp;omega
 have GR:∀t,t<(n-(i+1))*3->news[t]?=some F[(i+1)*3+t]!:=by
  intro t ht
  rw[IB,FO,Co,getElem!_pos F ((i+1)*3+t) aa0,DK aa0]
 obtain⟨A,hA,rr⟩:∃A:Addr,(if cap=i+1 then some (⟨b,0,none⟩:Addr)else some ⟨b,(i+1)*3,none⟩)=some A/\Hid (∀t u,news[t]?=some u->w.drew.cell? (A.add t)=some u):=by
  by_cases h:cap=i+1
  .refine⟨⟨b,0,none⟩,by simp[h],fun t u hu=>?_⟩
   have h0:news.length=0:=by rw[Cy];omega
   rw[Jz.1 h0]at hu
   simp at hu
  .refine⟨⟨b,(i+1)*3,none⟩,by simp[h],fun t u hu=>?_⟩
   have ht:t<(n-(i+1))*3:=by
    have:=(AR.1 hu).1
    rwa [Cy]at this
   rw[GR t ht]at hu
   rw[Addr.add_lit]
   have:=(hH ((i+1)*3+t) aa0).1
   rw[Ip]at this
   exact this.trans hu
 have s1:Hid (news.length=(n-(i+1))*3):=Cy
 have s2:Hid (∀u∈news,u.oneCell'=true):=by
  intro u hu
  rw[IB]at hu
  exact h1 u (H9 hu)
 have s3:Hid (∀t,t<news.length->(w.drew.cell? ⟨b,0+i*3+t,none⟩).isSome=true/\w.drew.frozen? ⟨b,0+i*3+t,none⟩=false):=by
  intro t ht
  rw[Cy]at ht
  have:=hH (i*3+t) aa0
  rw[Nat.add_assoc]
  exact⟨by show(w.cell? _).isSome=true;rw[this.1];rfl,this.2⟩
 obtain⟨W1,zm⟩:∃W1,W1=w.drew.setCells b (0+i*3) news:=⟨_,rfl⟩
 have qM : W1=putRow id (Sort.ahead w 1) b 0 (lay F (i*3) news):=by
  have:=putRow_setCells id (Sort.ahead w 1) b 0 news F (i*3) aa0
  rw[putRow_self id (Sort.ahead w 1) b 0 F (holds_ahead id w 1 b 0 F hH),List.map_id]at this
  rw[zm,<-this]
  rfl
 have zd:Holds id W1 b 0 (lay F (i*3) news):=by rw[qM];exact holds_putRow id _ b 0 F _ (holds_ahead id w 1 b 0 F hH) (Lib.lay_size _ _ _)
 have IC:(storeCells ⟨b,0+(n-1)*3,none⟩ mf 0).run Tryz.prog W1=.ok () (W1.setCells b (0+(n-1)*3) mf):=by
  have:=run_storeCells_cells (P:=Tryz.prog) b (0+(n-1)*3) mf 0 W1 (fun j hj=>by
   have hj:j<3:=hj
   have:=zd ((n-1)*3+j) (by rw[Lib.lay_size];omega)
   rw[show 0+(n-1)*3+0+j=0+((n-1)*3+j) by omega,this.1];rfl) (fun j hj=>by
   have hj:j<3:=hj
   have:=zd ((n-1)*3+j) (by rw[Lib.lay_size];omega)
   rw[show 0+(n-1)*3+0+j=0+((n-1)*3+j) by omega];exact this.2) (fun v hv=>by
   simp only[AN,Eb,L7]at hv
   rcases hv with rfl | rfl | rfl<;>rfl)
  exact this
 have TY:∀ty c,(Builtin.clear_ #[23] ty #[.slice (some ⟨b,(n-1)*3,none⟩) 1 c]).run Tryz.prog W1=.ok (.tuple #[]) (W1.setCells b (0+(n-1)*3) mf):=fun ty c=>by
  have hv:=Tryz.zeroValue29
  rw[Ip]at IC⊢
  have hz:(Builtin.zeroCells (Value.agg #[Value.string { data:=#[] },Value.bool false,Value.slice none 0 0]).cells 1).toList=mf:=by kernel_rfl
  simp[Builtin.clear_,run_underlying Tryz.underlying23,hv,hz,IC]
 have AeJ:∀ty,(Builtin.clear_ #[23] ty #[.slice (some ⟨b,(i+(n-(i+1)))*3,none⟩) (n-(i+(n-(i+1)))) (cap-(i+(n-(i+1))))]).run Tryz.prog W1=.ok (.tuple #[]) (W1.setCells b (0+(n-1)*3) mf):=fun ty=>by
  have e1:i+(n-(i+1))=n-1:=by omega
  have e2:n-(n-1)=1:=by omega
  rw[e1,e2];exact TY ty _
 have X:Aside (W1=putRow id (Sort.ahead w 1) b 0 (lay F (i*3) news)):=qM
 have hW:Hid (W1=w.drew.setCells b (0+i*3) news):=zm
 have Y:Aside (news=F.toList.drop ((i+1)*3)):=IB
 have Z:Aside (news.length=(n-(i+1))*3):=Cy
 have zP:i<=cap:=by omega
 have hjc:i+1<=cap:=by omega
 have mixed:=Go.Eng.hm
 have hb1:(0:Int)<=(i:Int)+1:=by omega
 have qP:(i:Int)+1<=(n:Int):=by omega
 clear zm qM zd hH GR IB Cy IC TY
 go_enter Tryz.func347,Tryz.ntmps347
 go_wp2_with fail
 go_region_law_o (refine step_append_room rfl (.tmp 22) (.tmp 25) 23 rfl 29 i0 3 Tryz.underlying23 MW ry b 0 i cap (by simp[Act.eval,Act.put]) A (n-(i+1)) (cap-(i+1)) news (by simp[Act.eval,Act.put]) s1.out rr.out s2.out aa0 s3.out ?_;rw[<-hW.out])
 go_wp2
 go_ret
 refine⟨by rw[show i+(n-(i+1))=n-1 by omega];rfl,?_⟩
 rw[X.out]
 have e1:=Y.out
 have e2:=Z.out
 rw[<-e1]
 have:=putRow_setCells id (Sort.ahead w 1) b 0 mf (lay F (i*3) news) ((n-1)*3) (by rw[Lib.lay_size];show _+3<=_;omega)
 rw[List.map_id,Ip]at this
 exact this
abbrev Zz:List AV:=[Go.Eng.vs ⟨#[]⟩,vb false,nzA]
theorem yk(l:List Tm)(i:Nat)(hi:i<l.length) :
  Cq Tryz.prog 347 [.msl 1000 l.length,vi i,vi ((i:Int)+1)] (Ar [(1000,.arr 3 (l.map Ac))] Af) fun r h'=>r=.msl 2000 (l.length-1)/\h'=Ar [(1000,.dead),(2000,.arr 3 ((l.eraseIdx i).map Ac))] Af:=by
 have hE:GM Tryz.prog 347:=iX 347 Tryz.func347 aa3 rfl
 have Cy:(l.eraseIdx i).length=l.length-1:=List.length_eraseIdx_of_lt hi
 have Qu:=dp (P:=Tryz.prog) (f:=347) (es:=l.map Ac) (sz:=3) (rest:=[.int .i64 i,.int .i64 ((i:Int)+1)]) (n':=l.length-1) (Q:=fun F6=>F6=(l.eraseIdx i).map Ac++[Zz]) hE (fun e=>by
  rw[List.map_eq_nil_iff]at e;subst e;simp at hi) (by rw[Bv];omega) ?_
 .rw[Bv]at Qu
  refine⟨hE,fun g w vals q1 q2 q3=>(Qu.2 g w vals q1 q2 q3).mono fun _ _ ⟨v,r,h',g',e1,⟨e2,F6,p1,p2⟩,rest⟩=>⟨v,r,h',g',e1,⟨e2,by rw[p2,p1,List.take_append_of_le_length (by rw[Bv,Cy];exact Aq _),AK (by rw[Bv,Cy];exact Aq _)]⟩,rest⟩⟩
 .intro g w b cap F hr hF hH hb hc
  rw[Bv]at hF hc⊢
  have hu:∀e∈l.map Ac,e.length=3:=fun e he=>by
   obtain⟨t,_,rfl⟩:=Ay.1 he;rfl
  refine(iO w b cap i l.length F hF hi hc hH hr.2.1).mono ?_
  rintro e w' ⟨rfl,rfl⟩
  refine⟨rfl,_,_,1,#[],?_,rfl,?_,fun cs OE=>?_,fun g w hr=>?_,rfl⟩
  .rw[Lib.lay_size,Lib.lay_size]
  .rw[As,Bv,Cy,AS];omega
  .rcases Bz.1 OE with h | h
   .obtain⟨t,_,rfl⟩:=Ay.1 h;rfl
   .rw[A9.1 h];rfl
  .rw[rK F i l.length hF hi mf rfl,List.eraseIdx_eq_take_drop_succ,Eu,AB,Eu,List.map_take,List.map_drop,<-KJ _ i hu,<-Ow _ (i+1) hu]
   refine B2.append (B2.append (hr.take _) (hr.drop _)) ?_
   exact Vm g w EZ mf fun x hx=>by
    simp only[AN,Eb,L7]at hx
    rcases hx with rfl | rfl | rfl<;>rfl
end Go.Eng
namespace Go.Eng
open Go.Proofs
variable {nm:ByteArray->ByteArray}{l r:List Tm}{α:Type}{c:List Tm}{t:Tm}{k:Nat}(x:List Rl)(a:List Tm)(ifs:List (List AV))(s:ByteArray)(roots:List Rq)(b:List Tm)(d:List (List Tm))(i:Nf)
theorem tH(l:List Tm)(hl:BB l)(Fi:l≠[]):Cq Tryz.prog 348 [sl Ac l] (Ar [] Af) fun r h'=>r=.msl 2000 l.length/\h'=Ar [(2000,.arr 3 (l.map Ac))] Af:=by
 refine BO (Mt (pla [(5,3)] [])) [(5,2000)] rfl B8 hm rfl Tryz.func348 aa3 rfl (Nz rfl) aa3 rfl ?_;have CM:AZ 3 (l.map Ac)/\([]:List (List AV)).length=0/\(([]:List (List AV)).length+(l.map Ac).length)*48<=140737488355328/\([]:List (List AV)).length+(l.map Ac).length<=9223372036854775807:=by
  grind [CE]
 refine Yi ?_ ?_
 .intro _;refine Yi CM ?_;have e1:AV.msl 2000 (([]:List (List AV)).length+(l.map Ac).length)=.msl 2000 l.length:=by simp
  refine Xi (.msl 2000 (([]:List (List AV)).length+(l.map Ac).length)) (Yi (.refl _) (Yi e1 ?_))
  rfl
 .intro h;exact absurd (List.map_eq_nil_iff.1 h) Fi
theorem qv(x:Tm)(p:ByteArray):PC 346 [.agg (Ac x),.cptr [vs p]] (vb (decide (x.path=p))):=by
 refine Ps Cu Tryz.func346 rfl (Nz rfl) (Yi ?_ ?_)
 .intro h;rw[A4 h];exact .refl _
 .intro h;rw[AU h];exact .refl _
theorem M4{p:ByteArray}:∀{c:List Tm} {i:Nat},(EA c).Nodup->∀(hi:i<c.length),c[i].path=p->c.eraseIdx i=AH c p
 |t::c,0,hn,_,h=>by
  grind [EA,AH,List.filter_eq_self]
 |t::c,i+1,hn,hi,h=>by
  have hi:i<c.length:=by grind
  have h:c[i].path=p:=h;unfold EA at hn;rw[BU,Gq]at hn
  have:t.path≠p:=fun e=>hn.1 (by simp_all)
  have ih:=M4 hn.2 hi h
  grind [AH]
theorem Pv(hl:BB l)(h:AW l=some c):BB c:=by
 have h1:=NK l l.length (Aq _);rw[Ec]at h1;have h2:c=(Dh l).filter fun t=>!GC t:=by
  grind [AW]
 have h3:c.length<=(Dh l).length:=by grind
 have h4:(Dh l).length=(Da l).length:=by
  grind [List.perm_ext_iff_of_nodup,L5,HD,HJ,DH,IZ,List.Perm.length_eq]
 omega
abbrev oC:AV:=.tup [.agg Zz,nzA,vb false]
abbrev pS:Nm:=⟨[3],[],[],[],[],[],[],[],[(30,0),(34,1)],[],[]⟩
theorem iA(l:List Tm)(p:ByteArray)(hl:BB l)(hs:∀t∈l,BB t.set)(hn:Ep l p=none):PC 337 [sl Ac l,vs p] oC:=by
 have hc:=tJ l hl hs;unfold Ep at hn;cases e:AW l with
 |none=>
  have e1:G4 l=.tup [sl Ac [],vb false]:=by grind [BM]
  rw[e1]at hc;have hi:=mL (DZ.ptr [vs p]) [] (fun x=>decide (x.path=p)) (fun x _=>qv x p) aa1;refine Ps pS Tryz.func337 rfl (Nz rfl) (Xi .pure (Xi _ (Yi (hc) (Xi .pure (Xi _ (Yi (hi) (Yi (Nz rfl) (yN ?_))))))));exact .refl _
 |some c=>
  rw[e]at hn;have hn:(match Db c p with | none=>none | some t=>some (t,AH c p))=none:=hn;have hfn:Db c p=none:=by
   grind
  have e1:G4 l=.tup [sl Ac c,vb true]:=by grind [BM]
  rw[e1]at hc;have pE:=Pv hl e;have hi:=mL (DZ.ptr [vs p]) c (fun x=>decide (x.path=p)) (fun x _=>qv x p) aa0;have hid:Pg (fun x:Tm=>decide (x.path=p)) c 0=-1:=by
   grind [LQ,Db]
  rw[hid]at hi;refine Ps pS Tryz.func337 rfl (Nz rfl) (Xi .pure (Xi _ (Yi (hc) (Xi .pure (Xi _ (Yi (hi) (Yi ?_ ?_)))))))
  .intro _;refine Yi (Nz rfl) (yN ?_);exact .refl _
  .intro h;exact absurd (show(-1:Int)<0 by decide) h
abbrev rV:Nm:=⟨[3],[],[],[],[],[],[],[],[(30,0),(34,2)],[],[]⟩
theorem iB(l:List Tm)(p:ByteArray)(hl:BB l)(hs:∀t∈l,BB t.set)(hn:Ep l p=some (t,r)) :
  Cq Tryz.prog 337 [sl Ac l,vs p] (Ar [] Af) fun v h'=>v=.tup [.agg (Ac t),.msl 2000 r.length,vb true]/\h'=Ar [(2000,.arr 3 (r.map Ac))] Af:=by
 have hc:=tJ l hl hs;unfold Ep at hn;cases e:AW l with
 |none=>simp_all
 |some c=>
  rw[e]at hn;have hn:(match Db c p with | none=>none | some t=>some (t,AH c p))=some (t,r):=hn;have hft:Db c p=some t/\AH c p=r:=by
   grind
  have e1:G4 l=.tup [sl Ac c,vb true]:=by grind [BM]
  rw[e1]at hc;have pE:=Pv hl e;have hi:=mL (DZ.ptr [vs p]) c (fun x=>decide (x.path=p)) (fun x _=>qv x p) aa0;rcases LQ (p:=fun x:Tm=>decide (x.path=p)) c 0 with ⟨_,h2⟩ | ⟨i,x,h1,h2,h3⟩
  .grind [Db]
  have hx:x=t:=by
   grind [Db]
  subst hx;rw[h1,Nl]at hi;obtain⟨zP,hie⟩:=AR.1 h2;have her:c.eraseIdx i=r:=by
   rw[<-hft.2];exact M4 (HJ (F0 e)) zP (by grind)
  have wS:c.length-1=r.length:=by grind
  have Fi:c≠[]:=fun h=>by simp_all
  have AeQ:c.length<=1073741824:=pE;refine BO (Mt rV) [(13400,2000)] rfl B8 hm rfl Tryz.func337 aa3 rfl (Nz rfl) aa3 rfl (Xi .pure (Xi _ (Yi (hc) (Xi .pure (Xi _ (Yi (hi) (Yi ?_ ?_)))))))
  .intro h;omega
  intro _;have hg:(c.map Ac)[((i:Nat):Int).toNat]?=some (Ac x):=by simp_all
  refine Xi (Ac x) (Yi (Yi aa0 hg) (Yi rfl (yN (Xi c.length (Xi 3 (Xi (c.map Ac) (Yi rfl (Yi (tH c pE Fi) (Yi (by grind [Al]) (Xi (c.length-1) (Xi ((c.eraseIdx i).map Ac) (Yi rfl (Yi (yk c i zP) (yN (Yi aa3 (yN ?_))))))))))))))));have e2:AV.tup [.agg (Ac x),.msl 2000 (c.length-1),vb true]=.tup [.agg (Ac x),.msl 2000 r.length,vb true]:=by rw[wS]
  have e3:Ar [(2000,HO.arr 3 ((c.eraseIdx i).map Ac))] Af=Ar [(2000,.arr 3 (r.map Ac))] Af:=by rw[her]
  exact Xi _ (Yi (.refl _) (Yi e2 e3))
abbrev cV:Nm:=⟨[],[],[],[],[],[],[],[],[],[(24,9),(30,12)],[2,3,5,6]⟩
abbrev vY(p:ByteArray):AV:=.tup [sl Ac (Bn a b p).1,vi (Bn a b p).2]
theorem Vt{p:ByteArray}(h:Ep l p=some (t,r)):∃c,AW l=some c/\t∈c/\r=AH c p:=by
 grind [Ep,HV]
theorem Vu{p:ByteArray}(hl:BB l)(h:Ep l p=some (t,r)):BB t.set/\BB r/\∀u∈r,BB u.set:=by
 obtain⟨c,h1,h2,rfl⟩:=Vt h;have hs:=F0 h1
 grind [GG,Pv,AH,BR.canon]
theorem Oe(h:AW l=some c):c.length<=l.length:=by
 have h1:=NK l l.length (Aq _);rw[Ec]at h1;have h2:c=(Dh l).filter fun t=>!GC t:=by
  grind [AW]
 have h3:c.length<=(Dh l).length:=by grind
 grind [List.perm_ext_iff_of_nodup,L5,HD,HJ,DH,IZ,List.Perm.length_eq]
theorem Vv{p:ByteArray}(h:Ep l p=some (t,r)):r.length<=l.length:=by
 obtain⟨c,h1,h2,rfl⟩:=Vt h;have h3:(AH c p).length<=c.length:=Ca _ _
 have:=Oe h1
 omega
theorem eF(a b:AF):BB (EM a b):=by
 grind [CK,Zw]
theorem x6(p:ByteArray)(ha:a.length<=500000000)(hb:b.length<=500000000)(hsa:∀t∈a,BB t.set)(vA:∀t∈b,BB t.set):PC 308 [sl Ac a,sl Ac b,vs p] (vY a b p):=by
 have pB:BB a:=by omega
 have pD:BB b:=by omega
 have er:∀{l:List Tm} {e:Int},Bn a b p=(l,e)->vY a b p=.tup [sl Ac l,vi e]:=fun h=>by simp_all
 have e0:DC (.tup [nzA,vi 1]) (.tup [.slice .none [],vi 1]):=DC.tup ⟨.nil,.refl _,trivial⟩;cases h1:Ep a p with
 |none=>
  have hr:Bn a b p=([],1):=by grind [Bn]
  have c1:=iA a p pB hsa h1;cases h2:Ep b p with
  |none=>
   have c2:=iA b p pD vA h2;refine Ps cV Tryz.func308 rfl (Nz rfl) (Xi .pure (Xi _ (Yi (c1) (yN (Xi ⟨[(1,sl Ac b),(2,vs p),(8,.ref 8 0),(9,nzA),(10,vb false)],[(8,.cells Zz)],Af⟩ (Yi ⟨Z5,Z1,Fh,Tv⟩ (Xi .pure (Xi _ (Yi (c2) (yN (Xi ⟨[(8,.ref 8 0),(9,nzA),(10,vb false),(11,.ref 11 0),(12,nzA),(13,vb false)],[(8,.cells Zz),(11,.cells Zz)],Af⟩ (Yi ⟨Z6,Z2,Fh,Tv⟩ ?_))))))))))))
   exact e0.trans (.of_eq (er hr).symm)
  |some q2=>
   obtain⟨t2,r2⟩:=q2;have c2:=iB b p pD vA h2;refine Ps cV Tryz.func308 rfl (Nz rfl) (Xi .pure (Xi _ (Yi (c1) (yN (Xi ⟨[(1,sl Ac b),(2,vs p),(8,.ref 8 0),(9,nzA),(10,vb false)],[(8,.cells Zz)],Af⟩ (Yi ⟨Z5,Z1,Fh,Tv⟩ ?_))))))
   have z2:r2.length=(r2.map Ac).length:=by simp_all
   refine Xi (.gen [] 1) (Yi rfl (c2.imp ?_));intro v2 g2 q2;have rW:=q2.1;have w7:=q2.2;subst rW;subst w7;refine yN (Xi ⟨[(8,.ref 8 0),(9,nzA),(10,vb false),(11,.ref 11 0),(12,.msl 12600 r2.length),(13,vb true)],[(8,.cells Zz),(11,.cells (Ac t2)),(12600,.arr 3 (r2.map Ac))],Af⟩ (Yi ⟨Z6,Z3,Fh,Tv⟩ (Yi z2 ?_)));exact e0.trans (.of_eq (er hr).symm)
 |some q1=>
  obtain⟨t1,r1⟩:=q1;have c1:=iB a p pB hsa h1;obtain⟨f1,f2,f3⟩:=Vu pB h1;cases h2:Ep b p with
  |none=>
   have hr:Bn a b p=([],1):=by grind [Bn]
   have c2:=iA b p pD vA h2;refine Ps cV Tryz.func308 rfl (Nz rfl) (Xi (.gen [] 1) (Yi rfl (c1.imp ?_)));intro v1 g1 q1;have Tl:=q1.1;have Tn:=q1.2;subst Tl;subst Tn;refine yN (Xi ⟨[(1,sl Ac b),(2,vs p),(8,.ref 8 0),(9,.msl 11900 r1.length),(10,vb true)],[(8,.cells (Ac t1)),(11900,.arr 3 (r1.map Ac))],Af⟩ (Yi ⟨Z5,Z2,Fh,Tv⟩ ?_))
   have z1:r1.length=(r1.map Ac).length:=by simp_all
   refine Yi z1 (Xi .pure (Xi _ (Yi (c2) (yN (Xi ⟨[(8,.ref 8 0),(9,.slice (.id 11900 3) (r1.map Ac)),(10,vb true),(11,.ref 11 0),(12,nzA),(13,vb false)],[(8,.cells (Ac t1)),(11,.cells Zz),(11900,.tok 3 (r1.map Ac).length)],Af⟩ (Yi ⟨Z6,Z3,Fh,Tv⟩ ?_))))))
   exact e0.trans (.of_eq (er hr).symm)
  |some q2=>
   obtain⟨t2,r2⟩:=q2;have c2:=iB b p pD vA h2;obtain⟨g1,g2,g3⟩:=Vu pD h2;refine Ps cV Tryz.func308 rfl (Nz rfl) (Xi (.gen [] 1) (Yi rfl (c1.imp ?_)));intro v1 g1 q1;have Tl:=q1.1;have Tn:=q1.2;subst Tl;subst Tn;refine yN (Xi ⟨[(1,sl Ac b),(2,vs p),(8,.ref 8 0),(9,.msl 11900 r1.length),(10,vb true)],[(8,.cells (Ac t1)),(11900,.arr 3 (r1.map Ac))],Af⟩ (Yi ⟨Z5,Z2,Fh,Tv⟩ ?_))
   have z1:r1.length=(r1.map Ac).length:=by simp_all
   have z2:r2.length=(r2.map Ac).length:=by grind
   refine Yi z1 (Xi (.gen [] 1) (Yi rfl (c2.imp ?_)));intro v2 g2 q2;have rW:=q2.1;have w7:=q2.2;subst rW;subst w7;refine yN (Xi ⟨[(8,.ref 8 0),(9,.slice (.id 11900 3) (r1.map Ac)),(10,vb true),(11,.ref 11 0),(12,.msl 12600 r2.length),(13,vb true)],[(8,.cells (Ac t1)),(11,.cells (Ac t2)),(11900,.tok 3 (r1.map Ac).length),(12600,.arr 3 (r2.map Ac))],Af⟩ (Yi ⟨Z6,Z4,Fh,Tv⟩ (Yi z2 (Xi ⟨[(8,.ref 8 0),(9,.slice (.id 11900 3) (r1.map Ac)),(11,.ref 11 0),(12,.slice (.id 12600 3) (r2.map Ac))],[(8,.cells (Ac t1)),(11,.cells (Ac t2)),(11900,.tok 3 (r1.map Ac).length),(12600,.tok 3 (r2.map Ac).length)],Af⟩ (Yi ⟨Z4,Z4,Fh,Tv⟩ ?_)))))
   have l1:=Vv h1;have l2:=Vv h2;have b1:AZ 3 (r2.map Ac)/\(r1.map Ac).length=(r1.map Ac).length/\((r1.map Ac).length+(r2.map Ac).length)*48<=140737488355328/\(r1.map Ac).length+(r2.map Ac).length<=9223372036854775807:=
    ⟨CE (enc:=Ac) (n:=3) (fun _=>rfl) r2,rfl,by omega,by omega⟩
   refine Yi b1 (Yi (Nz rfl) (yN (Xi _ (Yi (yd t1 t2 f1 g1) ?_))));have b2:AZ 3 [Ac (Dk t1 t2)]/\(r1.map Ac++r2.map Ac).length=(r1.map Ac).length+(r2.map Ac).length/\((r1.map Ac++r2.map Ac).length+[Ac (Dk t1 t2)].length)*48<=140737488355328/\(r1.map Ac++r2.map Ac).length+[Ac (Dk t1 t2)].length<=9223372036854775807:=
    ⟨⟨rfl,trivial⟩,by grind,by grind,by grind⟩
   refine Yi b2 ?_;have Wu:=tJ (r1++r2++[Dk t1 t2]) (by grind) (fun u hu=>by
    rcases Bz.1 hu with hu | hu
    .grind
    .rw[A9.1 hu];exact eF _ _)
   have e1:sl Ac (r1++r2++[Dk t1 t2])=.slice .none (r1.map Ac++r2.map Ac++[Ac (Dk t1 t2)]):=by simp
   have px:PC 30 [.slice .none (r1.map Ac++r2.map Ac++[Ac (Dk t1 t2)])] (G4 (r1++r2++[Dk t1 t2])):=e1▸Wu;cases hcn:AW (r1++r2++[Dk t1 t2])with
   |none=>
    have hr:Bn a b p=([],8):=by grind [Bn]
    have ec:G4 (r1++r2++[Dk t1 t2])=.tup [sl Ac [],vb false]:=by grind [BM]
    have hc:PC 30 [.slice .none (r1.map Ac++r2.map Ac++[Ac (Dk t1 t2)])] (.tup [sl Ac [],vb false]):=ec▸px;have e8:DC (.tup [nzA,vi 8]) (.tup [.slice .none [],vi 8]):=DC.tup ⟨.nil,.refl _,trivial⟩;refine Xi _ (Yi (hc) (Yi aa3 (Xi ⟨[(14,sl Ac []),(15,vb false)],[],Af⟩ (Yi ⟨Z2,Tv,Fh,Tv⟩ ?_))))
    exact e8.trans (.of_eq (er hr).symm)
   |some o=>
    have hr:Bn a b p=(o,0):=by grind [Bn]
    have ec:G4 (r1++r2++[Dk t1 t2])=.tup [sl Ac o,vb true]:=by grind [BM]
    have hc:PC 30 [.slice .none (r1.map Ac++r2.map Ac++[Ac (Dk t1 t2)])] (.tup [sl Ac o,vb true]):=ec▸px;refine Xi _ (Yi (hc) (Yi aa3 (Xi ⟨[(14,sl Ac o),(15,vb true)],[],Af⟩ (Yi ⟨Z2,Tv,Fh,Tv⟩ ?_))))
    exact .of_eq (er hr).symm
def cd(h s:Nat->HO):Nat->Bool
 |0=>true
 |n+1=>(match h (1000+n)with |.free=>true |_=>(match s (1000+n)with |.free=>false |_=>true))&&cd h s n
theorem RZ{h s:Nat->HO}:∀{n:Nat},cd h s n=true->∀j,j<n->h (1000+j)≠.free->s (1000+j)≠.free
 |n+1,hd,j,hj,hn=>by
  simp only[cd,Au]at hd;rcases Dq j n with h1 | h1
  .exact RZ hd.2 j h1 hn
  grind
theorem Cr{h s:Nat->HO}(hd:cd h s 1000=true):∀j,1000<=j->j<2000->h j≠.free->s j≠.free:=fun j h1 h2=>by
 have:=RZ hd (j-1000) aa0
 simp_all
abbrev mR:List AV:=[sl Ak x,.slice .none ifs,sl Ad roots,.slice (.id 1001 1) (d.map Ap)]
abbrev Iq:HO:=.cells (mR x ifs roots d)
abbrev Iw:HO:=.tok 1 (d.map Ap).length
abbrev M1:List (Nat×HO):=[(1000,Iq x ifs roots d),(1001,Iw d)]
abbrev Xn:List AV:=[vs ⟨#[]⟩,vi 0,vi 0,vi 0,nzA,vs ⟨#[]⟩,vs ⟨#[]⟩,vs ⟨#[]⟩,vb false]
abbrev Hf:Option Rl->AV
 |some r=>.tup [.agg (Ak r),vb true]
 |none=>.tup [.agg Xn,vb false]
theorem Sh{p:α->Bool}{l:List α}{i:Nat}(hi:i<l.length)(hb:∀j (hj:j<l.length),j<i->p l[j]=false)(h:p l[i]=true):l.find? p=some l[i]:=by
 grind [List.find?_eq_some_iff_getElem]
theorem Px{p:α->Bool}{l:List α}(hb:∀j (hj:j<l.length),p l[j]=false):l.find? p=none:=by
 grind [List.getElem_of_mem]
theorem xX(p:ByteArray)(pl:Int)(hx:BB x) :
  Cq Tryz.prog 304 [.ref 1000 0,vs p,vi pl] (Ar (M1 x ifs roots d) Af) fun r h'=>r=Hf (Dd x p pl)/\h'=Ar (M1 x ifs roots d) Af:=by
 unfold BB at hx;refine BO (Mt (Dc [4])) [(1000,1000),(1001,1001)] rfl B8 hm rfl Tryz.func304 aa3 rfl (Nz rfl) aa3 rfl (Xi {i:Nat // i<=x.length/\∀j (hj:j<x.length),j<i->(decide (x[j].path=p)&&decide (plc x[j].ver=pl))=false} (Xi (fun i=>⟨[(1,vs p),(2,vi pl),(6,.ref 6 0),(16,sl Ak x),(17,vi (x.map Ak).length),(18,vi i.1)],[(6,.cells Xn),(1000,Iq x ifs roots d),(1001,Iw d)],Af⟩) (Xi (fun i=>x.length-i.1) (Yi (Xi ⟨0,Ao _,fun j _ h=>by omega⟩ ?_) ?_))))
 .exact⟨Z6,Z3,Fh,Cr aa3⟩
 intro⟨i,h1,h2⟩;refine Yi ?_ ?_
 .intro h;have h:(i:Int)<(x.map Ak).length:=h;have h:i<x.length:=by simp_all
  have hg:x[i]?=some x[i]:=Ge h;refine Xi (Ak x[i]) (Yi (Yi aa0 (by simp_all)) (Yi rfl ?_));refine Yi (Nz rfl) (yN (Xi ⟨[(1,vs p),(2,vi pl),(6,.ref 6 0),(9,.ref 9 0),(16,sl Ak x),(17,vi (x.map Ak).length),(18,vi i)],[(6,.cells Xn),(9,.cells (Ak x[i])),(1000,Iq x ifs roots d),(1001,Iw d)],Af⟩ (Yi ⟨Z7,Z4,Fh,Cr aa3⟩ (yN (Xi .pure (Xi _ (Yi (tK x[i].ver) ?_)))))));have next:(decide (x[i].path=p)&&decide (plc x[i].ver=pl))=false->∀j (hj:j<x.length),j<i+1->(decide (x[j].path=p)&&decide (plc x[j].ver=pl))=false:=fun hf j hj He=>by
   grind
  refine Yi ?_ ?_
  .intro hp;have hp:x[i].path=p:=hp;refine Yi ?_ ?_
   .intro hq;have hq:plc x[i].ver=pl:=hq;have hr:Dd x p pl=some x[i]:=Sh h (fun j hj He=>h2 j hj He) (by simp_all);refine Yi (Nz rfl) (Yi (Nz rfl) (yN ?_));have e:AV.tup [.agg (Ak x[i]),vb true]=Hf (Dd x p pl):=by rw[hr]
    exact Xi _ (Yi (.refl _) (Yi e rfl))
   .intro hq;have hq:¬plc x[i].ver=pl:=hq;refine Yi (by grind [Al]) (Xi ⟨i+1,by omega,next (by simp_all)⟩ ?_)
    exact⟨by grind,Z6,Z3,Fh,Cr aa3⟩
  .intro hp;have hp:¬x[i].path=p:=hp;refine Yi (by grind [Al]) (Xi ⟨i+1,by omega,next (by simp_all)⟩ ?_)
   exact⟨by grind,Z6,Z3,Fh,Cr aa3⟩
 .intro h;have h:¬(i:Int)<(x.map Ak).length:=h;have h:¬i<x.length:=by simp_all
  have hr:Dd x p pl=none:=Px fun j hj=>h2 j hj aa0;have e:AV.tup [.agg Xn,vb false]=Hf (Dd x p pl):=by rw[hr]
  refine Yi (Nz rfl) (yN ?_);exact Xi _ (Yi (.refl _) (Yi e rfl))
abbrev Ls:Option (List Tm)->AV
 |some t=>.tup [sl Ac t,vb true]
 |none=>.tup [sl Ac [],vb false]
theorem KP:DC (.tup [nzA,vb false]) (Ls none):=DC.tup ⟨.nil,.refl _,trivial⟩
theorem OW{l:List α}{i:Int}(h:i<0):Di l i=none:=by grind [Di]
theorem OS{l:List α}{i:Int}(h:(l.length:Int)<=i):Di l i=none:=by
 grind [Di]
theorem Rk{l:List α}{i:Int}(h0:¬i<0)(h:¬(l.length:Int)<=i):∃x,Di l i=some x/\l[i.toNat]?=some x/\x∈l:=by
 have hl:i.toNat<l.length:=by omega
 exact⟨l[i.toNat],by grind [Di],Ge hl,Ah hl⟩
theorem xM(hr:∀q∈roots,BB q.set) :
  Cq Tryz.prog 250 [.ref 1000 0,.agg (Aj i)] (Ar (M1 x ifs roots d) Af) fun r h'=>r=Ls ((Di roots i.number).map Li)/\h'=Ar (M1 x ifs roots d) Af:=by
 refine BO (Mt Cu) [(1000,1000),(1001,1001)] rfl B8 hm rfl Tryz.func250 aa3 rfl (Nz rfl) aa3 rfl ?_;have Ua:Di roots i.number=none->AV.tup [sl Ac [],vb false]=Ls ((Di roots i.number).map Li):=fun h=>by simp_all
 refine Yi ?_ ?_
 .intro h;have h:i.number<0:=h;have e:=Ua (OW h);refine Yi aa3 ?_;exact Xi _ (Yi KP (Yi e rfl))
 .intro h;have h:¬i.number<0:=h;refine Yi ?_ ?_
  .intro h2;have h2:((roots.map Ad).length:Int)<=i.number:=h2;have e:=Ua (OS (by simp_all));refine Yi aa3 ?_;exact Xi _ (Yi KP (Yi e rfl))
  .intro h2;have h2:¬((roots.map Ad).length:Int)<=i.number:=h2;refine Yi aa3 (Am (Rk h (by rw[Lm]at h2;exact h2)) (fun q hq=>?_));have hg:(roots.map Ad)[i.number.toNat]?=some (Ad q):=AM hq.2.1;refine Xi (Ad q) (Yi (Yi aa0 hg) (Yi rfl (yN (Xi _ (Yi (xW q (hr q hq.2.2)) (Yi aa3 ?_))))));have e:AV.tup [sl Ac (Li q),vb true]=Ls ((Di roots i.number).map Li):=by simp_all
   exact Xi _ (Yi (.refl _) (Yi e rfl))
theorem Rn(v:Ver):0<=plc v/\plc v<1000000:=by
 unfold plc;cases h:Bo v with
 |true=>exact ld h
 |false=>simp
theorem ll{x:List Rl}{p:ByteArray}{pl:Int}{r:Rl}(h:Dd x p pl=some r):r∈x/\r.path=p/\plc r.ver=pl:=by
 grind [Dd]
theorem cL(h:¬(0:Int)<(l.map Ac).length):AV.tup [sl Ac l,vb false]=Ls (Rj l):=by
 cases l with
 |nil=>rfl
 |cons a l=>simp_all
theorem YS(h:(0:Int)<(l.map Ac).length):AV.tup [sl Ac l,vb true]=Ls (Rj l):=by
 cases l with
 |nil=>simp_all
 |cons a l=>rfl
abbrev Ud:Option (List Tm):=match Dd x i.path i.place with
 |none=>none
 |some r=>match Di r.reqs i.number with
  |none=>none
  |some q=>Rj (Cb i.path i.place q)
theorem xN(hx:BB x)(hr:∀r∈x,∀q∈r.reqs,BB q.set) :
  Cq Tryz.prog 252 [.ref 1000 0,.agg (Aj i)] (Ar (M1 x ifs roots d) Af) fun r h'=>r=Ls (Ud x i)/\h'=Ar (M1 x ifs roots d) Af:=by
 have hc:=xX x ifs roots d i.path i.place hx;cases h1:Dd x i.path i.place with
 |none=>
  rw[h1]at hc;have e:AV.tup [sl Ac [],vb false]=Ls (Ud x i):=by grind
  refine BO (Mt (Dc [2])) [(1000,1000),(1001,1001)] rfl B8 hm rfl Tryz.func252 aa3 rfl (Nz rfl) aa3 rfl (Xi (.gen [(1000,1000),(1001,1001)] 0) (Yi rfl (hc.imp ?_)));intro v1 g1 q1;have Tl:=q1.1;have Tn:=q1.2;subst Tl;subst Tn;refine yN (Xi ⟨[(0,.ref 1000 0),(3,.ref 3 0),(6,.ref 6 0),(7,vb false)],[(3,.cells (Aj i)),(6,.cells Xn),(1000,Iq x ifs roots d),(1001,Iw d)],Af⟩ (Yi ⟨Z4,Z4,Fh,Cr aa3⟩ ?_))
  exact Xi _ (Yi KP (Yi e rfl))
 |some r=>
  rw[h1]at hc;obtain⟨m1,m2,m3⟩:=ll h1;have cA:=Rn r.ver;rw[m3]at cA;have er:Ud x i=match Di r.reqs i.number with | none=>none | some q=>Rj (Cb i.path i.place q):=by grind
  have Ua:Di r.reqs i.number=none->AV.tup [sl Ac [],vb false]=Ls (Ud x i):=fun h=>by simp_all
  refine BO (Mt (Dc [2,4,5])) [(1000,1000),(1001,1001)] rfl B8 hm rfl Tryz.func252 aa3 rfl (Nz rfl) aa3 rfl (Xi (.gen [(1000,1000),(1001,1001)] 0) (Yi rfl (hc.imp ?_)));intro v1 g1 q1;have Tl:=q1.1;have Tn:=q1.2;subst Tl;subst Tn;refine yN (Xi ⟨[(0,.ref 1000 0),(3,.ref 3 0),(6,.ref 6 0),(7,vb true)],[(3,.cells (Aj i)),(6,.cells (Ak r)),(1000,Iq x ifs roots d),(1001,Iw d)],Af⟩ (Yi ⟨Z4,Z4,Fh,Cr aa3⟩ (Yi ?_ ?_)))
  .intro h;have h:i.number<0:=h;have e:=Ua (OW h);exact Xi _ (Yi KP (Yi e rfl))
  .intro h;have h:¬i.number<0:=h;refine Yi ?_ ?_
   .intro h2;have h2:((r.reqs.map Ad).length:Int)<=i.number:=h2;have e:=Ua (OS (by simp_all));exact Xi _ (Yi KP (Yi e rfl))
   .intro h2;have h2:¬((r.reqs.map Ad).length:Int)<=i.number:=h2;refine Am (Rk h (by rw[Lm]at h2;exact h2)) (fun q hq=>?_);have hg:(r.reqs.map Ad)[i.number.toNat]?=some (Ad q):=AM hq.2.1;refine Xi ⟨[(3,.ref 3 0),(6,.ref 6 0)],[(3,.cells (Aj i)),(6,.cells (Ak r)),(1000,Iq x ifs roots d),(1001,Iw d)],Af⟩ (Yi ⟨Z2,Z4,Fh,Cr aa3⟩ (Xi (Ad q) (Yi (Yi aa0 hg) (Yi rfl (yN (Xi _ (Yi (xY i.path i.place q (by grind [Al]) (hr r m1 q hq.2.2)) (Yi aa3 ?_))))))));have eq:Ud x i=Rj (Cb i.path i.place q):=by simp_all
    refine Xi ⟨[(8,sl Ac (Cb i.path i.place q))],[(1000,Iq x ifs roots d),(1001,Iw d)],Af⟩ (Yi ⟨Z1,Z2,Fh,Cr aa3⟩ (Yi ?_ ?_))
    .intro h3;have h3:(0:Int)<((Cb i.path i.place q).map Ac).length:=h3;have e:AV.tup [sl Ac (Cb i.path i.place q),vb true]=Ls (Ud x i):=by grind [YS]
     exact Xi _ (Yi (.refl _) (Yi e rfl))
    .intro h3;have h3:¬(0:Int)<((Cb i.path i.place q).map Ac).length:=h3;have e:AV.tup [sl Ac (Cb i.path i.place q),vb false]=Ls (Ud x i):=by grind [cL]
     exact Xi _ (Yi (.refl _) (Yi e rfl))
abbrev Xo(t:List Tm):Prop:=t.length<=500000000/\∀u∈t,BB u.set
theorem c8{a b:List Tm}{p:ByteArray}(h:(Bn a b p).2≠0):(Bn a b p).1=[]:=by
 grind [Bn]
abbrev Tq:Option (List Tm):=match Di d i.left,Di d i.right with
 |some a,some b=>if(Bn a b i.path).2=0 then some (Bn a b i.path).1 else none
 |_,_=>none
theorem lq{d:List (List Tm)}{i:Nf}(h:Di d i.left=none):Tq d i=none:=by grind
theorem lr{d:List (List Tm)}{i:Nf}(h:Di d i.right=none):Tq d i=none:=by grind
theorem xO(hi:∀t∈d,Xo t) :
  Cq Tryz.prog 256 [.ref 1000 0,.agg (Aj i)] (Ar (M1 x ifs roots d) Af) fun r h'=>r=Ls (Tq d i)/\h'=Ar (M1 x ifs roots d) Af:=by
 have Ua:Tq d i=none->AV.tup [sl Ac [],vb false]=Ls (Tq d i):=fun h=>by rw[h]
 refine BO (Mt (Dc [2,4,5])) [(1000,1000),(1001,1001)] rfl B8 hm rfl Tryz.func256 aa3 rfl (Nz rfl) aa3 rfl (Xi ⟨[(0,.ref 1000 0),(3,.ref 3 0),(6,vi (d.map Ap).length)],[(3,.cells (Aj i)),(1000,Iq x ifs roots d),(1001,Iw d)],Af⟩ (Yi ⟨Z3,Z3,Fh,Cr aa3⟩ (Yi ?_ ?_)))
 .intro h;have h:i.left<0:=h;have e:=Ua (lq (OW h));exact Xi _ (Yi KP (Yi e rfl))
 intro h;have h:¬i.left<0:=h;refine Yi ?_ ?_
 .intro h2;have h2:((d.map Ap).length:Int)<=i.left:=h2;have e:=Ua (lq (OS (by simp_all)));exact Xi _ (Yi KP (Yi e rfl))
 intro h2;have h2:¬((d.map Ap).length:Int)<=i.left:=h2;refine Yi ?_ ?_
 .intro h3;have h3:i.right<0:=h3;have e:=Ua (lr (OW h3));exact Xi _ (Yi KP (Yi e rfl))
 intro h3;have h3:¬i.right<0:=h3;refine Yi ?_ ?_
 .intro h4;have h4:((d.map Ap).length:Int)<=i.right:=h4;have e:=Ua (lr (OS (by simp_all)));exact Xi _ (Yi KP (Yi e rfl))
 intro h4;have h4:¬((d.map Ap).length:Int)<=i.right:=h4;refine Am (Rk h (by rw[Lm]at h2;exact h2)) (fun a ha=>?_);refine Am (Rk h3 (by rw[Lm]at h4;exact h4)) (fun b hb=>?_);have ga:(d.map Ap)[i.left.toNat]?=some (Ap a):=AM ha.2.1;have gb:(d.map Ap)[i.right.toNat]?=some (Ap b):=AM hb.2.1;have pB:=hi a ha.2.2;have pD:=hi b hb.2.2;have hc:=x6 a b i.path pB.1 pD.1 pB.2 pD.2;have er:Tq d i=if(Bn a b i.path).2=0 then some (Bn a b i.path).1 else none:=by grind
 refine Xi ⟨[(0,.ref 1000 0),(3,.ref 3 0)],[(3,.cells (Aj i)),(1000,Iq x ifs roots d),(1001,Iw d)],Af⟩ (Yi ⟨Z2,Z3,Fh,Cr aa3⟩ (Xi (Ap a) (Yi (Yi aa0 ga) (Yi rfl (Xi (Ap b) (Yi (Yi aa0 gb) (Yi rfl (Xi _ (Yi (hc) (Yi aa3 (Xi ⟨[(7,sl Ac (Bn a b i.path).1),(8,vi (Bn a b i.path).2)],[(1000,Iq x ifs roots d),(1001,Iw d)],Af⟩ (Yi ⟨Z2,Z2,Fh,Cr aa3⟩ (Yi ?_ ?_)))))))))))))
 .intro h5;have h5:(Bn a b i.path).2=0:=h5;have e:AV.tup [sl Ac (Bn a b i.path).1,vb true]=Ls (Tq d i):=by simp_all
  exact Xi _ (Yi (.refl _) (Yi e rfl))
 .intro h5;have h5:¬(Bn a b i.path).2=0:=h5;have e:AV.tup [sl Ac (Bn a b i.path).1,vb false]=Ls (Tq d i):=by grind [c8]
  exact Xi _ (Yi (.refl _) (Yi e rfl))
theorem qi:PC 249 [.agg (Aj i)] (.agg (Aj { i with number:=0 })):=by
 refine Ps Cu Tryz.func249 rfl (Nz rfl) (Yi (Nz rfl) (Yi (Nz rfl) (Yi (Nz rfl) (yN ?_))));exact .refl _
theorem qj:PC 251 [.agg (Aj i)] (.agg (Aj { i with path:=mt,place:=0,number:=0 })):=by
 refine Ps Cu Tryz.func251 rfl (Nz rfl) (Yi (Nz rfl) (Yi (Nz rfl) (Yi (Nz rfl) (Yi (Nz rfl) (Yi (Nz rfl) (yN ?_))))));exact .refl _
theorem qk:PC 253 [.agg (Aj i)] (.agg (Aj { i with path:=mt })):=by
 refine Ps Cu Tryz.func253 rfl (Nz rfl) (Yi (Nz rfl) (Yi (Nz rfl) (Yi (Nz rfl) (yN ?_))));exact .refl _
theorem ql:PC 255 [.agg (Aj i)] (.agg (Aj { i with path:=mt,left:=0,right:=0 })):=by
 refine Ps Cu Tryz.func255 rfl (Nz rfl) (Yi (Nz rfl) (Yi (Nz rfl) (Yi (Nz rfl) (Yi (Nz rfl) (Yi (Nz rfl) (yN ?_))))));exact .refl _
theorem QU:PC 182 [] (.agg [.v (Hc 249),.v (Hc 250),.v (Hc 251),.v (Hc 252),.v (Hc 253),.v (Hc 254),.v (Hc 255),.v (Hc 256)]):=by
 refine Ps Cu Tryz.func182 rfl (Nz rfl) (Yi (Nz rfl) (yN ?_));exact .refl _
theorem tB:PC 301 [vs s] (vb false):=by
 refine Ps Cu Tryz.func301 rfl (Nz rfl) (Yi ?_ ?_)
 .intro h;exact absurd rfl (show s≠s from h)
 .intro _;exact .refl _
theorem tE(z:Int):PC 329 [vi z] (vb false):=by
 refine Ps Cu Tryz.func329 rfl (Nz rfl) (Yi ?_ ?_)
 .intro h;exact absurd rfl (show z≠z from h)
 .intro _;exact .refl _
theorem xK(a b:ByteArray):PC 246 [vs a,vs b] (vi (KD a b)):=by
 refine Ps Cu Tryz.func246 rfl (Nz rfl) (Xi .pure (Xi _ (Yi (tB a) (Xi .pure (Xi _ (Yi (tB b) (Yi ?_ ?_)))))))
 .intro h;exact .of_eq (Aa vi (show(-1:Int)=KD a b by grind [KD,Ed]))
 .intro h;refine Yi ?_ ?_
  .intro h2;exact .of_eq (Aa vi (show(1:Int)=KD a b by grind [KD,Ed]))
  .intro h2;exact .of_eq (Aa vi (show(0:Int)=KD a b by grind [KD,Ed]))
theorem qo(a b:Int):PC 302 [vi a,vi b] (vi (FU a b)):=by
 refine Ps Cu Tryz.func302 rfl (Nz rfl) (Xi .pure (Xi _ (Yi (tE a) (Xi .pure (Xi _ (Yi (tE b) (Yi ?_ ?_)))))))
 .intro h;exact .of_eq (Aa vi (show(-1:Int)=FU a b by grind [FU]))
 .intro h;refine Yi ?_ ?_
  .intro h2;exact .of_eq (Aa vi (show(1:Int)=FU a b by grind [FU]))
  .intro h2;exact .of_eq (Aa vi (show(0:Int)=FU a b by grind [FU]))
theorem xJ(a b:Int):PC 245 [.slice .none [[vi a],[vi b]]] (vi (if a≠0 then a else b)):=by
 refine Ps Cu Tryz.func245 rfl (Nz rfl) (Xi {i:Nat // i<=2/\(0<i->a=0)/\(1<i->b=0)} (Xi (fun i=>⟨[(3,vi 0),(6,.slice .none [[vi a],[vi b]]),(7,vi 2),(8,vi i.1)],[],Af⟩) (Xi (fun i=>2-i.1) (Yi (Xi ⟨0,by omega,by omega,by omega⟩ ?_) ?_))))
 .exact⟨Z4,Tv,Fh,Tv⟩
 intro⟨i,h1,h2,h3⟩;refine Yi ?_ ?_
 .intro h;have h:(i:Int)<2:=h
  match i,h1,h2,h3,h with
  |0,h1,h2,h3,h=>
   refine Xi [vi a] (Yi (Yi (Cg _) rfl) (Yi rfl (Yi ?_ ?_)))
   .intro h4;exact .of_eq (Aa vi (AE h4).symm)
   .intro h4;refine Yi (by grind [Al]) (Xi ⟨1,by omega,fun _=>by omega,fun q=>absurd q aa2⟩ ?_);exact⟨by simp_all,Z4,Tv,Fh,Tv⟩
  |1,h1,h2,h3,h=>
   have ha:=h2 aa2;refine Xi [vi b] (Yi (Yi aa0 rfl) (Yi rfl (Yi ?_ ?_)))
   .intro h4;exact .of_eq (Aa vi (Aw aa0).symm)
   .intro h4;refine Yi (by grind [Al]) (Xi ⟨2,by omega,fun _=>ha,fun q=>by omega⟩ ?_);exact⟨by simp_all,Z4,Tv,Fh,Tv⟩
  |i+2,h1,h2,h3,h=>omega
 .intro h;have h:¬(i:Int)<2:=h;have ha:=h2 aa0;have hb:=h3 aa0;exact .of_eq (Aa vi (show(0:Int)=if a≠0 then a else b by omega))
theorem RQ(a b:Ver)(i:Nat)(hi:i<3)(h:∀j,j<i->FU (part a j) (part b j)=0)(hn:FU (part a i) (part b i)≠0):IL a b=FU (part a i) (part b i):=by
 unfold IL
 match i,hi,h,hn with
 |0,_,_,hn=>exact AE hn
 |1,_,h,hn=>
  have h0:FU a.a b.a=0:=h 0 aa2;rw[Aw aa0];exact AE hn
 |2,_,h,hn=>
  have h0:FU a.a b.a=0:=h 0 aa2;have h1:FU a.b b.b=0:=h 1 aa2;rw[Aw aa0,Aw aa0];rfl
theorem iJ(a b:Ver)(h:∀j,j<3->FU (part a j) (part b j)=0):IL a b=0:=by
 unfold IL;have h0:FU a.a b.a=0:=h 0 aa2;have h1:FU a.b b.b=0:=h 1 aa2;have h2:FU a.c b.c=0:=h 2 aa2;omega
theorem xL(a b:Ver):PC 247 [.agg (Dt a),.agg (Dt b)] (vi (IL a b)):=by
 refine Ps Cu Tryz.func247 rfl (Nz rfl) (yN (Xi _ (Yi (mJ a) (yN (Xi _ (Yi (mJ b) (Yi (Nz rfl) (yN (Yi aa3 (Xi {i:Nat // i<=3/\∀j,j<i->FU (part a j) (part b j)=0} (Xi (fun i=>⟨[(5,.ref 5 0),(6,.ref 6 0),(13,vi i.1)],[(5,.cells (Dt a)),(6,.cells (Dt b))],Af⟩) (Xi (fun i=>3-i.1) (Yi (Xi ⟨0,by omega,fun j h=>by omega⟩ ?_) ?_)))))))))))))
 .exact⟨Z3,Z2,Fh,Tv⟩
 intro⟨i,h1,h2⟩;refine Yi ?_ ?_
 .intro h;have h:(i:Int)<3:=h;have next:FU (part a i) (part b i)=0->∀j,j<i+1->FU (part a j) (part b j)=0:=fun hz j hj=>by
   grind
  match i,h1,h2,h,next with
  |0,h1,h2,h,next=>
   refine Yi ⟨by omega,by omega⟩ ?_;refine Yi ⟨by omega,by omega⟩ ?_;refine Xi _ (Yi (qo (part a 0) (part b 0)) (Yi aa3 (Yi ?_ ?_)))
   .intro h4;exact .of_eq (Aa vi (RQ a b 0 aa2 h2 h4).symm)
   .intro h4;refine Yi (by grind [Al]) (Xi ⟨1,by omega,next (Gr h4)⟩ ?_)
    exact⟨by simp_all,Z3,Z2,Fh,Tv⟩
  |1,h1,h2,h,next=>
   refine Yi ⟨by omega,by omega⟩ ?_;refine Yi ⟨by omega,by omega⟩ ?_;refine Xi _ (Yi (qo (part a 1) (part b 1)) (Yi aa3 (Yi ?_ ?_)))
   .intro h4;exact .of_eq (Aa vi (RQ a b 1 aa2 h2 h4).symm)
   .intro h4;refine Yi (by grind [Al]) (Xi ⟨2,by omega,next (Gr h4)⟩ ?_)
    exact⟨by simp_all,Z3,Z2,Fh,Tv⟩
  |2,h1,h2,h,next=>
   refine Yi ⟨by omega,by omega⟩ ?_;refine Yi ⟨by omega,by omega⟩ ?_;refine Xi _ (Yi (qo (part a 2) (part b 2)) (Yi aa3 (Yi ?_ ?_)))
   .intro h4;exact .of_eq (Aa vi (RQ a b 2 aa2 h2 h4).symm)
   .intro h4;have h4:¬FU (part a 2) (part b 2)≠0:=h4;refine Yi (by grind [Al]) (Xi ⟨3,by omega,next (Gr h4)⟩ ?_)
    exact⟨by simp_all,Z3,Z2,Fh,Tv⟩
  |i+3,h1,h2,h,next=>omega
 .intro h;have h:¬(i:Int)<3:=h;exact .of_eq (Aa vi (iJ a b fun j hj=>h2 j aa0).symm)
theorem xq(a b:Rl):PC 180 [.agg (Ak a),.agg (Ak b)] (vi (If a b)):=by
 refine Ps Cu Tryz.func180 rfl (Nz rfl) (Xi _ (Yi (xK a.path b.path) (Yi (Nz rfl) (yN (Xi _ (Yi (xL a.ver b.ver) (Xi _ (Yi (xJ (KD a.path b.path) (IL a.ver b.ver)) (Yi aa3 ?_)))))))));exact .refl _
abbrev Ew:Prop:=s.size<=1073741824
abbrev Lw(q:Rq):Prop:=BB q.set/\Ew q.path
abbrev F3(r:Rl):Prop:=Ew r.path/\∀q∈r.reqs,Lw q
abbrev OL(nm:ByteArray->ByteArray)(p:ByteArray):AV:=match A8 p with
 |some m=>.tup [vs (nm p),vi m,vi 0]
 |none=>.tup [vs ⟨#[]⟩,vi 0,vi 4]
abbrev TS(nm:ByteArray->ByteArray):Prop:=∀p:ByteArray,Ew p->PC 32 [vs p] (OL nm p)
theorem TS.none(h:TS nm){p:ByteArray}(hp:Ew p)(e:A8 p=.none):PC 32 [vs p] (.tup [vs ⟨#[]⟩,vi 0,vi 4]):=by
 grind
theorem TS.some(h:TS nm){p:ByteArray}{m:Int}(hp:Ew p)(e:A8 p=.some m):PC 32 [vs p] (.tup [vs (nm p),vi m,vi 0]):=by
 grind
theorem tg(hL:TS nm)(q:Rq)(hq:BB q.set)(hp:Ew q.path):PC 181 [.agg (Ad q),.v (.pointer none)] (vi (GY none q)):=by
 cases jZ:A8 q.path with
 |none=>
  have e:(4:Int)=GY none q:=by grind [GY]
  have hl:=hL.none hp jZ;refine Ps Cu Tryz.func181 rfl (Nz rfl) (Xi .pure (Xi _ (Yi (hl) (Yi ?_ ?_))))
  .intro _;exact .of_eq (Aa vi e)
  .intro h;exact absurd (show(4:Int)≠0 by decide) h
 |some m=>
  have er:GY none q=if(q.set.isEmpty||!decide (q.set=canon q.set)||false)=true then 1 else 0:=by grind [GY]
  have hl:=hL.some hp jZ;have hc:=V1 q.set hq;have he:=tq q.set (canon q.set) hq;have nP:∀{n:Int},n=(q.set.map Ab).length->n=0->q.set.isEmpty=true:=fun h1 h2=>by
   rw[Lm]at h1;rw[Ll];exact Az aa0
  have jW:¬((q.set.map Ab).length:Int)=0->q.set.isEmpty=false:=fun h=>by
   simp_all
  rcases Bt (decide (q.set=canon q.set))with h2 | h2
  .rw[h2]at he;refine Ps (Dc []) Tryz.func181 rfl (Nz rfl) (Xi .pure (Xi _ (Yi (hl) (Yi ?_ ?_))))
   .intro h;exact absurd rfl h
   intro _;refine Yi ?_ ?_
   .intro h;have e:(1:Int)=GY none q:=by grind
    refine Yi aa3 ?_;exact .of_eq (Aa vi e)
   intro h;have hn:=jW h;refine Xi _ (Yi (hc) (Xi _ (Yi (he) (Yi aa3 ?_))));have e:(0:Int)=GY none q:=by grind
   exact .of_eq (Aa vi e)
  .rw[h2]at he;refine Ps (Dc []) Tryz.func181 rfl (Nz rfl) (Xi .pure (Xi _ (Yi (hl) (Yi ?_ ?_))))
   .intro h;exact absurd rfl h
   intro _;refine Yi ?_ ?_
   .intro h;have e:(1:Int)=GY none q:=by simp_all
    refine Yi aa3 ?_;exact .of_eq (Aa vi e)
   intro h;have hn:=jW h;refine Xi _ (Yi (hc) (Xi _ (Yi (he) (Yi aa3 ?_))));have e:(1:Int)=GY none q:=by simp_all
   exact .of_eq (Aa vi e)
theorem th(hL:TS nm)(q b:Rq)(hq:BB q.set)(hp:Ew q.path):PC 181 [.agg (Ad q),.cptr (Ad b)] (vi (GY (some b.path) q)):=by
 cases jZ:A8 q.path with
 |none=>
  have e:(4:Int)=GY (some b.path) q:=by grind [GY]
  have hl:=hL.none hp jZ;refine Ps Cu Tryz.func181 rfl (Nz rfl) (Xi .pure (Xi _ (Yi (hl) (Yi ?_ ?_))))
  .intro _;exact .of_eq (Aa vi e)
  .intro h;exact absurd (show(4:Int)≠0 by decide) h
 |some m=>
  have er:GY (some b.path) q=if(q.set.isEmpty||!decide (q.set=canon q.set)||!G1 b.path q.path)=true then 1 else 0:=by grind [GY]
  have hl:=hL.some hp jZ;have hc:=V1 q.set hq;have he:=tq q.set (canon q.set) hq;have nP:∀{n:Int},n=(q.set.map Ab).length->n=0->q.set.isEmpty=true:=fun h1 h2=>by
   rw[Lm]at h1;rw[Ll];exact Az aa0
  have jW:¬((q.set.map Ab).length:Int)=0->q.set.isEmpty=false:=fun h=>by
   simp_all
  rcases Bt (decide (q.set=canon q.set))with h2 | h2
  .rw[h2]at he;refine Ps (Dc []) Tryz.func181 rfl (Nz rfl) (Xi .pure (Xi _ (Yi (hl) (Yi ?_ ?_))))
   .intro h;exact absurd rfl h
   intro _;refine Yi ?_ ?_
   .intro h;have e:(1:Int)=GY (some b.path) q:=by grind
    refine Yi aa3 ?_;exact .of_eq (Aa vi e)
   intro h;have hn:=jW h;refine Xi _ (Yi (hc) (Xi _ (Yi (he) (Yi ?_ ?_))))
   .intro h3;refine Yi aa3 ?_;have e:(1:Int)=GY (some b.path) q:=by grind [Ed]
    exact .of_eq (Aa vi e)
   .intro h3;have h3:Op.bytesLess b.path.toList q.path.toList=true:=by grind
    refine Yi aa3 ?_;have e:(0:Int)=GY (some b.path) q:=by grind [Ed]
    exact .of_eq (Aa vi e)
  .rw[h2]at he;refine Ps (Dc []) Tryz.func181 rfl (Nz rfl) (Xi .pure (Xi _ (Yi (hl) (Yi ?_ ?_))))
   .intro h;exact absurd rfl h
   intro _;refine Yi ?_ ?_
   .intro h;have e:(1:Int)=GY (some b.path) q:=by simp_all
    refine Yi aa3 ?_;exact .of_eq (Aa vi e)
   intro h;have hn:=jW h;refine Xi _ (Yi (hc) (Xi _ (Yi (he) (Yi aa3 ?_))));have e:(1:Int)=GY (some b.path) q:=by simp_all
   exact .of_eq (Aa vi e)
abbrev Og(l:List Rq)(k:Nat):List AV:=((l.map Ad)[k]?).getD []
abbrev tc(l:List Rq):Nat->AV
 |0=>.v (.pointer none)
 |k+1=>.cptr (Og l k)
abbrev I5(l:List Rq):Nat->Option ByteArray
 |0=>none
 |k+1=>(l[k]?).map (·.path)
theorem ZV{l:List Rq}(h:k<l.length):Og l k=Ad l[k]:=by
 grind
theorem XH{l:List Rq}(h:k<l.length):I5 l (k+1)=some l[k].path:=by
 simp_all
theorem c65(hL:TS nm)(l:List Rq)(hs:∀q∈l,Lw q):PC 116 [sl Ad l] (vi (Ba l)):=by
 refine Ps (Dc []) Tryz.func116 rfl (Nz rfl) (Yi ?_ ?_)
 .intro h;exact .of_eq (Aa vi (show(7:Int)=Ba l by grind [Ba]))
 intro h;have hl:l.length<=16:=by grind
 have M8:Ba l=Ej none l:=by grind [Ba]
 refine Xi {i:Nat // i<=l.length/\Ej none l=Ej (I5 l i) (l.drop i)} (Xi (fun i=>⟨[(0,sl Ad l),(3,tc l i.1),(10,sl Ad l),(11,vi (l.map Ad).length),(12,vi i.1)],[],Af⟩) (Xi (fun i=>l.length-i.1) (Yi (Xi ⟨0,Ao _,rfl⟩ ?_) ?_)))
 .exact⟨Z5,Tv,Fh,Tv⟩
 intro⟨i,h1,h2⟩;refine Yi ?_ ?_
 .intro h;have h:i<l.length:=by simp_all
  have hg:l[i]?=some l[i]:=Ge h;have hd:l.drop i=l[i]::l.drop (i+1):=Bd h;have hq:=hs l[i] (Ah h);have hc:PC 181 [.agg (Ad l[i]),tc l i] (vi (GY (I5 l i) l[i])):=by
   cases i with
   |zero=>exact tg hL _ hq.1 hq.2
   |succ k=>
    rw[XH (by omega:k<l.length)];show PC 181 [_,.cptr (Og l k)] _;rw[ZV (by omega:k<l.length)];exact th hL _ _ hq.1 hq.2
  have Ja:Ej none l=if GY (I5 l i) l[i]=0 then Ej (some l[i].path) (l.drop (i+1))else GY (I5 l i) l[i]:=by rw[h2,hd];rfl
  match i,h1,h2,h,hg,hd,hc,Ja with
  |0,h1,h2,h,hg,hd,hc,Ja=>
   refine Xi (Ad l[0]) (Yi (Yi aa0 (by grind)) (Yi rfl (Yi (Nz rfl) (Yi (Nz rfl) (yN (Xi .pure (Xi _ (Yi (hc) (Yi ?_ ?_)))))))))
   .intro h4;exact .of_eq (Aa vi (show GY (I5 l (0)) l[0]=Ba l by omega))
   .intro h4;refine Xi (Ad l[0]) (Yi (Yi aa0 (by grind)) (Yi rfl (Yi (by grind [Al]) (Xi ⟨0+1,by omega,by grind⟩ ?_))));have e1:AV.cptr (Ad l[0])=.cptr (Og l (0)):=by grind
    exact⟨by show l.length-(0+1)<l.length-(0);omega,⟨Zr,⟨e1,rfl⟩,Zr,Zr,Zr,Tv⟩,Tv,Fh,Tv⟩
  |k+1,h1,h2,h,hg,hd,hc,Ja=>
   refine Xi (Ad l[k+1]) (Yi (Yi aa0 (by simp[hg])) (Yi rfl ?_));refine Yi (Nz rfl) (Yi (Nz rfl) (yN (Xi .pure (Xi _ (Yi (hc) (Yi ?_ ?_))))))
   .intro h4;exact .of_eq (Aa vi (show GY (I5 l (k+1)) l[k+1]=Ba l by omega))
   .intro h4;refine Xi (Ad l[k+1]) (Yi (Yi aa0 (by simp[hg])) (Yi rfl ?_));refine Yi (by show Al (((k+1:Nat):Int)+1);unfold Al;omega) ?_;refine Xi ⟨k+1+1,by omega,by grind⟩ ?_;have e1:AV.cptr (Ad l[k+1])=.cptr (Og l (k+1)):=by grind
    exact⟨by show l.length-(k+1+1)<l.length-(k+1);omega,⟨Zr,⟨e1,rfl⟩,Zr,Zr,Zr,Tv⟩,Tv,Fh,Tv⟩
 .intro h;have h:¬i<l.length:=by simp_all
  have e:(0:Int)=Ba l:=by rw[M8,h2,Hj aa0];rfl
  exact .of_eq (Aa vi e)
abbrev mY(r:Rl):Nat->ByteArray
 |0=>r.arch
 |1=>r.ifc
 |_=>r.cert
theorem qB{r:Rl}(h:∀j,j<3->DU (mY r j)=true):(DU r.arch&&DU r.ifc&&DU r.cert)=true:=by
 have h0:DU r.arch=true:=h 0 aa2;have h1:DU r.ifc=true:=h 1 aa2;have h2:DU r.cert=true:=h 2 aa2;simp_all
theorem xp(hL:TS nm)(r:Rl)(hr:F3 r):PC 178 [.agg (Ak r)] (vi (Cz r)):=by
 cases jZ:A8 r.path with
 |none=>
  have e:(4:Int)=Cz r:=by grind [Cz]
  have hl:=hL.none hr.1 jZ;refine Ps Cu Tryz.func178 rfl (Nz rfl) (Xi .pure (Xi _ (Yi (hl) (Yi ?_ ?_))))
  .intro _;exact .of_eq (Aa vi e)
  .intro h;exact absurd (show(4:Int)≠0 by decide) h
 |some m=>
  have er:Cz r=if(!Bo r.ver||!decide (r.ver.a=m))=true then 2 else if Ba r.reqs≠0 then Ba r.reqs else if(DU r.arch&&DU r.ifc&&DU r.cert)=true then 0 else 1:=by grind [Cz]
  have hl:=hL.some hr.1 jZ;have hv:=dL r.ver;have hc:=c65 hL r.reqs hr.2;rcases Bt (Bo r.ver)with h2 | h2
  .rw[h2]at hv;refine Ps (Dc []) Tryz.func178 rfl (Nz rfl) (Xi .pure (Xi _ (Yi (hl) (Yi ?_ ?_))))
   .intro h;exact absurd rfl h
   intro _;refine yN (Xi .pure (Xi _ (Yi (hv) (Yi ?_ ?_))))
   .intro h;have e:(2:Int)=Cz r:=by simp_all
    exact .of_eq (Aa vi e)
   intro h;have h3:r.ver.a=m:=Gr h;have yX:Cz r=if Ba r.reqs≠0 then Ba r.reqs else if(DU r.arch&&DU r.ifc&&DU r.cert)=true then 0 else 1:=by simp_all
   refine Xi .pure (Xi _ (Yi (hc) (Yi ?_ ?_)))
   .intro h4;exact .of_eq (Aa vi (show Ba r.reqs=Cz r by omega))
   intro h4;have er3:Cz r=if(DU r.arch&&DU r.ifc&&DU r.cert)=true then 0 else 1:=by omega
   refine Xi {i:Nat // i<=3/\∀j,j<i->DU (mY r j)=true} (Xi (fun i=>⟨[(41,.slice (.id 41 1) [[vs r.arch],[vs r.ifc],[vs r.cert]]),(42,vi 3),(43,vi i.1)],[(41,.tok 1 3)],Af⟩) (Xi (fun i=>3-i.1) (Yi (Xi ⟨0,by omega,fun j h=>by omega⟩ ?_) ?_)))
   .exact⟨Z3,Z1,Fh,Tv⟩
   intro⟨i,i1,i2⟩;refine Yi ?_ ?_
   .intro h;have h:(i:Int)<3:=h;have next:DU (mY r i)=true->∀j,j<i+1->DU (mY r j)=true:=fun hz j hj=>by
     grind
    match i,i1,i2,h,next with
    |0,i1,i2,h,next=>
     refine Xi [vs r.arch] (Yi (Yi aa0 rfl) (Yi rfl (Yi ?_ ?_)))
     .intro h5;refine Yi ?_ ?_
      .intro h6;have e:(1:Int)=Cz r:=by grind [DU]
       exact .of_eq (Aa vi e)
      .intro h6;refine Yi (by grind [Al]) (Xi ⟨1,by omega,next (show DU r.arch=true by grind [DU])⟩ ?_)
       exact⟨by simp_all,Z3,Z1,Fh,Tv⟩
     .intro h5;refine Yi (by grind [Al]) (Xi ⟨1,by omega,next (show DU r.arch=true by grind [DU])⟩ ?_)
      exact⟨by simp_all,Z3,Z1,Fh,Tv⟩
    |1,i1,i2,h,next=>
     refine Xi [vs r.ifc] (Yi (Yi aa0 rfl) (Yi rfl (Yi ?_ ?_)))
     .intro h5;have h5:((r.ifc.size:Nat):Int)≠0:=h5;refine Yi ?_ ?_
      .intro h6;have h6:((r.ifc.size:Nat):Int)≠32:=h6;have e:(1:Int)=Cz r:=by grind [DU]
       exact .of_eq (Aa vi e)
      .intro h6;have h6:¬((r.ifc.size:Nat):Int)≠32:=h6;refine Yi (by grind [Al]) (Xi ⟨2,by omega,next (show DU r.ifc=true by grind [DU])⟩ ?_)
       exact⟨by simp_all,Z3,Z1,Fh,Tv⟩
     .intro h5;have h5:¬((r.ifc.size:Nat):Int)≠0:=h5;refine Yi (by grind [Al]) (Xi ⟨2,by omega,next (show DU r.ifc=true by grind [DU])⟩ ?_)
      exact⟨by simp_all,Z3,Z1,Fh,Tv⟩
    |2,i1,i2,h,next=>
     refine Xi [vs r.cert] (Yi (Yi aa0 rfl) (Yi rfl (Yi ?_ ?_)))
     .intro h5;have h5:((r.cert.size:Nat):Int)≠0:=h5;refine Yi ?_ ?_
      .intro h6;have h6:((r.cert.size:Nat):Int)≠32:=h6;have e:(1:Int)=Cz r:=by grind [DU]
       exact .of_eq (Aa vi e)
      .intro h6;have h6:¬((r.cert.size:Nat):Int)≠32:=h6;refine Yi (by grind [Al]) (Xi ⟨3,by omega,next (show DU r.cert=true by grind [DU])⟩ ?_)
       exact⟨by simp_all,Z3,Z1,Fh,Tv⟩
     .intro h5;have h5:¬((r.cert.size:Nat):Int)≠0:=h5;refine Yi (by grind [Al]) (Xi ⟨3,by omega,next (show DU r.cert=true by grind [DU])⟩ ?_)
      exact⟨by simp_all,Z3,Z1,Fh,Tv⟩
    |i+3,i1,i2,h,next=>omega
   .intro h;have h:¬(i:Int)<3:=h;have e:(0:Int)=Cz r:=by grind [qB]
    exact .of_eq (Aa vi e)
  .rw[h2]at hv;have e:(2:Int)=Cz r:=by simp_all
   refine Ps (Dc []) Tryz.func178 rfl (Nz rfl) (Xi .pure (Xi _ (Yi (hl) (Yi ?_ ?_))))
   .intro h;exact absurd rfl h
   intro _;refine yN (Xi .pure (Xi _ (Yi (hv) ?_)));exact .of_eq (Aa vi e)
theorem cU{cx:Cx}{st:St}{K:LS -> Prop}(t:List (Nat×AV))(h:List (Nat×HO))(h1:wZ st (LS.st ⟨t,h,Af⟩).h t)(h2:wY st (LS.st ⟨t,h,Af⟩).h h)(k:K ⟨t,h,Af⟩)
    (h3:match cx.ext with | false => True | true => ∀j,1000 <= j -> j<2000 -> st.h j ≠ .free -> (LS.st ⟨t,h,Af⟩).h j ≠ .free := by first | exact trivial | exact Cr aa3):∃s,St.le cx st s /\ K s := ⟨_,⟨h1,h2,fun _ => .inl rfl,h3⟩,k⟩
end Go.Eng
