/- Lemmas 20. -/
import Derived.Test.YteaiieomnhbmgaaGreatDoorAA19
import Derived.Shelf.Slices.Delete
namespace Go.Eng
open Go.Proofs Go.Shelf Go.RowKit Go.Lib Go.Sort
theorem u7(F:Array Value)(i n:Nat)(hF:F.size=n*3)(hi:i<n)(z:List Value)(hz:z.length=3):(lay (lay F (i*3) (F.toList.drop ((i+1)*3))) ((n-1)*3) z).toList=F.toList.take (i*3)++F.toList.drop ((i+1)*3)++z:=by
 have l1:(F.toList.take (i*3)).length=i*3:=by simp;omega
 have l2:(F.toList.drop ((i+1)*3)).length=(n-(i+1))*3:=by simp;omega
 apply Dx
 intro t
 rw[A4,lay_get? _ _ _ _ (by rw[Lib.lay_size];omega),lay_get? _ _ _ _ (by rw[l2];omega)]
 rw[hz,l2]
 by_cases c1:t<i*3
 .rw[Aj ch,Aj ch,AZ (by rw[Ac];omega),AZ ch,KH,Al c1,A4]
 .by_cases c2:t<(n-1)*3
  .rw[Aj ch,Al ch,AZ (by rw[Ac];omega),A0 ch,l1]
  .rw[A0 (by rw[Ac];omega),Ac,l1,l2]
   by_cases c3:t<n*3
   .rw[Al ch];congr 1;omega
   .rw[Aj ch,Aj ch,Wn ch,A7 ch]
abbrev pJ:List Value:=[.string ⟨#[]⟩,.bool false,.slice none 0 0]
set_option maxHeartbeats 4000000 in
set_option maxRecDepth 1000000 in
theorem lO(w:World)(b cap i n:Nat)(F:Array Value)(hF:F.size=n*3)(hi:i<n)(Mm:n<=cap)(hH:Holds id w b 0 F)(h1:∀x∈F.toList,x.oneCell'=true) :
  Calls Tryz.prog 344 #[.slice (some ⟨b,0,none⟩) n cap,.int .i64 i,.int .i64 ((i:Int)+1)] w fun e w'=>e=.returned (.slice (some ⟨b,0,none⟩) (n-1) cap) /\
   w'=putRow id (Sort.ahead w 1) b 0 (lay (lay F (i*3) (F.toList.drop ((i+1)*3))) ((n-1)*3) pJ):=by
 obtain⟨i0,sJ,uT⟩:∃i0,Tryz.prog.info? 343=some i0/\i0.size=3:=by
  obtain⟨i,z,h1,_,h2,_⟩:=Iq (P:=Tryz.prog) (T:=rP) Da (e:=343) (n:=2) Wk
  exact⟨i,h1,h2.trans Wk⟩
 obtain⟨news,JI⟩:∃news,news=F.toList.drop ((i+1)*3):=⟨_,rfl⟩
 have CQ:news.length=(n-(i+1))*3:=by rw[JI];simp;omega
 have FN:∀t,t<(n-(i+1))*3->news[t]?=some F[(i+1)*3+t]!:=by
  intro t ht
  rw[JI,D0,A4,D2 F ((i+1)*3+t) ch,A6 ch]
 obtain⟨A,hA,je⟩:∃A:Addr,(if cap=i+1 then some (⟨b,0,none⟩:Addr)else some ⟨b,(i+1)*3,none⟩)=some A/\Hid (∀t u,news[t]?=some u->w.drew.cell? (A.add t)=some u):=by
  by_cases h:cap=i+1
  .refine⟨⟨b,0,none⟩,by simp[h],fun t u hu=>?_⟩
   have h0:news.length=0:=by rw[CQ];omega
   rw[FV.1 h0]at hu
   simp at hu
  .refine⟨⟨b,(i+1)*3,none⟩,by simp[h],fun t u hu=>?_⟩
   have ht:t<(n-(i+1))*3:=by
    have:=(Av.1 hu).1
    rwa [CQ]at this
   rw[FN t ht]at hu
   rw[Addr.add_lit]
   have:=(hH ((i+1)*3+t) ch).1
   rw[Bg]at this
   exact this.trans hu
 have s1:Hid (news.length=(n-(i+1))*3):=CQ
 have s2:Hid (∀u∈news,u.oneCell'=true):=by
  intro u hu
  rw[JI]at hu
  exact h1 u (Jc hu)
 have s3:Hid (∀t,t<news.length->(w.drew.cell? ⟨b,0+i*3+t,none⟩).isSome=true/\w.drew.frozen? ⟨b,0+i*3+t,none⟩=false):=by
  intro t ht
  rw[CQ]at ht
  have:=hH (i*3+t) ch
  rw[Hc]
  exact⟨by show(w.cell? _).isSome=true;rw[this.1];rfl,this.2⟩
 obtain⟨W1,hW1⟩:∃W1,W1=w.drew.setCells b (0+i*3) news:=⟨_,rfl⟩
 have ut : W1=putRow id (Sort.ahead w 1) b 0 (lay F (i*3) news):=by
  have:=putRow_setCells id (Sort.ahead w 1) b 0 news F (i*3) ch
  rw[putRow_self id (Sort.ahead w 1) b 0 F (holds_ahead id w 1 b 0 F hH),Gk]at this
  rw[hW1,<-this]
  rfl
 have hH1:Holds id W1 b 0 (lay F (i*3) news):=by rw[ut];exact holds_putRow id _ b 0 F _ (holds_ahead id w 1 b 0 F hH) (Lib.lay_size _ _ _)
 have KL:(storeCells ⟨b,0+(n-1)*3,none⟩ pJ 0).run Tryz.prog W1=.ok () (W1.setCells b (0+(n-1)*3) pJ):=by
  have:=run_storeCells_cells (P:=Tryz.prog) b (0+(n-1)*3) pJ 0 W1 (fun j hj=>by
   have hj:j<3:=hj
   have:=hH1 ((n-1)*3+j) (by rw[Lib.lay_size];omega)
   rw[show 0+(n-1)*3+0+j=0+((n-1)*3+j) by omega,this.1];rfl) (fun j hj=>by
   have hj:j<3:=hj
   have:=hH1 ((n-1)*3+j) (by rw[Lib.lay_size];omega)
   rw[show 0+(n-1)*3+0+j=0+((n-1)*3+j) by omega];exact this.2) (fun v hv=>by
   simp only[AA,MR,or_false]at hv
   rcases hv with rfl | rfl | rfl<;>rfl)
  exact this
 have hcl:∀ty c,(Builtin.clear_ #[283] ty #[.slice (some ⟨b,(n-1)*3,none⟩) 1 c]).run Tryz.prog W1=.ok (.tuple #[]) (W1.setCells b (0+(n-1)*3) pJ):=fun ty c=>by
  have hv:=Tryz.zeroValue343
  rw[Bg]at KL⊢
  have hz:(Builtin.zeroCells (Value.agg #[Value.string { data:=#[] },Value.bool false,Value.slice none 0 0]).cells 1).toList=pJ:=by kernel_rfl
  simp[Builtin.clear_,run_underlying Tryz.underlying283,hv,hz,KL]
 have Ah1:∀ty,(Builtin.clear_ #[283] ty #[.slice (some ⟨b,(i+(n-(i+1)))*3,none⟩) (n-(i+(n-(i+1)))) (cap-(i+(n-(i+1))))]).run Tryz.prog W1=.ok (.tuple #[]) (W1.setCells b (0+(n-1)*3) pJ):=fun ty=>by
  have e1:i+(n-(i+1))=n-1:=by omega
  have e2:n-(n-1)=1:=by omega
  rw[e1,e2];exact hcl ty _
 have X:Aside (W1=putRow id (Sort.ahead w 1) b 0 (lay F (i*3) news)):=ut
 have hW:Hid (W1=w.drew.setCells b (0+i*3) news):=hW1
 have Y:Aside (news=F.toList.drop ((i+1)*3)):=JI
 have Z:Aside (news.length=(n-(i+1))*3):=CQ
 have yx:i<=cap:=by omega
 have hjc:i+1<=cap:=by omega
 have mixed:=Go.Eng.hm
 have hb1:(0:Int)<=(i:Int)+1:=by omega
 have Ri:(i:Int)+1<=(n:Int):=by omega
 clear hW1 ut hH1 hH FN JI CQ KL hcl
 go_enter Tryz.func344,Tryz.ntmps344
 go_wp2_with fail
 go_region_law_o (refine step_append_room rfl (.tmp 22) (.tmp 25) 283 rfl 343 i0 3 Tryz.underlying283 sJ uT b 0 i cap (by simp[Act.eval,Act.put]) A (n-(i+1)) (cap-(i+1)) news (by simp[Act.eval,Act.put]) s1.out je.out s2.out ch s3.out ?_;rw[<-hW.out])
 go_wp2
 go_ret
 refine⟨by rw[show i+(n-(i+1))=n-1 by omega];rfl,?_⟩
 rw[X.out]
 have e1:=Y.out
 have e2:=Z.out
 rw[<-e1]
 have:=putRow_setCells id (Sort.ahead w 1) b 0 pJ (lay F (i*3) news) ((n-1)*3) (by rw[Lib.lay_size];show _+3<=_;omega)
 rw[Gk,Bg]at this
 exact this
abbrev ct:List AV:=[Go.Eng.vs ⟨#[]⟩,vb false,nzA]
theorem AbW(l:List Tm)(i:Nat)(hi:i<l.length) :
  Ba Tryz.prog 344 [.msl 1000 l.length,vi i,vi ((i:Int)+1)] (Ap [(1000,.arr 3 (l.map AN))] Ae) fun r h'=>r=.msl 2000 (l.length-1)/\h'=Ap [(1000,.dead),(2000,.arr 3 ((l.eraseIdx i).map AN))] Ae:=by
 have hE:F6 Tryz.prog 344:=au 344 Tryz.func344 Wk rfl
 have CQ:(l.eraseIdx i).length=l.length-1:=List.length_eraseIdx_of_lt hi
 have Ia:=WW (P:=Tryz.prog) (f:=344) (es:=l.map AN) (sz:=3) (rest:=[.int .i64 i,.int .i64 ((i:Int)+1)]) (n':=l.length-1) (Q:=fun F5=>F5=(l.eraseIdx i).map AN++[ct]) hE (fun e=>by
  rw[DN]at e;subst e;simp at hi) (by rw[A8];omega) ?_
 .rw[A8]at Ia
  refine⟨hE,fun g w vals q1 q2 q3=>(Ia.2 g w vals q1 q2 q3).mono fun _ _ ⟨v,r,h',g',e1,⟨e2,F5,p1,p2⟩,rest⟩=>⟨v,r,h',g',e1,⟨e2,by rw[p2,p1,H2 (by rw[A8,CQ];exact Ak _),At (by rw[A8,CQ];exact Ak _)]⟩,rest⟩⟩
 .intro g w b cap F hr hF hH hb hc
  rw[A8]at hF hc⊢
  have hu:∀e∈l.map AN,e.length=3:=fun e he=>by
   obtain⟨t,_,rfl⟩:=Ai.1 he;rfl
  refine(lO w b cap i l.length F hF hi hc hH hr.2.1).mono ?_
  rintro e w' ⟨rfl,rfl⟩
  refine⟨rfl,_,_,1,#[],?_,rfl,?_,fun cs hcs=>?_,fun g w hr=>?_,rfl⟩
  .rw[Lib.lay_size,Lib.lay_size]
  .rw[Ac,A8,CQ,Bh];omega
  .rcases AO.1 hcs with h | h
   .obtain⟨t,_,rfl⟩:=Ai.1 h;rfl
   .rw[Ar.1 h];rfl
  .rw[u7 F i l.length hF hi pJ rfl,List.eraseIdx_eq_take_drop_succ,Ch,As,Ch,Tl,List.map_drop,<-Mj _ i hu,<-Qk _ (i+1) hu]
   refine CY.append (CY.append (hr.take _) (hr.drop _)) ?_
   exact N8 g w FK pJ fun x hx=>by
    simp only[AA,MR,or_false]at hx
    rcases hx with rfl | rfl | rfl<;>rfl
end Go.Eng
namespace Go.Eng
open Go.Proofs
variable {nm:ByteArray->ByteArray}{l r c:List Tm}{t:Tm}{i k:Nat}(a:List Tm)(s:ByteArray)(b:List Tm)(p:ByteArray)
theorem xD(l:List Tm)(hl:Cb l)(DH:l≠[]):Ba Tryz.prog 345 [sl AN l] (Ap [] Ae) fun r h'=>r=.msl 2000 l.length/\h'=Ap [(2000,.arr 3 (l.map AN))] Ae:=by
 refine Cu (M7 (pla [(5,3)] [])) [(5,2000)] rfl Da hm rfl Tryz.func345 Wk rfl (Nz rfl) Wk rfl ?_;have HC:B5 3 (l.map AN)/\([]:List (List AV)).length=0/\(([]:List (List AV)).length+(l.map AN).length)*48<=140737488355328/\([]:List (List AV)).length+(l.map AN).length<=9223372036854775807:=by
  refine⟨Ea (enc:=AN) (n:=3) (fun _=>rfl) l,rfl,?_,?_⟩<;>simp only[Ao,Lm]<;>unfold Cb at hl<;>omega
 refine Yi ?_ ?_
 .intro _;refine Yi HC ?_;have e1:AV.msl 2000 (([]:List (List AV)).length+(l.map AN).length)=.msl 2000 l.length:=by simp
  refine Xi (.msl 2000 (([]:List (List AV)).length+(l.map AN).length)) (Yi (.refl _) (Yi e1 ?_))
  rfl
 .intro h;exact absurd (DN.1 h) DH
theorem ud(x:Tm)(p:ByteArray):PC 343 [.agg (AN x),.cptr [vs p]] (vb (decide (x.path=p))):=by
 refine Ps El Tryz.func343 rfl (Nz rfl) (Yi ?_ ?_)
 .intro h;rw[Ay h];exact .refl _
 .intro h;rw[AD h];exact .refl _
theorem Oq{p:ByteArray}:∀{c:List Tm} {i:Nat},(E2 c).Nodup->∀(hi:i<c.length),c[i].path=p->c.eraseIdx i=Gg c p
 |t::c,0,hn,_,h=>by
  have h:t.path=p:=h;unfold E2 at hn;rw[AK,Dm]at hn;unfold Gg;rw[Ep,Aj (by simp[h])];show c=_;rw[List.filter_eq_self.2 fun u hu=>by
   have:u.path≠p:=fun e=>hn.1 (h▸e▸Ai.2 ⟨u,hu,rfl⟩)
   simp[this]]
 |t::c,i+1,hn,hi,h=>by
  have hi:i<c.length:=by simpa using hi
  have h:c[i].path=p:=h;unfold E2 at hn;rw[AK,Dm]at hn
  have:t.path≠p:=fun e=>hn.1 (by rw[e,<-h];exact Ai.2 ⟨_,Aq hi,rfl⟩)
  have ih:=Oq hn.2 hi h;unfold Gg at ih⊢;rw[List.eraseIdx_cons_succ,Ep,Al (by simp[this]),ih]
theorem RA(hl:Cb l)(h:Dh l=some c):Cb c:=by
 have h1:=Pg l l.length (Ak _);rw[B7]at h1;have h2:c=(Fy l).filter fun t=>!Hd t:=by
  unfold Dh at h;split at h
  .cases h
  .exact(CO h).symm
 have h3:c.length<=(Fy l).length:=by rw[h2];exact Bw _ _
 have h4:(Fy l).length=(DQ l).length:=by
  have:=(PB (ID (IA l)) (ID (IJ (EQ l)))).2 (J7 l)
  exact this.length_eq.symm
 unfold Cb at hl⊢;omega
abbrev ra:AV:=.tup [.agg ct,nzA,vb false]
abbrev s9:Tn:=⟨[3],[],[],[],[],[],[],[],[(30,0),(34,1)],[],[]⟩
theorem lx(l:List Tm)(p:ByteArray)(hl:Cb l)(hs:∀t∈l,Cb t.set)(hn:FS l p=none):PC 311 [sl AN l,vs p] ra:=by
 have hc:=c29 l hl hs;unfold FS at hn;cases e:Dh l with
 |none=>
  have e1:Hq l=.tup [sl AN [],vb false]:=by unfold Hq RQ;rw[e];rfl
  rw[e1]at hc;have hi:=qb (De.ptr [vs p]) [] (fun x=>decide (x.path=p)) (fun x _=>ud x p) B0;refine Ps s9 Tryz.func311 rfl (Nz rfl) (Xi .pure (Xi _ (Yi (hc) (Xi .pure (Xi _ (Yi (hi) (Yi (Nz rfl) (yN ?_))))))));exact .refl _
 |some c=>
  rw[e]at hn;have hn:(match DG c p with | none=>none | some t=>some (t,Gg c p))=none:=hn;have yu:DG c p=none:=by
   cases h:DG c p with
   |none=>rfl
   |some t=>rw[h]at hn;cases hn
  have e1:Hq l=.tup [sl AN c,vb true]:=by unfold Hq RQ;rw[e];rfl
  rw[e1]at hc;have yr:=RA hl e;have hi:=qb (De.ptr [vs p]) c (fun x=>decide (x.path=p)) (fun x _=>ud x p) (by unfold Cb at yr;omega);have hid:JK (fun x:Tm=>decide (x.path=p)) c 0=-1:=by
   rcases Qu (p:=fun x:Tm=>decide (x.path=p)) c 0 with ⟨h1,_⟩ | ⟨i,x,_,_,h3⟩
   .exact h1
   .unfold DG at yu;rw[h3]at yu;cases yu
  rw[hid]at hi;refine Ps s9 Tryz.func311 rfl (Nz rfl) (Xi .pure (Xi _ (Yi (hc) (Xi .pure (Xi _ (Yi (hi) (Yi ?_ ?_)))))))
  .intro _;refine Yi (Nz rfl) (yN ?_);exact .refl _
  .intro h;exact absurd (show(-1:Int)<0 by decide) h
abbrev vv:Tn:=⟨[3],[],[],[],[],[],[],[],[(30,0),(34,2)],[],[]⟩
theorem ly(l:List Tm)(p:ByteArray)(hl:Cb l)(hs:∀t∈l,Cb t.set)(hn:FS l p=some (t,r)) :
  Ba Tryz.prog 311 [sl AN l,vs p] (Ap [] Ae) fun v h'=>v=.tup [.agg (AN t),.msl 2000 r.length,vb true]/\h'=Ap [(2000,.arr 3 (r.map AN))] Ae:=by
 have hc:=c29 l hl hs;unfold FS at hn;cases e:Dh l with
 |none=>rw[e]at hn;cases hn
 |some c=>
  rw[e]at hn;have hn:(match DG c p with | none=>none | some t=>some (t,Gg c p))=some (t,r):=hn;have TK:DG c p=some t/\Gg c p=r:=by
   cases h:DG c p with
   |none=>rw[h]at hn;cases hn
   |some t=>rw[h]at hn;cases hn;exact Zr
  have e1:Hq l=.tup [sl AN c,vb true]:=by unfold Hq RQ;rw[e];rfl
  rw[e1]at hc;have yr:=RA hl e;have hi:=qb (De.ptr [vs p]) c (fun x=>decide (x.path=p)) (fun x _=>ud x p) (by unfold Cb at yr;omega);rcases Qu (p:=fun x:Tm=>decide (x.path=p)) c 0 with ⟨_,h2⟩ | ⟨i,x,h1,h2,h3⟩
  .unfold DG at TK;rw[h2]at TK;cases TK.1
  have hx:x=t:=by
   have:=TK.1
   unfold DG at this;rw[h3]at this;exact CO this
  subst hx;rw[h1,EI]at hi;obtain⟨yx,hie⟩:=Av.1 h2;have her:c.eraseIdx i=r:=by
   rw[<-TK.2];exact Oq (IJ (Fr e)) yx (by rw[hie];exact HR TK.1)
  have hlr:c.length-1=r.length:=by rw[<-her,List.length_eraseIdx_of_lt yx]
  have DH:c≠[]:=fun h=>by subst h;simp at yx
  have Ah5:c.length<=1073741824:=yr;refine Cu (M7 vv) [(13400,2000)] rfl Da hm rfl Tryz.func311 Wk rfl (Nz rfl) Wk rfl (Xi .pure (Xi _ (Yi (hc) (Xi .pure (Xi _ (Yi (hi) (Yi ?_ ?_)))))))
  .intro h;omega
  intro _;have hg:(c.map AN)[((i:Nat):Int).toNat]?=some (AN x):=by rw[BL,AG,h2];rfl
  refine Xi (AN x) (Yi (Yi (Nn i) hg) (Yi rfl (yN (Xi c.length (Xi 3 (Xi (c.map AN) (Yi rfl (Yi (xD c yr DH) (Yi (Ii i ch) (Xi (c.length-1) (Xi ((c.eraseIdx i).map AN) (Yi rfl (Yi (AbW c i yx) (yN (Yi Wk (yN ?_))))))))))))))));have e2:AV.tup [.agg (AN x),.msl 2000 (c.length-1),vb true]=.tup [.agg (AN x),.msl 2000 r.length,vb true]:=by rw[hlr]
  have e3:Ap [(2000,HO.arr 3 ((c.eraseIdx i).map AN))] Ae=Ap [(2000,.arr 3 (r.map AN))] Ae:=by rw[her]
  exact Xi _ (Yi (.refl _) (Yi e2 e3))
abbrev gD:Tn:=⟨[],[],[],[],[],[],[],[],[],[(24,9),(30,12)],[2,3,5,6]⟩
abbrev vF:AV:=.tup [sl AN (BZ a b p).1,vi (BZ a b p).2]
theorem X4{p:ByteArray}(h:FS l p=some (t,r)):∃c,Dh l=some c/\t∈c/\r=Gg c p:=by
 unfold FS at h;cases e:Dh l with
 |none=>rw[e]at h;cases h
 |some c=>
  rw[e]at h;have h:(match DG c p with | none=>none | some t=>some (t,Gg c p))=some (t,r):=h;cases e2:DG c p with
  |none=>rw[e2]at h;cases h
  |some u=>rw[e2]at h;cases h;exact⟨c,rfl,FH e2,rfl⟩
theorem X5{p:ByteArray}(hl:Cb l)(h:FS l p=some (t,r)):Cb t.set/\Cb r/\∀u∈r,Cb u.set:=by
 obtain⟨c,h1,h2,rfl⟩:=X4 h;have hs:=Fr h1;refine⟨Qe (hs.canon t h2),?_,fun u hu=>Qe (hs.canon u (Bz.1 hu).1)⟩
 have:=RA hl h1
 have h3:(Gg c p).length<=c.length:=Bw _ _;unfold Cb at *;omega
theorem lC(h:Dh l=some c):c.length<=l.length:=by
 have h1:=Pg l l.length (Ak _);rw[B7]at h1;have h2:c=(Fy l).filter fun t=>!Hd t:=by
  unfold Dh at h;split at h
  .cases h
  .exact(CO h).symm
 have h3:c.length<=(Fy l).length:=by rw[h2];exact Bw _ _
 have h4:(Fy l).length=(DQ l).length:=by
  have:=(PB (ID (IA l)) (ID (IJ (EQ l)))).2 (J7 l)
  exact this.length_eq.symm
 omega
theorem X6{p:ByteArray}(h:FS l p=some (t,r)):r.length<=l.length:=by
 obtain⟨c,h1,h2,rfl⟩:=X4 h;have h3:(Gg c p).length<=c.length:=Bw _ _
 have:=lC h1
 omega
theorem iP(a b:By):Cb (Rd a b):=by
 unfold Cb;have:=IV (cd a b);omega
theorem AbO(ha:a.length<=500000000)(hb:b.length<=500000000)(hsa:∀t∈a,Cb t.set)(qF:∀t∈b,Cb t.set):PC 262 [sl AN a,sl AN b,vs p] (vF a b p):=by
 have yq:Cb a:=by unfold Cb;omega
 have uy:Cb b:=by unfold Cb;omega
 have er:∀{l:List Tm} {e:Int},BZ a b p=(l,e)->vF a b p=.tup [sl AN l,vi e]:=fun h=>by unfold vF;rw[h]
 have e0:CV (.tup [nzA,vi 1]) (.tup [.slice .none [],vi 1]):=CV.tup ⟨.nil,.refl _,trivial⟩;cases h1:FS a p with
 |none=>
  have hr:BZ a b p=([],1):=by unfold BZ;rw[h1]
  have c1:=lx a p yq hsa h1;cases h2:FS b p with
  |none=>
   have c2:=lx b p uy qF h2;refine Ps gD Tryz.func262 rfl (Nz rfl) (Xi .pure (Xi _ (Yi (c1) (yN (Xi ⟨[(1,sl AN b),(2,vs p),(8,.ref 8 0),(9,nzA),(10,vb false)],[(8,.cells ct)],Ae⟩ (Yi ⟨Z5,Z1,Fh,Tv⟩ (Xi .pure (Xi _ (Yi (c2) (yN (Xi ⟨[(8,.ref 8 0),(9,nzA),(10,vb false),(11,.ref 11 0),(12,nzA),(13,vb false)],[(8,.cells ct),(11,.cells ct)],Ae⟩ (Yi ⟨Z6,Z2,Fh,Tv⟩ ?_))))))))))))
   exact e0.trans (.of_eq (er hr).symm)
  |some q2=>
   obtain⟨t2,r2⟩:=q2;have c2:=ly b p uy qF h2;refine Ps gD Tryz.func262 rfl (Nz rfl) (Xi .pure (Xi _ (Yi (c1) (yN (Xi ⟨[(1,sl AN b),(2,vs p),(8,.ref 8 0),(9,nzA),(10,vb false)],[(8,.cells ct)],Ae⟩ (Yi ⟨Z5,Z1,Fh,Tv⟩ ?_))))))
   have z2:r2.length=(r2.map AN).length:=by rw[Lm]
   refine Xi (.gen [] 1) (Yi rfl (c2.imp ?_));intro v2 g2 q2;have q21:=q2.1;have q22:=q2.2;subst q21;subst q22;refine yN (Xi ⟨[(8,.ref 8 0),(9,nzA),(10,vb false),(11,.ref 11 0),(12,.msl 12600 r2.length),(13,vb true)],[(8,.cells ct),(11,.cells (AN t2)),(12600,.arr 3 (r2.map AN))],Ae⟩ (Yi ⟨Z6,Z3,Fh,Tv⟩ (Yi z2 ?_)));exact e0.trans (.of_eq (er hr).symm)
 |some q1=>
  obtain⟨t1,r1⟩:=q1;have c1:=ly a p yq hsa h1;obtain⟨f1,f2,f3⟩:=X5 yq h1;cases h2:FS b p with
  |none=>
   have hr:BZ a b p=([],1):=by unfold BZ;rw[h1,h2]
   have c2:=lx b p uy qF h2;refine Ps gD Tryz.func262 rfl (Nz rfl) (Xi (.gen [] 1) (Yi rfl (c1.imp ?_)));intro v1 g1 q1;have q11:=q1.1;have rx:=q1.2;subst q11;subst rx;refine yN (Xi ⟨[(1,sl AN b),(2,vs p),(8,.ref 8 0),(9,.msl 11900 r1.length),(10,vb true)],[(8,.cells (AN t1)),(11900,.arr 3 (r1.map AN))],Ae⟩ (Yi ⟨Z5,Z2,Fh,Tv⟩ ?_))
   have z1:r1.length=(r1.map AN).length:=by rw[Lm]
   refine Yi z1 (Xi .pure (Xi _ (Yi (c2) (yN (Xi ⟨[(8,.ref 8 0),(9,.slice (.id 11900 3) (r1.map AN)),(10,vb true),(11,.ref 11 0),(12,nzA),(13,vb false)],[(8,.cells (AN t1)),(11,.cells ct),(11900,.tok 3 (r1.map AN).length)],Ae⟩ (Yi ⟨Z6,Z3,Fh,Tv⟩ ?_))))))
   exact e0.trans (.of_eq (er hr).symm)
  |some q2=>
   obtain⟨t2,r2⟩:=q2;have c2:=ly b p uy qF h2;obtain⟨g1,g2,g3⟩:=X5 uy h2;refine Ps gD Tryz.func262 rfl (Nz rfl) (Xi (.gen [] 1) (Yi rfl (c1.imp ?_)));intro v1 g1 q1;have q11:=q1.1;have rx:=q1.2;subst q11;subst rx;refine yN (Xi ⟨[(1,sl AN b),(2,vs p),(8,.ref 8 0),(9,.msl 11900 r1.length),(10,vb true)],[(8,.cells (AN t1)),(11900,.arr 3 (r1.map AN))],Ae⟩ (Yi ⟨Z5,Z2,Fh,Tv⟩ ?_))
   have z1:r1.length=(r1.map AN).length:=by rw[Lm]
   have z2:r2.length=(r2.map AN).length:=by rw[Lm]
   refine Yi z1 (Xi (.gen [] 1) (Yi rfl (c2.imp ?_)));intro v2 g2 q2;have q21:=q2.1;have q22:=q2.2;subst q21;subst q22;refine yN (Xi ⟨[(8,.ref 8 0),(9,.slice (.id 11900 3) (r1.map AN)),(10,vb true),(11,.ref 11 0),(12,.msl 12600 r2.length),(13,vb true)],[(8,.cells (AN t1)),(11,.cells (AN t2)),(11900,.tok 3 (r1.map AN).length),(12600,.arr 3 (r2.map AN))],Ae⟩ (Yi ⟨Z6,Z4,Fh,Tv⟩ (Yi z2 (Xi ⟨[(8,.ref 8 0),(9,.slice (.id 11900 3) (r1.map AN)),(11,.ref 11 0),(12,.slice (.id 12600 3) (r2.map AN))],[(8,.cells (AN t1)),(11,.cells (AN t2)),(11900,.tok 3 (r1.map AN).length),(12600,.tok 3 (r2.map AN).length)],Ae⟩ (Yi ⟨Z4,Z4,Fh,Tv⟩ ?_)))))
   have l1:=X6 h1;have l2:=X6 h2;have b1:B5 3 (r2.map AN)/\(r1.map AN).length=(r1.map AN).length/\((r1.map AN).length+(r2.map AN).length)*48<=140737488355328/\(r1.map AN).length+(r2.map AN).length<=9223372036854775807:=
    ⟨Ea (enc:=AN) (n:=3) (fun _=>rfl) r2,rfl,by rw[Lm,Lm];omega,by rw[Lm,Lm];omega⟩
   refine Yi b1 (Yi (Nz rfl) (yN (Xi _ (Yi (AbS t1 t2 f1 g1) ?_))));have b2:B5 3 [AN (DD t1 t2)]/\(r1.map AN++r2.map AN).length=(r1.map AN).length+(r2.map AN).length/\((r1.map AN++r2.map AN).length+[AN (DD t1 t2)].length)*48<=140737488355328/\(r1.map AN++r2.map AN).length+[AN (DD t1 t2)].length<=9223372036854775807:=
    ⟨⟨rfl,trivial⟩,by rw[Ac],by rw[Ac,Lm,Lm,Bh];omega,by rw[Ac,Lm,Lm,Bh];omega⟩
   refine Yi b2 ?_;have yg:=c29 (r1++r2++[DD t1 t2]) (by unfold Cb;simp only[Ac,Bh];omega) (fun u hu=>by
    rcases AO.1 hu with hu | hu
    .rcases AO.1 hu with hu | hu
     .exact f3 u hu
     .exact g3 u hu
    .rw[Ar.1 hu];exact iP _ _)
   have e1:sl AN (r1++r2++[DD t1 t2])=.slice .none (r1.map AN++r2.map AN++[AN (DD t1 t2)]):=by simp
   have hc1:PC 312 [.slice .none (r1.map AN++r2.map AN++[AN (DD t1 t2)])] (Hq (r1++r2++[DD t1 t2])):=e1▸yg;cases wT:Dh (r1++r2++[DD t1 t2])with
   |none=>
    have hr:BZ a b p=([],8):=by unfold BZ;rw[h1,h2];dsimp only;rw[wT]
    have ec:Hq (r1++r2++[DD t1 t2])=.tup [sl AN [],vb false]:=by unfold Hq RQ;rw[wT];rfl
    have hc:PC 312 [.slice .none (r1.map AN++r2.map AN++[AN (DD t1 t2)])] (.tup [sl AN [],vb false]):=ec▸hc1;have e8:CV (.tup [nzA,vi 8]) (.tup [.slice .none [],vi 8]):=CV.tup ⟨.nil,.refl _,trivial⟩;refine Xi _ (Yi (hc) (Yi Wk (Xi ⟨[(14,sl AN []),(15,vb false)],[],Ae⟩ (Yi ⟨Z2,Tv,Fh,Tv⟩ ?_))))
    exact e8.trans (.of_eq (er hr).symm)
   |some o=>
    have hr:BZ a b p=(o,0):=by unfold BZ;rw[h1,h2];dsimp only;rw[wT]
    have ec:Hq (r1++r2++[DD t1 t2])=.tup [sl AN o,vb true]:=by unfold Hq RQ;rw[wT];rfl
    have hc:PC 312 [.slice .none (r1.map AN++r2.map AN++[AN (DD t1 t2)])] (.tup [sl AN o,vb true]):=ec▸hc1;refine Xi _ (Yi (hc) (Yi Wk (Xi ⟨[(14,sl AN o),(15,vb true)],[],Ae⟩ (Yi ⟨Z2,Tv,Fh,Tv⟩ ?_))))
    exact .of_eq (er hr).symm
def fC(h s:Nat->HO):Nat->Bool
 |0=>true
 |n+1=>(match h (1000+n)with |.free=>true |_=>(match s (1000+n)with |.free=>false |_=>true))&&fC h s n
theorem UF{h s:Nat->HO}:∀{n:Nat},fC h s n=true->∀j,j<n->h (1000+j)≠.free->s (1000+j)≠.free
 |n+1,hd,j,hj,hn=>by
  simp only[fC,Af]at hd;rcases D1 j n with h1 | h1
  .exact UF hd.2 j h1 hn
  .have:j=n:=by omega
   subst this
   have:=hd.1
   intro e;split at this
   .rename_i q;exact hn q
   .rw[e]at this;cases this
theorem BT{h s:Nat->HO}(hd:fC h s 1000=true):∀j,1000<=j->j<2000->h j≠.free->s j≠.free:=fun j h1 h2=>by
 have:=UF hd (j-1000) ch
 rw[show 1000+(j-1000)=j by omega]at this;exact this
abbrev tn:List AV:=[vs ⟨#[]⟩,vi 0,vi 0,vi 0,nzA,vs ⟨#[]⟩,vs ⟨#[]⟩,vs ⟨#[]⟩,vb false]
abbrev gy:Option Rl->AV
 |some r=>.tup [.agg (AF r),vb true]
 |none=>.tup [.agg tn,vb false]
theorem lY{α:Type}{p:α->Bool}{l:List α}(hi:i<l.length)(hb:∀j (hj:j<l.length),j<i->p l[j]=false)(h:p l[i]=true):l.find? p=some l[i]:=by
 rw[List.find?_eq_some_iff_getElem];exact⟨h,i,hi,rfl,fun j hj=>by rw[hb j ch hj];rfl⟩
theorem ru(v:Ver):0<=plc v/\plc v<1000000:=by
 unfold plc;cases h:Cw v with
 |true=>exact Ku h
 |false=>simp
abbrev tu(t:List Tm):Prop:=t.length<=500000000/\∀u∈t,Cb u.set
theorem t6:PC 198 [vs s] (vb false):=by
 refine Ps El Tryz.func198 rfl (Nz rfl) (Yi ?_ ?_)
 .intro h;exact absurd rfl (show s≠s from h)
 .intro _;exact .refl _
theorem xB(z:Int):PC 265 [vi z] (vb false):=by
 refine Ps El Tryz.func265 rfl (Nz rfl) (Yi ?_ ?_)
 .intro h;exact absurd rfl (show z≠z from h)
 .intro _;exact .refl _
theorem AbE(a b:ByteArray):PC 145 [vs a,vs b] (vi (Ld a b)):=by
 refine Ps El Tryz.func145 rfl (Nz rfl) (Xi .pure (Xi _ (Yi (t6 a) (Xi .pure (Xi _ (Yi (t6 b) (Yi ?_ ?_)))))))
 .intro h;exact .of_eq (Aa vi (show(-1:Int)=Ld a b by unfold Ld;rw[Al (by rw[Gr];exact h)]))
 .intro h;refine Yi ?_ ?_
  .intro h2;exact .of_eq (Aa vi (show(1:Int)=Ld a b by unfold Ld;rw[Aj (by rw[Gr];exact h),Al (by rw[Gr];exact h2)]))
  .intro h2;exact .of_eq (Aa vi (show(0:Int)=Ld a b by unfold Ld;rw[Aj (by rw[Gr];exact h),Aj (by rw[Gr];exact h2)]))
theorem t7(a b:Int):PC 199 [vi a,vi b] (vi (He a b)):=by
 refine Ps El Tryz.func199 rfl (Nz rfl) (Xi .pure (Xi _ (Yi (xB a) (Xi .pure (Xi _ (Yi (xB b) (Yi ?_ ?_)))))))
 .intro h;exact .of_eq (Aa vi (show(-1:Int)=He a b by unfold He;rw[Al h]))
 .intro h;refine Yi ?_ ?_
  .intro h2;exact .of_eq (Aa vi (show(1:Int)=He a b by unfold He;rw[Aj h,Al h2]))
  .intro h2;exact .of_eq (Aa vi (show(0:Int)=He a b by unfold He;rw[Aj h,Aj h2]))
theorem AbD(a b:Int):PC 144 [.slice .none [[vi a],[vi b]]] (vi (if a≠0 then a else b)):=by
 refine Ps El Tryz.func144 rfl (Nz rfl) (Xi {i:Nat // i<=2/\(0<i->a=0)/\(1<i->b=0)} (Xi (fun i=>⟨[(3,vi 0),(6,.slice .none [[vi a],[vi b]]),(7,vi 2),(8,vi i.1)],[],Ae⟩) (Xi (fun i=>2-i.1) (Yi (Xi ⟨0,by omega,by omega,by omega⟩ ?_) ?_))))
 .exact⟨Z4,Tv,Fh,Tv⟩
 intro⟨i,h1,h2,h3⟩;refine Yi ?_ ?_
 .intro h;have h:(i:Int)<2:=h
  match i,h1,h2,h3,h with
  |0,h1,h2,h3,h=>
   refine Xi [vi a] (Yi (Yi (Bu _) rfl) (Yi rfl (Yi ?_ ?_)))
   .intro h4;exact .of_eq (Aa vi (Al h4).symm)
   .intro h4;refine Yi (Ii 0 ch) (Xi ⟨1,by omega,fun _=>by omega,fun q=>absurd q Cl⟩ ?_);exact⟨by show 2-1<2-0;decide,Z4,Tv,Fh,Tv⟩
  |1,h1,h2,h3,h=>
   have ha:=h2 Cl;refine Xi [vi b] (Yi (Yi (by show(0:Int)<=1;decide) rfl) (Yi rfl (Yi ?_ ?_)))
   .intro h4;exact .of_eq (Aa vi (Aj ch).symm)
   .intro h4;refine Yi (Ii 1 ch) (Xi ⟨2,by omega,fun _=>ha,fun q=>by omega⟩ ?_);exact⟨by show 2-2<2-1;decide,Z4,Tv,Fh,Tv⟩
  |i+2,h1,h2,h3,h=>omega
 .intro h;have h:¬(i:Int)<2:=h;have ha:=h2 ch;have hb:=h3 ch;exact .of_eq (Aa vi (show(0:Int)=if a≠0 then a else b by rw[Aj ch,hb]))
theorem Uy(a b:Ver)(i:Nat)(hi:i<3)(h:∀j,j<i->He (part a j) (part b j)=0)(hn:He (part a i) (part b i)≠0):PU a b=He (part a i) (part b i):=by
 unfold PU
 match i,hi,h,hn with
 |0,_,_,hn=>exact Al hn
 |1,_,h,hn=>
  have h0:He a.a b.a=0:=h 0 Cl;rw[Aj ch];exact Al hn
 |2,_,h,hn=>
  have h0:He a.a b.a=0:=h 0 Cl;have h1:He a.b b.b=0:=h 1 Cl;rw[Aj ch,Aj ch];rfl
theorem lJ(a b:Ver)(h:∀j,j<3->He (part a j) (part b j)=0):PU a b=0:=by
 unfold PU;have h0:He a.a b.a=0:=h 0 Cl;have h1:He a.b b.b=0:=h 1 Cl;have h2:He a.c b.c=0:=h 2 Cl;rw[Aj ch,Aj ch,h2]
theorem AbF(a b:Ver):PC 146 [.agg (DO a),.agg (DO b)] (vi (PU a b)):=by
 refine Ps El Tryz.func146 rfl (Nz rfl) (yN (Xi _ (Yi (tY a) (yN (Xi _ (Yi (tY b) (Yi (Nz rfl) (yN (Yi Wk (Xi {i:Nat // i<=3/\∀j,j<i->He (part a j) (part b j)=0} (Xi (fun i=>⟨[(5,.ref 5 0),(6,.ref 6 0),(13,vi i.1)],[(5,.cells (DO a)),(6,.cells (DO b))],Ae⟩) (Xi (fun i=>3-i.1) (Yi (Xi ⟨0,by omega,fun j h=>by omega⟩ ?_) ?_)))))))))))))
 .exact⟨Z3,Z2,Fh,Tv⟩
 intro⟨i,h1,h2⟩;refine Yi ?_ ?_
 .intro h;have h:(i:Int)<3:=h;have next:He (part a i) (part b i)=0->∀j,j<i+1->He (part a j) (part b j)=0:=fun hz j hj=>by
   rcases D1 j i with q | q
   .exact h2 j q
   .have:j=i:=by omega
    subst this;exact hz
  match i,h1,h2,h,next with
  |0,h1,h2,h,next=>
   refine Yi ⟨by show(0:Int)<=0;decide,by show(0:Int)<3;decide⟩ ?_;refine Yi ⟨by show(0:Int)<=0;decide,by show(0:Int)<3;decide⟩ ?_;refine Xi _ (Yi (t7 (part a 0) (part b 0)) (Yi Wk (Yi ?_ ?_)))
   .intro h4;exact .of_eq (Aa vi (Uy a b 0 Cl h2 h4).symm)
   .intro h4;refine Yi (Ii 0 ch) (Xi ⟨1,by omega,next (GS h4)⟩ ?_)
    exact⟨by show 3-1<3-0;decide,Z3,Z2,Fh,Tv⟩
  |1,h1,h2,h,next=>
   refine Yi ⟨by show(0:Int)<=1;decide,by show(1:Int)<3;decide⟩ ?_;refine Yi ⟨by show(0:Int)<=1;decide,by show(1:Int)<3;decide⟩ ?_;refine Xi _ (Yi (t7 (part a 1) (part b 1)) (Yi Wk (Yi ?_ ?_)))
   .intro h4;exact .of_eq (Aa vi (Uy a b 1 Cl h2 h4).symm)
   .intro h4;refine Yi (Ii 1 ch) (Xi ⟨2,by omega,next (GS h4)⟩ ?_)
    exact⟨by show 3-2<3-1;decide,Z3,Z2,Fh,Tv⟩
  |2,h1,h2,h,next=>
   refine Yi ⟨by show(0:Int)<=2;decide,by show(2:Int)<3;decide⟩ ?_;refine Yi ⟨by show(0:Int)<=2;decide,by show(2:Int)<3;decide⟩ ?_;refine Xi _ (Yi (t7 (part a 2) (part b 2)) (Yi Wk (Yi ?_ ?_)))
   .intro h4;exact .of_eq (Aa vi (Uy a b 2 Cl h2 h4).symm)
   .intro h4;have h4:¬He (part a 2) (part b 2)≠0:=h4;refine Yi (Ii 2 ch) (Xi ⟨3,by omega,next (GS h4)⟩ ?_)
    exact⟨by show 3-3<3-2;decide,Z3,Z2,Fh,Tv⟩
  |i+3,h1,h2,h,next=>omega
 .intro h;have h:¬(i:Int)<3:=h;exact .of_eq (Aa vi (lJ a b fun j hj=>h2 j ch).symm)
theorem xv(a b:Rl):PC 85 [.agg (AF a),.agg (AF b)] (vi (DC a b)):=by
 refine Ps El Tryz.func85 rfl (Nz rfl) (Xi _ (Yi (AbE a.path b.path) (Yi (Nz rfl) (yN (Xi _ (Yi (AbF a.ver b.ver) (Xi _ (Yi (AbD (Ld a.path b.path) (PU a.ver b.ver)) (Yi Wk ?_)))))))));exact .refl _
abbrev Gp:Prop:=s.size<=1073741824
abbrev Kd(q:Rq):Prop:=Cb q.set/\Gp q.path
abbrev EG(r:Rl):Prop:=Gp r.path/\∀q∈r.reqs,Kd q
abbrev fY(nm:ByteArray->ByteArray)(p:ByteArray):AV:=match CE p with
 |some m=>.tup [vs (nm p),vi m,vi 0]
 |none=>.tup [vs ⟨#[]⟩,vi 0,vi 4]
abbrev Wp(nm:ByteArray->ByteArray):Prop:=∀p:ByteArray,Gp p->PC 167 [vs p] (fY nm p)
theorem Wp.none(h:Wp nm){p:ByteArray}(hp:Gp p)(e:CE p=.none):PC 167 [vs p] (.tup [vs ⟨#[]⟩,vi 0,vi 4]):=by
 have:=h p hp;unfold fY at this;rw[e]at this;exact this
theorem Wp.some(h:Wp nm){p:ByteArray}{m:Int}(hp:Gp p)(e:CE p=.some m):PC 167 [vs p] (.tup [vs (nm p),vi m,vi 0]):=by
 have:=h p hp;unfold fY at this;rw[e]at this;exact this
theorem xw(hL:Wp nm)(q:Rq)(hq:Cb q.set)(hp:Gp q.path):PC 107 [.agg (Bb q),.v (.pointer none)] (vi (I5 none q)):=by
 cases SL:CE q.path with
 |none=>
  have e:(4:Int)=I5 none q:=by unfold I5;rw[SL];rfl
  have hl:=hL.none hp SL;refine Ps El Tryz.func107 rfl (Nz rfl) (Xi .pure (Xi _ (Yi (hl) (Yi ?_ ?_))))
  .intro _;exact .of_eq (Aa vi e)
  .intro h;exact absurd (show(4:Int)≠0 by decide) h
 |some m=>
  have er:I5 none q=if(q.set.isEmpty||!decide (q.set=canon q.set)||false)=true then 1 else 0:=by unfold I5;rw[SL];rfl
  have hl:=hL.some hp SL;have hc:=YB q.set hq;have he:=qa q.set (canon q.set) hq;have WA:∀{n:Int},n=(q.set.map AE).length->n=0->q.set.isEmpty=true:=fun h1 h2=>by
   rw[Lm]at h1;rw[Hz];exact AP ch
  have mG:¬((q.set.map AE).length:Int)=0->q.set.isEmpty=false:=fun h=>by
   cases hqs:q.set with
   |nil=>rw[hqs]at h;exact absurd rfl h
   |cons a l=>rfl
  rcases Bt (decide (q.set=canon q.set))with h2 | h2
  .rw[h2]at he;refine Ps (Kv []) Tryz.func107 rfl (Nz rfl) (Xi .pure (Xi _ (Yi (hl) (Yi ?_ ?_))))
   .intro h;exact absurd rfl h
   intro _;refine Yi ?_ ?_
   .intro h;have e:(1:Int)=I5 none q:=by rw[er,WA rfl h];rfl
    refine Yi Wk ?_;exact .of_eq (Aa vi e)
   intro h;have hn:=mG h;refine Xi _ (Yi (hc) (Xi _ (Yi (he) (Yi Wk ?_))));have e:(0:Int)=I5 none q:=by rw[er,hn,h2];rfl
   exact .of_eq (Aa vi e)
  .rw[h2]at he;refine Ps (Kv []) Tryz.func107 rfl (Nz rfl) (Xi .pure (Xi _ (Yi (hl) (Yi ?_ ?_))))
   .intro h;exact absurd rfl h
   intro _;refine Yi ?_ ?_
   .intro h;have e:(1:Int)=I5 none q:=by rw[er,WA rfl h];rfl
    refine Yi Wk ?_;exact .of_eq (Aa vi e)
   intro h;have hn:=mG h;refine Xi _ (Yi (hc) (Xi _ (Yi (he) (Yi Wk ?_))));have e:(1:Int)=I5 none q:=by rw[er,hn,h2];rfl
   exact .of_eq (Aa vi e)
theorem xx(hL:Wp nm)(q b:Rq)(hq:Cb q.set)(hp:Gp q.path):PC 107 [.agg (Bb q),.cptr (Bb b)] (vi (I5 (some b.path) q)):=by
 cases SL:CE q.path with
 |none=>
  have e:(4:Int)=I5 (some b.path) q:=by unfold I5;rw[SL];rfl
  have hl:=hL.none hp SL;refine Ps El Tryz.func107 rfl (Nz rfl) (Xi .pure (Xi _ (Yi (hl) (Yi ?_ ?_))))
  .intro _;exact .of_eq (Aa vi e)
  .intro h;exact absurd (show(4:Int)≠0 by decide) h
 |some m=>
  have er:I5 (some b.path) q=if(q.set.isEmpty||!decide (q.set=canon q.set)||!Ek b.path q.path)=true then 1 else 0:=by unfold I5;rw[SL];rfl
  have hl:=hL.some hp SL;have hc:=YB q.set hq;have he:=qa q.set (canon q.set) hq;have WA:∀{n:Int},n=(q.set.map AE).length->n=0->q.set.isEmpty=true:=fun h1 h2=>by
   rw[Lm]at h1;rw[Hz];exact AP ch
  have mG:¬((q.set.map AE).length:Int)=0->q.set.isEmpty=false:=fun h=>by
   cases hqs:q.set with
   |nil=>rw[hqs]at h;exact absurd rfl h
   |cons a l=>rfl
  rcases Bt (decide (q.set=canon q.set))with h2 | h2
  .rw[h2]at he;refine Ps (Kv []) Tryz.func107 rfl (Nz rfl) (Xi .pure (Xi _ (Yi (hl) (Yi ?_ ?_))))
   .intro h;exact absurd rfl h
   intro _;refine Yi ?_ ?_
   .intro h;have e:(1:Int)=I5 (some b.path) q:=by rw[er,WA rfl h];rfl
    refine Yi Wk ?_;exact .of_eq (Aa vi e)
   intro h;have hn:=mG h;refine Xi _ (Yi (hc) (Xi _ (Yi (he) (Yi ?_ ?_))))
   .intro h3;refine Yi Wk ?_;have e:(1:Int)=I5 (some b.path) q:=by rw[er,hn,h2,Gr,h3];rfl
    exact .of_eq (Aa vi e)
   .intro h3;have h3:Op.bytesLess b.path.toList q.path.toList=true:=by simpa using h3
    refine Yi Wk ?_;have e:(0:Int)=I5 (some b.path) q:=by rw[er,hn,h2,Gr,h3];rfl
    exact .of_eq (Aa vi e)
  .rw[h2]at he;refine Ps (Kv []) Tryz.func107 rfl (Nz rfl) (Xi .pure (Xi _ (Yi (hl) (Yi ?_ ?_))))
   .intro h;exact absurd rfl h
   intro _;refine Yi ?_ ?_
   .intro h;have e:(1:Int)=I5 (some b.path) q:=by rw[er,WA rfl h];rfl
    refine Yi Wk ?_;exact .of_eq (Aa vi e)
   intro h;have hn:=mG h;refine Xi _ (Yi (hc) (Xi _ (Yi (he) (Yi Wk ?_))));have e:(1:Int)=I5 (some b.path) q:=by rw[er,hn,h2];rfl
   exact .of_eq (Aa vi e)
abbrev NN(l:List Rq)(k:Nat):List AV:=((l.map Bb)[k]?).getD []
abbrev xo(l:List Rq):Nat->AV
 |0=>.v (.pointer none)
 |k+1=>.cptr (NN l k)
abbrev Um(l:List Rq):Nat->Option ByteArray
 |0=>none
 |k+1=>(l[k]?).map (·.path)
theorem OT{l:List Rq}(h:k<l.length):NN l k=Bb l[k]:=by
 unfold NN;rw[AG,Ge h];rfl
theorem Un{l:List Rq}(h:k<l.length):Um l (k+1)=some l[k].path:=by
 show(l[k]?).map _=_;rw[Ge h];rfl
theorem c65(hL:Wp nm)(l:List Rq)(hs:∀q∈l,Kd q):PC 64 [sl Bb l] (vi (BN l)):=by
 refine Ps (Kv []) Tryz.func64 rfl (Nz rfl) (Yi ?_ ?_)
 .intro h;exact .of_eq (Aa vi (show(7:Int)=BN l by unfold BN;rw[Al (by rw[Lm]at h;omega)]))
 intro h;have hl:l.length<=16:=by rw[Lm]at h;omega
 have Wl:BN l=Gs none l:=by unfold BN;rw[Aj ch]
 refine Xi {i:Nat // i<=l.length/\Gs none l=Gs (Um l i) (l.drop i)} (Xi (fun i=>⟨[(0,sl Bb l),(3,xo l i.1),(10,sl Bb l),(11,vi (l.map Bb).length),(12,vi i.1)],[],Ae⟩) (Xi (fun i=>l.length-i.1) (Yi (Xi ⟨0,Ax _,rfl⟩ ?_) ?_)))
 .exact⟨Z5,Tv,Fh,Tv⟩
 intro⟨i,h1,h2⟩;refine Yi ?_ ?_
 .intro h;have h:i<l.length:=by simpa using h
  have hg:l[i]?=some l[i]:=Ge h;have hd:l.drop i=l[i]::l.drop (i+1):=AH h;have hq:=hs l[i] (Aq h);have hc:PC 107 [.agg (Bb l[i]),xo l i] (vi (I5 (Um l i) l[i])):=by
   cases i with
   |zero=>exact xw hL _ hq.1 hq.2
   |succ k=>
    rw[Un (by omega:k<l.length)];show PC 107 [_,.cptr (NN l k)] _;rw[OT (by omega:k<l.length)];exact xx hL _ _ hq.1 hq.2
  have Lh:Gs none l=if I5 (Um l i) l[i]=0 then Gs (some l[i].path) (l.drop (i+1))else I5 (Um l i) l[i]:=by rw[h2,hd];rfl
  match i,h1,h2,h,hg,hd,hc,Lh with
  |0,h1,h2,h,hg,hd,hc,Lh=>
   refine Xi (Bb l[0]) (Yi (Yi (by show(0:Int)<=((0:Nat):Int);omega) (by simp[hg])) (Yi rfl ?_));refine Yi (Nz rfl) (Yi (Nz rfl) (yN (Xi .pure (Xi _ (Yi (hc) (Yi ?_ ?_))))))
   .intro h4;exact .of_eq (Aa vi (show I5 (Um l (0)) l[0]=BN l by rw[Wl,Lh,Aj h4]))
   .intro h4;refine Xi (Bb l[0]) (Yi (Yi (by show(0:Int)<=((0:Nat):Int);omega) (by simp[hg])) (Yi rfl ?_));refine Yi (by show AX (((0:Nat):Int)+1);unfold AX;omega) ?_;refine Xi ⟨0+1,by omega,by rw[Lh,Al (GS h4),Un h]⟩ ?_;have e1:AV.cptr (Bb l[0])=.cptr (NN l (0)):=by rw[OT h]
    exact⟨by show l.length-(0+1)<l.length-(0);omega,⟨Zr,⟨e1,rfl⟩,Zr,Zr,Zr,Tv⟩,Tv,Fh,Tv⟩
  |k+1,h1,h2,h,hg,hd,hc,Lh=>
   refine Xi (Bb l[k+1]) (Yi (Yi (by show(0:Int)<=((k+1:Nat):Int);omega) (by simp[hg])) (Yi rfl ?_));refine Yi (Nz rfl) (Yi (Nz rfl) (yN (Xi .pure (Xi _ (Yi (hc) (Yi ?_ ?_))))))
   .intro h4;exact .of_eq (Aa vi (show I5 (Um l (k+1)) l[k+1]=BN l by rw[Wl,Lh,Aj h4]))
   .intro h4;refine Xi (Bb l[k+1]) (Yi (Yi (by show(0:Int)<=((k+1:Nat):Int);omega) (by simp[hg])) (Yi rfl ?_));refine Yi (by show AX (((k+1:Nat):Int)+1);unfold AX;omega) ?_;refine Xi ⟨k+1+1,by omega,by rw[Lh,Al (GS h4),Un h]⟩ ?_;have e1:AV.cptr (Bb l[k+1])=.cptr (NN l (k+1)):=by rw[OT h]
    exact⟨by show l.length-(k+1+1)<l.length-(k+1);omega,⟨Zr,⟨e1,rfl⟩,Zr,Zr,Zr,Tv⟩,Tv,Fh,Tv⟩
 .intro h;have h:¬i<l.length:=by simpa using h
  have e:(0:Int)=BN l:=by rw[Wl,h2,Wq ch];rfl
  exact .of_eq (Aa vi e)
abbrev lP(r:Rl):Nat->ByteArray
 |0=>r.arch
 |1=>r.ifc
 |_=>r.cert
theorem ui{r:Rl}(h:∀j,j<3->Fw (lP r j)=true):(Fw r.arch&&Fw r.ifc&&Fw r.cert)=true:=by
 have h0:Fw r.arch=true:=h 0 Cl;have h1:Fw r.ifc=true:=h 1 Cl;have h2:Fw r.cert=true:=h 2 Cl;rw[h0,h1,h2];rfl
theorem de{r:Rl}(hi:i<3)(h:Fw (lP r i)=false):(Fw r.arch&&Fw r.ifc&&Fw r.cert)=false:=by
 match i,hi,h with
 |0,_,h=>have h:Fw r.arch=false:=h;rw[h];rfl
 |1,_,h=>have h:Fw r.ifc=false:=h;rw[h,Dw];rfl
 |2,_,h=>have h:Fw r.cert=false:=h;rw[h,Dw]
theorem Abu(hL:Wp nm)(r:Rl)(hr:EG r):PC 147 [.agg (AF r)] (vi (D3 r)):=by
 cases SL:CE r.path with
 |none=>
  have e:(4:Int)=D3 r:=by unfold D3;rw[SL]
  have hl:=hL.none hr.1 SL;refine Ps El Tryz.func147 rfl (Nz rfl) (Xi .pure (Xi _ (Yi (hl) (Yi ?_ ?_))))
  .intro _;exact .of_eq (Aa vi e)
  .intro h;exact absurd (show(4:Int)≠0 by decide) h
 |some m=>
  have er:D3 r=if(!Cw r.ver||!decide (r.ver.a=m))=true then 2 else if BN r.reqs≠0 then BN r.reqs else if(Fw r.arch&&Fw r.ifc&&Fw r.cert)=true then 0 else 1:=by unfold D3;rw[SL]
  have hl:=hL.some hr.1 SL;have hv:=xu r.ver;have hc:=c65 hL r.reqs hr.2;rcases Bt (Cw r.ver)with h2 | h2
  .rw[h2]at hv;refine Ps (Kv []) Tryz.func147 rfl (Nz rfl) (Xi .pure (Xi _ (Yi (hl) (Yi ?_ ?_))))
   .intro h;exact absurd rfl h
   intro _;refine yN (Xi .pure (Xi _ (Yi (hv) (Yi ?_ ?_))))
   .intro h;have e:(2:Int)=D3 r:=by rw[er,h2,AD h];rfl
    exact .of_eq (Aa vi e)
   intro h;have h3:r.ver.a=m:=GS h;have xM:D3 r=if BN r.reqs≠0 then BN r.reqs else if(Fw r.arch&&Fw r.ifc&&Fw r.cert)=true then 0 else 1:=by rw[er,h2,Ay h3];rfl
   refine Xi .pure (Xi _ (Yi (hc) (Yi ?_ ?_)))
   .intro h4;exact .of_eq (Aa vi (show BN r.reqs=D3 r by rw[xM,Al h4]))
   intro h4;have er3:D3 r=if(Fw r.arch&&Fw r.ifc&&Fw r.cert)=true then 0 else 1:=by rw[xM,Aj h4]
   refine Xi {i:Nat // i<=3/\∀j,j<i->Fw (lP r j)=true} (Xi (fun i=>⟨[(41,.slice (.id 41 1) [[vs r.arch],[vs r.ifc],[vs r.cert]]),(42,vi 3),(43,vi i.1)],[(41,.tok 1 3)],Ae⟩) (Xi (fun i=>3-i.1) (Yi (Xi ⟨0,by omega,fun j h=>by omega⟩ ?_) ?_)))
   .exact⟨Z3,Z1,Fh,Tv⟩
   intro⟨i,i1,i2⟩;refine Yi ?_ ?_
   .intro h;have h:(i:Int)<3:=h;have next:Fw (lP r i)=true->∀j,j<i+1->Fw (lP r j)=true:=fun hz j hj=>by
     rcases D1 j i with q | q
     .exact i2 j q
     .have:j=i:=by omega
      subst this;exact hz
    match i,i1,i2,h,next with
    |0,i1,i2,h,next=>
     refine Xi [vs r.arch] (Yi (Yi (by show(0:Int)<=0;decide) rfl) (Yi rfl (Yi ?_ ?_)))
     .intro h5;refine Yi ?_ ?_
      .intro h6;have e:(1:Int)=D3 r:=by rw[er3,de (i:=0) Cl (show Fw r.arch=false by unfold Fw;rw[AD ch,AD ch];rfl)];rfl
       exact .of_eq (Aa vi e)
      .intro h6;refine Yi (Ii 0 ch) (Xi ⟨1,by omega,next (show Fw r.arch=true by unfold Fw;rw[Ay (by omega:r.arch.size=32),Bool.or_true])⟩ ?_)
       exact⟨by show 3-1<3-0;decide,Z3,Z1,Fh,Tv⟩
     .intro h5;refine Yi (Ii 0 ch) (Xi ⟨1,by omega,next (show Fw r.arch=true by unfold Fw;rw[Ay (by omega:r.arch.size=0)];rfl)⟩ ?_)
      exact⟨by show 3-1<3-0;decide,Z3,Z1,Fh,Tv⟩
    |1,i1,i2,h,next=>
     refine Xi [vs r.ifc] (Yi (Yi (by show(0:Int)<=1;decide) rfl) (Yi rfl (Yi ?_ ?_)))
     .intro h5;have h5:((r.ifc.size:Nat):Int)≠0:=h5;refine Yi ?_ ?_
      .intro h6;have h6:((r.ifc.size:Nat):Int)≠32:=h6;have e:(1:Int)=D3 r:=by rw[er3,de (i:=1) Cl (show Fw r.ifc=false by unfold Fw;rw[AD ch,AD ch];rfl)];rfl
       exact .of_eq (Aa vi e)
      .intro h6;have h6:¬((r.ifc.size:Nat):Int)≠32:=h6;refine Yi (Ii 1 ch) (Xi ⟨2,by omega,next (show Fw r.ifc=true by unfold Fw;rw[Ay (by omega:r.ifc.size=32),Bool.or_true])⟩ ?_)
       exact⟨by show 3-2<3-1;decide,Z3,Z1,Fh,Tv⟩
     .intro h5;have h5:¬((r.ifc.size:Nat):Int)≠0:=h5;refine Yi (Ii 1 ch) (Xi ⟨2,by omega,next (show Fw r.ifc=true by unfold Fw;rw[Ay (by omega:r.ifc.size=0)];rfl)⟩ ?_)
      exact⟨by show 3-2<3-1;decide,Z3,Z1,Fh,Tv⟩
    |2,i1,i2,h,next=>
     refine Xi [vs r.cert] (Yi (Yi (by show(0:Int)<=2;decide) rfl) (Yi rfl (Yi ?_ ?_)))
     .intro h5;have h5:((r.cert.size:Nat):Int)≠0:=h5;refine Yi ?_ ?_
      .intro h6;have h6:((r.cert.size:Nat):Int)≠32:=h6;have e:(1:Int)=D3 r:=by rw[er3,de (i:=2) Cl (show Fw r.cert=false by unfold Fw;rw[AD ch,AD ch];rfl)];rfl
       exact .of_eq (Aa vi e)
      .intro h6;have h6:¬((r.cert.size:Nat):Int)≠32:=h6;refine Yi (Ii 2 ch) (Xi ⟨3,by omega,next (show Fw r.cert=true by unfold Fw;rw[Ay (by omega:r.cert.size=32),Bool.or_true])⟩ ?_)
       exact⟨by show 3-3<3-2;decide,Z3,Z1,Fh,Tv⟩
     .intro h5;have h5:¬((r.cert.size:Nat):Int)≠0:=h5;refine Yi (Ii 2 ch) (Xi ⟨3,by omega,next (show Fw r.cert=true by unfold Fw;rw[Ay (by omega:r.cert.size=0)];rfl)⟩ ?_)
      exact⟨by show 3-3<3-2;decide,Z3,Z1,Fh,Tv⟩
    |i+3,i1,i2,h,next=>omega
   .intro h;have h:¬(i:Int)<3:=h;have e:(0:Int)=D3 r:=by rw[er3,Al (ui fun j hj=>i2 j ch)]
    exact .of_eq (Aa vi e)
  .rw[h2]at hv;have e:(2:Int)=D3 r:=by rw[er,h2];rfl
   refine Ps (Kv []) Tryz.func147 rfl (Nz rfl) (Xi .pure (Xi _ (Yi (hl) (Yi ?_ ?_))))
   .intro h;exact absurd rfl h
   intro _;refine yN (Xi .pure (Xi _ (Yi (hv) ?_)));exact .of_eq (Aa vi e)
theorem u5{a b:Rl}(h:a.path=b.path/\a.ver.a=b.ver.a/\a.ver.b=b.ver.b/\a.ver.c=b.ver.c):Gu a=Gu b:=by
 unfold Gu;obtain⟨h1,h2,h3,h4⟩:=h
 have:a.ver=b.ver:=by
  cases ha:a.ver;cases hb:b.ver;rw[ha,hb]at h2 h3 h4;simp_all
 rw[h1,this]
theorem jn{a b:Rl}(h:Gu a=Gu b):a.path=b.path/\a.ver.a=b.ver.a/\a.ver.b=b.ver.b/\a.ver.c=b.ver.c:=by
 unfold Gu at h
 injection h with h1 h2
 exact⟨h1,by rw[h2],by rw[h2],by rw[h2]⟩
abbrev pX(x:List Rl):Nat->Option Rl
 |0=>none
 |k+1=>x[k]?
theorem wL(hL:Wp nm)(x:List Rl)(ifs:List (List AV))(hs:∀r∈x,EG r):PC 86 [.agg (Ic x ifs)] (vi (A5 x)):=by
 refine Ps (Kv []) Tryz.func86 rfl (Nz rfl) (Yi ?_ ?_)
 .intro h;exact .of_eq (Aa vi (show(7:Int)=A5 x by unfold A5;rw[Al (by rw[Lm]at h;omega)]))
 intro h;have hl:x.length<=256:=by rw[Lm]at h;omega
 have Wl:A5 x=DW none x:=by unfold A5;rw[Aj ch]
 refine Xi {i:Nat // i<=x.length/\DW none x=DW (pX x i) (x.drop i)} (Xi (fun i=>⟨[(1,.ref 1 0),(12,sl AF x),(13,vi (x.map AF).length),(14,vi i.1)],[(1,.cells (Ic x ifs))],Ae⟩) (Xi (fun i=>x.length-i.1) (Yi (Xi ⟨0,Ax _,rfl⟩ ?_) ?_)))
 .exact⟨Z4,Z1,Fh,Tv⟩
 intro⟨i,h1,h2⟩;refine Yi ?_ ?_
 .intro h;have h:i<x.length:=by simpa using h
  have hg:x[i]?=some x[i]:=Ge h;have hd:x.drop i=x[i]::x.drop (i+1):=AH h;have hc:=Abu hL x[i] (hs x[i] (Aq h));have Lh:DW none x=if D3 x[i]≠0 then D3 x[i]else match pX x i with
   |none=>DW (some x[i]) (x.drop (i+1))
   |some b=>if Gu b=Gu x[i]then 5 else if 0<DC b x[i]then 1 else DW (some x[i]) (x.drop (i+1)):=by rw[h2,hd];rfl
  have sL:pX x (i+1)=some x[i]:=Ge h;refine Xi (AF x[i]) (Yi (Yi (Nn i) (by simp[hg])) (Yi rfl ?_));refine Yi (Nz rfl) (Yi (Nz rfl) (yN (Xi .pure (Xi _ (Yi (hc) (Yi ?_ ?_))))))
  .intro h4;exact .of_eq (Aa vi (show D3 x[i]=A5 x by rw[Wl,Lh,Al h4]))
  intro h4;refine Yi ?_ ?_
  .intro h5;have h5:(i:Int)=0:=h5;have h6:i=0:=by omega
   refine Yi (Ii i ch) (Xi ⟨i+1,by omega,by rw[Lh,Aj h4,sL];subst h6;rfl⟩ ?_);exact⟨Dl x.length i ch,Z4,Z1,Fh,Tv⟩
  intro h5;have h5:¬(i:Int)=0:=h5;have hi1:i-1<x.length:=by omega
  have hb:pX x i=some x[i-1]:=by
   obtain⟨k,rfl⟩:∃k,i=k+1:=⟨i-1,by omega⟩;exact Ge ch
  have uB:DW none x=if Gu x[i-1]=Gu x[i]then 5 else if 0<DC x[i-1] x[i]then 1 else DW (some x[i]) (x.drop (i+1)):=by rw[Lh,Aj h4,hb]
  refine Yi (by show AX ((i:Int)-1);unfold AX;omega) ?_;have WB:(x.map AF)[((i:Int)-1).toNat]?=some (AF x[i-1]):=by rw[show((i:Int)-1).toNat=i-1 by omega];exact Eo (Ge hi1)
  refine Xi (AF x[i-1]) (Yi (Yi (by show(0:Int)<=(i:Int)-1;omega) WB) (Yi rfl (Yi (Nz rfl) (yN (yN (Xi _ (Yi (tW x[i-1]) (yN (Xi _ (Yi (tW x[i]) (Yi ?_ ?_)))))))))))
  .intro h6;refine Yi Wk ?_;have e:(5:Int)=A5 x:=by rw[Wl,uB,Al (u5 ⟨h6.1,h6.2.1,h6.2.2.1,h6.2.2.2.1⟩)]
   exact .of_eq (Aa vi e)
  intro h6;refine Yi Wk ?_;have h7:¬Gu x[i-1]=Gu x[i]:=fun e=>by
   have e:=jn e;exact h6 ⟨e.1,e.2.1,e.2.2.1,e.2.2.2,trivial⟩
  refine Yi (Nz rfl) (yN (Xi .pure (Xi _ (Yi (xv x[i-1] x[i]) (Yi ?_ ?_)))))
  .intro h8;have e:(1:Int)=A5 x:=by rw[Wl,uB,Aj h7,Al h8]
   exact .of_eq (Aa vi e)
  .intro h8;refine Yi (Ii i ch) (Xi ⟨i+1,by omega,by rw[uB,Aj h7,Aj h8,sL]⟩ ?_);exact⟨Dl x.length i ch,Z4,Z1,Fh,Tv⟩
 .intro h;have h:¬i<x.length:=by simpa using h
  have e:(0:Int)=A5 x:=by rw[Wl,h2,Wq ch];rfl
  exact .of_eq (Aa vi e)
abbrev rlC(r:Rl)(a:AV):List AV:=[vs r.path,vi r.ver.a,vi r.ver.b,vi r.ver.c,a,vs r.arch,vs r.ifc,vs r.cert,vb r.yanked]
abbrev AdB:Tn:=⟨[],[],[],[],[],[],[],[(9,(1,4,900,2))],[],[],[]⟩
theorem c98(r:Rl)(hr:r.reqs.length<=1000)(hs:∀q∈r.reqs,Cb q.set):PC 83 [.agg (AF r)] (.agg (AF r)):=by
 refine Ps AdB Tryz.func83 rfl (Nz rfl) (yN (Xi {i:Nat // i<=r.reqs.length} (Xi (fun i=>⟨[(1,.ref 1 0),(2,.ref 2 0),(9,sl Bb r.reqs),(10,vi (r.reqs.map Bb).length),(11,vi i.1)],[(1,.cells (rlC r (.slice (.id 900 2) ((r.reqs.take i.1).map Bb)))),(2,.cells tn),(900,.tok 2 ((r.reqs.take i.1).map Bb).length)],Ae⟩) (Xi (fun i=>r.reqs.length-i.1) (Yi (Xi ⟨0,Ax _⟩ ?_) ?_)))))
 .exact⟨Z5,Z3,Fh,Tv⟩
 intro⟨i,h1⟩;refine Yi ?_ ?_
 .intro h;have h:i<r.reqs.length:=by simpa using h
  have hg:r.reqs[i]?=some r.reqs[i]:=Ge h;refine Xi (Bb r.reqs[i]) (Yi (Yi (Nn i) (by simp[hg])) (Yi rfl ?_));have hq:=hs r.reqs[i] (Aq h);refine Yi (Nz rfl) (yN (Xi .pure (Xi _ (Yi (Abz r.reqs[i].set hq) (yN (yN ?_))))));have HC:B5 2 [Bb r.reqs[i]]/\((r.reqs.take i).map Bb).length=((r.reqs.take i).map Bb).length/\(((r.reqs.take i).map Bb).length+[Bb r.reqs[i]].length)*40<=140737488355328/\((r.reqs.take i).map Bb).length+[Bb r.reqs[i]].length<=9223372036854775807:=
   ⟨⟨rfl,trivial⟩,rfl,by rw[Lm,Au,Bh];omega,by rw[Lm,Au,Bh];omega⟩
  refine Yi HC (yN (Yi (Ii i ch) (Xi ⟨i+1,by omega⟩ ?_)));have et:(r.reqs.take (i+1)).map Bb=(r.reqs.take i).map Bb++[Bb r.reqs[i]]:=by rw[Bj,hg,As];rfl
  have e1:HO.cells (rlC r (.slice (.id 900 2) ((r.reqs.take i).map Bb++[Bb r.reqs[i]])))=.cells (rlC r (.slice (.id 900 2) ((r.reqs.take (i+1)).map Bb))):=by rw[et]
  have e2:HO.tok 2 (((r.reqs.take i).map Bb).length+[Bb r.reqs[i]].length)=.tok 2 ((r.reqs.take (i+1)).map Bb).length:=by rw[et,Ac]
  exact⟨Dl r.reqs.length i ch,Z5,⟨⟨e1,rfl⟩,Zr,⟨e2,rfl⟩,Tv⟩,Fh,Tv⟩
 .intro h;have h:¬i<r.reqs.length:=by simpa using h
  refine Yi (Nz rfl) (Yi (Nz rfl) (yN ?_));have e:AV.agg (rlC r (.slice .none ((r.reqs.take i).map Bb)))=.agg (AF r):=by rw[At ch]
  exact .of_eq e
theorem cU{cx:Cx}{st:St}{K:LS -> Prop}(t:List (Nat×AV))(h:List (Nat×HO))(h1:leT st (LS.st ⟨t,h,Ae⟩).h t)(h2:leH st (LS.st ⟨t,h,Ae⟩).h h)(k:K ⟨t,h,Ae⟩)
    (h3:match cx.ext with | false => True | true => ∀j,1000 <= j -> j<2000 -> st.h j ≠ .free -> (LS.st ⟨t,h,Ae⟩).h j ≠ .free := by first | exact trivial | exact BT Wk):∃s,St.le cx st s /\ K s := ⟨_,⟨h1,h2,fun _ => .inl rfl,h3⟩,k⟩
end Go.Eng
