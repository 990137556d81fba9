/- Lemmas 20. -/
import Derived.Test.YteaiieomnhbmgaaGreatDoorEA19
import Derived.Shelf.Slices.Delete
namespace Go.Eng
open Go.Proofs Go.Shelf Go.RowKit Go.Lib Go.Sort
theorem vg(F:Array Value)(i n:Nat)(hF:F.size=n*3)(hi:i<n)(z:List Value)(hz:z.length=3):(lay (lay F (i*3) (F.toList.drop ((i+1)*3))) ((n-1)*3) z).toList=F.toList.take (i*3)++F.toList.drop ((i+1)*3)++z:=by
 have l1:(F.toList.take (i*3)).length=i*3:=by simp;omega
 have l2:(F.toList.drop ((i+1)*3)).length=(n-(i+1))*3:=by simp;omega
 apply Du
 intro t
 rw[A5,lay_get? _ _ _ _ (by rw[Lib.lay_size];omega),lay_get? _ _ _ _ (by rw[l2];omega)]
 rw[hz,l2]
 by_cases c1:t<i*3
 .rw[Aj ch,Aj ch,A0 (by rw[Ac];omega),A0 ch,KA,Ao c1,A5]
 .by_cases c2:t<(n-1)*3
  .rw[Aj ch,Ao ch,A0 (by rw[Ac];omega),A1 ch,l1]
  .rw[A1 (by rw[Ac];omega),Ac,l1,l2]
   by_cases c3:t<n*3
   .rw[Ao ch];congr 1;omega
   .rw[Aj ch,Aj ch,We ch,A9 ch]
abbrev pD:List Value:=[.string ⟨#[]⟩,.bool false,.slice none 0 0]
set_option maxHeartbeats 4000000 in
set_option maxRecDepth 1000000 in
theorem lM(w:World)(b cap i n:Nat)(F:Array Value)(hF:F.size=n*3)(hi:i<n)(Mh:n<=cap)(hH:Holds id w b 0 F)(h1:∀x∈F.toList,x.oneCell'=true) :
  Calls Tryz.prog 344 #[.slice (some ⟨b,0,none⟩) n cap,.int .i64 i,.int .i64 ((i:Int)+1)] w fun e w'=>e=.returned (.slice (some ⟨b,0,none⟩) (n-1) cap) /\
   w'=putRow id (Sort.ahead w 1) b 0 (lay (lay F (i*3) (F.toList.drop ((i+1)*3))) ((n-1)*3) pD):=by
 obtain⟨i0,sN,uY⟩:∃i0,Tryz.prog.info? 343=some i0/\i0.size=3:=by
  obtain⟨i,z,h1,_,h2,_⟩:=Ij (P:=Tryz.prog) (T:=rN) CW (e:=343) (n:=2) Wk
  exact⟨i,h1,h2.trans Wk⟩
 obtain⟨news,JG⟩:∃news,news=F.toList.drop ((i+1)*3):=⟨_,rfl⟩
 have CP:news.length=(n-(i+1))*3:=by rw[JG];simp;omega
 have FH:∀t,t<(n-(i+1))*3->news[t]?=some F[(i+1)*3+t]!:=by
  intro t ht
  rw[JG,DV,A5,DW F ((i+1)*3+t) ch,A7 ch]
 obtain⟨A,hA,jh⟩:∃A:Addr,(if cap=i+1 then some (⟨b,0,none⟩:Addr)else some ⟨b,(i+1)*3,none⟩)=some A/\Hid (∀t u,news[t]?=some u->w.drew.cell? (A.add t)=some u):=by
  by_cases h:cap=i+1
  .refine⟨⟨b,0,none⟩,by simp[h],fun t u hu=>?_⟩
   have h0:news.length=0:=by rw[CP];omega
   rw[FP.1 h0]at hu
   simp at hu
  .refine⟨⟨b,(i+1)*3,none⟩,by simp[h],fun t u hu=>?_⟩
   have ht:t<(n-(i+1))*3:=by
    have:=(Ay.1 hu).1
    rwa [CP]at this
   rw[FH t ht]at hu
   rw[Addr.add_lit]
   have:=(hH ((i+1)*3+t) ch).1
   rw[Bf]at this
   exact this.trans hu
 have s1:Hid (news.length=(n-(i+1))*3):=CP
 have s2:Hid (∀u∈news,u.oneCell'=true):=by
  intro u hu
  rw[JG]at hu
  exact h1 u (Ja hu)
 have s3:Hid (∀t,t<news.length->(w.drew.cell? ⟨b,0+i*3+t,none⟩).isSome=true/\w.drew.frozen? ⟨b,0+i*3+t,none⟩=false):=by
  intro t ht
  rw[CP]at ht
  have:=hH (i*3+t) ch
  rw[G4]
  exact⟨by show(w.cell? _).isSome=true;rw[this.1];rfl,this.2⟩
 obtain⟨W1,hW1⟩:∃W1,W1=w.drew.setCells b (0+i*3) news:=⟨_,rfl⟩
 have uy : W1=putRow id (Sort.ahead w 1) b 0 (lay F (i*3) news):=by
  have:=putRow_setCells id (Sort.ahead w 1) b 0 news F (i*3) ch
  rw[putRow_self id (Sort.ahead w 1) b 0 F (holds_ahead id w 1 b 0 F hH),Gc]at this
  rw[hW1,<-this]
  rfl
 have hH1:Holds id W1 b 0 (lay F (i*3) news):=by rw[uy];exact holds_putRow id _ b 0 F _ (holds_ahead id w 1 b 0 F hH) (Lib.lay_size _ _ _)
 have Kh:(storeCells ⟨b,0+(n-1)*3,none⟩ pD 0).run Tryz.prog W1=.ok () (W1.setCells b (0+(n-1)*3) pD):=by
  have:=run_storeCells_cells (P:=Tryz.prog) b (0+(n-1)*3) pD 0 W1 (fun j hj=>by
   have hj:j<3:=hj
   have:=hH1 ((n-1)*3+j) (by rw[Lib.lay_size];omega)
   rw[show 0+(n-1)*3+0+j=0+((n-1)*3+j) by omega,this.1];rfl) (fun j hj=>by
   have hj:j<3:=hj
   have:=hH1 ((n-1)*3+j) (by rw[Lib.lay_size];omega)
   rw[show 0+(n-1)*3+0+j=0+((n-1)*3+j) by omega];exact this.2) (fun v hv=>by
   simp only[AC,ML,or_false]at hv
   rcases hv with rfl | rfl | rfl<;>rfl)
  exact this
 have hcl:∀ty c,(Builtin.clear_ #[283] ty #[.slice (some ⟨b,(n-1)*3,none⟩) 1 c]).run Tryz.prog W1=.ok (.tuple #[]) (W1.setCells b (0+(n-1)*3) pD):=fun ty c=>by
  have hv:=Tryz.zeroValue343
  rw[Bf]at Kh⊢
  have hz:(Builtin.zeroCells (Value.agg #[Value.string { data:=#[] },Value.bool false,Value.slice none 0 0]).cells 1).toList=pD:=by kernel_rfl
  simp[Builtin.clear_,run_underlying Tryz.underlying283,hv,hz,Kh]
 have Ah8:∀ty,(Builtin.clear_ #[283] ty #[.slice (some ⟨b,(i+(n-(i+1)))*3,none⟩) (n-(i+(n-(i+1)))) (cap-(i+(n-(i+1))))]).run Tryz.prog W1=.ok (.tuple #[]) (W1.setCells b (0+(n-1)*3) pD):=fun ty=>by
  have e1:i+(n-(i+1))=n-1:=by omega
  have e2:n-(n-1)=1:=by omega
  rw[e1,e2];exact hcl ty _
 have X:Aside (W1=putRow id (Sort.ahead w 1) b 0 (lay F (i*3) news)):=uy
 have hW:Hid (W1=w.drew.setCells b (0+i*3) news):=hW1
 have Y:Aside (news=F.toList.drop ((i+1)*3)):=JG
 have Z:Aside (news.length=(n-(i+1))*3):=CP
 have yt:i<=cap:=by omega
 have hjc:i+1<=cap:=by omega
 have mixed:=Go.Eng.hm
 have hb1:(0:Int)<=(i:Int)+1:=by omega
 have Ou:(i:Int)+1<=(n:Int):=by omega
 clear hW1 uy hH1 hH FH JG CP Kh hcl
 go_enter Tryz.func344,Tryz.ntmps344
 go_wp2_with fail
 go_region_law_o (refine step_append_room rfl (.tmp 22) (.tmp 25) 283 rfl 343 i0 3 Tryz.underlying283 sN uY b 0 i cap (by simp[Act.eval,Act.put]) A (n-(i+1)) (cap-(i+1)) news (by simp[Act.eval,Act.put]) s1.out jh.out s2.out ch s3.out ?_;rw[<-hW.out])
 go_wp2
 go_ret
 refine⟨by rw[show i+(n-(i+1))=n-1 by omega];rfl,?_⟩
 rw[X.out]
 have e1:=Y.out
 have e2:=Z.out
 rw[<-e1]
 have:=putRow_setCells id (Sort.ahead w 1) b 0 pD (lay F (i*3) news) ((n-1)*3) (by rw[Lib.lay_size];show _+3<=_;omega)
 rw[Gc,Bf]at this
 exact this
abbrev cg:List AV:=[Go.Eng.vs ⟨#[]⟩,vb false,nzA]
theorem AbM(l:List Tm)(i:Nat)(hi:i<l.length) :
  Bc Tryz.prog 344 [.msl 1000 l.length,vi i,vi ((i:Int)+1)] (Ap [(1000,.arr 3 (l.map AO))] Af) fun r h'=>r=.msl 2000 (l.length-1)/\h'=Ap [(1000,.dead),(2000,.arr 3 ((l.eraseIdx i).map AO))] Af:=by
 have hE:F1 Tryz.prog 344:=ah 344 Tryz.func344 Wk rfl
 have CP:(l.eraseIdx i).length=l.length-1:=List.length_eraseIdx_of_lt hi
 have H4:=WM (P:=Tryz.prog) (f:=344) (es:=l.map AO) (sz:=3) (rest:=[.int .i64 i,.int .i64 ((i:Int)+1)]) (n':=l.length-1) (Q:=fun F0=>F0=(l.eraseIdx i).map AO++[cg]) hE (fun e=>by
  rw[DJ]at e;subst e;simp at hi) (by rw[Bb];omega) ?_
 .rw[Bb]at H4
  refine⟨hE,fun g w vals q1 q2 q3=>(H4.2 g w vals q1 q2 q3).mono fun _ _ ⟨v,r,h',g',e1,⟨e2,F0,p1,p2⟩,rest⟩=>⟨v,r,h',g',e1,⟨e2,by rw[p2,p1,HW (by rw[Bb,CP];exact Ak _),At (by rw[Bb,CP];exact Ak _)]⟩,rest⟩⟩
 .intro g w b cap F hr hF hH hb hc
  rw[Bb]at hF hc⊢
  have hu:∀e∈l.map AO,e.length=3:=fun e he=>by
   obtain⟨t,_,rfl⟩:=Ai.1 he;rfl
  refine(lM w b cap i l.length F hF hi hc hH hr.2.1).mono ?_
  rintro e w' ⟨rfl,rfl⟩
  refine⟨rfl,_,_,1,#[],?_,rfl,?_,fun cs hcs=>?_,fun g w hr=>?_,rfl⟩
  .rw[Lib.lay_size,Lib.lay_size]
  .rw[Ac,Bb,CP,Bg];omega
  .rcases AP.1 hcs with h | h
   .obtain⟨t,_,rfl⟩:=Ai.1 h;rfl
   .rw[Aq.1 h];rfl
  .rw[vg F i l.length hF hi pD rfl,List.eraseIdx_eq_take_drop_succ,Ci,As,Ci,Tg,List.map_drop,<-Me _ i hu,<-Qj _ (i+1) hu]
   refine CU.append (CU.append (hr.take _) (hr.drop _)) ?_
   exact N6 g w Fx pD fun x hx=>by
    simp only[AC,ML,or_false]at hx
    rcases hx with rfl | rfl | rfl<;>rfl
end Go.Eng
namespace Go.Eng
open Go.Proofs
variable {nm:ByteArray->ByteArray}{l r c:List Tm}{t:Tm}{i k:Nat}(a:List Tm)(s:ByteArray)(b:List Tm)(p:ByteArray)
theorem xC(l:List Tm)(hl:B8 l)(DD:l≠[]):Bc Tryz.prog 345 [sl AO l] (Ap [] Af) fun r h'=>r=.msl 2000 l.length/\h'=Ap [(2000,.arr 3 (l.map AO))] Af:=by
 refine Cu (M2 (pla [(5,3)] [])) [(5,2000)] rfl CW hm rfl Tryz.func345 Wk rfl (Nz rfl) Wk rfl ?_;have Hw:Cf 3 (l.map AO)/\([]:List (List AV)).length=0/\(([]:List (List AV)).length+(l.map AO).length)*48<=140737488355328/\([]:List (List AV)).length+(l.map AO).length<=9223372036854775807:=by
  refine⟨DK (enc:=AO) (n:=3) (fun _=>rfl) l,rfl,?_,?_⟩<;>simp only[Au,Lm]<;>unfold B8 at hl<;>omega
 refine Yi ?_ ?_
 .intro _;refine Yi Hw ?_;have e1:AV.msl 2000 (([]:List (List AV)).length+(l.map AO).length)=.msl 2000 l.length:=by simp
  refine Xi (.msl 2000 (([]:List (List AV)).length+(l.map AO).length)) (Yi (.refl _) (Yi e1 ?_))
  rfl
 .intro h;exact absurd (DJ.1 h) DD
theorem ug(x:Tm)(p:ByteArray):PC 343 [.agg (AO x),.cptr [vs p]] (vb (decide (x.path=p))):=by
 refine Ps Ej Tryz.func343 rfl (Nz rfl) (Yi ?_ ?_)
 .intro h;rw[Ar h];exact .refl _
 .intro h;rw[Av h];exact .refl _
theorem Ol{p:ByteArray}:∀{c:List Tm} {i:Nat},(EW c).Nodup->∀(hi:i<c.length),c[i].path=p->c.eraseIdx i=Ga c p
 |t::c,0,hn,_,h=>by
  have h:t.path=p:=h;unfold EW at hn;rw[AL,Dk]at hn;unfold Ga;rw[El,Aj (by simp[h])];show c=_;rw[List.filter_eq_self.2 fun u hu=>by
   have:u.path≠p:=fun e=>hn.1 (h▸e▸Ai.2 ⟨u,hu,rfl⟩)
   simp[this]]
 |t::c,i+1,hn,hi,h=>by
  have hi:i<c.length:=by simpa using hi
  have h:c[i].path=p:=h;unfold EW at hn;rw[AL,Dk]at hn
  have:t.path≠p:=fun e=>hn.1 (by rw[e,<-h];exact Ai.2 ⟨_,Al hi,rfl⟩)
  have ih:=Ol hn.2 hi h;unfold Ga at ih⊢;rw[List.eraseIdx_cons_succ,El,Ao (by simp[this]),ih]
theorem Rv(hl:B8 l)(h:Df l=some c):B8 c:=by
 have h1:=Pd l l.length (Ak _);rw[B9]at h1;have h2:c=(Fq l).filter fun t=>!G5 t:=by
  unfold Df at h;split at h
  .cases h
  .exact(Cq h).symm
 have h3:c.length<=(Fq l).length:=by rw[h2];exact Bv _ _
 have h4:(Fq l).length=(DM l).length:=by
  have:=(Py (Iy (Iv l)) (Iy (IF (EL l)))).2 (JZ l)
  exact this.length_eq.symm
 unfold B8 at hl⊢;omega
abbrev qY:AV:=.tup [.agg cg,nzA,vb false]
abbrev tc:Th:=⟨[3],[],[],[],[],[],[],[],[(30,0),(34,1)],[],[]⟩
theorem lu(l:List Tm)(p:ByteArray)(hl:B8 l)(hs:∀t∈l,B8 t.set)(hn:FN l p=none):PC 311 [sl AO l,vs p] qY:=by
 have hc:=c29 l hl hs;unfold FN at hn;cases e:Df l with
 |none=>
  have e1:Hi l=.tup [sl AO [],vb false]:=by unfold Hi RK;rw[e];rfl
  rw[e1]at hc;have hi:=pZ (Db.ptr [vs p]) [] (fun x=>decide (x.path=p)) (fun x _=>ug x p) B0;refine Ps tc Tryz.func311 rfl (Nz rfl) (Xi .pure (Xi _ (Yi (hc) (Xi .pure (Xi _ (Yi (hi) (Yi (Nz rfl) (yN ?_))))))));exact .refl _
 |some c=>
  rw[e]at hn;have hn:(match DC c p with | none=>none | some t=>some (t,Ga c p))=none:=hn;have uF:DC c p=none:=by
   cases h:DC c p with
   |none=>rfl
   |some t=>rw[h]at hn;cases hn
  have e1:Hi l=.tup [sl AO c,vb true]:=by unfold Hi RK;rw[e];rfl
  rw[e1]at hc;have yn:=Rv hl e;have hi:=pZ (Db.ptr [vs p]) c (fun x=>decide (x.path=p)) (fun x _=>ug x p) (by unfold B8 at yn;omega);have hid:JI (fun x:Tm=>decide (x.path=p)) c 0=-1:=by
   rcases Qs (p:=fun x:Tm=>decide (x.path=p)) c 0 with ⟨h1,_⟩ | ⟨i,x,_,_,h3⟩
   .exact h1
   .unfold DC at uF;rw[h3]at uF;cases uF
  rw[hid]at hi;refine Ps tc Tryz.func311 rfl (Nz rfl) (Xi .pure (Xi _ (Yi (hc) (Xi .pure (Xi _ (Yi (hi) (Yi ?_ ?_)))))))
  .intro _;refine Yi (Nz rfl) (yN ?_);exact .refl _
  .intro h;exact absurd (show(-1:Int)<0 by decide) h
abbrev vz:Th:=⟨[3],[],[],[],[],[],[],[],[(30,0),(34,2)],[],[]⟩
theorem lw(l:List Tm)(p:ByteArray)(hl:B8 l)(hs:∀t∈l,B8 t.set)(hn:FN l p=some (t,r)) :
  Bc Tryz.prog 311 [sl AO l,vs p] (Ap [] Af) fun v h'=>v=.tup [.agg (AO t),.msl 2000 r.length,vb true]/\h'=Ap [(2000,.arr 3 (r.map AO))] Af:=by
 have hc:=c29 l hl hs;unfold FN at hn;cases e:Df l with
 |none=>rw[e]at hn;cases hn
 |some c=>
  rw[e]at hn;have hn:(match DC c p with | none=>none | some t=>some (t,Ga c p))=some (t,r):=hn;have TK:DC c p=some t/\Ga c p=r:=by
   cases h:DC c p with
   |none=>rw[h]at hn;cases hn
   |some t=>rw[h]at hn;cases hn;exact Zr
  have e1:Hi l=.tup [sl AO c,vb true]:=by unfold Hi RK;rw[e];rfl
  rw[e1]at hc;have yn:=Rv hl e;have hi:=pZ (Db.ptr [vs p]) c (fun x=>decide (x.path=p)) (fun x _=>ug x p) (by unfold B8 at yn;omega);rcases Qs (p:=fun x:Tm=>decide (x.path=p)) c 0 with ⟨_,h2⟩ | ⟨i,x,h1,h2,h3⟩
  .unfold DC at TK;rw[h2]at TK;cases TK.1
  have hx:x=t:=by
   have:=TK.1
   unfold DC at this;rw[h3]at this;exact Cq this
  subst hx;rw[h1,EC]at hi;obtain⟨yt,hie⟩:=Ay.1 h2;have her:c.eraseIdx i=r:=by
   rw[<-TK.2];exact Ol (IF (Fj e)) yt (by rw[hie];exact HL TK.1)
  have hlr:c.length-1=r.length:=by rw[<-her,List.length_eraseIdx_of_lt yt]
  have DD:c≠[]:=fun h=>by subst h;simp at yt
  have Ahc:c.length<=1073741824:=yn;refine Cu (M2 vz) [(13400,2000)] rfl CW hm rfl Tryz.func311 Wk rfl (Nz rfl) Wk rfl (Xi .pure (Xi _ (Yi (hc) (Xi .pure (Xi _ (Yi (hi) (Yi ?_ ?_)))))))
  .intro h;omega
  intro _;have hg:(c.map AO)[((i:Nat):Int).toNat]?=some (AO x):=by rw[Ch,AH,h2];rfl
  refine Xi (AO x) (Yi (Yi (Nn i) hg) (Yi rfl (yN (Xi c.length (Xi 3 (Xi (c.map AO) (Yi rfl (Yi (xC c yn DD) (Yi (Ii i ch) (Xi (c.length-1) (Xi ((c.eraseIdx i).map AO) (Yi rfl (Yi (AbM c i yt) (yN (Yi Wk (yN ?_))))))))))))))));have e2:AV.tup [.agg (AO x),.msl 2000 (c.length-1),vb true]=.tup [.agg (AO x),.msl 2000 r.length,vb true]:=by rw[hlr]
  have e3:Ap [(2000,HO.arr 3 ((c.eraseIdx i).map AO))] Af=Ap [(2000,.arr 3 (r.map AO))] Af:=by rw[her]
  exact Xi _ (Yi (.refl _) (Yi e2 e3))
abbrev gE:Th:=⟨[],[],[],[],[],[],[],[],[],[(24,9),(30,12)],[2,3,5,6]⟩
abbrev vH:AV:=.tup [sl AO (B1 a b p).1,vi (B1 a b p).2]
theorem XV{p:ByteArray}(h:FN l p=some (t,r)):∃c,Df l=some c/\t∈c/\r=Ga c p:=by
 unfold FN at h;cases e:Df l with
 |none=>rw[e]at h;cases h
 |some c=>
  rw[e]at h;have h:(match DC c p with | none=>none | some t=>some (t,Ga c p))=some (t,r):=h;cases e2:DC c p with
  |none=>rw[e2]at h;cases h
  |some u=>rw[e2]at h;cases h;exact⟨c,rfl,Fz e2,rfl⟩
theorem XW{p:ByteArray}(hl:B8 l)(h:FN l p=some (t,r)):B8 t.set/\B8 r/\∀u∈r,B8 u.set:=by
 obtain⟨c,h1,h2,rfl⟩:=XV h;have hs:=Fj h1;refine⟨Qe (hs.canon t h2),?_,fun u hu=>Qe (hs.canon u (By.1 hu).1)⟩
 have:=Rv hl h1
 have h3:(Ga c p).length<=c.length:=Bv _ _;unfold B8 at *;omega
theorem lA(h:Df l=some c):c.length<=l.length:=by
 have h1:=Pd l l.length (Ak _);rw[B9]at h1;have h2:c=(Fq l).filter fun t=>!G5 t:=by
  unfold Df at h;split at h
  .cases h
  .exact(Cq h).symm
 have h3:c.length<=(Fq l).length:=by rw[h2];exact Bv _ _
 have h4:(Fq l).length=(DM l).length:=by
  have:=(Py (Iy (Iv l)) (Iy (IF (EL l)))).2 (JZ l)
  exact this.length_eq.symm
 omega
theorem XX{p:ByteArray}(h:FN l p=some (t,r)):r.length<=l.length:=by
 obtain⟨c,h1,h2,rfl⟩:=XV h;have h3:(Ga c p).length<=c.length:=Bv _ _
 have:=lA h1
 omega
theorem iT(a b:Bx):B8 (QZ a b):=by
 unfold B8;have:=IR (bW a b);omega
theorem AbE(ha:a.length<=500000000)(hb:b.length<=500000000)(hsa:∀t∈a,B8 t.set)(qA:∀t∈b,B8 t.set):PC 262 [sl AO a,sl AO b,vs p] (vH a b p):=by
 have ym:B8 a:=by unfold B8;omega
 have uD:B8 b:=by unfold B8;omega
 have er:∀{l:List Tm} {e:Int},B1 a b p=(l,e)->vH a b p=.tup [sl AO l,vi e]:=fun h=>by unfold vH;rw[h]
 have e0:CY (.tup [nzA,vi 1]) (.tup [.slice .none [],vi 1]):=CY.tup ⟨.nil,.refl _,trivial⟩;cases h1:FN a p with
 |none=>
  have hr:B1 a b p=([],1):=by unfold B1;rw[h1]
  have c1:=lu a p ym hsa h1;cases h2:FN b p with
  |none=>
   have c2:=lu b p uD qA h2;refine Ps gE Tryz.func262 rfl (Nz rfl) (Xi .pure (Xi _ (Yi (c1) (yN (Xi ⟨[(1,sl AO b),(2,vs p),(8,.ref 8 0),(9,nzA),(10,vb false)],[(8,.cells cg)],Af⟩ (Yi ⟨Z5,Z1,Fh,Tv⟩ (Xi .pure (Xi _ (Yi (c2) (yN (Xi ⟨[(8,.ref 8 0),(9,nzA),(10,vb false),(11,.ref 11 0),(12,nzA),(13,vb false)],[(8,.cells cg),(11,.cells cg)],Af⟩ (Yi ⟨Z6,Z2,Fh,Tv⟩ ?_))))))))))))
   exact e0.trans (.of_eq (er hr).symm)
  |some q2=>
   obtain⟨t2,r2⟩:=q2;have c2:=lw b p uD qA h2;refine Ps gE Tryz.func262 rfl (Nz rfl) (Xi .pure (Xi _ (Yi (c1) (yN (Xi ⟨[(1,sl AO b),(2,vs p),(8,.ref 8 0),(9,nzA),(10,vb false)],[(8,.cells cg)],Af⟩ (Yi ⟨Z5,Z1,Fh,Tv⟩ ?_))))))
   have z2:r2.length=(r2.map AO).length:=by rw[Lm]
   refine Xi (.gen [] 1) (Yi rfl (c2.imp ?_));intro v2 g2 q2;have q21:=q2.1;have q22:=q2.2;subst q21;subst q22;refine yN (Xi ⟨[(8,.ref 8 0),(9,nzA),(10,vb false),(11,.ref 11 0),(12,.msl 12600 r2.length),(13,vb true)],[(8,.cells cg),(11,.cells (AO t2)),(12600,.arr 3 (r2.map AO))],Af⟩ (Yi ⟨Z6,Z3,Fh,Tv⟩ (Yi z2 ?_)));exact e0.trans (.of_eq (er hr).symm)
 |some q1=>
  obtain⟨t1,r1⟩:=q1;have c1:=lw a p ym hsa h1;obtain⟨f1,f2,f3⟩:=XW ym h1;cases h2:FN b p with
  |none=>
   have hr:B1 a b p=([],1):=by unfold B1;rw[h1,h2]
   have c2:=lu b p uD qA h2;refine Ps gE Tryz.func262 rfl (Nz rfl) (Xi (.gen [] 1) (Yi rfl (c1.imp ?_)));intro v1 g1 q1;have q11:=q1.1;have rr:=q1.2;subst q11;subst rr;refine yN (Xi ⟨[(1,sl AO b),(2,vs p),(8,.ref 8 0),(9,.msl 11900 r1.length),(10,vb true)],[(8,.cells (AO t1)),(11900,.arr 3 (r1.map AO))],Af⟩ (Yi ⟨Z5,Z2,Fh,Tv⟩ ?_))
   have z1:r1.length=(r1.map AO).length:=by rw[Lm]
   refine Yi z1 (Xi .pure (Xi _ (Yi (c2) (yN (Xi ⟨[(8,.ref 8 0),(9,.slice (.id 11900 3) (r1.map AO)),(10,vb true),(11,.ref 11 0),(12,nzA),(13,vb false)],[(8,.cells (AO t1)),(11,.cells cg),(11900,.tok 3 (r1.map AO).length)],Af⟩ (Yi ⟨Z6,Z3,Fh,Tv⟩ ?_))))))
   exact e0.trans (.of_eq (er hr).symm)
  |some q2=>
   obtain⟨t2,r2⟩:=q2;have c2:=lw b p uD qA h2;obtain⟨g1,g2,g3⟩:=XW uD h2;refine Ps gE Tryz.func262 rfl (Nz rfl) (Xi (.gen [] 1) (Yi rfl (c1.imp ?_)));intro v1 g1 q1;have q11:=q1.1;have rr:=q1.2;subst q11;subst rr;refine yN (Xi ⟨[(1,sl AO b),(2,vs p),(8,.ref 8 0),(9,.msl 11900 r1.length),(10,vb true)],[(8,.cells (AO t1)),(11900,.arr 3 (r1.map AO))],Af⟩ (Yi ⟨Z5,Z2,Fh,Tv⟩ ?_))
   have z1:r1.length=(r1.map AO).length:=by rw[Lm]
   have z2:r2.length=(r2.map AO).length:=by rw[Lm]
   refine Yi z1 (Xi (.gen [] 1) (Yi rfl (c2.imp ?_)));intro v2 g2 q2;have q21:=q2.1;have q22:=q2.2;subst q21;subst q22;refine yN (Xi ⟨[(8,.ref 8 0),(9,.slice (.id 11900 3) (r1.map AO)),(10,vb true),(11,.ref 11 0),(12,.msl 12600 r2.length),(13,vb true)],[(8,.cells (AO t1)),(11,.cells (AO t2)),(11900,.tok 3 (r1.map AO).length),(12600,.arr 3 (r2.map AO))],Af⟩ (Yi ⟨Z6,Z4,Fh,Tv⟩ (Yi z2 (Xi ⟨[(8,.ref 8 0),(9,.slice (.id 11900 3) (r1.map AO)),(11,.ref 11 0),(12,.slice (.id 12600 3) (r2.map AO))],[(8,.cells (AO t1)),(11,.cells (AO t2)),(11900,.tok 3 (r1.map AO).length),(12600,.tok 3 (r2.map AO).length)],Af⟩ (Yi ⟨Z4,Z4,Fh,Tv⟩ ?_)))))
   have l1:=XX h1;have l2:=XX h2;have b1:Cf 3 (r2.map AO)/\(r1.map AO).length=(r1.map AO).length/\((r1.map AO).length+(r2.map AO).length)*48<=140737488355328/\(r1.map AO).length+(r2.map AO).length<=9223372036854775807:=
    ⟨DK (enc:=AO) (n:=3) (fun _=>rfl) r2,rfl,by rw[Lm,Lm];omega,by rw[Lm,Lm];omega⟩
   refine Yi b1 (Yi (Nz rfl) (yN (Xi _ (Yi (AbI t1 t2 f1 g1) ?_))));have b2:Cf 3 [AO (Dz t1 t2)]/\(r1.map AO++r2.map AO).length=(r1.map AO).length+(r2.map AO).length/\((r1.map AO++r2.map AO).length+[AO (Dz t1 t2)].length)*48<=140737488355328/\(r1.map AO++r2.map AO).length+[AO (Dz t1 t2)].length<=9223372036854775807:=
    ⟨⟨rfl,trivial⟩,by rw[Ac],by rw[Ac,Lm,Lm,Bg];omega,by rw[Ac,Lm,Lm,Bg];omega⟩
   refine Yi b2 ?_;have ye:=c29 (r1++r2++[Dz t1 t2]) (by unfold B8;simp only[Ac,Bg];omega) (fun u hu=>by
    rcases AP.1 hu with hu | hu
    .rcases AP.1 hu with hu | hu
     .exact f3 u hu
     .exact g3 u hu
    .rw[Aq.1 hu];exact iT _ _)
   have e1:sl AO (r1++r2++[Dz t1 t2])=.slice .none (r1.map AO++r2.map AO++[AO (Dz t1 t2)]):=by simp
   have hc1:PC 312 [.slice .none (r1.map AO++r2.map AO++[AO (Dz t1 t2)])] (Hi (r1++r2++[Dz t1 t2])):=e1▸ye;cases wS:Df (r1++r2++[Dz t1 t2])with
   |none=>
    have hr:B1 a b p=([],8):=by unfold B1;rw[h1,h2];dsimp only;rw[wS]
    have ec:Hi (r1++r2++[Dz t1 t2])=.tup [sl AO [],vb false]:=by unfold Hi RK;rw[wS];rfl
    have hc:PC 312 [.slice .none (r1.map AO++r2.map AO++[AO (Dz t1 t2)])] (.tup [sl AO [],vb false]):=ec▸hc1;have e8:CY (.tup [nzA,vi 8]) (.tup [.slice .none [],vi 8]):=CY.tup ⟨.nil,.refl _,trivial⟩;refine Xi _ (Yi (hc) (Yi Wk (Xi ⟨[(14,sl AO []),(15,vb false)],[],Af⟩ (Yi ⟨Z2,Tv,Fh,Tv⟩ ?_))))
    exact e8.trans (.of_eq (er hr).symm)
   |some o=>
    have hr:B1 a b p=(o,0):=by unfold B1;rw[h1,h2];dsimp only;rw[wS]
    have ec:Hi (r1++r2++[Dz t1 t2])=.tup [sl AO o,vb true]:=by unfold Hi RK;rw[wS];rfl
    have hc:PC 312 [.slice .none (r1.map AO++r2.map AO++[AO (Dz t1 t2)])] (.tup [sl AO o,vb true]):=ec▸hc1;refine Xi _ (Yi (hc) (Yi Wk (Xi ⟨[(14,sl AO o),(15,vb true)],[],Af⟩ (Yi ⟨Z2,Tv,Fh,Tv⟩ ?_))))
    exact .of_eq (er hr).symm
def fB(h s:Nat->HO):Nat->Bool
 |0=>true
 |n+1=>(match h (1000+n)with |.free=>true |_=>(match s (1000+n)with |.free=>false |_=>true))&&fB h s n
theorem UD{h s:Nat->HO}:∀{n:Nat},fB h s n=true->∀j,j<n->h (1000+j)≠.free->s (1000+j)≠.free
 |n+1,hd,j,hj,hn=>by
  simp only[fB,Ag]at hd;rcases B4 j n with h1 | h1
  .exact UD hd.2 j h1 hn
  .have:j=n:=by omega
   subst this
   have:=hd.1
   intro e;split at this
   .rename_i q;exact hn q
   .rw[e]at this;cases this
theorem BP{h s:Nat->HO}(hd:fB h s 1000=true):∀j,1000<=j->j<2000->h j≠.free->s j≠.free:=fun j h1 h2=>by
 have:=UD hd (j-1000) ch
 rw[show 1000+(j-1000)=j by omega]at this;exact this
abbrev tt:List AV:=[vs ⟨#[]⟩,vi 0,vi 0,vi 0,nzA,vs ⟨#[]⟩,vs ⟨#[]⟩,vs ⟨#[]⟩,vb false]
abbrev gz:Option Rl->AV
 |some r=>.tup [.agg (AF r),vb true]
 |none=>.tup [.agg tt,vb false]
theorem lX{α:Type}{p:α->Bool}{l:List α}(hi:i<l.length)(hb:∀j (hj:j<l.length),j<i->p l[j]=false)(h:p l[i]=true):l.find? p=some l[i]:=by
 rw[List.find?_eq_some_iff_getElem];exact⟨h,i,hi,rfl,fun j hj=>by rw[hb j ch hj];rfl⟩
theorem rn(v:Ver):0<=plc v/\plc v<1000000:=by
 unfold plc;cases h:Cz v with
 |true=>exact Kq h
 |false=>simp
abbrev tA(t:List Tm):Prop:=t.length<=500000000/\∀u∈t,B8 u.set
theorem ua:PC 198 [vs s] (vb false):=by
 refine Ps Ej Tryz.func198 rfl (Nz rfl) (Yi ?_ ?_)
 .intro h;exact absurd rfl (show s≠s from h)
 .intro _;exact .refl _
theorem xA(z:Int):PC 265 [vi z] (vb false):=by
 refine Ps Ej Tryz.func265 rfl (Nz rfl) (Yi ?_ ?_)
 .intro h;exact absurd rfl (show z≠z from h)
 .intro _;exact .refl _
theorem Abu(a b:ByteArray):PC 145 [vs a,vs b] (vi (La a b)):=by
 refine Ps Ej Tryz.func145 rfl (Nz rfl) (Xi .pure (Xi _ (Yi (ua a) (Xi .pure (Xi _ (Yi (ua b) (Yi ?_ ?_)))))))
 .intro h;exact .of_eq (Aa vi (show(-1:Int)=La a b by unfold La;rw[Ao (by rw[Gk];exact h)]))
 .intro h;refine Yi ?_ ?_
  .intro h2;exact .of_eq (Aa vi (show(1:Int)=La a b by unfold La;rw[Aj (by rw[Gk];exact h),Ao (by rw[Gk];exact h2)]))
  .intro h2;exact .of_eq (Aa vi (show(0:Int)=La a b by unfold La;rw[Aj (by rw[Gk];exact h),Aj (by rw[Gk];exact h2)]))
theorem ub(a b:Int):PC 199 [vi a,vi b] (vi (G6 a b)):=by
 refine Ps Ej Tryz.func199 rfl (Nz rfl) (Xi .pure (Xi _ (Yi (xA a) (Xi .pure (Xi _ (Yi (xA b) (Yi ?_ ?_)))))))
 .intro h;exact .of_eq (Aa vi (show(-1:Int)=G6 a b by unfold G6;rw[Ao h]))
 .intro h;refine Yi ?_ ?_
  .intro h2;exact .of_eq (Aa vi (show(1:Int)=G6 a b by unfold G6;rw[Aj h,Ao h2]))
  .intro h2;exact .of_eq (Aa vi (show(0:Int)=G6 a b by unfold G6;rw[Aj h,Aj h2]))
theorem Abt(a b:Int):PC 144 [.slice .none [[vi a],[vi b]]] (vi (if a≠0 then a else b)):=by
 refine Ps Ej Tryz.func144 rfl (Nz rfl) (Xi {i:Nat // i<=2/\(0<i->a=0)/\(1<i->b=0)} (Xi (fun i=>⟨[(3,vi 0),(6,.slice .none [[vi a],[vi b]]),(7,vi 2),(8,vi i.1)],[],Af⟩) (Xi (fun i=>2-i.1) (Yi (Xi ⟨0,by omega,by omega,by omega⟩ ?_) ?_))))
 .exact⟨Z4,Tv,Fh,Tv⟩
 intro⟨i,h1,h2,h3⟩;refine Yi ?_ ?_
 .intro h;have h:(i:Int)<2:=h
  match i,h1,h2,h3,h with
  |0,h1,h2,h3,h=>
   refine Xi [vi a] (Yi (Yi (Bn _) rfl) (Yi rfl (Yi ?_ ?_)))
   .intro h4;exact .of_eq (Aa vi (Ao h4).symm)
   .intro h4;refine Yi (Ii 0 ch) (Xi ⟨1,by omega,fun _=>by omega,fun q=>absurd q Cl⟩ ?_);exact⟨by show 2-1<2-0;decide,Z4,Tv,Fh,Tv⟩
  |1,h1,h2,h3,h=>
   have ha:=h2 Cl;refine Xi [vi b] (Yi (Yi (by show(0:Int)<=1;decide) rfl) (Yi rfl (Yi ?_ ?_)))
   .intro h4;exact .of_eq (Aa vi (Aj ch).symm)
   .intro h4;refine Yi (Ii 1 ch) (Xi ⟨2,by omega,fun _=>ha,fun q=>by omega⟩ ?_);exact⟨by show 2-2<2-1;decide,Z4,Tv,Fh,Tv⟩
  |i+2,h1,h2,h3,h=>omega
 .intro h;have h:¬(i:Int)<2:=h;have ha:=h2 ch;have hb:=h3 ch;exact .of_eq (Aa vi (show(0:Int)=if a≠0 then a else b by rw[Aj ch,hb]))
theorem Uw(a b:Ver)(i:Nat)(hi:i<3)(h:∀j,j<i->G6 (part a j) (part b j)=0)(hn:G6 (part a i) (part b i)≠0):PU a b=G6 (part a i) (part b i):=by
 unfold PU
 match i,hi,h,hn with
 |0,_,_,hn=>exact Ao hn
 |1,_,h,hn=>
  have h0:G6 a.a b.a=0:=h 0 Cl;rw[Aj ch];exact Ao hn
 |2,_,h,hn=>
  have h0:G6 a.a b.a=0:=h 0 Cl;have h1:G6 a.b b.b=0:=h 1 Cl;rw[Aj ch,Aj ch];rfl
theorem lH(a b:Ver)(h:∀j,j<3->G6 (part a j) (part b j)=0):PU a b=0:=by
 unfold PU;have h0:G6 a.a b.a=0:=h 0 Cl;have h1:G6 a.b b.b=0:=h 1 Cl;have h2:G6 a.c b.c=0:=h 2 Cl;rw[Aj ch,Aj ch,h2]
theorem Abv(a b:Ver):PC 146 [.agg (DL a),.agg (DL b)] (vi (PU a b)):=by
 refine Ps Ej Tryz.func146 rfl (Nz rfl) (yN (Xi _ (Yi (t7 a) (yN (Xi _ (Yi (t7 b) (Yi (Nz rfl) (yN (Yi Wk (Xi {i:Nat // i<=3/\∀j,j<i->G6 (part a j) (part b j)=0} (Xi (fun i=>⟨[(5,.ref 5 0),(6,.ref 6 0),(13,vi i.1)],[(5,.cells (DL a)),(6,.cells (DL b))],Af⟩) (Xi (fun i=>3-i.1) (Yi (Xi ⟨0,by omega,fun j h=>by omega⟩ ?_) ?_)))))))))))))
 .exact⟨Z3,Z2,Fh,Tv⟩
 intro⟨i,h1,h2⟩;refine Yi ?_ ?_
 .intro h;have h:(i:Int)<3:=h;have next:G6 (part a i) (part b i)=0->∀j,j<i+1->G6 (part a j) (part b j)=0:=fun hz j hj=>by
   rcases B4 j i with q | q
   .exact h2 j q
   .have:j=i:=by omega
    subst this;exact hz
  match i,h1,h2,h,next with
  |0,h1,h2,h,next=>
   refine Yi ⟨by show(0:Int)<=0;decide,by show(0:Int)<3;decide⟩ ?_;refine Yi ⟨by show(0:Int)<=0;decide,by show(0:Int)<3;decide⟩ ?_;refine Xi _ (Yi (ub (part a 0) (part b 0)) (Yi Wk (Yi ?_ ?_)))
   .intro h4;exact .of_eq (Aa vi (Uw a b 0 Cl h2 h4).symm)
   .intro h4;refine Yi (Ii 0 ch) (Xi ⟨1,by omega,next (GL h4)⟩ ?_)
    exact⟨by show 3-1<3-0;decide,Z3,Z2,Fh,Tv⟩
  |1,h1,h2,h,next=>
   refine Yi ⟨by show(0:Int)<=1;decide,by show(1:Int)<3;decide⟩ ?_;refine Yi ⟨by show(0:Int)<=1;decide,by show(1:Int)<3;decide⟩ ?_;refine Xi _ (Yi (ub (part a 1) (part b 1)) (Yi Wk (Yi ?_ ?_)))
   .intro h4;exact .of_eq (Aa vi (Uw a b 1 Cl h2 h4).symm)
   .intro h4;refine Yi (Ii 1 ch) (Xi ⟨2,by omega,next (GL h4)⟩ ?_)
    exact⟨by show 3-2<3-1;decide,Z3,Z2,Fh,Tv⟩
  |2,h1,h2,h,next=>
   refine Yi ⟨by show(0:Int)<=2;decide,by show(2:Int)<3;decide⟩ ?_;refine Yi ⟨by show(0:Int)<=2;decide,by show(2:Int)<3;decide⟩ ?_;refine Xi _ (Yi (ub (part a 2) (part b 2)) (Yi Wk (Yi ?_ ?_)))
   .intro h4;exact .of_eq (Aa vi (Uw a b 2 Cl h2 h4).symm)
   .intro h4;have h4:¬G6 (part a 2) (part b 2)≠0:=h4;refine Yi (Ii 2 ch) (Xi ⟨3,by omega,next (GL h4)⟩ ?_)
    exact⟨by show 3-3<3-2;decide,Z3,Z2,Fh,Tv⟩
  |i+3,h1,h2,h,next=>omega
 .intro h;have h:¬(i:Int)<3:=h;exact .of_eq (Aa vi (lH a b fun j hj=>h2 j ch).symm)
theorem xu(a b:Rl):PC 85 [.agg (AF a),.agg (AF b)] (vi (Dy a b)):=by
 refine Ps Ej Tryz.func85 rfl (Nz rfl) (Xi _ (Yi (Abu a.path b.path) (Yi (Nz rfl) (yN (Xi _ (Yi (Abv a.ver b.ver) (Xi _ (Yi (Abt (La a.path b.path) (PU a.ver b.ver)) (Yi Wk ?_)))))))));exact .refl _
abbrev Gi:Prop:=s.size<=1073741824
abbrev J7(q:Rq):Prop:=B8 q.set/\Gi q.path
abbrev En(r:Rl):Prop:=Gi r.path/\∀q∈r.reqs,J7 q
abbrev fZ(nm:ByteArray->ByteArray)(p:ByteArray):AV:=match CG p with
 |some m=>.tup [vs (nm p),vi m,vi 0]
 |none=>.tup [vs ⟨#[]⟩,vi 0,vi 4]
abbrev Wf(nm:ByteArray->ByteArray):Prop:=∀p:ByteArray,Gi p->PC 167 [vs p] (fZ nm p)
theorem Wf.none(h:Wf nm){p:ByteArray}(hp:Gi p)(e:CG p=.none):PC 167 [vs p] (.tup [vs ⟨#[]⟩,vi 0,vi 4]):=by
 have:=h p hp;unfold fZ at this;rw[e]at this;exact this
theorem Wf.some(h:Wf nm){p:ByteArray}{m:Int}(hp:Gi p)(e:CG p=.some m):PC 167 [vs p] (.tup [vs (nm p),vi m,vi 0]):=by
 have:=h p hp;unfold fZ at this;rw[e]at this;exact this
theorem xv(hL:Wf nm)(q:Rq)(hq:B8 q.set)(hp:Gi q.path):PC 107 [.agg (A8 q),.v (.pointer none)] (vi (I2 none q)):=by
 cases SF:CG q.path with
 |none=>
  have e:(4:Int)=I2 none q:=by unfold I2;rw[SF];rfl
  have hl:=hL.none hp SF;refine Ps Ej Tryz.func107 rfl (Nz rfl) (Xi .pure (Xi _ (Yi (hl) (Yi ?_ ?_))))
  .intro _;exact .of_eq (Aa vi e)
  .intro h;exact absurd (show(4:Int)≠0 by decide) h
 |some m=>
  have er:I2 none q=if(q.set.isEmpty||!decide (q.set=canon q.set)||false)=true then 1 else 0:=by unfold I2;rw[SF];rfl
  have hl:=hL.some hp SF;have hc:=Ys q.set hq;have he:=pY q.set (canon q.set) hq;have Wp:∀{n:Int},n=(q.set.map AE).length->n=0->q.set.isEmpty=true:=fun h1 h2=>by
   rw[Lm]at h1;rw[Ht];exact AQ ch
  have mE:¬((q.set.map AE).length:Int)=0->q.set.isEmpty=false:=fun h=>by
   cases hqs:q.set with
   |nil=>rw[hqs]at h;exact absurd rfl h
   |cons a l=>rfl
  rcases Bt (decide (q.set=canon q.set))with h2 | h2
  .rw[h2]at he;refine Ps (Kr []) Tryz.func107 rfl (Nz rfl) (Xi .pure (Xi _ (Yi (hl) (Yi ?_ ?_))))
   .intro h;exact absurd rfl h
   intro _;refine Yi ?_ ?_
   .intro h;have e:(1:Int)=I2 none q:=by rw[er,Wp rfl h];rfl
    refine Yi Wk ?_;exact .of_eq (Aa vi e)
   intro h;have hn:=mE h;refine Xi _ (Yi (hc) (Xi _ (Yi (he) (Yi Wk ?_))));have e:(0:Int)=I2 none q:=by rw[er,hn,h2];rfl
   exact .of_eq (Aa vi e)
  .rw[h2]at he;refine Ps (Kr []) Tryz.func107 rfl (Nz rfl) (Xi .pure (Xi _ (Yi (hl) (Yi ?_ ?_))))
   .intro h;exact absurd rfl h
   intro _;refine Yi ?_ ?_
   .intro h;have e:(1:Int)=I2 none q:=by rw[er,Wp rfl h];rfl
    refine Yi Wk ?_;exact .of_eq (Aa vi e)
   intro h;have hn:=mE h;refine Xi _ (Yi (hc) (Xi _ (Yi (he) (Yi Wk ?_))));have e:(1:Int)=I2 none q:=by rw[er,hn,h2];rfl
   exact .of_eq (Aa vi e)
theorem xw(hL:Wf nm)(q b:Rq)(hq:B8 q.set)(hp:Gi q.path):PC 107 [.agg (A8 q),.cptr (A8 b)] (vi (I2 (some b.path) q)):=by
 cases SF:CG q.path with
 |none=>
  have e:(4:Int)=I2 (some b.path) q:=by unfold I2;rw[SF];rfl
  have hl:=hL.none hp SF;refine Ps Ej Tryz.func107 rfl (Nz rfl) (Xi .pure (Xi _ (Yi (hl) (Yi ?_ ?_))))
  .intro _;exact .of_eq (Aa vi e)
  .intro h;exact absurd (show(4:Int)≠0 by decide) h
 |some m=>
  have er:I2 (some b.path) q=if(q.set.isEmpty||!decide (q.set=canon q.set)||!Ef b.path q.path)=true then 1 else 0:=by unfold I2;rw[SF];rfl
  have hl:=hL.some hp SF;have hc:=Ys q.set hq;have he:=pY q.set (canon q.set) hq;have Wp:∀{n:Int},n=(q.set.map AE).length->n=0->q.set.isEmpty=true:=fun h1 h2=>by
   rw[Lm]at h1;rw[Ht];exact AQ ch
  have mE:¬((q.set.map AE).length:Int)=0->q.set.isEmpty=false:=fun h=>by
   cases hqs:q.set with
   |nil=>rw[hqs]at h;exact absurd rfl h
   |cons a l=>rfl
  rcases Bt (decide (q.set=canon q.set))with h2 | h2
  .rw[h2]at he;refine Ps (Kr []) Tryz.func107 rfl (Nz rfl) (Xi .pure (Xi _ (Yi (hl) (Yi ?_ ?_))))
   .intro h;exact absurd rfl h
   intro _;refine Yi ?_ ?_
   .intro h;have e:(1:Int)=I2 (some b.path) q:=by rw[er,Wp rfl h];rfl
    refine Yi Wk ?_;exact .of_eq (Aa vi e)
   intro h;have hn:=mE h;refine Xi _ (Yi (hc) (Xi _ (Yi (he) (Yi ?_ ?_))))
   .intro h3;refine Yi Wk ?_;have e:(1:Int)=I2 (some b.path) q:=by rw[er,hn,h2,Gk,h3];rfl
    exact .of_eq (Aa vi e)
   .intro h3;have h3:Op.bytesLess b.path.toList q.path.toList=true:=by simpa using h3
    refine Yi Wk ?_;have e:(0:Int)=I2 (some b.path) q:=by rw[er,hn,h2,Gk,h3];rfl
    exact .of_eq (Aa vi e)
  .rw[h2]at he;refine Ps (Kr []) Tryz.func107 rfl (Nz rfl) (Xi .pure (Xi _ (Yi (hl) (Yi ?_ ?_))))
   .intro h;exact absurd rfl h
   intro _;refine Yi ?_ ?_
   .intro h;have e:(1:Int)=I2 (some b.path) q:=by rw[er,Wp rfl h];rfl
    refine Yi Wk ?_;exact .of_eq (Aa vi e)
   intro h;have hn:=mE h;refine Xi _ (Yi (hc) (Xi _ (Yi (he) (Yi Wk ?_))));have e:(1:Int)=I2 (some b.path) q:=by rw[er,hn,h2];rfl
   exact .of_eq (Aa vi e)
abbrev NL(l:List Rq)(k:Nat):List AV:=((l.map A8)[k]?).getD []
abbrev xn(l:List Rq):Nat->AV
 |0=>.v (.pointer none)
 |k+1=>.cptr (NL l k)
abbrev Ul(l:List Rq):Nat->Option ByteArray
 |0=>none
 |k+1=>(l[k]?).map (·.path)
theorem OR{l:List Rq}(h:k<l.length):NL l k=A8 l[k]:=by
 unfold NL;rw[AH,Ge h];rfl
theorem Um{l:List Rq}(h:k<l.length):Ul l (k+1)=some l[k].path:=by
 show(l[k]?).map _=_;rw[Ge h];rfl
theorem c65(hL:Wf nm)(l:List Rq)(hs:∀q∈l,J7 q):PC 64 [sl A8 l] (vi (BK l)):=by
 refine Ps (Kr []) Tryz.func64 rfl (Nz rfl) (Yi ?_ ?_)
 .intro h;exact .of_eq (Aa vi (show(7:Int)=BK l by unfold BK;rw[Ao (by rw[Lm]at h;omega)]))
 intro h;have hl:l.length<=16:=by rw[Lm]at h;omega
 have Wb:BK l=Gl none l:=by unfold BK;rw[Aj ch]
 refine Xi {i:Nat // i<=l.length/\Gl none l=Gl (Ul l i) (l.drop i)} (Xi (fun i=>⟨[(0,sl A8 l),(3,xn l i.1),(10,sl A8 l),(11,vi (l.map A8).length),(12,vi i.1)],[],Af⟩) (Xi (fun i=>l.length-i.1) (Yi (Xi ⟨0,AA _,rfl⟩ ?_) ?_)))
 .exact⟨Z5,Tv,Fh,Tv⟩
 intro⟨i,h1,h2⟩;refine Yi ?_ ?_
 .intro h;have h:i<l.length:=by simpa using h
  have hg:l[i]?=some l[i]:=Ge h;have hd:l.drop i=l[i]::l.drop (i+1):=AI h;have hq:=hs l[i] (Al h);have hc:PC 107 [.agg (A8 l[i]),xn l i] (vi (I2 (Ul l i) l[i])):=by
   cases i with
   |zero=>exact xv hL _ hq.1 hq.2
   |succ k=>
    rw[Um (by omega:k<l.length)];show PC 107 [_,.cptr (NL l k)] _;rw[OR (by omega:k<l.length)];exact xw hL _ _ hq.1 hq.2
  have Lc:Gl none l=if I2 (Ul l i) l[i]=0 then Gl (some l[i].path) (l.drop (i+1))else I2 (Ul l i) l[i]:=by rw[h2,hd];rfl
  match i,h1,h2,h,hg,hd,hc,Lc with
  |0,h1,h2,h,hg,hd,hc,Lc=>
   refine Xi (A8 l[0]) (Yi (Yi (by show(0:Int)<=((0:Nat):Int);omega) (by simp[hg])) (Yi rfl ?_));refine Yi (Nz rfl) (Yi (Nz rfl) (yN (Xi .pure (Xi _ (Yi (hc) (Yi ?_ ?_))))))
   .intro h4;exact .of_eq (Aa vi (show I2 (Ul l (0)) l[0]=BK l by rw[Wb,Lc,Aj h4]))
   .intro h4;refine Xi (A8 l[0]) (Yi (Yi (by show(0:Int)<=((0:Nat):Int);omega) (by simp[hg])) (Yi rfl ?_));refine Yi (by show Ba (((0:Nat):Int)+1);unfold Ba;omega) ?_;refine Xi ⟨0+1,by omega,by rw[Lc,Ao (GL h4),Um h]⟩ ?_;have e1:AV.cptr (A8 l[0])=.cptr (NL l (0)):=by rw[OR h]
    exact⟨by show l.length-(0+1)<l.length-(0);omega,⟨Zr,⟨e1,rfl⟩,Zr,Zr,Zr,Tv⟩,Tv,Fh,Tv⟩
  |k+1,h1,h2,h,hg,hd,hc,Lc=>
   refine Xi (A8 l[k+1]) (Yi (Yi (by show(0:Int)<=((k+1:Nat):Int);omega) (by simp[hg])) (Yi rfl ?_));refine Yi (Nz rfl) (Yi (Nz rfl) (yN (Xi .pure (Xi _ (Yi (hc) (Yi ?_ ?_))))))
   .intro h4;exact .of_eq (Aa vi (show I2 (Ul l (k+1)) l[k+1]=BK l by rw[Wb,Lc,Aj h4]))
   .intro h4;refine Xi (A8 l[k+1]) (Yi (Yi (by show(0:Int)<=((k+1:Nat):Int);omega) (by simp[hg])) (Yi rfl ?_));refine Yi (by show Ba (((k+1:Nat):Int)+1);unfold Ba;omega) ?_;refine Xi ⟨k+1+1,by omega,by rw[Lc,Ao (GL h4),Um h]⟩ ?_;have e1:AV.cptr (A8 l[k+1])=.cptr (NL l (k+1)):=by rw[OR h]
    exact⟨by show l.length-(k+1+1)<l.length-(k+1);omega,⟨Zr,⟨e1,rfl⟩,Zr,Zr,Zr,Tv⟩,Tv,Fh,Tv⟩
 .intro h;have h:¬i<l.length:=by simpa using h
  have e:(0:Int)=BK l:=by rw[Wb,h2,Wg ch];rfl
  exact .of_eq (Aa vi e)
abbrev lN(r:Rl):Nat->ByteArray
 |0=>r.arch
 |1=>r.ifc
 |_=>r.cert
theorem ul{r:Rl}(h:∀j,j<3->Fo (lN r j)=true):(Fo r.arch&&Fo r.ifc&&Fo r.cert)=true:=by
 have h0:Fo r.arch=true:=h 0 Cl;have h1:Fo r.ifc=true:=h 1 Cl;have h2:Fo r.cert=true:=h 2 Cl;rw[h0,h1,h2];rfl
theorem cV{r:Rl}(hi:i<3)(h:Fo (lN r i)=false):(Fo r.arch&&Fo r.ifc&&Fo r.cert)=false:=by
 match i,hi,h with
 |0,_,h=>have h:Fo r.arch=false:=h;rw[h];rfl
 |1,_,h=>have h:Fo r.ifc=false:=h;rw[h,Ck];rfl
 |2,_,h=>have h:Fo r.cert=false:=h;rw[h,Ck]
theorem Abk(hL:Wf nm)(r:Rl)(hr:En r):PC 147 [.agg (AF r)] (vi (DX r)):=by
 cases SF:CG r.path with
 |none=>
  have e:(4:Int)=DX r:=by unfold DX;rw[SF]
  have hl:=hL.none hr.1 SF;refine Ps Ej Tryz.func147 rfl (Nz rfl) (Xi .pure (Xi _ (Yi (hl) (Yi ?_ ?_))))
  .intro _;exact .of_eq (Aa vi e)
  .intro h;exact absurd (show(4:Int)≠0 by decide) h
 |some m=>
  have er:DX r=if(!Cz r.ver||!decide (r.ver.a=m))=true then 2 else if BK r.reqs≠0 then BK r.reqs else if(Fo r.arch&&Fo r.ifc&&Fo r.cert)=true then 0 else 1:=by unfold DX;rw[SF]
  have hl:=hL.some hr.1 SF;have hv:=xt r.ver;have hc:=c65 hL r.reqs hr.2;rcases Bt (Cz r.ver)with h2 | h2
  .rw[h2]at hv;refine Ps (Kr []) Tryz.func147 rfl (Nz rfl) (Xi .pure (Xi _ (Yi (hl) (Yi ?_ ?_))))
   .intro h;exact absurd rfl h
   intro _;refine yN (Xi .pure (Xi _ (Yi (hv) (Yi ?_ ?_))))
   .intro h;have e:(2:Int)=DX r:=by rw[er,h2,Av h];rfl
    exact .of_eq (Aa vi e)
   intro h;have h3:r.ver.a=m:=GL h;have xK:DX r=if BK r.reqs≠0 then BK r.reqs else if(Fo r.arch&&Fo r.ifc&&Fo r.cert)=true then 0 else 1:=by rw[er,h2,Ar h3];rfl
   refine Xi .pure (Xi _ (Yi (hc) (Yi ?_ ?_)))
   .intro h4;exact .of_eq (Aa vi (show BK r.reqs=DX r by rw[xK,Ao h4]))
   intro h4;have er3:DX r=if(Fo r.arch&&Fo r.ifc&&Fo r.cert)=true then 0 else 1:=by rw[xK,Aj h4]
   refine Xi {i:Nat // i<=3/\∀j,j<i->Fo (lN r j)=true} (Xi (fun i=>⟨[(41,.slice (.id 41 1) [[vs r.arch],[vs r.ifc],[vs r.cert]]),(42,vi 3),(43,vi i.1)],[(41,.tok 1 3)],Af⟩) (Xi (fun i=>3-i.1) (Yi (Xi ⟨0,by omega,fun j h=>by omega⟩ ?_) ?_)))
   .exact⟨Z3,Z1,Fh,Tv⟩
   intro⟨i,i1,i2⟩;refine Yi ?_ ?_
   .intro h;have h:(i:Int)<3:=h;have next:Fo (lN r i)=true->∀j,j<i+1->Fo (lN r j)=true:=fun hz j hj=>by
     rcases B4 j i with q | q
     .exact i2 j q
     .have:j=i:=by omega
      subst this;exact hz
    match i,i1,i2,h,next with
    |0,i1,i2,h,next=>
     refine Xi [vs r.arch] (Yi (Yi (by show(0:Int)<=0;decide) rfl) (Yi rfl (Yi ?_ ?_)))
     .intro h5;refine Yi ?_ ?_
      .intro h6;have e:(1:Int)=DX r:=by rw[er3,cV (i:=0) Cl (show Fo r.arch=false by unfold Fo;rw[Av ch,Av ch];rfl)];rfl
       exact .of_eq (Aa vi e)
      .intro h6;refine Yi (Ii 0 ch) (Xi ⟨1,by omega,next (show Fo r.arch=true by unfold Fo;rw[Ar (by omega:r.arch.size=32),Bool.or_true])⟩ ?_)
       exact⟨by show 3-1<3-0;decide,Z3,Z1,Fh,Tv⟩
     .intro h5;refine Yi (Ii 0 ch) (Xi ⟨1,by omega,next (show Fo r.arch=true by unfold Fo;rw[Ar (by omega:r.arch.size=0)];rfl)⟩ ?_)
      exact⟨by show 3-1<3-0;decide,Z3,Z1,Fh,Tv⟩
    |1,i1,i2,h,next=>
     refine Xi [vs r.ifc] (Yi (Yi (by show(0:Int)<=1;decide) rfl) (Yi rfl (Yi ?_ ?_)))
     .intro h5;have h5:((r.ifc.size:Nat):Int)≠0:=h5;refine Yi ?_ ?_
      .intro h6;have h6:((r.ifc.size:Nat):Int)≠32:=h6;have e:(1:Int)=DX r:=by rw[er3,cV (i:=1) Cl (show Fo r.ifc=false by unfold Fo;rw[Av ch,Av ch];rfl)];rfl
       exact .of_eq (Aa vi e)
      .intro h6;have h6:¬((r.ifc.size:Nat):Int)≠32:=h6;refine Yi (Ii 1 ch) (Xi ⟨2,by omega,next (show Fo r.ifc=true by unfold Fo;rw[Ar (by omega:r.ifc.size=32),Bool.or_true])⟩ ?_)
       exact⟨by show 3-2<3-1;decide,Z3,Z1,Fh,Tv⟩
     .intro h5;have h5:¬((r.ifc.size:Nat):Int)≠0:=h5;refine Yi (Ii 1 ch) (Xi ⟨2,by omega,next (show Fo r.ifc=true by unfold Fo;rw[Ar (by omega:r.ifc.size=0)];rfl)⟩ ?_)
      exact⟨by show 3-2<3-1;decide,Z3,Z1,Fh,Tv⟩
    |2,i1,i2,h,next=>
     refine Xi [vs r.cert] (Yi (Yi (by show(0:Int)<=2;decide) rfl) (Yi rfl (Yi ?_ ?_)))
     .intro h5;have h5:((r.cert.size:Nat):Int)≠0:=h5;refine Yi ?_ ?_
      .intro h6;have h6:((r.cert.size:Nat):Int)≠32:=h6;have e:(1:Int)=DX r:=by rw[er3,cV (i:=2) Cl (show Fo r.cert=false by unfold Fo;rw[Av ch,Av ch];rfl)];rfl
       exact .of_eq (Aa vi e)
      .intro h6;have h6:¬((r.cert.size:Nat):Int)≠32:=h6;refine Yi (Ii 2 ch) (Xi ⟨3,by omega,next (show Fo r.cert=true by unfold Fo;rw[Ar (by omega:r.cert.size=32),Bool.or_true])⟩ ?_)
       exact⟨by show 3-3<3-2;decide,Z3,Z1,Fh,Tv⟩
     .intro h5;have h5:¬((r.cert.size:Nat):Int)≠0:=h5;refine Yi (Ii 2 ch) (Xi ⟨3,by omega,next (show Fo r.cert=true by unfold Fo;rw[Ar (by omega:r.cert.size=0)];rfl)⟩ ?_)
      exact⟨by show 3-3<3-2;decide,Z3,Z1,Fh,Tv⟩
    |i+3,i1,i2,h,next=>omega
   .intro h;have h:¬(i:Int)<3:=h;have e:(0:Int)=DX r:=by rw[er3,Ao (ul fun j hj=>i2 j ch)]
    exact .of_eq (Aa vi e)
  .rw[h2]at hv;have e:(2:Int)=DX r:=by rw[er,h2];rfl
   refine Ps (Kr []) Tryz.func147 rfl (Nz rfl) (Xi .pure (Xi _ (Yi (hl) (Yi ?_ ?_))))
   .intro h;exact absurd rfl h
   intro _;refine yN (Xi .pure (Xi _ (Yi (hv) ?_)));exact .of_eq (Aa vi e)
theorem ve{a b:Rl}(h:a.path=b.path/\a.ver.a=b.ver.a/\a.ver.b=b.ver.b/\a.ver.c=b.ver.c):Gn a=Gn b:=by
 unfold Gn;obtain⟨h1,h2,h3,h4⟩:=h
 have:a.ver=b.ver:=by
  cases ha:a.ver;cases hb:b.ver;rw[ha,hb]at h2 h3 h4;simp_all
 rw[h1,this]
theorem jp{a b:Rl}(h:Gn a=Gn b):a.path=b.path/\a.ver.a=b.ver.a/\a.ver.b=b.ver.b/\a.ver.c=b.ver.c:=by
 unfold Gn at h
 injection h with h1 h2
 exact⟨h1,by rw[h2],by rw[h2],by rw[h2]⟩
abbrev pQ(x:List Rl):Nat->Option Rl
 |0=>none
 |k+1=>x[k]?
theorem wI(hL:Wf nm)(x:List Rl)(ifs:List (List AV))(hs:∀r∈x,En r):PC 86 [.agg (Ic x ifs)] (vi (A6 x)):=by
 refine Ps (Kr []) Tryz.func86 rfl (Nz rfl) (Yi ?_ ?_)
 .intro h;exact .of_eq (Aa vi (show(7:Int)=A6 x by unfold A6;rw[Ao (by rw[Lm]at h;omega)]))
 intro h;have hl:x.length<=256:=by rw[Lm]at h;omega
 have Wb:A6 x=DR none x:=by unfold A6;rw[Aj ch]
 refine Xi {i:Nat // i<=x.length/\DR none x=DR (pQ x i) (x.drop i)} (Xi (fun i=>⟨[(1,.ref 1 0),(12,sl AF x),(13,vi (x.map AF).length),(14,vi i.1)],[(1,.cells (Ic x ifs))],Af⟩) (Xi (fun i=>x.length-i.1) (Yi (Xi ⟨0,AA _,rfl⟩ ?_) ?_)))
 .exact⟨Z4,Z1,Fh,Tv⟩
 intro⟨i,h1,h2⟩;refine Yi ?_ ?_
 .intro h;have h:i<x.length:=by simpa using h
  have hg:x[i]?=some x[i]:=Ge h;have hd:x.drop i=x[i]::x.drop (i+1):=AI h;have hc:=Abk hL x[i] (hs x[i] (Al h));have Lc:DR none x=if DX x[i]≠0 then DX x[i]else match pQ x i with
   |none=>DR (some x[i]) (x.drop (i+1))
   |some b=>if Gn b=Gn x[i]then 5 else if 0<Dy b x[i]then 1 else DR (some x[i]) (x.drop (i+1)):=by rw[h2,hd];rfl
  have sP:pQ x (i+1)=some x[i]:=Ge h;refine Xi (AF x[i]) (Yi (Yi (Nn i) (by simp[hg])) (Yi rfl ?_));refine Yi (Nz rfl) (Yi (Nz rfl) (yN (Xi .pure (Xi _ (Yi (hc) (Yi ?_ ?_))))))
  .intro h4;exact .of_eq (Aa vi (show DX x[i]=A6 x by rw[Wb,Lc,Ao h4]))
  intro h4;refine Yi ?_ ?_
  .intro h5;have h5:(i:Int)=0:=h5;have h6:i=0:=by omega
   refine Yi (Ii i ch) (Xi ⟨i+1,by omega,by rw[Lc,Aj h4,sP];subst h6;rfl⟩ ?_);exact⟨Dl x.length i ch,Z4,Z1,Fh,Tv⟩
  intro h5;have h5:¬(i:Int)=0:=h5;have hi1:i-1<x.length:=by omega
  have hb:pQ x i=some x[i-1]:=by
   obtain⟨k,rfl⟩:∃k,i=k+1:=⟨i-1,by omega⟩;exact Ge ch
  have uH:DR none x=if Gn x[i-1]=Gn x[i]then 5 else if 0<Dy x[i-1] x[i]then 1 else DR (some x[i]) (x.drop (i+1)):=by rw[Lc,Aj h4,hb]
  refine Yi (by show Ba ((i:Int)-1);unfold Ba;omega) ?_;have Wq:(x.map AF)[((i:Int)-1).toNat]?=some (AF x[i-1]):=by rw[show((i:Int)-1).toNat=i-1 by omega];exact Ed (Ge hi1)
  refine Xi (AF x[i-1]) (Yi (Yi (by show(0:Int)<=(i:Int)-1;omega) Wq) (Yi rfl (Yi (Nz rfl) (yN (yN (Xi _ (Yi (tZ x[i-1]) (yN (Xi _ (Yi (tZ x[i]) (Yi ?_ ?_)))))))))))
  .intro h6;refine Yi Wk ?_;have e:(5:Int)=A6 x:=by rw[Wb,uH,Ao (ve ⟨h6.1,h6.2.1,h6.2.2.1,h6.2.2.2.1⟩)]
   exact .of_eq (Aa vi e)
  intro h6;refine Yi Wk ?_;have h7:¬Gn x[i-1]=Gn x[i]:=fun e=>by
   have e:=jp e;exact h6 ⟨e.1,e.2.1,e.2.2.1,e.2.2.2,trivial⟩
  refine Yi (Nz rfl) (yN (Xi .pure (Xi _ (Yi (xu x[i-1] x[i]) (Yi ?_ ?_)))))
  .intro h8;have e:(1:Int)=A6 x:=by rw[Wb,uH,Aj h7,Ao h8]
   exact .of_eq (Aa vi e)
  .intro h8;refine Yi (Ii i ch) (Xi ⟨i+1,by omega,by rw[uH,Aj h7,Aj h8,sP]⟩ ?_);exact⟨Dl x.length i ch,Z4,Z1,Fh,Tv⟩
 .intro h;have h:¬i<x.length:=by simpa using h
  have e:(0:Int)=A6 x:=by rw[Wb,h2,Wg ch];rfl
  exact .of_eq (Aa vi e)
abbrev rlC(r:Rl)(a:AV):List AV:=[vs r.path,vi r.ver.a,vi r.ver.b,vi r.ver.c,a,vs r.arch,vs r.ifc,vs r.cert,vb r.yanked]
abbrev AdF:Th:=⟨[],[],[],[],[],[],[],[(9,(1,4,900,2))],[],[],[]⟩
theorem c98(r:Rl)(hr:r.reqs.length<=1000)(hs:∀q∈r.reqs,B8 q.set):PC 83 [.agg (AF r)] (.agg (AF r)):=by
 refine Ps AdF Tryz.func83 rfl (Nz rfl) (yN (Xi {i:Nat // i<=r.reqs.length} (Xi (fun i=>⟨[(1,.ref 1 0),(2,.ref 2 0),(9,sl A8 r.reqs),(10,vi (r.reqs.map A8).length),(11,vi i.1)],[(1,.cells (rlC r (.slice (.id 900 2) ((r.reqs.take i.1).map A8)))),(2,.cells tt),(900,.tok 2 ((r.reqs.take i.1).map A8).length)],Af⟩) (Xi (fun i=>r.reqs.length-i.1) (Yi (Xi ⟨0,AA _⟩ ?_) ?_)))))
 .exact⟨Z5,Z3,Fh,Tv⟩
 intro⟨i,h1⟩;refine Yi ?_ ?_
 .intro h;have h:i<r.reqs.length:=by simpa using h
  have hg:r.reqs[i]?=some r.reqs[i]:=Ge h;refine Xi (A8 r.reqs[i]) (Yi (Yi (Nn i) (by simp[hg])) (Yi rfl ?_));have hq:=hs r.reqs[i] (Al h);refine Yi (Nz rfl) (yN (Xi .pure (Xi _ (Yi (Abp r.reqs[i].set hq) (yN (yN ?_))))));have Hw:Cf 2 [A8 r.reqs[i]]/\((r.reqs.take i).map A8).length=((r.reqs.take i).map A8).length/\(((r.reqs.take i).map A8).length+[A8 r.reqs[i]].length)*40<=140737488355328/\((r.reqs.take i).map A8).length+[A8 r.reqs[i]].length<=9223372036854775807:=
   ⟨⟨rfl,trivial⟩,rfl,by rw[Lm,Aw,Bg];omega,by rw[Lm,Aw,Bg];omega⟩
  refine Yi Hw (yN (Yi (Ii i ch) (Xi ⟨i+1,by omega⟩ ?_)));have et:(r.reqs.take (i+1)).map A8=(r.reqs.take i).map A8++[A8 r.reqs[i]]:=by rw[Bj,hg,As];rfl
  have e1:HO.cells (rlC r (.slice (.id 900 2) ((r.reqs.take i).map A8++[A8 r.reqs[i]])))=.cells (rlC r (.slice (.id 900 2) ((r.reqs.take (i+1)).map A8))):=by rw[et]
  have e2:HO.tok 2 (((r.reqs.take i).map A8).length+[A8 r.reqs[i]].length)=.tok 2 ((r.reqs.take (i+1)).map A8).length:=by rw[et,Ac]
  exact⟨Dl r.reqs.length i ch,Z5,⟨⟨e1,rfl⟩,Zr,⟨e2,rfl⟩,Tv⟩,Fh,Tv⟩
 .intro h;have h:¬i<r.reqs.length:=by simpa using h
  refine Yi (Nz rfl) (Yi (Nz rfl) (yN ?_));have e:AV.agg (rlC r (.slice .none ((r.reqs.take i).map A8)))=.agg (AF r):=by rw[At ch]
  exact .of_eq e
theorem cU{cx:Cx}{st:St}{K:LS -> Prop}(t:List (Nat×AV))(h:List (Nat×HO))(h1:leT st (LS.st ⟨t,h,Af⟩).h t)(h2:leH st (LS.st ⟨t,h,Af⟩).h h)(k:K ⟨t,h,Af⟩)
    (h3:match cx.ext with | false => True | true => ∀j,1000 <= j -> j<2000 -> st.h j ≠ .free -> (LS.st ⟨t,h,Af⟩).h j ≠ .free := by first | exact trivial | exact BP Wk):∃s,St.le cx st s /\ K s := ⟨_,⟨h1,h2,fun _ => .inl rfl,h3⟩,k⟩
end Go.Eng
