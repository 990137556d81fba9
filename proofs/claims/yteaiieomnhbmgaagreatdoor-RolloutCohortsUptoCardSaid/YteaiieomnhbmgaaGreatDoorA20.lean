/- Lemmas for the claims of this seat, without a condition: part 20 (C25, C26, C27, C28, C29, C30, C31, C32, C33, C34, C35, C36, C37, C38). -/
import Derived.Test.YteaiieomnhbmgaaGreatDoorA19
import Derived.Shelf.Slices.Delete
namespace Go.Eng
open Go.Proofs Go.Shelf Go.RowKit Go.Lib Go.Sort
theorem tY(F:Array Value)(i n:Nat)(hF:F.size=n*3)(hi:i<n)(z:List Value)(hz:z.length=3):(lay (lay F (i*3) (F.toList.drop ((i+1)*3))) ((n-1)*3) z).toList=F.toList.take (i*3)++F.toList.drop ((i+1)*3)++z:=by
 have l1:(F.toList.take (i*3)).length=i*3:=by simp;omega
 have l2:(F.toList.drop ((i+1)*3)).length=(n-(i+1))*3:=by simp;omega
 apply Do
 intro t
 rw[A3,lay_get? _ _ _ _ (by rw[Lib.lay_size];omega),lay_get? _ _ _ _ (by rw[l2];omega)]
 rw[hz,l2]
 by_cases c1:t<i*3
 .rw[Ai ch,Ai ch,AY (by rw[Ac];omega),AY ch,Kp,Al c1,A3]
 .by_cases c2:t<(n-1)*3
  .rw[Ai ch,Al ch,AY (by rw[Ac];omega),AZ ch,l1]
  .rw[AZ (by rw[Ac];omega),Ac,l1,l2]
   by_cases c3:t<n*3
   .rw[Al ch];congr 1;omega
   .rw[Ai ch,Ai ch,VA ch,A6 ch]
abbrev oA:List Value:=[.string ⟨#[]⟩,.bool false,.slice none 0 0]
set_option maxHeartbeats 4000000 in
set_option maxRecDepth 1000000 in
theorem kG(w:World)(b cap i n:Nat)(F:Array Value)(hF:F.size=n*3)(hi:i<n)(L1:n<=cap)(hH:Holds id w b 0 F)(h1:∀x∈F.toList,x.oneCell'=true) :
  Calls Tryz.prog 344 #[.slice (some ⟨b,0,none⟩) n cap,.int .i64 i,.int .i64 ((i:Int)+1)] w fun e w'=>e=.returned (.slice (some ⟨b,0,none⟩) (n-1) cap) /\
   w'=putRow id (Sort.ahead w 1) b 0 (lay (lay F (i*3) (F.toList.drop ((i+1)*3))) ((n-1)*3) oA):=by
 obtain⟨i0,ry,tN⟩:∃i0,Tryz.prog.info? 343=some i0/\i0.size=3:=by
  obtain⟨i,z,h1,_,h2,_⟩:=H7 (P:=Tryz.prog) (T:=qJ) CQ (e:=343) (n:=2) Wk
  exact⟨i,h1,h2.trans Wk⟩
 obtain⟨news,Jt⟩:∃news,news=F.toList.drop ((i+1)*3):=⟨_,rfl⟩
 have CL:news.length=(n-(i+1))*3:=by rw[Jt];simp;omega
 have Fz:∀t,t<(n-(i+1))*3->news[t]?=some F[(i+1)*3+t]!:=by
  intro t ht
  rw[Jt,DP,A3,DR F ((i+1)*3+t) ch,A5 ch]
 obtain⟨A,hA,ii⟩:∃A:Addr,(if cap=i+1 then some (⟨b,0,none⟩:Addr)else some ⟨b,(i+1)*3,none⟩)=some A/\Hid (∀t u,news[t]?=some u->w.drew.cell? (A.add t)=some u):=by
  by_cases h:cap=i+1
  .refine⟨⟨b,0,none⟩,by simp[h],fun t u hu=>?_⟩
   have h0:news.length=0:=by rw[CL];omega
   rw[FF.1 h0]at hu
   simp at hu
  .refine⟨⟨b,(i+1)*3,none⟩,by simp[h],fun t u hu=>?_⟩
   have ht:t<(n-(i+1))*3:=by
    have:=(Au.1 hu).1
    rwa [CL]at this
   rw[Fz t ht]at hu
   rw[Addr.add_lit]
   have:=(hH ((i+1)*3+t) ch).1
   rw[Bf]at this
   exact this.trans hu
 have s1:Hid (news.length=(n-(i+1))*3):=CL
 have s2:Hid (∀u∈news,u.oneCell'=true):=by
  intro u hu
  rw[Jt]at hu
  exact h1 u (IX hu)
 have s3:Hid (∀t,t<news.length->(w.drew.cell? ⟨b,0+i*3+t,none⟩).isSome=true/\w.drew.frozen? ⟨b,0+i*3+t,none⟩=false):=by
  intro t ht
  rw[CL]at ht
  have:=hH (i*3+t) ch
  rw[GW]
  exact⟨by show(w.cell? _).isSome=true;rw[this.1];rfl,this.2⟩
 obtain⟨W1,hW1⟩:∃W1,W1=w.drew.setCells b (0+i*3) news:=⟨_,rfl⟩
 have tf : W1=putRow id (Sort.ahead w 1) b 0 (lay F (i*3) news):=by
  have:=putRow_setCells id (Sort.ahead w 1) b 0 news F (i*3) ch
  rw[putRow_self id (Sort.ahead w 1) b 0 F (holds_ahead id w 1 b 0 F hH),F3]at this
  rw[hW1,<-this]
  rfl
 have hH1:Holds id W1 b 0 (lay F (i*3) news):=by rw[tf];exact holds_putRow id _ b 0 F _ (holds_ahead id w 1 b 0 F hH) (Lib.lay_size _ _ _)
 have Ku:(storeCells ⟨b,0+(n-1)*3,none⟩ oA 0).run Tryz.prog W1=.ok () (W1.setCells b (0+(n-1)*3) oA):=by
  have:=run_storeCells_cells (P:=Tryz.prog) b (0+(n-1)*3) oA 0 W1 (fun j hj=>by
   have hj:j<3:=hj
   have:=hH1 ((n-1)*3+j) (by rw[Lib.lay_size];omega)
   rw[show 0+(n-1)*3+0+j=0+((n-1)*3+j) by omega,this.1];rfl) (fun j hj=>by
   have hj:j<3:=hj
   have:=hH1 ((n-1)*3+j) (by rw[Lib.lay_size];omega)
   rw[show 0+(n-1)*3+0+j=0+((n-1)*3+j) by omega];exact this.2) (fun v hv=>by
   simp only[Az,Mu,or_false]at hv
   rcases hv with rfl | rfl | rfl<;>rfl)
  exact this
 have hcl:∀ty c,(Builtin.clear_ #[283] ty #[.slice (some ⟨b,(n-1)*3,none⟩) 1 c]).run Tryz.prog W1=.ok (.tuple #[]) (W1.setCells b (0+(n-1)*3) oA):=fun ty c=>by
  have hv:=Tryz.zeroValue343
  rw[Bf]at Ku⊢
  have hz:(Builtin.zeroCells (Value.agg #[Value.string { data:=#[] },Value.bool false,Value.slice none 0 0]).cells 1).toList=oA:=by kernel_rfl
  simp[Builtin.clear_,run_underlying Tryz.underlying283,hv,hz,Ku]
 have AfT:∀ty,(Builtin.clear_ #[283] ty #[.slice (some ⟨b,(i+(n-(i+1)))*3,none⟩) (n-(i+(n-(i+1)))) (cap-(i+(n-(i+1))))]).run Tryz.prog W1=.ok (.tuple #[]) (W1.setCells b (0+(n-1)*3) oA):=fun ty=>by
  have e1:i+(n-(i+1))=n-1:=by omega
  have e2:n-(n-1)=1:=by omega
  rw[e1,e2];exact hcl ty _
 have X:Aside (W1=putRow id (Sort.ahead w 1) b 0 (lay F (i*3) news)):=tf
 have hW:Hid (W1=w.drew.setCells b (0+i*3) news):=hW1
 have Y:Aside (news=F.toList.drop ((i+1)*3)):=Jt
 have Z:Aside (news.length=(n-(i+1))*3):=CL
 have xh:i<=cap:=by omega
 have hjc:i+1<=cap:=by omega
 have mixed:=Go.Eng.hm
 have hb1:(0:Int)<=(i:Int)+1:=by omega
 have QA:(i:Int)+1<=(n:Int):=by omega
 clear hW1 tf hH1 hH Fz Jt CL Ku hcl
 go_enter Tryz.func344,Tryz.ntmps344
 go_wp2_with fail
 go_region_law_o (refine step_append_room rfl (.tmp 22) (.tmp 25) 283 rfl 343 i0 3 Tryz.underlying283 ry tN b 0 i cap (by simp[Act.eval,Act.put]) A (n-(i+1)) (cap-(i+1)) news (by simp[Act.eval,Act.put]) s1.out ii.out s2.out ch s3.out ?_;rw[<-hW.out])
 go_wp2
 go_ret
 refine⟨by rw[show i+(n-(i+1))=n-1 by omega];rfl,?_⟩
 rw[X.out]
 have e1:=Y.out
 have e2:=Z.out
 rw[<-e1]
 have:=putRow_setCells id (Sort.ahead w 1) b 0 oA (lay F (i*3) news) ((n-1)*3) (by rw[Lib.lay_size];show _+3<=_;omega)
 rw[F3,Bf]at this
 exact this
abbrev bv:List AV:=[Go.Eng.vs ⟨#[]⟩,vb false,nzA]
theorem AaL(l:List Tm)(i:Nat)(hi:i<l.length) :
  A9 Tryz.prog 344 [.msl 1000 l.length,vi i,vi ((i:Int)+1)] (Ao [(1000,.arr 3 (l.map AN))] Af) fun r h'=>r=.msl 2000 (l.length-1)/\h'=Ao [(1000,.dead),(2000,.arr 3 ((l.eraseIdx i).map AN))] Af:=by
 have hE:FQ Tryz.prog 344:=Zy 344 Tryz.func344 Wk rfl
 have CL:(l.eraseIdx i).length=l.length-1:=List.length_eraseIdx_of_lt hi
 have HT:=Wg (P:=Tryz.prog) (f:=344) (es:=l.map AN) (sz:=3) (rest:=[.int .i64 i,.int .i64 ((i:Int)+1)]) (n':=l.length-1) (Q:=fun FP=>FP=(l.eraseIdx i).map AN++[bv]) hE (fun e=>by
  rw[DE]at e;subst e;simp at hi) (by rw[A8];omega) ?_
 .rw[A8]at HT
  refine⟨hE,fun g w vals q1 q2 q3=>(HT.2 g w vals q1 q2 q3).mono fun _ _ ⟨v,r,h',g',e1,⟨e2,FP,p1,p2⟩,rest⟩=>⟨v,r,h',g',e1,⟨e2,by rw[p2,p1,HI (by rw[A8,CL];exact Aj _),As (by rw[A8,CL];exact Aj _)]⟩,rest⟩⟩
 .intro g w b cap F hr hF hH hb hc
  rw[A8]at hF hc⊢
  have hu:∀e∈l.map AN,e.length=3:=fun e he=>by
   obtain⟨t,_,rfl⟩:=Ag.1 he;rfl
  refine(kG w b cap i l.length F hF hi hc hH hr.2.1).mono ?_
  rintro e w' ⟨rfl,rfl⟩
  refine⟨rfl,_,_,1,#[],?_,rfl,?_,fun cs hcs=>?_,fun g w hr=>?_,rfl⟩
  .rw[Lib.lay_size,Lib.lay_size]
  .rw[Ac,A8,CL,Bb];omega
  .rcases AO.1 hcs with h | h
   .obtain⟨t,_,rfl⟩:=Ag.1 h;rfl
   .rw[Ap.1 h];rfl
  .rw[tY F i l.length hF hi oA rfl,List.eraseIdx_eq_take_drop_succ,Cc,Ar,Cc,SA,List.map_drop,<-LY _ i hu,<-PG _ (i+1) hu]
   refine CO.append (CO.append (hr.take _) (hr.drop _)) ?_
   exact NJ g w Fw oA fun x hx=>by
    simp only[Az,Mu,or_false]at hx
    rcases hx with rfl | rfl | rfl<;>rfl
end Go.Eng
namespace Go.Eng
open Go.Proofs
variable {nm:ByteArray->ByteArray}{l r c:List Tm}{t:Tm}{i k:Nat}(a:List Tm)(s:ByteArray)(b:List Tm)(p:ByteArray)
theorem wq(l:List Tm)(hl:B9 l)(Dy:l≠[]):A9 Tryz.prog 345 [sl AN l] (Ao [] Af) fun r h'=>r=.msl 2000 l.length/\h'=Ao [(2000,.arr 3 (l.map AN))] Af:=by
 refine Cq (MK (pla [(5,3)] [])) [(5,2000)] rfl CQ hm rfl Tryz.func345 Wk rfl (Nz rfl) Wk rfl ?_;have Ho:Cn 3 (l.map AN)/\([]:List (List AV)).length=0/\(([]:List (List AV)).length+(l.map AN).length)*48<=140737488355328/\([]:List (List AV)).length+(l.map AN).length<=9223372036854775807:=by
  refine⟨DZ (enc:=AN) (n:=3) (fun _=>rfl) l,rfl,?_,?_⟩<;>simp only[At,Lm]<;>unfold B9 at hl<;>omega
 refine Yi ?_ ?_
 .intro _;refine Yi Ho ?_;have e1:AV.msl 2000 (([]:List (List AV)).length+(l.map AN).length)=.msl 2000 l.length:=by simp
  refine Xi (.msl 2000 (([]:List (List AV)).length+(l.map AN).length)) (Yi (.refl _) (Yi e1 ?_))
  rfl
 .intro h;exact absurd (DE.1 h) Dy
theorem sT(x:Tm)(p:ByteArray):PC 343 [.agg (AN x),.cptr [vs p]] (vb (decide (x.path=p))):=by
 refine Ps Ee Tryz.func343 rfl (Nz rfl) (Yi ?_ ?_)
 .intro h;rw[Ax h];exact .refl _
 .intro h;rw[AB h];exact .refl _
theorem NY{p:ByteArray}:∀{c:List Tm} {i:Nat},(EP c).Nodup->∀(hi:i<c.length),c[i].path=p->c.eraseIdx i=F1 c p
 |t::c,0,hn,_,h=>by
  have h:t.path=p:=h;unfold EP at hn;rw[AI,De]at hn;unfold F1;rw[Ef,Ai (by simp[h])];show c=_;rw[List.filter_eq_self.2 fun u hu=>by
   have:u.path≠p:=fun e=>hn.1 (h▸e▸Ag.2 ⟨u,hu,rfl⟩)
   simp[this]]
 |t::c,i+1,hn,hi,h=>by
  have hi:i<c.length:=by simpa using hi
  have h:c[i].path=p:=h;unfold EP at hn;rw[AI,De]at hn
  have:t.path≠p:=fun e=>hn.1 (by rw[e,<-h];exact Ag.2 ⟨_,Aq hi,rfl⟩)
  have ih:=NY hn.2 hi h;unfold F1 at ih⊢;rw[List.eraseIdx_cons_succ,Ef,Al (by simp[this]),ih]
theorem QR(hl:B9 l)(h:C3 l=some c):B9 c:=by
 have h1:=OE l l.length (Aj _);rw[B4]at h1;have h2:c=(Fj l).filter fun t=>!GX t:=by
  unfold C3 at h;split at h
  .cases h
  .exact(CK h).symm
 have h3:c.length<=(Fj l).length:=by rw[h2];exact Bq _ _
 have h4:(Fj l).length=(DG l).length:=by
  have:=(OW (Io (Il l)) (Io (Iu (EF l)))).2 (JN l)
  exact this.length_eq.symm
 unfold B9 at hl⊢;omega
abbrev p7:AV:=.tup [.agg bv,nzA,vb false]
abbrev rR:SB:=⟨[3],[],[],[],[],[],[],[],[(30,0),(34,1)],[],[]⟩
theorem kk(l:List Tm)(p:ByteArray)(hl:B9 l)(hs:∀t∈l,B9 t.set)(hn:FD l p=none):PC 311 [sl AN l,vs p] p7:=by
 have hc:=zq l hl hs;unfold FD at hn;cases e:C3 l with
 |none =>
  have e1:Ha l=.tup [sl AN [],vb false]:=by unfold Ha Rf;rw[e];rfl
  rw[e1]at hc;have hi:=oY (CV.ptr [vs p]) [] (fun x=>decide (x.path=p)) (fun x _=>sT x p) B0;refine Ps rR Tryz.func311 rfl (Nz rfl) (Xi .pure (Xi _ (Yi (hc) (Xi .pure (Xi _ (Yi (hi) (Yi (Nz rfl) (yN ?_))))))));exact .refl _
 |some c =>
  rw[e]at hn;have hn:(match Dx c p with | none=>none | some t=>some (t,F1 c p))=none:=hn;have xe:Dx c p=none:=by
   cases h:Dx c p with
   |none=>rfl
   |some t=>rw[h]at hn;cases hn
  have e1:Ha l=.tup [sl AN c,vb true]:=by unfold Ha Rf;rw[e];rfl
  rw[e1]at hc;have xc:=QR hl e;have hi:=oY (CV.ptr [vs p]) c (fun x=>decide (x.path=p)) (fun x _=>sT x p) (by unfold B9 at xc;omega);have hid:Jv (fun x:Tm=>decide (x.path=p)) c 0=-1:=by
   rcases PQ (p:=fun x:Tm=>decide (x.path=p)) c 0 with ⟨h1,_⟩ | ⟨i,x,_,_,h3⟩
   .exact h1
   .unfold Dx at xe;rw[h3]at xe;cases xe
  rw[hid]at hi;refine Ps rR Tryz.func311 rfl (Nz rfl) (Xi .pure (Xi _ (Yi (hc) (Xi .pure (Xi _ (Yi (hi) (Yi ?_ ?_)))))))
  .intro _;refine Yi (Nz rfl) (yN ?_);exact .refl _
  .intro h;exact absurd (show(-1:Int)<0 by decide) h
abbrev uf:SB:=⟨[3],[],[],[],[],[],[],[],[(30,0),(34,2)],[],[]⟩
theorem kl(l:List Tm)(p:ByteArray)(hl:B9 l)(hs:∀t∈l,B9 t.set)(hn:FD l p=some (t,r)) :
  A9 Tryz.prog 311 [sl AN l,vs p] (Ao [] Af) fun v h'=>v=.tup [.agg (AN t),.msl 2000 r.length,vb true]/\h'=Ao [(2000,.arr 3 (r.map AN))] Af:=by
 have hc:=zq l hl hs;unfold FD at hn;cases e:C3 l with
 |none=>rw[e]at hn;cases hn
 |some c =>
  rw[e]at hn;have hn:(match Dx c p with | none=>none | some t=>some (t,F1 c p))=some (t,r):=hn;have S7:Dx c p=some t/\F1 c p=r:=by
   cases h:Dx c p with
   |none=>rw[h]at hn;cases hn
   |some t=>rw[h]at hn;cases hn;exact Zr
  have e1:Ha l=.tup [sl AN c,vb true]:=by unfold Ha Rf;rw[e];rfl
  rw[e1]at hc;have xc:=QR hl e;have hi:=oY (CV.ptr [vs p]) c (fun x=>decide (x.path=p)) (fun x _=>sT x p) (by unfold B9 at xc;omega);rcases PQ (p:=fun x:Tm=>decide (x.path=p)) c 0 with ⟨_,h2⟩ | ⟨i,x,h1,h2,h3⟩
  .unfold Dx at S7;rw[h2]at S7;cases S7.1
  have hx:x=t:=by
   have:=S7.1
   unfold Dx at this;rw[h3]at this;exact CK this
  subst hx;rw[h1,Ew]at hi;obtain⟨xh,hie⟩:=Au.1 h2;have her:c.eraseIdx i=r:=by
   rw[<-S7.2];exact NY (Iu (Fa e)) xh (by rw[hie];exact HB S7.1)
  have zG:c.length-1=r.length:=by rw[<-her,List.length_eraseIdx_of_lt xh]
  have Dy:c≠[]:=fun h=>by subst h;simp at xh
  have AfX:c.length<=1073741824:=xc;refine Cq (MK uf) [(13400,2000)] rfl CQ hm rfl Tryz.func311 Wk rfl (Nz rfl) Wk rfl (Xi .pure (Xi _ (Yi (hc) (Xi .pure (Xi _ (Yi (hi) (Yi ?_ ?_)))))))
  .intro h;omega
  intro _;have hg:(c.map AN)[((i:Nat):Int).toNat]?=some (AN x):=by rw[Cb,AG,h2];rfl
  refine Xi (AN x) (Yi (Yi (Nn i) hg) (Yi rfl (yN (Xi c.length (Xi 3 (Xi (c.map AN) (Yi rfl (Yi (wq c xc Dy) (Yi (Ii i ch) (Xi (c.length-1) (Xi ((c.eraseIdx i).map AN) (Yi rfl (Yi (AaL c i xh) (yN (Yi Wk (yN ?_))))))))))))))));have e2:AV.tup [.agg (AN x),.msl 2000 (c.length-1),vb true]=.tup [.agg (AN x),.msl 2000 r.length,vb true]:=by rw[zG]
  have e3:Ao [(2000,HO.arr 3 ((c.eraseIdx i).map AN))] Af=Ao [(2000,.arr 3 (r.map AN))] Af:=by rw[her]
  exact Xi _ (Yi (.refl _) (Yi e2 e3))
abbrev fC:SB:=⟨[],[],[],[],[],[],[],[],[],[(24,9),(30,12)],[2,3,5,6]⟩
abbrev un:AV:=.tup [sl AN (BX a b p).1,vi (BX a b p).2]
theorem Xq{p:ByteArray}(h:FD l p=some (t,r)):∃c,C3 l=some c/\t∈c/\r=F1 c p:=by
 unfold FD at h;cases e:C3 l with
 |none=>rw[e]at h;cases h
 |some c =>
  rw[e]at h;have h:(match Dx c p with | none=>none | some t=>some (t,F1 c p))=some (t,r):=h;cases e2:Dx c p with
  |none=>rw[e2]at h;cases h
  |some u=>rw[e2]at h;cases h;exact⟨c,rfl,Fs e2,rfl⟩
theorem Xr{p:ByteArray}(hl:B9 l)(h:FD l p=some (t,r)):B9 t.set/\B9 r/\∀u∈r,B9 u.set:=by
 obtain⟨c,h1,h2,rfl⟩:=Xq h;have hs:=Fa h1;refine⟨Pz (hs.canon t h2),?_,fun u hu=>Pz (hs.canon u (Bv.1 hu).1)⟩
 have:=QR hl h1
 have h3:(F1 c p).length<=c.length:=Bq _ _;unfold B9 at *;omega
theorem kp(h:C3 l=some c):c.length<=l.length:=by
 have h1:=OE l l.length (Aj _);rw[B4]at h1;have h2:c=(Fj l).filter fun t=>!GX t:=by
  unfold C3 at h;split at h
  .cases h
  .exact(CK h).symm
 have h3:c.length<=(Fj l).length:=by rw[h2];exact Bq _ _
 have h4:(Fj l).length=(DG l).length:=by
  have:=(OW (Io (Il l)) (Io (Iu (EF l)))).2 (JN l)
  exact this.length_eq.symm
 omega
theorem Xs{p:ByteArray}(h:FD l p=some (t,r)):r.length<=l.length:=by
 obtain⟨c,h1,h2,rfl⟩:=Xq h;have h3:(F1 c p).length<=c.length:=Bq _ _
 have:=kp h1
 omega
theorem gT(a b:Bu):B9 (Qw a b):=by
 unfold B9;have:=IF (bj a b);omega
theorem AaD(ha:a.length<=500000000)(hb:b.length<=500000000)(hsa:∀t∈a,B9 t.set)(pE:∀t∈b,B9 t.set):PC 262 [sl AN a,sl AN b,vs p] (un a b p):=by
 have xb:B9 a:=by unfold B9;omega
 have tn:B9 b:=by unfold B9;omega
 have er:∀{l:List Tm} {e:Int},BX a b p=(l,e)->un a b p=.tup [sl AN l,vi e]:=fun h=>by unfold un;rw[h]
 have e0:CZ (.tup [nzA,vi 1]) (.tup [.slice .none [],vi 1]):=CZ.tup ⟨.nil,.refl _,trivial⟩;cases h1:FD a p with
 |none =>
  have hr:BX a b p=([],1):=by unfold BX;rw[h1]
  have c1:=kk a p xb hsa h1;cases h2:FD b p with
  |none =>
   have c2:=kk b p tn pE h2;refine Ps fC Tryz.func262 rfl (Nz rfl) (Xi .pure (Xi _ (Yi (c1) (yN (Xi ⟨[(1,sl AN b),(2,vs p),(8,.ref 8 0),(9,nzA),(10,vb false)],[(8,.cells bv)],Af⟩ (Yi ⟨Z5,Z1,Fh,Tv⟩ (Xi .pure (Xi _ (Yi (c2) (yN (Xi ⟨[(8,.ref 8 0),(9,nzA),(10,vb false),(11,.ref 11 0),(12,nzA),(13,vb false)],[(8,.cells bv),(11,.cells bv)],Af⟩ (Yi ⟨Z6,Z2,Fh,Tv⟩ ?_))))))))))))
   exact e0.trans (.of_eq (er hr).symm)
  |some q2 =>
   obtain⟨t2,r2⟩:=q2;have c2:=kl b p tn pE h2;refine Ps fC Tryz.func262 rfl (Nz rfl) (Xi .pure (Xi _ (Yi (c1) (yN (Xi ⟨[(1,sl AN b),(2,vs p),(8,.ref 8 0),(9,nzA),(10,vb false)],[(8,.cells bv)],Af⟩ (Yi ⟨Z5,Z1,Fh,Tv⟩ ?_))))))
   have z2:r2.length=(r2.map AN).length:=by rw[Lm]
   refine Xi (.gen [] 1) (Yi rfl (c2.imp ?_));intro v2 g2 q2;have q21:=q2.1;have q22:=q2.2;subst q21;subst q22;refine yN (Xi ⟨[(8,.ref 8 0),(9,nzA),(10,vb false),(11,.ref 11 0),(12,.msl 12600 r2.length),(13,vb true)],[(8,.cells bv),(11,.cells (AN t2)),(12600,.arr 3 (r2.map AN))],Af⟩ (Yi ⟨Z6,Z3,Fh,Tv⟩ (Yi z2 ?_)));exact e0.trans (.of_eq (er hr).symm)
 |some q1 =>
  obtain⟨t1,r1⟩:=q1;have c1:=kl a p xb hsa h1;obtain⟨f1,f2,f3⟩:=Xr xb h1;cases h2:FD b p with
  |none =>
   have hr:BX a b p=([],1):=by unfold BX;rw[h1,h2]
   have c2:=kk b p tn pE h2;refine Ps fC Tryz.func262 rfl (Nz rfl) (Xi (.gen [] 1) (Yi rfl (c1.imp ?_)));intro v1 g1 q1;have q11:=q1.1;have qo:=q1.2;subst q11;subst qo;refine yN (Xi ⟨[(1,sl AN b),(2,vs p),(8,.ref 8 0),(9,.msl 11900 r1.length),(10,vb true)],[(8,.cells (AN t1)),(11900,.arr 3 (r1.map AN))],Af⟩ (Yi ⟨Z5,Z2,Fh,Tv⟩ ?_))
   have z1:r1.length=(r1.map AN).length:=by rw[Lm]
   refine Yi z1 (Xi .pure (Xi _ (Yi (c2) (yN (Xi ⟨[(8,.ref 8 0),(9,.slice (.id 11900 3) (r1.map AN)),(10,vb true),(11,.ref 11 0),(12,nzA),(13,vb false)],[(8,.cells (AN t1)),(11,.cells bv),(11900,.tok 3 (r1.map AN).length)],Af⟩ (Yi ⟨Z6,Z3,Fh,Tv⟩ ?_))))))
   exact e0.trans (.of_eq (er hr).symm)
  |some q2 =>
   obtain⟨t2,r2⟩:=q2;have c2:=kl b p tn pE h2;obtain⟨g1,g2,g3⟩:=Xr tn h2;refine Ps fC Tryz.func262 rfl (Nz rfl) (Xi (.gen [] 1) (Yi rfl (c1.imp ?_)));intro v1 g1 q1;have q11:=q1.1;have qo:=q1.2;subst q11;subst qo;refine yN (Xi ⟨[(1,sl AN b),(2,vs p),(8,.ref 8 0),(9,.msl 11900 r1.length),(10,vb true)],[(8,.cells (AN t1)),(11900,.arr 3 (r1.map AN))],Af⟩ (Yi ⟨Z5,Z2,Fh,Tv⟩ ?_))
   have z1:r1.length=(r1.map AN).length:=by rw[Lm]
   have z2:r2.length=(r2.map AN).length:=by rw[Lm]
   refine Yi z1 (Xi (.gen [] 1) (Yi rfl (c2.imp ?_)));intro v2 g2 q2;have q21:=q2.1;have q22:=q2.2;subst q21;subst q22;refine yN (Xi ⟨[(8,.ref 8 0),(9,.slice (.id 11900 3) (r1.map AN)),(10,vb true),(11,.ref 11 0),(12,.msl 12600 r2.length),(13,vb true)],[(8,.cells (AN t1)),(11,.cells (AN t2)),(11900,.tok 3 (r1.map AN).length),(12600,.arr 3 (r2.map AN))],Af⟩ (Yi ⟨Z6,Z4,Fh,Tv⟩ (Yi z2 (Xi ⟨[(8,.ref 8 0),(9,.slice (.id 11900 3) (r1.map AN)),(11,.ref 11 0),(12,.slice (.id 12600 3) (r2.map AN))],[(8,.cells (AN t1)),(11,.cells (AN t2)),(11900,.tok 3 (r1.map AN).length),(12600,.tok 3 (r2.map AN).length)],Af⟩ (Yi ⟨Z4,Z4,Fh,Tv⟩ ?_)))))
   have l1:=Xs h1;have l2:=Xs h2;have b1:Cn 3 (r2.map AN)/\(r1.map AN).length=(r1.map AN).length/\((r1.map AN).length+(r2.map AN).length)*48<=140737488355328/\(r1.map AN).length+(r2.map AN).length<=9223372036854775807 :=
    ⟨DZ (enc:=AN) (n:=3) (fun _=>rfl) r2,rfl,by rw[Lm,Lm];omega,by rw[Lm,Lm];omega⟩
   refine Yi b1 (Yi (Nz rfl) (yN (Xi _ (Yi (AaH t1 t2 f1 g1) ?_))));have b2:Cn 3 [AN (Dt t1 t2)]/\(r1.map AN++r2.map AN).length=(r1.map AN).length+(r2.map AN).length/\((r1.map AN++r2.map AN).length+[AN (Dt t1 t2)].length)*48<=140737488355328/\(r1.map AN++r2.map AN).length+[AN (Dt t1 t2)].length<=9223372036854775807 :=
    ⟨⟨rfl,trivial⟩,by rw[Ac],by rw[Ac,Lm,Lm,Bb];omega,by rw[Ac,Lm,Lm,Bb];omega⟩
   refine Yi b2 ?_;have wZ:=zq (r1++r2++[Dt t1 t2]) (by unfold B9;simp only[Ac,Bb];omega) (fun u hu=>by
    rcases AO.1 hu with hu | hu
    .rcases AO.1 hu with hu | hu
     .exact f3 u hu
     .exact g3 u hu
    .rw[Ap.1 hu];exact gT _ _)
   have e1:sl AN (r1++r2++[Dt t1 t2])=.slice .none (r1.map AN++r2.map AN++[AN (Dt t1 t2)]):=by simp
   have hc1:PC 312 [.slice .none (r1.map AN++r2.map AN++[AN (Dt t1 t2)])] (Ha (r1++r2++[Dt t1 t2])):=e1▸wZ;cases vB:C3 (r1++r2++[Dt t1 t2])with
   |none =>
    have hr:BX a b p=([],8):=by unfold BX;rw[h1,h2];dsimp only;rw[vB]
    have ec:Ha (r1++r2++[Dt t1 t2])=.tup [sl AN [],vb false]:=by unfold Ha Rf;rw[vB];rfl
    have hc:PC 312 [.slice .none (r1.map AN++r2.map AN++[AN (Dt t1 t2)])] (.tup [sl AN [],vb false]):=ec▸hc1;have e8:CZ (.tup [nzA,vi 8]) (.tup [.slice .none [],vi 8]):=CZ.tup ⟨.nil,.refl _,trivial⟩;refine Xi _ (Yi (hc) (Yi Wk (Xi ⟨[(14,sl AN []),(15,vb false)],[],Af⟩ (Yi ⟨Z2,Tv,Fh,Tv⟩ ?_))))
    exact e8.trans (.of_eq (er hr).symm)
   |some o =>
    have hr:BX a b p=(o,0):=by unfold BX;rw[h1,h2];dsimp only;rw[vB]
    have ec:Ha (r1++r2++[Dt t1 t2])=.tup [sl AN o,vb true]:=by unfold Ha Rf;rw[vB];rfl
    have hc:PC 312 [.slice .none (r1.map AN++r2.map AN++[AN (Dt t1 t2)])] (.tup [sl AN o,vb true]):=ec▸hc1;refine Xi _ (Yi (hc) (Yi Wk (Xi ⟨[(14,sl AN o),(15,vb true)],[],Af⟩ (Yi ⟨Z2,Tv,Fh,Tv⟩ ?_))))
    exact .of_eq (er hr).symm
def dZ(h s:Nat->HO):Nat->Bool
 |0=>true
 |n+1=>(match h (1000+n)with |.free=>true |_=>(match s (1000+n)with |.free=>false |_=>true))&&dZ h s n
theorem T7{h s:Nat->HO}:∀{n:Nat},dZ h s n=true->∀j,j<n->h (1000+j)≠.free->s (1000+j)≠.free
 |n+1,hd,j,hj,hn=>by
  simp only[dZ,Ae]at hd;rcases DQ j n with h1 | h1
  .exact T7 hd.2 j h1 hn
  .have:j=n:=by omega
   subst this
   have:=hd.1
   intro e;split at this
   .rename_i q;exact hn q
   .rw[e]at this;cases this
theorem BN{h s:Nat->HO}(hd:dZ h s 1000=true):∀j,1000<=j->j<2000->h j≠.free->s j≠.free:=fun j h1 h2=>by
 have:=T7 hd (j-1000) ch
 rw[show 1000+(j-1000)=j by omega]at this;exact this
abbrev r6:List AV:=[vs ⟨#[]⟩,vi 0,vi 0,vi 0,nzA,vs ⟨#[]⟩,vs ⟨#[]⟩,vs ⟨#[]⟩,vb false]
abbrev fw:Option Rl->AV
 |some r=>.tup [.agg (AF r),vb true]
 |none=>.tup [.agg r6,vb false]
theorem kR{α:Type}{p:α->Bool}{l:List α}(hi:i<l.length)(hb:∀j (hj:j<l.length),j<i->p l[j]=false)(h:p l[i]=true):l.find? p=some l[i]:=by
 rw[List.find?_eq_some_iff_getElem];exact⟨h,i,hi,rfl,fun j hj=>by rw[hb j ch hj];rfl⟩
theorem qm(v:Ver):0<=plc v/\plc v<1000000:=by
 unfold plc;cases h:Ct v with
 |true=>exact Ke h
 |false=>simp
abbrev sc(t:List Tm):Prop:=t.length<=500000000/\∀u∈t,B9 u.set
theorem sM:PC 198 [vs s] (vb false):=by
 refine Ps Ee Tryz.func198 rfl (Nz rfl) (Yi ?_ ?_)
 .intro h;exact absurd rfl (show s≠s from h)
 .intro _;exact .refl _
theorem wm(z:Int):PC 265 [vi z] (vb false):=by
 refine Ps Ee Tryz.func265 rfl (Nz rfl) (Yi ?_ ?_)
 .intro h;exact absurd rfl (show z≠z from h)
 .intro _;exact .refl _
theorem Aat(a b:ByteArray):PC 145 [vs a,vs b] (vi (KR a b)):=by
 refine Ps Ee Tryz.func145 rfl (Nz rfl) (Xi .pure (Xi _ (Yi (sM a) (Xi .pure (Xi _ (Yi (sM b) (Yi ?_ ?_)))))))
 .intro h;exact .of_eq (Aa vi (show(-1:Int)=KR a b by unfold KR;rw[Al (by rw[F9];exact h)]))
 .intro h;refine Yi ?_ ?_
  .intro h2;exact .of_eq (Aa vi (show(1:Int)=KR a b by unfold KR;rw[Ai (by rw[F9];exact h),Al (by rw[F9];exact h2)]))
  .intro h2;exact .of_eq (Aa vi (show(0:Int)=KR a b by unfold KR;rw[Ai (by rw[F9];exact h),Ai (by rw[F9];exact h2)]))
theorem sN(a b:Int):PC 199 [vi a,vi b] (vi (GZ a b)):=by
 refine Ps Ee Tryz.func199 rfl (Nz rfl) (Xi .pure (Xi _ (Yi (wm a) (Xi .pure (Xi _ (Yi (wm b) (Yi ?_ ?_)))))))
 .intro h;exact .of_eq (Aa vi (show(-1:Int)=GZ a b by unfold GZ;rw[Al h]))
 .intro h;refine Yi ?_ ?_
  .intro h2;exact .of_eq (Aa vi (show(1:Int)=GZ a b by unfold GZ;rw[Ai h,Al h2]))
  .intro h2;exact .of_eq (Aa vi (show(0:Int)=GZ a b by unfold GZ;rw[Ai h,Ai h2]))
theorem Aas(a b:Int):PC 144 [.slice .none [[vi a],[vi b]]] (vi (if a≠0 then a else b)):=by
 refine Ps Ee Tryz.func144 rfl (Nz rfl) (Xi {i:Nat // i<=2/\(0<i->a=0)/\(1<i->b=0)} (Xi (fun i=>⟨[(3,vi 0),(6,.slice .none [[vi a],[vi b]]),(7,vi 2),(8,vi i.1)],[],Af⟩) (Xi (fun i=>2-i.1) (Yi (Xi ⟨0,by omega,by omega,by omega⟩ ?_) ?_))))
 .exact⟨Z4,Tv,Fh,Tv⟩
 intro⟨i,h1,h2,h3⟩;refine Yi ?_ ?_
 .intro h;have h:(i:Int)<2:=h
  match i,h1,h2,h3,h with
  |0,h1,h2,h3,h =>
   refine Xi [vi a] (Yi (Yi (Bs _) rfl) (Yi rfl (Yi ?_ ?_)))
   .intro h4;exact .of_eq (Aa vi (Al h4).symm)
   .intro h4;refine Yi (Ii 0 ch) (Xi ⟨1,by omega,fun _=>by omega,fun q=>absurd q Cl⟩ ?_);exact⟨by show 2-1<2-0;decide,Z4,Tv,Fh,Tv⟩
  |1,h1,h2,h3,h =>
   have ha:=h2 Cl;refine Xi [vi b] (Yi (Yi (by show(0:Int)<=1;decide) rfl) (Yi rfl (Yi ?_ ?_)))
   .intro h4;exact .of_eq (Aa vi (Ai ch).symm)
   .intro h4;refine Yi (Ii 1 ch) (Xi ⟨2,by omega,fun _=>ha,fun q=>by omega⟩ ?_);exact⟨by show 2-2<2-1;decide,Z4,Tv,Fh,Tv⟩
  |i+2,h1,h2,h3,h=>omega
 .intro h;have h:¬(i:Int)<2:=h;have ha:=h2 ch;have hb:=h3 ch;exact .of_eq (Aa vi (show(0:Int)=if a≠0 then a else b by rw[Ai ch,hb]))
theorem T0(a b:Ver)(i:Nat)(hi:i<3)(h:∀j,j<i->GZ (part a j) (part b j)=0)(hn:GZ (part a i) (part b i)≠0):Pn a b=GZ (part a i) (part b i):=by
 unfold Pn
 match i,hi,h,hn with
 |0,_,_,hn=>exact Al hn
 |1,_,h,hn =>
  have h0:GZ a.a b.a=0:=h 0 Cl;rw[Ai ch];exact Al hn
 |2,_,h,hn =>
  have h0:GZ a.a b.a=0:=h 0 Cl;have h1:GZ a.b b.b=0:=h 1 Cl;rw[Ai ch,Ai ch];rfl
theorem kz(a b:Ver)(h:∀j,j<3->GZ (part a j) (part b j)=0):Pn a b=0:=by
 unfold Pn;have h0:GZ a.a b.a=0:=h 0 Cl;have h1:GZ a.b b.b=0:=h 1 Cl;have h2:GZ a.c b.c=0:=h 2 Cl;rw[Ai ch,Ai ch,h2]
theorem Aau(a b:Ver):PC 146 [.agg (DF a),.agg (DF b)] (vi (Pn a b)):=by
 refine Ps Ee Tryz.func146 rfl (Nz rfl) (yN (Xi _ (Yi (sK a) (yN (Xi _ (Yi (sK b) (Yi (Nz rfl) (yN (Yi Wk (Xi {i:Nat // i<=3/\∀j,j<i->GZ (part a j) (part b j)=0} (Xi (fun i=>⟨[(5,.ref 5 0),(6,.ref 6 0),(13,vi i.1)],[(5,.cells (DF a)),(6,.cells (DF b))],Af⟩) (Xi (fun i=>3-i.1) (Yi (Xi ⟨0,by omega,fun j h=>by omega⟩ ?_) ?_)))))))))))))
 .exact⟨Z3,Z2,Fh,Tv⟩
 intro⟨i,h1,h2⟩;refine Yi ?_ ?_
 .intro h;have h:(i:Int)<3:=h;have next:GZ (part a i) (part b i)=0->∀j,j<i+1->GZ (part a j) (part b j)=0:=fun hz j hj=>by
   rcases DQ j i with q | q
   .exact h2 j q
   .have:j=i:=by omega
    subst this;exact hz
  match i,h1,h2,h,next with
  |0,h1,h2,h,next =>
   refine Yi ⟨by show(0:Int)<=0;decide,by show(0:Int)<3;decide⟩ ?_;refine Yi ⟨by show(0:Int)<=0;decide,by show(0:Int)<3;decide⟩ ?_;refine Xi _ (Yi (sN (part a 0) (part b 0)) (Yi Wk (Yi ?_ ?_)))
   .intro h4;exact .of_eq (Aa vi (T0 a b 0 Cl h2 h4).symm)
   .intro h4;refine Yi (Ii 0 ch) (Xi ⟨1,by omega,next (GC h4)⟩ ?_)
    exact⟨by show 3-1<3-0;decide,Z3,Z2,Fh,Tv⟩
  |1,h1,h2,h,next =>
   refine Yi ⟨by show(0:Int)<=1;decide,by show(1:Int)<3;decide⟩ ?_;refine Yi ⟨by show(0:Int)<=1;decide,by show(1:Int)<3;decide⟩ ?_;refine Xi _ (Yi (sN (part a 1) (part b 1)) (Yi Wk (Yi ?_ ?_)))
   .intro h4;exact .of_eq (Aa vi (T0 a b 1 Cl h2 h4).symm)
   .intro h4;refine Yi (Ii 1 ch) (Xi ⟨2,by omega,next (GC h4)⟩ ?_)
    exact⟨by show 3-2<3-1;decide,Z3,Z2,Fh,Tv⟩
  |2,h1,h2,h,next =>
   refine Yi ⟨by show(0:Int)<=2;decide,by show(2:Int)<3;decide⟩ ?_;refine Yi ⟨by show(0:Int)<=2;decide,by show(2:Int)<3;decide⟩ ?_;refine Xi _ (Yi (sN (part a 2) (part b 2)) (Yi Wk (Yi ?_ ?_)))
   .intro h4;exact .of_eq (Aa vi (T0 a b 2 Cl h2 h4).symm)
   .intro h4;have h4:¬GZ (part a 2) (part b 2)≠0:=h4;refine Yi (Ii 2 ch) (Xi ⟨3,by omega,next (GC h4)⟩ ?_)
    exact⟨by show 3-3<3-2;decide,Z3,Z2,Fh,Tv⟩
  |i+3,h1,h2,h,next=>omega
 .intro h;have h:¬(i:Int)<3:=h;exact .of_eq (Aa vi (kz a b fun j hj=>h2 j ch).symm)
theorem wg(a b:Rl):PC 85 [.agg (AF a),.agg (AF b)] (vi (Ds a b)):=by
 refine Ps Ee Tryz.func85 rfl (Nz rfl) (Xi _ (Yi (Aat a.path b.path) (Yi (Nz rfl) (yN (Xi _ (Yi (Aau a.ver b.ver) (Xi _ (Yi (Aas (KR a.path b.path) (Pn a.ver b.ver)) (Yi Wk ?_)))))))));exact .refl _
abbrev F7:Prop:=s.size<=1073741824
abbrev JT(q:Rq):Prop:=B9 q.set/\F7 q.path
abbrev Eu(r:Rl):Prop:=F7 r.path/\∀q∈r.reqs,JT q
abbrev eX(nm:ByteArray->ByteArray)(p:ByteArray):AV:=match CB p with
 |some m=>.tup [vs (nm p),vi m,vi 0]
 |none=>.tup [vs ⟨#[]⟩,vi 0,vi 4]
abbrev VB(nm:ByteArray->ByteArray):Prop:=∀p:ByteArray,F7 p->PC 167 [vs p] (eX nm p)
theorem VB.none(h:VB nm){p:ByteArray}(hp:F7 p)(e:CB p=.none):PC 167 [vs p] (.tup [vs ⟨#[]⟩,vi 0,vi 4]):=by
 have:=h p hp;unfold eX at this;rw[e]at this;exact this
theorem VB.some(h:VB nm){p:ByteArray}{m:Int}(hp:F7 p)(e:CB p=.some m):PC 167 [vs p] (.tup [vs (nm p),vi m,vi 0]):=by
 have:=h p hp;unfold eX at this;rw[e]at this;exact this
theorem wh(hL:VB nm)(q:Rq)(hq:B9 q.set)(hp:F7 q.path):PC 107 [.agg (Ba q),.v (.pointer none)] (vi (IQ none q)):=by
 cases RY:CB q.path with
 |none =>
  have e:(4:Int)=IQ none q:=by unfold IQ;rw[RY];rfl
  have hl:=hL.none hp RY;refine Ps Ee Tryz.func107 rfl (Nz rfl) (Xi .pure (Xi _ (Yi (hl) (Yi ?_ ?_))))
  .intro _;exact .of_eq (Aa vi e)
  .intro h;exact absurd (show(4:Int)≠0 by decide) h
 |some m =>
  have er:IQ none q=if(q.set.isEmpty||!decide (q.set=canon q.set)||false)=true then 1 else 0:=by unfold IQ;rw[RY];rfl
  have hl:=hL.some hp RY;have hc:=XV q.set hq;have he:=oX q.set (canon q.set) hq;have VK:∀{n:Int},n=(q.set.map AC).length->n=0->q.set.isEmpty=true:=fun h1 h2=>by
   rw[Lm]at h1;rw[Hk];exact AP ch
  have lC:¬((q.set.map AC).length:Int)=0->q.set.isEmpty=false:=fun h=>by
   cases hqs:q.set with
   |nil=>rw[hqs]at h;exact absurd rfl h
   |cons a l=>rfl
  rcases Bt (decide (q.set=canon q.set))with h2 | h2
  .rw[h2]at he;refine Ps (Kf []) Tryz.func107 rfl (Nz rfl) (Xi .pure (Xi _ (Yi (hl) (Yi ?_ ?_))))
   .intro h;exact absurd rfl h
   intro _;refine Yi ?_ ?_
   .intro h;have e:(1:Int)=IQ none q:=by rw[er,VK rfl h];rfl
    refine Yi Wk ?_;exact .of_eq (Aa vi e)
   intro h;have hn:=lC h;refine Xi _ (Yi (hc) (Xi _ (Yi (he) (Yi Wk ?_))));have e:(0:Int)=IQ none q:=by rw[er,hn,h2];rfl
   exact .of_eq (Aa vi e)
  .rw[h2]at he;refine Ps (Kf []) Tryz.func107 rfl (Nz rfl) (Xi .pure (Xi _ (Yi (hl) (Yi ?_ ?_))))
   .intro h;exact absurd rfl h
   intro _;refine Yi ?_ ?_
   .intro h;have e:(1:Int)=IQ none q:=by rw[er,VK rfl h];rfl
    refine Yi Wk ?_;exact .of_eq (Aa vi e)
   intro h;have hn:=lC h;refine Xi _ (Yi (hc) (Xi _ (Yi (he) (Yi Wk ?_))));have e:(1:Int)=IQ none q:=by rw[er,hn,h2];rfl
   exact .of_eq (Aa vi e)
theorem wi(hL:VB nm)(q b:Rq)(hq:B9 q.set)(hp:F7 q.path):PC 107 [.agg (Ba q),.cptr (Ba b)] (vi (IQ (some b.path) q)):=by
 cases RY:CB q.path with
 |none =>
  have e:(4:Int)=IQ (some b.path) q:=by unfold IQ;rw[RY];rfl
  have hl:=hL.none hp RY;refine Ps Ee Tryz.func107 rfl (Nz rfl) (Xi .pure (Xi _ (Yi (hl) (Yi ?_ ?_))))
  .intro _;exact .of_eq (Aa vi e)
  .intro h;exact absurd (show(4:Int)≠0 by decide) h
 |some m =>
  have er:IQ (some b.path) q=if(q.set.isEmpty||!decide (q.set=canon q.set)||!Ea b.path q.path)=true then 1 else 0:=by unfold IQ;rw[RY];rfl
  have hl:=hL.some hp RY;have hc:=XV q.set hq;have he:=oX q.set (canon q.set) hq;have VK:∀{n:Int},n=(q.set.map AC).length->n=0->q.set.isEmpty=true:=fun h1 h2=>by
   rw[Lm]at h1;rw[Hk];exact AP ch
  have lC:¬((q.set.map AC).length:Int)=0->q.set.isEmpty=false:=fun h=>by
   cases hqs:q.set with
   |nil=>rw[hqs]at h;exact absurd rfl h
   |cons a l=>rfl
  rcases Bt (decide (q.set=canon q.set))with h2 | h2
  .rw[h2]at he;refine Ps (Kf []) Tryz.func107 rfl (Nz rfl) (Xi .pure (Xi _ (Yi (hl) (Yi ?_ ?_))))
   .intro h;exact absurd rfl h
   intro _;refine Yi ?_ ?_
   .intro h;have e:(1:Int)=IQ (some b.path) q:=by rw[er,VK rfl h];rfl
    refine Yi Wk ?_;exact .of_eq (Aa vi e)
   intro h;have hn:=lC h;refine Xi _ (Yi (hc) (Xi _ (Yi (he) (Yi ?_ ?_))))
   .intro h3;refine Yi Wk ?_;have e:(1:Int)=IQ (some b.path) q:=by rw[er,hn,h2,F9,h3];rfl
    exact .of_eq (Aa vi e)
   .intro h3;have h3:Op.bytesLess b.path.toList q.path.toList=true:=by simpa using h3
    refine Yi Wk ?_;have e:(0:Int)=IQ (some b.path) q:=by rw[er,hn,h2,F9,h3];rfl
    exact .of_eq (Aa vi e)
  .rw[h2]at he;refine Ps (Kf []) Tryz.func107 rfl (Nz rfl) (Xi .pure (Xi _ (Yi (hl) (Yi ?_ ?_))))
   .intro h;exact absurd rfl h
   intro _;refine Yi ?_ ?_
   .intro h;have e:(1:Int)=IQ (some b.path) q:=by rw[er,VK rfl h];rfl
    refine Yi Wk ?_;exact .of_eq (Aa vi e)
   intro h;have hn:=lC h;refine Xi _ (Yi (hc) (Xi _ (Yi (he) (Yi Wk ?_))));have e:(1:Int)=IQ (some b.path) q:=by rw[er,hn,h2];rfl
   exact .of_eq (Aa vi e)
abbrev Nm(l:List Rq)(k:Nat):List AV:=((l.map Ba)[k]?).getD []
abbrev v8(l:List Rq):Nat->AV
 |0=>.v (.pointer none)
 |k+1=>.cptr (Nm l k)
abbrev TO(l:List Rq):Nat->Option ByteArray
 |0=>none
 |k+1=>(l[k]?).map (·.path)
theorem On{l:List Rq}(h:k<l.length):Nm l k=Ba l[k]:=by
 unfold Nm;rw[AG,Ge h];rfl
theorem TP{l:List Rq}(h:k<l.length):TO l (k+1)=some l[k].path:=by
 show(l[k]?).map _=_;rw[Ge h];rfl
theorem c65(hL:VB nm)(l:List Rq)(hs:∀q∈l,JT q):PC 64 [sl Ba l] (vi (BI l)):=by
 refine Ps (Kf []) Tryz.func64 rfl (Nz rfl) (Yi ?_ ?_)
 .intro h;exact .of_eq (Aa vi (show(7:Int)=BI l by unfold BI;rw[Al (by rw[Lm]at h;omega)]))
 intro h;have hl:l.length<=16:=by rw[Lm]at h;omega
 have Vv:BI l=Ga none l:=by unfold BI;rw[Ai ch]
 refine Xi {i:Nat // i<=l.length/\Ga none l=Ga (TO l i) (l.drop i)} (Xi (fun i=>⟨[(0,sl Ba l),(3,v8 l i.1),(10,sl Ba l),(11,vi (l.map Ba).length),(12,vi i.1)],[],Af⟩) (Xi (fun i=>l.length-i.1) (Yi (Xi ⟨0,AE _,rfl⟩ ?_) ?_)))
 .exact⟨Z5,Tv,Fh,Tv⟩
 intro⟨i,h1,h2⟩;refine Yi ?_ ?_
 .intro h;have h:i<l.length:=by simpa using h
  have hg:l[i]?=some l[i]:=Ge h;have hd:l.drop i=l[i]::l.drop (i+1):=AH h;have hq:=hs l[i] (Aq h);have hc:PC 107 [.agg (Ba l[i]),v8 l i] (vi (IQ (TO l i) l[i])):=by
   cases i with
   |zero=>exact wh hL _ hq.1 hq.2
   |succ k =>
    rw[TP (by omega:k<l.length)];show PC 107 [_,.cptr (Nm l k)] _;rw[On (by omega:k<l.length)];exact wi hL _ _ hq.1 hq.2
  have KU:Ga none l=if IQ (TO l i) l[i]=0 then Ga (some l[i].path) (l.drop (i+1))else IQ (TO l i) l[i]:=by rw[h2,hd];rfl
  match i,h1,h2,h,hg,hd,hc,KU with
  |0,h1,h2,h,hg,hd,hc,KU =>
   refine Xi (Ba l[0]) (Yi (Yi (by show(0:Int)<=((0:Nat):Int);omega) (by simp[hg])) (Yi rfl ?_));refine Yi (Nz rfl) (Yi (Nz rfl) (yN (Xi .pure (Xi _ (Yi (hc) (Yi ?_ ?_))))))
   .intro h4;exact .of_eq (Aa vi (show IQ (TO l (0)) l[0]=BI l by rw[Vv,KU,Ai h4]))
   .intro h4;refine Xi (Ba l[0]) (Yi (Yi (by show(0:Int)<=((0:Nat):Int);omega) (by simp[hg])) (Yi rfl ?_));refine Yi (by show A7 (((0:Nat):Int)+1);unfold A7;omega) ?_;refine Xi ⟨0+1,by omega,by rw[KU,Al (GC h4),TP h]⟩ ?_;have e1:AV.cptr (Ba l[0])=.cptr (Nm l (0)):=by rw[On h]
    exact⟨by show l.length-(0+1)<l.length-(0);omega,⟨Zr,⟨e1,rfl⟩,Zr,Zr,Zr,Tv⟩,Tv,Fh,Tv⟩
  |k+1,h1,h2,h,hg,hd,hc,KU =>
   refine Xi (Ba l[k+1]) (Yi (Yi (by show(0:Int)<=((k+1:Nat):Int);omega) (by simp[hg])) (Yi rfl ?_));refine Yi (Nz rfl) (Yi (Nz rfl) (yN (Xi .pure (Xi _ (Yi (hc) (Yi ?_ ?_))))))
   .intro h4;exact .of_eq (Aa vi (show IQ (TO l (k+1)) l[k+1]=BI l by rw[Vv,KU,Ai h4]))
   .intro h4;refine Xi (Ba l[k+1]) (Yi (Yi (by show(0:Int)<=((k+1:Nat):Int);omega) (by simp[hg])) (Yi rfl ?_));refine Yi (by show A7 (((k+1:Nat):Int)+1);unfold A7;omega) ?_;refine Xi ⟨k+1+1,by omega,by rw[KU,Al (GC h4),TP h]⟩ ?_;have e1:AV.cptr (Ba l[k+1])=.cptr (Nm l (k+1)):=by rw[On h]
    exact⟨by show l.length-(k+1+1)<l.length-(k+1);omega,⟨Zr,⟨e1,rfl⟩,Zr,Zr,Zr,Tv⟩,Tv,Fh,Tv⟩
 .intro h;have h:¬i<l.length:=by simpa using h
  have e:(0:Int)=BI l:=by rw[Vv,h2,VC ch];rfl
  exact .of_eq (Aa vi e)
abbrev kH(r:Rl):Nat->ByteArray
 |0=>r.arch
 |1=>r.ifc
 |_=>r.cert
theorem sY{r:Rl}(h:∀j,j<3->Fg (kH r j)=true):(Fg r.arch&&Fg r.ifc&&Fg r.cert)=true:=by
 have h0:Fg r.arch=true:=h 0 Cl;have h1:Fg r.ifc=true:=h 1 Cl;have h2:Fg r.cert=true:=h 2 Cl;rw[h0,h1,h2];rfl
theorem cc{r:Rl}(hi:i<3)(h:Fg (kH r i)=false):(Fg r.arch&&Fg r.ifc&&Fg r.cert)=false:=by
 match i,hi,h with
 |0,_,h=>have h:Fg r.arch=false:=h;rw[h];rfl
 |1,_,h=>have h:Fg r.ifc=false:=h;rw[h,Dn];rfl
 |2,_,h=>have h:Fg r.cert=false:=h;rw[h,Dn]
theorem Aaj(hL:VB nm)(r:Rl)(hr:Eu r):PC 147 [.agg (AF r)] (vi (DS r)):=by
 cases RY:CB r.path with
 |none =>
  have e:(4:Int)=DS r:=by unfold DS;rw[RY]
  have hl:=hL.none hr.1 RY;refine Ps Ee Tryz.func147 rfl (Nz rfl) (Xi .pure (Xi _ (Yi (hl) (Yi ?_ ?_))))
  .intro _;exact .of_eq (Aa vi e)
  .intro h;exact absurd (show(4:Int)≠0 by decide) h
 |some m =>
  have er:DS r=if(!Ct r.ver||!decide (r.ver.a=m))=true then 2 else if BI r.reqs≠0 then BI r.reqs else if(Fg r.arch&&Fg r.ifc&&Fg r.cert)=true then 0 else 1:=by unfold DS;rw[RY]
  have hl:=hL.some hr.1 RY;have hv:=we r.ver;have hc:=c65 hL r.reqs hr.2;rcases Bt (Ct r.ver)with h2 | h2
  .rw[h2]at hv;refine Ps (Kf []) Tryz.func147 rfl (Nz rfl) (Xi .pure (Xi _ (Yi (hl) (Yi ?_ ?_))))
   .intro h;exact absurd rfl h
   intro _;refine yN (Xi .pure (Xi _ (Yi (hv) (Yi ?_ ?_))))
   .intro h;have e:(2:Int)=DS r:=by rw[er,h2,AB h];rfl
    exact .of_eq (Aa vi e)
   intro h;have h3:r.ver.a=m:=GC h;have wC:DS r=if BI r.reqs≠0 then BI r.reqs else if(Fg r.arch&&Fg r.ifc&&Fg r.cert)=true then 0 else 1:=by rw[er,h2,Ax h3];rfl
   refine Xi .pure (Xi _ (Yi (hc) (Yi ?_ ?_)))
   .intro h4;exact .of_eq (Aa vi (show BI r.reqs=DS r by rw[wC,Al h4]))
   intro h4;have zt:DS r=if(Fg r.arch&&Fg r.ifc&&Fg r.cert)=true then 0 else 1:=by rw[wC,Ai h4]
   refine Xi {i:Nat // i<=3/\∀j,j<i->Fg (kH r j)=true} (Xi (fun i=>⟨[(41,.slice (.id 41 1) [[vs r.arch],[vs r.ifc],[vs r.cert]]),(42,vi 3),(43,vi i.1)],[(41,.tok 1 3)],Af⟩) (Xi (fun i=>3-i.1) (Yi (Xi ⟨0,by omega,fun j h=>by omega⟩ ?_) ?_)))
   .exact⟨Z3,Z1,Fh,Tv⟩
   intro⟨i,i1,i2⟩;refine Yi ?_ ?_
   .intro h;have h:(i:Int)<3:=h;have next:Fg (kH r i)=true->∀j,j<i+1->Fg (kH r j)=true:=fun hz j hj=>by
     rcases DQ j i with q | q
     .exact i2 j q
     .have:j=i:=by omega
      subst this;exact hz
    match i,i1,i2,h,next with
    |0,i1,i2,h,next =>
     refine Xi [vs r.arch] (Yi (Yi (by show(0:Int)<=0;decide) rfl) (Yi rfl (Yi ?_ ?_)))
     .intro h5;refine Yi ?_ ?_
      .intro h6;have e:(1:Int)=DS r:=by rw[zt,cc (i:=0) Cl (show Fg r.arch=false by unfold Fg;rw[AB ch,AB ch];rfl)];rfl
       exact .of_eq (Aa vi e)
      .intro h6;refine Yi (Ii 0 ch) (Xi ⟨1,by omega,next (show Fg r.arch=true by unfold Fg;rw[Ax (by omega:r.arch.size=32),Bool.or_true])⟩ ?_)
       exact⟨by show 3-1<3-0;decide,Z3,Z1,Fh,Tv⟩
     .intro h5;refine Yi (Ii 0 ch) (Xi ⟨1,by omega,next (show Fg r.arch=true by unfold Fg;rw[Ax (by omega:r.arch.size=0)];rfl)⟩ ?_)
      exact⟨by show 3-1<3-0;decide,Z3,Z1,Fh,Tv⟩
    |1,i1,i2,h,next =>
     refine Xi [vs r.ifc] (Yi (Yi (by show(0:Int)<=1;decide) rfl) (Yi rfl (Yi ?_ ?_)))
     .intro h5;have h5:((r.ifc.size:Nat):Int)≠0:=h5;refine Yi ?_ ?_
      .intro h6;have h6:((r.ifc.size:Nat):Int)≠32:=h6;have e:(1:Int)=DS r:=by rw[zt,cc (i:=1) Cl (show Fg r.ifc=false by unfold Fg;rw[AB ch,AB ch];rfl)];rfl
       exact .of_eq (Aa vi e)
      .intro h6;have h6:¬((r.ifc.size:Nat):Int)≠32:=h6;refine Yi (Ii 1 ch) (Xi ⟨2,by omega,next (show Fg r.ifc=true by unfold Fg;rw[Ax (by omega:r.ifc.size=32),Bool.or_true])⟩ ?_)
       exact⟨by show 3-2<3-1;decide,Z3,Z1,Fh,Tv⟩
     .intro h5;have h5:¬((r.ifc.size:Nat):Int)≠0:=h5;refine Yi (Ii 1 ch) (Xi ⟨2,by omega,next (show Fg r.ifc=true by unfold Fg;rw[Ax (by omega:r.ifc.size=0)];rfl)⟩ ?_)
      exact⟨by show 3-2<3-1;decide,Z3,Z1,Fh,Tv⟩
    |2,i1,i2,h,next =>
     refine Xi [vs r.cert] (Yi (Yi (by show(0:Int)<=2;decide) rfl) (Yi rfl (Yi ?_ ?_)))
     .intro h5;have h5:((r.cert.size:Nat):Int)≠0:=h5;refine Yi ?_ ?_
      .intro h6;have h6:((r.cert.size:Nat):Int)≠32:=h6;have e:(1:Int)=DS r:=by rw[zt,cc (i:=2) Cl (show Fg r.cert=false by unfold Fg;rw[AB ch,AB ch];rfl)];rfl
       exact .of_eq (Aa vi e)
      .intro h6;have h6:¬((r.cert.size:Nat):Int)≠32:=h6;refine Yi (Ii 2 ch) (Xi ⟨3,by omega,next (show Fg r.cert=true by unfold Fg;rw[Ax (by omega:r.cert.size=32),Bool.or_true])⟩ ?_)
       exact⟨by show 3-3<3-2;decide,Z3,Z1,Fh,Tv⟩
     .intro h5;have h5:¬((r.cert.size:Nat):Int)≠0:=h5;refine Yi (Ii 2 ch) (Xi ⟨3,by omega,next (show Fg r.cert=true by unfold Fg;rw[Ax (by omega:r.cert.size=0)];rfl)⟩ ?_)
      exact⟨by show 3-3<3-2;decide,Z3,Z1,Fh,Tv⟩
    |i+3,i1,i2,h,next=>omega
   .intro h;have h:¬(i:Int)<3:=h;have e:(0:Int)=DS r:=by rw[zt,Al (sY fun j hj=>i2 j ch)]
    exact .of_eq (Aa vi e)
  .rw[h2]at hv;have e:(2:Int)=DS r:=by rw[er,h2];rfl
   refine Ps (Kf []) Tryz.func147 rfl (Nz rfl) (Xi .pure (Xi _ (Yi (hl) (Yi ?_ ?_))))
   .intro h;exact absurd rfl h
   intro _;refine yN (Xi .pure (Xi _ (Yi (hv) ?_)));exact .of_eq (Aa vi e)
theorem tW{a b:Rl}(h:a.path=b.path/\a.ver.a=b.ver.a/\a.ver.b=b.ver.b/\a.ver.c=b.ver.c):Gc a=Gc b:=by
 unfold Gc;obtain⟨h1,h2,h3,h4⟩:=h
 have:a.ver=b.ver:=by
  cases ha:a.ver;cases hb:b.ver;rw[ha,hb]at h2 h3 h4;simp_all
 rw[h1,this]
theorem iw{a b:Rl}(h:Gc a=Gc b):a.path=b.path/\a.ver.a=b.ver.a/\a.ver.b=b.ver.b/\a.ver.c=b.ver.c:=by
 unfold Gc at h
 injection h with h1 h2
 exact⟨h1,by rw[h2],by rw[h2],by rw[h2]⟩
abbrev oO(x:List Rl):Nat->Option Rl
 |0=>none
 |k+1=>x[k]?
theorem vq(hL:VB nm)(x:List Rl)(ifs:List (List AV))(hs:∀r∈x,Eu r):PC 86 [.agg (Ic x ifs)] (vi (A4 x)):=by
 refine Ps (Kf []) Tryz.func86 rfl (Nz rfl) (Yi ?_ ?_)
 .intro h;exact .of_eq (Aa vi (show(7:Int)=A4 x by unfold A4;rw[Al (by rw[Lm]at h;omega)]))
 intro h;have hl:x.length<=256:=by rw[Lm]at h;omega
 have Vv:A4 x=DL none x:=by unfold A4;rw[Ai ch]
 refine Xi {i:Nat // i<=x.length/\DL none x=DL (oO x i) (x.drop i)} (Xi (fun i=>⟨[(1,.ref 1 0),(12,sl AF x),(13,vi (x.map AF).length),(14,vi i.1)],[(1,.cells (Ic x ifs))],Af⟩) (Xi (fun i=>x.length-i.1) (Yi (Xi ⟨0,AE _,rfl⟩ ?_) ?_)))
 .exact⟨Z4,Z1,Fh,Tv⟩
 intro⟨i,h1,h2⟩;refine Yi ?_ ?_
 .intro h;have h:i<x.length:=by simpa using h
  have hg:x[i]?=some x[i]:=Ge h;have hd:x.drop i=x[i]::x.drop (i+1):=AH h;have hc:=Aaj hL x[i] (hs x[i] (Aq h));have KU:DL none x=if DS x[i]≠0 then DS x[i]else match oO x i with
   |none=>DL (some x[i]) (x.drop (i+1))
   |some b=>if Gc b=Gc x[i]then 5 else if 0<Ds b x[i]then 1 else DL (some x[i]) (x.drop (i+1)):=by rw[h2,hd];rfl
  have rA:oO x (i+1)=some x[i]:=Ge h;refine Xi (AF x[i]) (Yi (Yi (Nn i) (by simp[hg])) (Yi rfl ?_));refine Yi (Nz rfl) (Yi (Nz rfl) (yN (Xi .pure (Xi _ (Yi (hc) (Yi ?_ ?_))))))
  .intro h4;exact .of_eq (Aa vi (show DS x[i]=A4 x by rw[Vv,KU,Al h4]))
  intro h4;refine Yi ?_ ?_
  .intro h5;have h5:(i:Int)=0:=h5;have h6:i=0:=by omega
   refine Yi (Ii i ch) (Xi ⟨i+1,by omega,by rw[KU,Ai h4,rA];subst h6;rfl⟩ ?_);exact⟨Dl x.length i ch,Z4,Z1,Fh,Tv⟩
  intro h5;have h5:¬(i:Int)=0:=h5;have hi1:i-1<x.length:=by omega
  have hb:oO x i=some x[i-1]:=by
   obtain⟨k,rfl⟩:∃k,i=k+1:=⟨i-1,by omega⟩;exact Ge ch
  have tt:DL none x=if Gc x[i-1]=Gc x[i]then 5 else if 0<Ds x[i-1] x[i]then 1 else DL (some x[i]) (x.drop (i+1)):=by rw[KU,Ai h4,hb]
  refine Yi (by show A7 ((i:Int)-1);unfold A7;omega) ?_;have VL:(x.map AF)[((i:Int)-1).toNat]?=some (AF x[i-1]):=by rw[show((i:Int)-1).toNat=i-1 by omega];exact Ed (Ge hi1)
  refine Xi (AF x[i-1]) (Yi (Yi (by show(0:Int)<=(i:Int)-1;omega) VL) (Yi rfl (Yi (Nz rfl) (yN (yN (Xi _ (Yi (sI x[i-1]) (yN (Xi _ (Yi (sI x[i]) (Yi ?_ ?_)))))))))))
  .intro h6;refine Yi Wk ?_;have e:(5:Int)=A4 x:=by rw[Vv,tt,Al (tW ⟨h6.1,h6.2.1,h6.2.2.1,h6.2.2.2.1⟩)]
   exact .of_eq (Aa vi e)
  intro h6;refine Yi Wk ?_;have h7:¬Gc x[i-1]=Gc x[i]:=fun e=>by
   have e:=iw e;exact h6 ⟨e.1,e.2.1,e.2.2.1,e.2.2.2,trivial⟩
  refine Yi (Nz rfl) (yN (Xi .pure (Xi _ (Yi (wg x[i-1] x[i]) (Yi ?_ ?_)))))
  .intro h8;have e:(1:Int)=A4 x:=by rw[Vv,tt,Ai h7,Al h8]
   exact .of_eq (Aa vi e)
  .intro h8;refine Yi (Ii i ch) (Xi ⟨i+1,by omega,by rw[tt,Ai h7,Ai h8,rA]⟩ ?_);exact⟨Dl x.length i ch,Z4,Z1,Fh,Tv⟩
 .intro h;have h:¬i<x.length:=by simpa using h
  have e:(0:Int)=A4 x:=by rw[Vv,h2,VC ch];rfl
  exact .of_eq (Aa vi e)
abbrev zV(r:Rl)(a:AV):List AV:=[vs r.path,vi r.ver.a,vi r.ver.b,vi r.ver.c,a,vs r.arch,vs r.ifc,vs r.cert,vb r.yanked]
abbrev Acr:SB:=⟨[],[],[],[],[],[],[],[(9,(1,4,900,2))],[],[],[]⟩
theorem zr(r:Rl)(hr:r.reqs.length<=1000)(hs:∀q∈r.reqs,B9 q.set):PC 83 [.agg (AF r)] (.agg (AF r)):=by
 refine Ps Acr Tryz.func83 rfl (Nz rfl) (yN (Xi {i:Nat // i<=r.reqs.length} (Xi (fun i=>⟨[(1,.ref 1 0),(2,.ref 2 0),(9,sl Ba r.reqs),(10,vi (r.reqs.map Ba).length),(11,vi i.1)],[(1,.cells (zV r (.slice (.id 900 2) ((r.reqs.take i.1).map Ba)))),(2,.cells r6),(900,.tok 2 ((r.reqs.take i.1).map Ba).length)],Af⟩) (Xi (fun i=>r.reqs.length-i.1) (Yi (Xi ⟨0,AE _⟩ ?_) ?_)))))
 .exact⟨Z5,Z3,Fh,Tv⟩
 intro⟨i,h1⟩;refine Yi ?_ ?_
 .intro h;have h:i<r.reqs.length:=by simpa using h
  have hg:r.reqs[i]?=some r.reqs[i]:=Ge h;refine Xi (Ba r.reqs[i]) (Yi (Yi (Nn i) (by simp[hg])) (Yi rfl ?_));have hq:=hs r.reqs[i] (Aq h);refine Yi (Nz rfl) (yN (Xi .pure (Xi _ (Yi (Aao r.reqs[i].set hq) (yN (yN ?_))))));have Ho:Cn 2 [Ba r.reqs[i]]/\((r.reqs.take i).map Ba).length=((r.reqs.take i).map Ba).length/\(((r.reqs.take i).map Ba).length+[Ba r.reqs[i]].length)*40<=140737488355328/\((r.reqs.take i).map Ba).length+[Ba r.reqs[i]].length<=9223372036854775807 :=
   ⟨⟨rfl,trivial⟩,rfl,by rw[Lm,Av,Bb];omega,by rw[Lm,Av,Bb];omega⟩
  refine Yi Ho (yN (Yi (Ii i ch) (Xi ⟨i+1,by omega⟩ ?_)));have et:(r.reqs.take (i+1)).map Ba=(r.reqs.take i).map Ba++[Ba r.reqs[i]]:=by rw[Bi,hg,Ar];rfl
  have e1:HO.cells (zV r (.slice (.id 900 2) ((r.reqs.take i).map Ba++[Ba r.reqs[i]])))=.cells (zV r (.slice (.id 900 2) ((r.reqs.take (i+1)).map Ba))):=by rw[et]
  have e2:HO.tok 2 (((r.reqs.take i).map Ba).length+[Ba r.reqs[i]].length)=.tok 2 ((r.reqs.take (i+1)).map Ba).length:=by rw[et,Ac]
  exact⟨Dl r.reqs.length i ch,Z5,⟨⟨e1,rfl⟩,Zr,⟨e2,rfl⟩,Tv⟩,Fh,Tv⟩
 .intro h;have h:¬i<r.reqs.length:=by simpa using h
  refine Yi (Nz rfl) (Yi (Nz rfl) (yN ?_));have e:AV.agg (zV r (.slice .none ((r.reqs.take i).map Ba)))=.agg (AF r):=by rw[As ch]
  exact .of_eq e
theorem cU{cx:Cx}{st:St}{K:LS -> Prop}(t:List (Nat×AV))(h:List (Nat×HO))(h1:zS st (LS.st ⟨t,h,Af⟩).h t)(h2:zR st (LS.st ⟨t,h,Af⟩).h h)(k:K ⟨t,h,Af⟩)
    (h3:match cx.ext with | false => True | true => ∀j,1000 <= j -> j<2000 -> st.h j ≠ .free -> (LS.st ⟨t,h,Af⟩).h j ≠ .free := by first | exact trivial | exact BN Wk):∃s,St.le cx st s /\ K s := ⟨_,⟨h1,h2,fun _ => .inl rfl,h3⟩,k⟩
end Go.Eng
