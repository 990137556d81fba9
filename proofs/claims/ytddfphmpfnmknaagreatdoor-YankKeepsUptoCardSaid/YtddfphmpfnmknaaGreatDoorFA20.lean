/- Lemmas for the claims of this seat, without a condition: part 20 (C25, C26, C27, C28, C29, C30, C31, C32, C33, C34, C35, C36, C37). -/
import Derived.Test.YtddfphmpfnmknaaGreatDoorFA19
import Derived.Shelf.Slices.Delete
namespace Go.Eng
open Go.Proofs Go.Shelf Go.RowKit Go.Lib Go.Sort
theorem n9(F:Array Value)(i n:Nat)(hF:F.size=n*3)(hi:i<n)(z:List Value)(hz:z.length=3):(lay (lay F (i*3) (F.toList.drop ((i+1)*3))) ((n-1)*3) z).toList=F.toList.take (i*3)++F.toList.drop ((i+1)*3)++z:=by
 have l1:(F.toList.take (i*3)).length=i*3:=by simp;omega
 have l2:(F.toList.drop ((i+1)*3)).length=(n-(i+1))*3:=by simp;omega
 apply CX
 intro t
 rw[A0,lay_get? _ _ _ _ (by rw[Lib.lay_size];omega),lay_get? _ _ _ _ (by rw[l2];omega)]
 rw[hz,l2]
 by_cases c1:t<i*3
 ·rw[Ah (by omega),Ah (by omega),AX (by rw[Ad];omega),AX (by omega),JB,Ao c1,A0]
 ·by_cases c2:t<(n-1)*3
  ·rw[Ah (by omega),Ao (by omega),AX (by rw[Ad];omega),AY (by omega),l1]
  ·rw[AY (by rw[Ad];omega),Ad,l1,l2]
   by_cases c3:t<n*3
   ·rw[Ao (by omega)];congr 1;omega
   ·rw[Ah (by omega),Ah (by omega),T2 (by omega),A1 (by omega)]
abbrev jm:List Value:=[.string ⟨#[]⟩,.bool false,.slice none 0 0]
set_option maxHeartbeats 4000000 in
set_option maxRecDepth 1000000 in
theorem eT(w:World)(b cap i n:Nat)(F:Array Value)(hF:F.size=n*3)(hi:i<n)(OH:n≤cap)(hH:Holds id w b 0 F)(h1:∀x∈F.toList,x.oneCell'=true) :
  Calls Tryz.prog 212 #[.slice (some ⟨b,0,none⟩) n cap,.int .i64 i,.int .i64 ((i:Int)+1)] w fun e w'=>e=.returned (.slice (some ⟨b,0,none⟩) (n-1) cap) ∧
   w'=putRow id (Sort.ahead w 1) b 0 (lay (lay F (i*3) (F.toList.drop ((i+1)*3))) ((n-1)*3) jm):=by
 obtain⟨i0,u9,nW⟩:∃i0,Tryz.prog.info? 198=some i0∧i0.size=3:=by
  obtain⟨i,z,h1,_,h2,_⟩:=Hs (P:=Tryz.prog) (T:=ml) Ck (e:=198) (n:=2) (by kernel_rfl)
  exact⟨i,h1,h2.trans (by kernel_rfl)⟩
 obtain⟨news,IQ⟩:∃news,news=F.toList.drop ((i+1)*3):=⟨_,rfl⟩
 have Cq:news.length=(n-(i+1))*3:=by rw[IQ];simp;omega
 have Fc:∀t,t<(n-(i+1))*3→news[t]?=some F[(i+1)*3+t]!:=by
  intro t ht
  rw[IQ,Dr,A0,Ds F ((i+1)*3+t) (by omega),Bj (by omega)]
 obtain⟨A,hA,co⟩:∃A:Addr,(if cap=i+1 then some (⟨b,0,none⟩:Addr)else some ⟨b,(i+1)*3,none⟩)=some A∧Hid (∀t u,news[t]?=some u→w.drew.cell? (A.add t)=some u):=by
  by_cases h:cap=i+1
  ·refine⟨⟨b,0,none⟩,by simp[h],fun t u hu=>?_⟩
   have h0:news.length=0:=by rw[Cq];omega
   rw[List.length_eq_zero_iff.1 h0]at hu
   simp at hu
  ·refine⟨⟨b,(i+1)*3,none⟩,by simp[h],fun t u hu=>?_⟩
   have ht:t<(n-(i+1))*3:=by
    have:=(Ap.1 hu).1
    rwa [Cq]at this
   rw[Fc t ht]at hu
   rw[Addr.add_lit]
   have:=(hH ((i+1)*3+t) (by omega)).1
   rw[Bg]at this
   exact this.trans hu
 have s1:Hid (news.length=(n-(i+1))*3):=Cq
 have s2:Hid (∀u∈news,u.oneCell'=true):=by
  intro u hu
  rw[IQ]at hu
  exact h1 u (Im hu)
 have s3:Hid (∀t,t<news.length→(w.drew.cell? ⟨b,0+i*3+t,none⟩).isSome=true∧w.drew.frozen? ⟨b,0+i*3+t,none⟩=false):=by
  intro t ht
  rw[Cq]at ht
  have:=hH (i*3+t) (by omega)
  rw[Gr]
  exact⟨by show(w.cell? _).isSome=true;rw[this.1];rfl,this.2⟩
 obtain⟨W1,uG⟩:∃W1,W1=w.drew.setCells b (0+i*3) news:=⟨_,rfl⟩
 have nu : W1=putRow id (Sort.ahead w 1) b 0 (lay F (i*3) news):=by
  have:=putRow_setCells id (Sort.ahead w 1) b 0 news F (i*3) (by omega)
  rw[putRow_self id (Sort.ahead w 1) b 0 F (holds_ahead id w 1 b 0 F hH),G6]at this
  rw[uG,←this]
  rfl
 have uz:Holds id W1 b 0 (lay F (i*3) news):=by rw[nu];exact holds_putRow id _ b 0 F _ (holds_ahead id w 1 b 0 F hH) (Lib.lay_size _ _ _)
 have Jl:(storeCells ⟨b,0+(n-1)*3,none⟩ jm 0).run Tryz.prog W1=.ok () (W1.setCells b (0+(n-1)*3) jm):=by
  have:=run_storeCells_cells (P:=Tryz.prog) b (0+(n-1)*3) jm 0 W1 (fun j hj=>by
   have hj:j<3:=hj
   have:=uz ((n-1)*3+j) (by rw[Lib.lay_size];omega)
   rw[show 0+(n-1)*3+0+j=0+((n-1)*3+j) by omega,this.1];rfl) (fun j hj=>by
   have hj:j<3:=hj
   have:=uz ((n-1)*3+j) (by rw[Lib.lay_size];omega)
   rw[show 0+(n-1)*3+0+j=0+((n-1)*3+j) by omega];exact this.2) (fun v hv=>by
   simp only[Au,Lw,or_false]at hv
   rcases hv with rfl | rfl | rfl<;>rfl)
  exact this
 have hcl:∀ty c,(Builtin.clear_ #[168] ty #[.slice (some ⟨b,(n-1)*3,none⟩) 1 c]).run Tryz.prog W1=.ok (.tuple #[]) (W1.setCells b (0+(n-1)*3) jm):=fun ty c=>by
  have hv:=Tryz.zeroValue198
  rw[Bg]at Jl⊢
  have hz:(Builtin.zeroCells (Value.agg #[Value.string { data:=#[] },Value.bool false,Value.slice none 0 0]).cells 1).toList=jm:=by kernel_rfl
  simp[Builtin.clear_,run_underlying Tryz.underlying168,hv,hz,Jl]
 have zS:∀ty,(Builtin.clear_ #[168] ty #[.slice (some ⟨b,(i+(n-(i+1)))*3,none⟩) (n-(i+(n-(i+1)))) (cap-(i+(n-(i+1))))]).run Tryz.prog W1=.ok (.tuple #[]) (W1.setCells b (0+(n-1)*3) jm):=fun ty=>by
  have e1:i+(n-(i+1))=n-1:=by omega
  have e2:n-(n-1)=1:=by omega
  rw[e1,e2];exact hcl ty _
 have X:Aside (W1=putRow id (Sort.ahead w 1) b 0 (lay F (i*3) news)):=nu
 have hW:Hid (W1=w.drew.setCells b (0+i*3) news):=uG
 have Y:Aside (news=F.toList.drop ((i+1)*3)):=IQ
 have Z:Aside (news.length=(n-(i+1))*3):=Cq
 have qG:i≤cap:=by omega
 have hjc:i+1≤cap:=by omega
 have mixed:=Go.Eng.hm
 have xQ:(0:Int)≤(i:Int)+1:=by omega
 have SI:(i:Int)+1≤(n:Int):=by omega
 clear uG nu uz hH Fc IQ Cq Jl hcl
 go_enter Tryz.func212,Tryz.ntmps212
 go_wp2_with fail
 go_region_law_o (refine step_append_room rfl (.tmp 22) (.tmp 25) 168 rfl 198 i0 3 Tryz.underlying168 u9 nW b 0 i cap (by simp[Act.eval,Act.put]) A (n-(i+1)) (cap-(i+1)) news (by simp[Act.eval,Act.put]) s1.out co.out s2.out (by omega) s3.out ?_;rw[←hW.out])
 go_wp2
 go_ret
 refine⟨by rw[show i+(n-(i+1))=n-1 by omega];rfl,?_⟩
 rw[X.out]
 have e1:=Y.out
 have e2:=Z.out
 rw[←e1]
 have:=putRow_setCells id (Sort.ahead w 1) b 0 jm (lay F (i*3) news) ((n-1)*3) (by rw[Lib.lay_size];show _+3≤_;omega)
 rw[G6,Bg]at this
 exact this
abbrev Us:List AV:=[Go.Eng.vs ⟨#[]⟩,vb false,.v (.slice none 0 0)]
theorem ug(l:List Tm)(i:Nat)(hi:i<l.length) :
  A3 Tryz.prog 212 [.msl 1000 l.length,vi i,vi ((i:Int)+1)] (Ai [(1000,.arr 3 (l.map AD))] Ab) fun r h'=>r=.msl 2000 (l.length-1)∧h'=Ai [(1000,.dead),(2000,.arr 3 ((l.eraseIdx i).map AD))] Ab:=by
 have hE:F1 Tryz.prog 212:=dJ 212 Tryz.func212 (by kernel_rfl) rfl
 have Cq:(l.eraseIdx i).length=l.length-1:=List.length_eraseIdx_of_lt hi
 have Hd:=Ux (P:=Tryz.prog) (f:=212) (es:=l.map AD) (sz:=3) (rest:=[.int .i64 i,.int .i64 ((i:Int)+1)]) (n':=l.length-1) (Q:=fun FB=>FB=(l.eraseIdx i).map AD++[Us]) hE (fun e=>by
  rw[D3]at e;subst e;simp at hi) (by rw[A6];omega) ?_
 ·rw[A6]at Hd
  refine⟨hE,fun g w vals q1 q2 q3=>(Hd.2 g w vals q1 q2 q3).mono fun _ _ ⟨v,r,h',g',e1,⟨e2,FB,p1,p2⟩,rest⟩=>⟨v,r,h',g',e1,⟨e2,by rw[p2,p1,G7 (by rw[A6,Cq];exact Al _),AE (by rw[A6,Cq];exact Al _)]⟩,rest⟩⟩
 ·intro g w b cap F hr hF hH hb hc
  rw[A6]at hF hc⊢
  have hu:∀e∈l.map AD,e.length=3:=fun e he=>by
   obtain⟨t,_,rfl⟩:=Ak.1 he;rfl
  refine(eT w b cap i l.length F hF hi hc hH hr.2.1).mono ?_
  rintro e w' ⟨rfl,rfl⟩
  refine⟨rfl,_,_,1,#[],?_,rfl,?_,fun cs hcs=>?_,fun g w hr=>?_,rfl⟩
  ·rw[Lib.lay_size,Lib.lay_size]
  ·rw[Ad,A6,Cq,A8];omega
  ·rcases AU.1 hcs with h | h
   ·obtain⟨t,_,rfl⟩:=Ak.1 h;rfl
   ·rw[Am.1 h];rfl
  ·rw[n9 F i l.length hF hi jm rfl,List.eraseIdx_eq_take_drop_succ,Cw,Ay,Cw,List.map_take,List.map_drop,←KY _ i hu,←Oy _ (i+1) hu]
   refine Cu.append (Cu.append (hr.take _) (hr.drop _)) ?_
   exact ML g w Fi jm fun x hx=>by
    simp only[Au,Lw,or_false]at hx
    rcases hx with rfl | rfl | rfl<;>rfl
end Go.Eng
namespace Go.Eng
open Go.Proofs
theorem pP(l:List Tm)(hl:CM l)(Dt:l≠[]):A3 Tryz.prog 213 [sl AD l] (Ai [] Ab) fun r h'=>r=.msl 2000 l.length∧h'=Ai [(2000,.arr 3 (l.map AD))] Ab:=by
 refine BS (KV (yF [(5,3)] [])) [(5,2000)] rfl Ck hm rfl Tryz.func213 (by kernel_rfl) rfl (Nz rfl) (by kernel_rfl) rfl ?_;have Hl:Df 3 (l.map AD)∧([]:List (List AV)).length=0∧(([]:List (List AV)).length+(l.map AD).length)*48≤140737488355328∧([]:List (List AV)).length+(l.map AD).length≤9223372036854775807:=by
  refine⟨Fj (enc:=AD) (n:=3) (fun _=>rfl) l,rfl,?_,?_⟩<;>simp only[AF,Lm]<;>unfold CM at hl<;>omega
 refine Yi ?_ ?_
 ·intro _;refine Yi Hl ?_;have e1:AV.msl 2000 (([]:List (List AV)).length+(l.map AD).length)=.msl 2000 l.length:=by simp
  refine Xi (.msl 2000 (([]:List (List AV)).length+(l.map AD).length)) (Yi (.refl _) (Yi e1 ?_))
  rfl
 ·intro h;have h:l.map AD=[]:=h;exact absurd (D3.1 h) Dt
theorem m6(x:Tm)(p:ByteArray):PC 211 [.agg (AD x),.cptr [vs p]] (vb (decide (x.path=p))):=by
 refine Ps Gn Tryz.func211 rfl (Nz rfl) ?_;refine Yi ?_ ?_
 ·intro h;have h:x.path=p:=h;rw[Ax h];exact .refl _
 ·intro h;have h:¬x.path=p:=h;rw[Az h];exact .refl _
theorem M0{p:ByteArray}:∀{c:List Tm} {i:Nat},(Ep c).Nodup→∀(hi:i<c.length),c[i].path=p→c.eraseIdx i=FL c p
 |t::c,0,hn,_,h=>by
  have h:t.path=p:=h;unfold Ep at hn;rw[AL,CK]at hn;unfold FL;rw[Ci,Ah (by simp[h])];show c=_;rw[List.filter_eq_self.2 fun u hu=>by
   have:u.path≠p:=fun e=>hn.1 (h▸e▸Ak.2 ⟨u,hu,rfl⟩)
   simp[this]]
 |t::c,i+1,hn,hi,h=>by
  have hi:i<c.length:=by simpa using hi
  have h:c[i].path=p:=h;unfold Ep at hn;rw[AL,CK]at hn
  have:t.path≠p:=fun e=>hn.1 (by rw[e,←h];exact Ak.2 ⟨_,AC hi,rfl⟩)
  have ih:=M0 hn.2 hi h;unfold FL at ih⊢;rw[List.eraseIdx_cons_succ,Ci,Ao (by simp[this]),ih]
theorem PA{l c:List Tm}(hl:CM l)(h:CG l=some c):CM c:=by
 have h1:=NK l l.length (Al _);rw[DX]at h1;have h2:c=(EX l).filter fun t=>!Gt t:=by
  unfold CG at h;split at h
  ·cases h
  ·exact(Ct h).symm
 have h3:c.length≤(EX l).length:=by rw[h2];exact BA _ _
 have h4:(EX l).length=(CO l).length:=by
  have:=(N3 (HI (HE l)) (HI (HT (Ek l)))).2 (I7 l)
  exact this.length_eq.symm
 unfold CM at hl⊢;omega
abbrev kL:AV:=.tup [.agg Us,.v (.slice none 0 0),vb false]
abbrev mi:RO:=⟨[3],[],[],[],[],[],[],[],[(30,0),(34,1)],[],[3]⟩
theorem ee(l:List Tm)(p:ByteArray)(hl:CM l)(hs:∀t∈l,CM t.set)(hn:Fp l p=none):PC 182 [sl AD l,vs p] kL:=by
 have hc:=sA l hl hs;unfold Fp at hn;cases e:CG l with
 |none =>
  have e1:GD l=.tup [sl AD [],vb false]:=by unfold GD PQ;rw[e];rfl
  rw[e1]at hc;have hi:=jB (E2.ptr [vs p]) [] (fun x=>decide (x.path=p)) (fun x _=>m6 x p) (by simp);refine Ps mi Tryz.func182 rfl (Nz rfl) ?_;refine Xi .pure (Xi _ (Yi (hc) ?_));refine Xi .pure (Xi _ (Yi (hi) ?_));refine Xi ⟨[(4,.ref 4 0),(7,sl AD []),(8,vb false),(9,vi (-1))],[(4,.cells Us)],Ab⟩ (Yi ⟨Z4,Z1,Fh,Tv⟩ ?_)
  refine Yi (Nz rfl) (Yi (Nz rfl) ?_);exact .refl _
 |some c =>
  rw[e]at hn;have hn:(match Dc c p with | none=>none | some t=>some (t,FL c p))=none:=hn;have qC:Dc c p=none:=by
   cases h:Dc c p with
   |none=>rfl
   |some t=>rw[h]at hn;cases hn
  have e1:GD l=.tup [sl AD c,vb true]:=by unfold GD PQ;rw[e];rfl
  rw[e1]at hc;have qA:=PA hl e;have hi:=jB (E2.ptr [vs p]) c (fun x=>decide (x.path=p)) (fun x _=>m6 x p) (by unfold CM at qA;omega);have hid:Ke (fun x:Tm=>decide (x.path=p)) c 0=-1:=by
   rcases OJ (p:=fun x:Tm=>decide (x.path=p)) c 0 with ⟨h1,_⟩ | ⟨i,x,_,_,h3⟩
   ·exact h1
   ·unfold Dc at qC;rw[h3]at qC;cases qC
  rw[hid]at hi;refine Ps mi Tryz.func182 rfl (Nz rfl) ?_;refine Xi .pure (Xi _ (Yi (hc) ?_));refine Xi .pure (Xi _ (Yi (hi) ?_));refine Xi ⟨[(4,.ref 4 0),(7,sl AD c),(8,vb true),(9,vi (-1))],[(4,.cells Us)],Ab⟩ (Yi ⟨Z4,Z1,Fh,Tv⟩ ?_)
  refine Yi ?_ ?_
  ·intro _;refine Yi (Nz rfl) (Yi (Nz rfl) ?_);exact .refl _
  ·intro h;exact absurd (show(-1:Int)<0 by decide) h
abbrev om:RO:=⟨[3],[],[],[],[],[],[],[],[(30,0),(34,2)],[],[]⟩
theorem eh(l:List Tm)(p:ByteArray)(hl:CM l)(hs:∀t∈l,CM t.set){t:Tm}{r:List Tm}(hn:Fp l p=some (t,r)) :
  A3 Tryz.prog 182 [sl AD l,vs p] (Ai [] Ab) fun v h'=>v=.tup [.agg (AD t),.msl 2000 r.length,vb true]∧h'=Ai [(2000,.arr 3 (r.map AD))] Ab:=by
 have hc:=sA l hl hs;unfold Fp at hn;cases e:CG l with
 |none=>rw[e]at hn;cases hn
 |some c =>
  rw[e]at hn;have hn:(match Dc c p with | none=>none | some t=>some (t,FL c p))=some (t,r):=hn;have fN:Dc c p=some t∧FL c p=r:=by
   cases h:Dc c p with
   |none=>rw[h]at hn;cases hn
   |some t=>rw[h]at hn;cases hn;exact Zr
  have e1:GD l=.tup [sl AD c,vb true]:=by unfold GD PQ;rw[e];rfl
  rw[e1]at hc;have qA:=PA hl e;have hi:=jB (E2.ptr [vs p]) c (fun x=>decide (x.path=p)) (fun x _=>m6 x p) (by unfold CM at qA;omega);rcases OJ (p:=fun x:Tm=>decide (x.path=p)) c 0 with ⟨_,h2⟩ | ⟨i,x,h1,h2,h3⟩
  ·unfold Dc at fN;rw[h2]at fN;cases fN.1
  have hx:x=t:=by
   have:=fN.1
   unfold Dc at this;rw[h3]at this;exact Ct this
  subst hx;rw[h1,IC]at hi;obtain⟨qG,hie⟩:=Ap.1 h2;have xX:c.eraseIdx i=r:=by
   rw[←fN.2];exact M0 (HT (EM e)) qG (by rw[hie];exact GY fN.1)
  have sR:c.length-1=r.length:=by rw[←xX,List.length_eraseIdx_of_lt qG]
  have Dt:c≠[]:=fun h=>by subst h;simp at qG
  have zX:c.length≤1073741824:=qA;refine BS (KV om) [(13400,2000)] rfl Ck hm rfl Tryz.func182 (by kernel_rfl) rfl (Nz rfl) (by kernel_rfl) rfl ?_;refine Xi .pure (Xi _ (Yi (hc) ?_));refine Xi .pure (Xi _ (Yi (hi) ?_));refine Yi ?_ ?_
  ·intro h;have h:(i:Int)<0:=h;omega
  intro _;have hg:(c.map AD)[((i:Nat):Int).toNat]?=some (AD x):=by rw[Ch,AG,h2];rfl
  refine Xi (AD x) (Yi (Yi (Nn i) hg) (Yi rfl (Yi (Nz rfl) ?_)));refine Xi c.length (Xi 3 (Xi (c.map AD) (Yi rfl (Yi (pP c qA Dt) ?_))));refine Yi (Ii i (by omega)) ?_;refine Xi (c.length-1) (Xi ((c.eraseIdx i).map AD) (Yi rfl (Yi (ug c i qG) ?_)));refine Yi (Nz rfl) ?_;refine Yi (by kernel_rfl) ?_;refine Yi (Nz rfl) ?_;have e2:AV.tup [.agg (AD x),.msl 2000 (c.length-1),vb true]=.tup [.agg (AD x),.msl 2000 r.length,vb true]:=by rw[sR]
  have e3:Ai [(2000,HO.arr 3 ((c.eraseIdx i).map AD))] Ab=Ai [(2000,.arr 3 (r.map AD))] Ab:=by rw[xX]
  exact Xi _ (Yi (.refl _) (Yi e2 e3))
abbrev aS:RO:=⟨[],[],[],[],[],[],[],[],[],[(24,9),(30,12)],[2,3,5,6]⟩
abbrev oz(a b:List Tm)(p:ByteArray):AV:=.tup [sl AD (Bn a b p).1,vi (Bn a b p).2]
theorem Vq{l r:List Tm}{p:ByteArray}{t:Tm}(h:Fp l p=some (t,r)):∃c,CG l=some c∧t∈c∧r=FL c p:=by
 unfold Fp at h;cases e:CG l with
 |none=>rw[e]at h;cases h
 |some c =>
  rw[e]at h;have h:(match Dc c p with | none=>none | some t=>some (t,FL c p))=some (t,r):=h;cases e2:Dc c p with
  |none=>rw[e2]at h;cases h
  |some u=>rw[e2]at h;cases h;exact⟨c,rfl,E7 e2,rfl⟩
theorem Vr{l r:List Tm}{p:ByteArray}{t:Tm}(hl:CM l)(h:Fp l p=some (t,r)):CM t.set∧CM r∧∀u∈r,CM u.set:=by
 obtain⟨c,h1,h2,rfl⟩:=Vq h;have hs:=EM h1;refine⟨Ot (hs.canon t h2),?_,fun u hu=>Ot (hs.canon u (BI.1 hu).1)⟩
 have:=PA hl h1
 have h3:(FL c p).length≤c.length:=BA _ _;unfold CM at *;omega
theorem eD{l c:List Tm}(h:CG l=some c):c.length≤l.length:=by
 have h1:=NK l l.length (Al _);rw[DX]at h1;have h2:c=(EX l).filter fun t=>!Gt t:=by
  unfold CG at h;split at h
  ·cases h
  ·exact(Ct h).symm
 have h3:c.length≤(EX l).length:=by rw[h2];exact BA _ _
 have h4:(EX l).length=(CO l).length:=by
  have:=(N3 (HI (HE l)) (HI (HT (Ek l)))).2 (I7 l)
  exact this.length_eq.symm
 omega
theorem Vs{l r:List Tm}{p:ByteArray}{t:Tm}(h:Fp l p=some (t,r)):r.length≤l.length:=by
 obtain⟨c,h1,h2,rfl⟩:=Vq h;have h3:(FL c p).length≤c.length:=BA _ _
 have:=eD h1
 omega
theorem bV(a b:Bh):CM (Pi a b):=by
 unfold CM;have:=H4 (Yz a b);omega
theorem t7(a b:List Tm)(p:ByteArray)(ha:a.length≤500000000)(hb:b.length≤500000000)(yo:∀t∈a,CM t.set)(kk:∀t∈b,CM t.set):PC 128 [sl AD a,sl AD b,vs p] (oz a b p):=by
 have qz:CM a:=by unfold CM;omega
 have nA:CM b:=by unfold CM;omega
 have er:∀{l:List Tm} {e:Int},Bn a b p=(l,e)→oz a b p=.tup [sl AD l,vi e]:=fun h=>by unfold oz;rw[h]
 have e0:Hk (.tup [.v (.slice none 0 0),vi 1]) (.tup [.slice .none [],vi 1]):=Hk.tup ⟨.nil,.refl _,trivial⟩;cases h1:Fp a p with
 |none =>
  have hr:Bn a b p=([],1):=by unfold Bn;rw[h1]
  have c1:=ee a p qz yo h1;cases h2:Fp b p with
  |none =>
   have c2:=ee b p nA kk h2;refine Ps aS Tryz.func128 rfl (Nz rfl) ?_;refine Xi .pure (Xi _ (Yi (c1) ?_));refine Yi (Nz rfl) ?_;refine Xi ⟨[(1,sl AD b),(2,vs p),(8,.ref 8 0),(9,.v (.slice none 0 0)),(10,vb false)],[(8,.cells Us)],Ab⟩ (Yi ⟨Z5,Z1,Fh,Tv⟩ ?_)
   refine Xi .pure (Xi _ (Yi (c2) ?_));refine Yi (Nz rfl) ?_;refine Xi ⟨[(8,.ref 8 0),(9,.v (.slice none 0 0)),(10,vb false),(11,.ref 11 0),(12,.v (.slice none 0 0)),(13,vb false)],[(8,.cells Us),(11,.cells Us)],Ab⟩ (Yi ⟨Z6,Z2,Fh,Tv⟩ ?_)
   exact e0.trans (.of_eq (er hr).symm)
  |some q2 =>
   obtain⟨t2,r2⟩:=q2;have c2:=eh b p nA kk h2;refine Ps aS Tryz.func128 rfl (Nz rfl) ?_;refine Xi .pure (Xi _ (Yi (c1) ?_));refine Yi (Nz rfl) ?_;refine Xi ⟨[(1,sl AD b),(2,vs p),(8,.ref 8 0),(9,.v (.slice none 0 0)),(10,vb false)],[(8,.cells Us)],Ab⟩ (Yi ⟨Z5,Z1,Fh,Tv⟩ ?_)
   have z2:r2.length=(r2.map AD).length:=by rw[Lm]
   refine Xi (.gen [] 1) (Yi rfl (c2.imp ?_));intro v2 g2 q2;have wq:=q2.1;have ws:=q2.2;subst wq;subst ws;refine Yi (Nz rfl) ?_;refine Xi ⟨[(8,.ref 8 0),(9,.v (.slice none 0 0)),(10,vb false),(11,.ref 11 0),(12,.msl 12600 r2.length),(13,vb true)],[(8,.cells Us),(11,.cells (AD t2)),(12600,.arr 3 (r2.map AD))],Ab⟩ (Yi ⟨Z6,Z3,Fh,Tv⟩ ?_)
   refine Yi z2 ?_;exact e0.trans (.of_eq (er hr).symm)
 |some q1 =>
  obtain⟨t1,r1⟩:=q1;have c1:=eh a p qz yo h1;obtain⟨f1,f2,f3⟩:=Vr qz h1;cases h2:Fp b p with
  |none =>
   have hr:Bn a b p=([],1):=by unfold Bn;rw[h1,h2]
   have c2:=ee b p nA kk h2;refine Ps aS Tryz.func128 rfl (Nz rfl) ?_;refine Xi (.gen [] 1) (Yi rfl (c1.imp ?_));intro v1 g1 q1;have wj:=q1.1;have lc:=q1.2;subst wj;subst lc;refine Yi (Nz rfl) ?_;refine Xi ⟨[(1,sl AD b),(2,vs p),(8,.ref 8 0),(9,.msl 11900 r1.length),(10,vb true)],[(8,.cells (AD t1)),(11900,.arr 3 (r1.map AD))],Ab⟩ (Yi ⟨Z5,Z2,Fh,Tv⟩ ?_)
   have z1:r1.length=(r1.map AD).length:=by rw[Lm]
   refine Yi z1 ?_;refine Xi .pure (Xi _ (Yi (c2) ?_));refine Yi (Nz rfl) ?_;refine Xi ⟨[(8,.ref 8 0),(9,.slice (.id 11900 3) (r1.map AD)),(10,vb true),(11,.ref 11 0),(12,.v (.slice none 0 0)),(13,vb false)],[(8,.cells (AD t1)),(11,.cells Us),(11900,.tok 3 (r1.map AD).length)],Ab⟩ (Yi ⟨Z6,Z3,Fh,Tv⟩ ?_)
   exact e0.trans (.of_eq (er hr).symm)
  |some q2 =>
   obtain⟨t2,r2⟩:=q2;have c2:=eh b p nA kk h2;obtain⟨g1,g2,g3⟩:=Vr nA h2;refine Ps aS Tryz.func128 rfl (Nz rfl) ?_;refine Xi (.gen [] 1) (Yi rfl (c1.imp ?_));intro v1 g1 q1;have wj:=q1.1;have lc:=q1.2;subst wj;subst lc;refine Yi (Nz rfl) ?_;refine Xi ⟨[(1,sl AD b),(2,vs p),(8,.ref 8 0),(9,.msl 11900 r1.length),(10,vb true)],[(8,.cells (AD t1)),(11900,.arr 3 (r1.map AD))],Ab⟩ (Yi ⟨Z5,Z2,Fh,Tv⟩ ?_)
   have z1:r1.length=(r1.map AD).length:=by rw[Lm]
   have z2:r2.length=(r2.map AD).length:=by rw[Lm]
   refine Yi z1 ?_;refine Xi (.gen [] 1) (Yi rfl (c2.imp ?_));intro v2 g2 q2;have wq:=q2.1;have ws:=q2.2;subst wq;subst ws;refine Yi (Nz rfl) ?_;refine Xi ⟨[(8,.ref 8 0),(9,.slice (.id 11900 3) (r1.map AD)),(10,vb true),(11,.ref 11 0),(12,.msl 12600 r2.length),(13,vb true)],[(8,.cells (AD t1)),(11,.cells (AD t2)),(11900,.tok 3 (r1.map AD).length),(12600,.arr 3 (r2.map AD))],Ab⟩ (Yi ⟨Z6,Z4,Fh,Tv⟩ ?_)
   refine Yi z2 ?_;refine Xi ⟨[(8,.ref 8 0),(9,.slice (.id 11900 3) (r1.map AD)),(11,.ref 11 0),(12,.slice (.id 12600 3) (r2.map AD))],[(8,.cells (AD t1)),(11,.cells (AD t2)),(11900,.tok 3 (r1.map AD).length),(12600,.tok 3 (r2.map AD).length)],Ab⟩ (Yi ⟨Z4,Z4,Fh,Tv⟩ ?_)
   have l1:=Vs h1;have l2:=Vs h2;have b1:Df 3 (r2.map AD)∧(r1.map AD).length=(r1.map AD).length∧((r1.map AD).length+(r2.map AD).length)*48≤140737488355328∧(r1.map AD).length+(r2.map AD).length≤9223372036854775807 :=
    ⟨Fj (enc:=AD) (n:=3) (fun _=>rfl) r2,rfl,by rw[Lm,Lm];omega,by rw[Lm,Lm];omega⟩
   refine Yi b1 ?_;refine Yi (Nz rfl) (Yi (Nz rfl) ?_);refine Xi _ (Yi (uc t1 t2 f1 g1) ?_);have b2:Df 3 [AD (Da t1 t2)]∧(r1.map AD++r2.map AD).length=(r1.map AD).length+(r2.map AD).length∧((r1.map AD++r2.map AD).length+[AD (Da t1 t2)].length)*48≤140737488355328∧(r1.map AD++r2.map AD).length+[AD (Da t1 t2)].length≤9223372036854775807 :=
    ⟨⟨rfl,trivial⟩,by rw[Ad],by rw[Ad,Lm,Lm,A8];omega,by rw[Ad,Lm,Lm,A8];omega⟩
   refine Yi b2 ?_;have j8:=sA (r1++r2++[Da t1 t2]) (by unfold CM;simp only[Ad,A8];omega) (fun u hu=>by
    rcases AU.1 hu with hu | hu
    ·rcases AU.1 hu with hu | hu
     ·exact f3 u hu
     ·exact g3 u hu
    ·rw[Am.1 hu];exact bV _ _)
   have e1:sl AD (r1++r2++[Da t1 t2])=.slice .none (r1.map AD++r2.map AD++[AD (Da t1 t2)]):=by simp
   have xS:PC 183 [.slice .none (r1.map AD++r2.map AD++[AD (Da t1 t2)])] (GD (r1++r2++[Da t1 t2])):=e1▸j8;cases o9:CG (r1++r2++[Da t1 t2])with
   |none =>
    have hr:Bn a b p=([],8):=by unfold Bn;rw[h1,h2];dsimp only;rw[o9]
    have ec:GD (r1++r2++[Da t1 t2])=.tup [sl AD [],vb false]:=by unfold GD PQ;rw[o9];rfl
    have hc:PC 183 [.slice .none (r1.map AD++r2.map AD++[AD (Da t1 t2)])] (.tup [sl AD [],vb false]):=ec▸xS;have e8:Hk (.tup [.v (.slice none 0 0),vi 8]) (.tup [.slice .none [],vi 8]):=Hk.tup ⟨.nil,.refl _,trivial⟩;refine Xi _ (Yi (hc) ?_);refine Yi (by kernel_rfl) ?_;refine Xi ⟨[(14,sl AD []),(15,vb false)],[],Ab⟩ (Yi ⟨Z2,Tv,Fh,Tv⟩ ?_)
    exact e8.trans (.of_eq (er hr).symm)
   |some o =>
    have hr:Bn a b p=(o,0):=by unfold Bn;rw[h1,h2];dsimp only;rw[o9]
    have ec:GD (r1++r2++[Da t1 t2])=.tup [sl AD o,vb true]:=by unfold GD PQ;rw[o9];rfl
    have hc:PC 183 [.slice .none (r1.map AD++r2.map AD++[AD (Da t1 t2)])] (.tup [sl AD o,vb true]):=ec▸xS;refine Xi _ (Yi (hc) ?_);refine Yi (by kernel_rfl) ?_;refine Xi ⟨[(14,sl AD o),(15,vb true)],[],Ab⟩ (Yi ⟨Z2,Tv,Fh,Tv⟩ ?_)
    exact .of_eq (er hr).symm
def af(h s:Nat→HO):Nat→Bool
 |0=>true
 |n+1=>(match h (1000+n)with |.free=>true |_=>(match s (1000+n)with |.free=>false |_=>true))&&af h s n
theorem Sq{h s:Nat→HO}:∀{n:Nat},af h s n=true→∀j,j<n→h (1000+j)≠.free→s (1000+j)≠.free
 |n+1,hd,j,hj,hn=>by
  simp only[af,Af]at hd;rcases ED j n with h1 | h1
  ·exact Sq hd.2 j h1 hn
  ·have:j=n:=by omega
   subst this
   have:=hd.1
   intro e;split at this
   ·rename_i q;exact hn q
   ·rw[e]at this;cases this
theorem Aw{h s:Nat→HO}(hd:af h s 1000=true):∀j,1000≤j→j<2000→h j≠.free→s j≠.free:=fun j h1 h2=>by
 have:=Sq hd (j-1000) (by omega)
 rw[show 1000+(j-1000)=j by omega]at this;exact this
abbrev YD:List AV:=[vs ⟨#[]⟩,vi 0,vi 0,vi 0,.v (.slice none 0 0),vs ⟨#[]⟩,vs ⟨#[]⟩,vs ⟨#[]⟩,vb false]
abbrev Yh:Option Rl→AV
 |some r=>.tup [.agg (Aj r),vb true]
 |none=>.tup [.agg YD,vb false]
theorem kY(v:Ver):0≤plc v∧plc v<1000000:=by
 unfold plc;cases h:Cs v with
 |true=>exact Ju h
 |false=>simp
abbrev mA(t:List Tm):Prop:=t.length≤500000000∧∀u∈t,CM u.set
theorem pK(s:ByteArray):PC 113 [vs s] (vb false):=by
 refine Ps Gn Tryz.func113 rfl (Nz rfl) ?_;refine Yi ?_ ?_
 ·intro h;exact absurd rfl (show s≠s from h)
 ·intro _;exact .refl _
theorem pN(z:Int):PC 167 [vi z] (vb false):=by
 refine Ps Gn Tryz.func167 rfl (Nz rfl) ?_;refine Yi ?_ ?_
 ·intro h;exact absurd rfl (show z≠z from h)
 ·intro _;exact .refl _
theorem tQ(a b:ByteArray):PC 84 [vs a,vs b] (vi (JZ a b)):=by
 refine Ps Gn Tryz.func84 rfl (Nz rfl) ?_;refine Xi .pure (Xi _ (Yi (pK a) ?_));refine Xi .pure (Xi _ (Yi (pK b) ?_));refine Yi ?_ ?_
 ·intro h;have h:Op.bytesLess a.toList b.toList=true:=h;exact .of_eq (Ac vi (show(-1:Int)=JZ a b by unfold JZ;rw[Ao (by rw[GW];exact h)]))
 ·intro h;have h:¬Op.bytesLess a.toList b.toList=true:=h;refine Yi ?_ ?_
  ·intro h2;have h2:Op.bytesLess b.toList a.toList=true:=h2;exact .of_eq (Ac vi (show(1:Int)=JZ a b by unfold JZ;rw[Ah (by rw[GW];exact h),Ao (by rw[GW];exact h2)]))
  ·intro h2;have h2:¬Op.bytesLess b.toList a.toList=true:=h2;exact .of_eq (Ac vi (show(0:Int)=JZ a b by unfold JZ;rw[Ah (by rw[GW];exact h),Ah (by rw[GW];exact h2)]))
theorem mW(a b:Int):PC 114 [vi a,vi b] (vi (FS a b)):=by
 refine Ps Gn Tryz.func114 rfl (Nz rfl) ?_;refine Xi .pure (Xi _ (Yi (pN a) ?_));refine Xi .pure (Xi _ (Yi (pN b) ?_));refine Yi ?_ ?_
 ·intro h;have h:a<b:=h;exact .of_eq (Ac vi (show(-1:Int)=FS a b by unfold FS;rw[Ao h]))
 ·intro h;have h:¬a<b:=h;refine Yi ?_ ?_
  ·intro h2;have h2:b<a:=h2;exact .of_eq (Ac vi (show(1:Int)=FS a b by unfold FS;rw[Ah h,Ao h2]))
  ·intro h2;have h2:¬b<a:=h2;exact .of_eq (Ac vi (show(0:Int)=FS a b by unfold FS;rw[Ah h,Ah h2]))
theorem tO(a b:Int):PC 83 [.slice .none [[vi a],[vi b]]] (vi (if a≠0 then a else b)):=by
 refine Ps Gn Tryz.func83 rfl (Nz rfl) ?_;refine Xi {i:Nat // i≤2∧(0<i→a=0)∧(1<i→b=0)} (Xi (fun i=>⟨[(3,vi 0),(6,.slice .none [[vi a],[vi b]]),(7,vi 2),(8,vi i.1)],[],Ab⟩) (Xi (fun i=>2-i.1) (Yi (Xi ⟨0,by omega,by omega,by omega⟩ ?_) ?_)))
 ·exact⟨Z4,Tv,Fh,Tv⟩
 intro⟨i,h1,h2,h3⟩;refine Yi ?_ ?_
 ·intro h;have h:(i:Int)<2:=h
  match i,h1,h2,h3,h with
  |0,h1,h2,h3,h =>
   refine Xi [vi a] (Yi (Yi (BM _) rfl) (Yi rfl ?_));refine Yi ?_ ?_
   ·intro h4;have h4:a≠0:=h4;exact .of_eq (Ac vi (Ao h4).symm)
   ·intro h4;have h4:¬a≠0:=h4;refine Yi (Ii 0 (by omega)) ?_;refine Xi ⟨1,by omega,fun _=>by omega,fun q=>absurd q (by decide)⟩ ?_;exact⟨by show 2-1<2-0;decide,Z4,Tv,Fh,Tv⟩
  |1,h1,h2,h3,h =>
   have ha:=h2 (by decide);refine Xi [vi b] (Yi (Yi (by show(0:Int)≤1;decide) rfl) (Yi rfl ?_));refine Yi ?_ ?_
   ·intro h4;exact .of_eq (Ac vi (Ah (by omega)).symm)
   ·intro h4;have h4:¬b≠0:=h4;refine Yi (Ii 1 (by omega)) ?_;refine Xi ⟨2,by omega,fun _=>ha,fun q=>by omega⟩ ?_;exact⟨by show 2-2<2-1;decide,Z4,Tv,Fh,Tv⟩
  |i+2,h1,h2,h3,h=>omega
 ·intro h;have h:¬(i:Int)<2:=h;have ha:=h2 (by omega);have hb:=h3 (by omega);exact .of_eq (Ac vi (show(0:Int)=if a≠0 then a else b by rw[Ah (by omega),hb]))
theorem Sh(a b:Ver)(i:Nat)(hi:i<3)(h:∀j,j<i→FS (part a j) (part b j)=0)(hn:FS (part a i) (part b i)≠0):Oi a b=FS (part a i) (part b i):=by
 unfold Oi
 match i,hi,h,hn with
 |0,_,_,hn=>exact Ao hn
 |1,_,h,hn =>
  have h0:FS a.a b.a=0:=h 0 (by decide);rw[Ah (by omega)];exact Ao hn
 |2,_,h,hn =>
  have h0:FS a.a b.a=0:=h 0 (by decide);have h1:FS a.b b.b=0:=h 1 (by decide);rw[Ah (by omega),Ah (by omega)];rfl
theorem eJ(a b:Ver)(h:∀j,j<3→FS (part a j) (part b j)=0):Oi a b=0:=by
 unfold Oi;have h0:FS a.a b.a=0:=h 0 (by decide);have h1:FS a.b b.b=0:=h 1 (by decide);have h2:FS a.c b.c=0:=h 2 (by decide);rw[Ah (by omega),Ah (by omega),h2]
theorem tR(a b:Ver):PC 85 [.agg (GE a),.agg (GE b)] (vi (Oi a b)):=by
 refine Ps Gn Tryz.func85 rfl (Nz rfl) ?_;refine Yi (Nz rfl) ?_;refine Xi _ (Yi (mU a) ?_);refine Yi (Nz rfl) ?_;refine Xi _ (Yi (mU b) ?_);refine Yi (Nz rfl) (Yi (Nz rfl) ?_);refine Yi (by kernel_rfl) ?_;refine Xi {i:Nat // i≤3∧∀j,j<i→FS (part a j) (part b j)=0} (Xi (fun i=>⟨[(5,.ref 5 0),(6,.ref 6 0),(13,vi i.1)],[(5,.cells (GE a)),(6,.cells (GE b))],Ab⟩) (Xi (fun i=>3-i.1) (Yi (Xi ⟨0,by omega,fun j h=>by omega⟩ ?_) ?_)))
 ·exact⟨Z3,Z2,Fh,Tv⟩
 intro⟨i,h1,h2⟩;refine Yi ?_ ?_
 ·intro h;have h:(i:Int)<3:=h;have next:FS (part a i) (part b i)=0→∀j,j<i+1→FS (part a j) (part b j)=0:=fun hz j hj=>by
   rcases ED j i with q | q
   ·exact h2 j q
   ·have:j=i:=by omega
    subst this;exact hz
  match i,h1,h2,h,next with
  |0,h1,h2,h,next =>
   refine Yi ⟨by show(0:Int)≤0;decide,by show(0:Int)<3;decide⟩ ?_;refine Yi ⟨by show(0:Int)≤0;decide,by show(0:Int)<3;decide⟩ ?_;refine Xi _ (Yi (mW (part a 0) (part b 0)) ?_);refine Yi (by kernel_rfl) ?_;refine Yi ?_ ?_
   ·intro h4;have h4:FS (part a 0) (part b 0)≠0:=h4;exact .of_eq (Ac vi (Sh a b 0 (by decide) h2 h4).symm)
   ·intro h4;have h4:¬FS (part a 0) (part b 0)≠0:=h4;refine Yi (Ii 0 (by omega)) ?_;refine Xi ⟨1,by omega,next (Ga h4)⟩ ?_
    exact⟨by show 3-1<3-0;decide,Z3,Z2,Fh,Tv⟩
  |1,h1,h2,h,next =>
   refine Yi ⟨by show(0:Int)≤1;decide,by show(1:Int)<3;decide⟩ ?_;refine Yi ⟨by show(0:Int)≤1;decide,by show(1:Int)<3;decide⟩ ?_;refine Xi _ (Yi (mW (part a 1) (part b 1)) ?_);refine Yi (by kernel_rfl) ?_;refine Yi ?_ ?_
   ·intro h4;have h4:FS (part a 1) (part b 1)≠0:=h4;exact .of_eq (Ac vi (Sh a b 1 (by decide) h2 h4).symm)
   ·intro h4;have h4:¬FS (part a 1) (part b 1)≠0:=h4;refine Yi (Ii 1 (by omega)) ?_;refine Xi ⟨2,by omega,next (Ga h4)⟩ ?_
    exact⟨by show 3-2<3-1;decide,Z3,Z2,Fh,Tv⟩
  |2,h1,h2,h,next =>
   refine Yi ⟨by show(0:Int)≤2;decide,by show(2:Int)<3;decide⟩ ?_;refine Yi ⟨by show(0:Int)≤2;decide,by show(2:Int)<3;decide⟩ ?_;refine Xi _ (Yi (mW (part a 2) (part b 2)) ?_);refine Yi (by kernel_rfl) ?_;refine Yi ?_ ?_
   ·intro h4;have h4:FS (part a 2) (part b 2)≠0:=h4;exact .of_eq (Ac vi (Sh a b 2 (by decide) h2 h4).symm)
   ·intro h4;have h4:¬FS (part a 2) (part b 2)≠0:=h4;refine Yi (Ii 2 (by omega)) ?_;refine Xi ⟨3,by omega,next (Ga h4)⟩ ?_
    exact⟨by show 3-3<3-2;decide,Z3,Z2,Fh,Tv⟩
  |i+3,h1,h2,h,next=>omega
 ·intro h;have h:¬(i:Int)<3:=h;exact .of_eq (Ac vi (eJ a b fun j hj=>h2 j (by omega)).symm)
theorem pF(a b:Rl):PC 60 [.agg (Aj a),.agg (Aj b)] (vi (Dz a b)):=by
 refine Ps Gn Tryz.func60 rfl (Nz rfl) ?_;refine Xi _ (Yi (tQ a.path b.path) ?_);refine Yi (Nz rfl) (Yi (Nz rfl) ?_);refine Xi _ (Yi (tR a.ver b.ver) ?_);refine Xi _ (Yi (tO (JZ a.path b.path) (Oi a.ver b.ver)) ?_);refine Yi (by kernel_rfl) ?_;exact .refl _
abbrev HW(s:ByteArray):Prop:=s.size≤1073741824
abbrev N1(q:Rq):Prop:=CM q.set∧HW q.path
abbrev JW(r:Rl):Prop:=HW r.path∧∀q∈r.reqs,N1 q
abbrev aC(nm:ByteArray→ByteArray)(p:ByteArray):AV:=match CE p with
 |some m=>.tup [vs (nm p),vi m,vi 0]
 |none=>.tup [vs ⟨#[]⟩,vi 0,vi 4]
abbrev T3(nm:ByteArray→ByteArray):Prop:=∀p:ByteArray,HW p→PC 81 [vs p] (aC nm p)
theorem T3.none{nm:ByteArray→ByteArray}(h:T3 nm){p:ByteArray}(hp:HW p)(e:CE p=.none):PC 81 [vs p] (.tup [vs ⟨#[]⟩,vi 0,vi 4]):=by
 have:=h p hp;unfold aC at this;rw[e]at this;exact this
theorem T3.some{nm:ByteArray→ByteArray}(h:T3 nm){p:ByteArray}{m:Int}(hp:HW p)(e:CE p=.some m):PC 81 [vs p] (.tup [vs (nm p),vi m,vi 0]):=by
 have:=h p hp;unfold aC at this;rw[e]at this;exact this
theorem pG{nm:ByteArray→ByteArray}(hL:T3 nm)(q:Rq)(hq:CM q.set)(hp:HW q.path):PC 112 [.agg (AK q),.v (.pointer none)] (vi (GI none q)):=by
 cases T0:CE q.path with
 |none =>
  have e:(4:Int)=GI none q:=by unfold GI;rw[T0];rfl
  have hl:=hL.none hp T0;refine Ps Gn Tryz.func112 rfl (Nz rfl) ?_;refine Xi .pure (Xi _ (Yi (hl) ?_));refine Yi ?_ ?_
  ·intro _;exact .of_eq (Ac vi e)
  ·intro h;exact absurd (show(4:Int)≠0 by decide) h
 |some m =>
  have er:GI none q=if(q.set.isEmpty||!decide (q.set=canon q.set)||false)=true then 1 else 0:=by unfold GI;rw[T0];rfl
  have hl:=hL.some hp T0;have hc:=W5 q.set hq;have he:=pI q.set (canon q.set) hq;have Uf:∀{n:Int},n=(q.set.map Aq).length→n=0→q.set.isEmpty=true:=fun h1 h2=>by
   rw[Lm]at h1;rw[GL];exact AN (by omega)
  have fS:¬((q.set.map Aq).length:Int)=0→q.set.isEmpty=false:=fun h=>by
   cases hqs:q.set with
   |nil=>rw[hqs]at h;exact absurd rfl h
   |cons a l=>rfl
  rcases Bt (decide (q.set=canon q.set))with h2 | h2
  ·rw[h2]at he;refine Ps (Jv [2,4]) Tryz.func112 rfl (Nz rfl) ?_;refine Xi .pure (Xi _ (Yi (hl) ?_));refine Xi ⟨[(1,.v (.pointer none)),(2,.ref 2 0),(7,vi 0)],[(2,.cells (AK q))],Ab⟩ (Yi ⟨Z3,Z1,Fh,Tv⟩ ?_)
   refine Yi ?_ ?_
   ·intro h;exact absurd rfl h
   intro _;refine Xi ⟨[(1,.v (.pointer none)),(2,.ref 2 0)],[(2,.cells (AK q))],Ab⟩ (Yi ⟨Z2,Z1,Fh,Tv⟩ ?_)
   refine Yi ?_ ?_
   ·intro h;have h:((q.set.map Aq).length:Int)=0:=h;have e:(1:Int)=GI none q:=by rw[er,Uf rfl h];rfl
    refine Yi (by kernel_rfl) ?_;exact .of_eq (Ac vi e)
   intro h;have h:¬((q.set.map Aq).length:Int)=0:=h;have hn:=fS h;refine Xi _ (Yi (hc) ?_);refine Xi _ (Yi (he) ?_);refine Yi (by kernel_rfl) ?_;have e:(0:Int)=GI none q:=by rw[er,hn,h2];rfl
   exact .of_eq (Ac vi e)
  ·rw[h2]at he;refine Ps (Jv [2,4]) Tryz.func112 rfl (Nz rfl) ?_;refine Xi .pure (Xi _ (Yi (hl) ?_));refine Xi ⟨[(1,.v (.pointer none)),(2,.ref 2 0),(7,vi 0)],[(2,.cells (AK q))],Ab⟩ (Yi ⟨Z3,Z1,Fh,Tv⟩ ?_)
   refine Yi ?_ ?_
   ·intro h;exact absurd rfl h
   intro _;refine Xi ⟨[(1,.v (.pointer none)),(2,.ref 2 0)],[(2,.cells (AK q))],Ab⟩ (Yi ⟨Z2,Z1,Fh,Tv⟩ ?_)
   refine Yi ?_ ?_
   ·intro h;have h:((q.set.map Aq).length:Int)=0:=h;have e:(1:Int)=GI none q:=by rw[er,Uf rfl h];rfl
    refine Yi (by kernel_rfl) ?_;exact .of_eq (Ac vi e)
   intro h;have h:¬((q.set.map Aq).length:Int)=0:=h;have hn:=fS h;refine Xi _ (Yi (hc) ?_);refine Xi _ (Yi (he) ?_);refine Yi (by kernel_rfl) ?_;have e:(1:Int)=GI none q:=by rw[er,hn,h2];rfl
   exact .of_eq (Ac vi e)
theorem pH{nm:ByteArray→ByteArray}(hL:T3 nm)(q b:Rq)(hq:CM q.set)(hp:HW q.path):PC 112 [.agg (AK q),.cptr (AK b)] (vi (GI (some b.path) q)):=by
 cases T0:CE q.path with
 |none =>
  have e:(4:Int)=GI (some b.path) q:=by unfold GI;rw[T0];rfl
  have hl:=hL.none hp T0;refine Ps Gn Tryz.func112 rfl (Nz rfl) ?_;refine Xi .pure (Xi _ (Yi (hl) ?_));refine Yi ?_ ?_
  ·intro _;exact .of_eq (Ac vi e)
  ·intro h;exact absurd (show(4:Int)≠0 by decide) h
 |some m =>
  have er:GI (some b.path) q=if(q.set.isEmpty||!decide (q.set=canon q.set)||!Er b.path q.path)=true then 1 else 0:=by unfold GI;rw[T0];rfl
  have hl:=hL.some hp T0;have hc:=W5 q.set hq;have he:=pI q.set (canon q.set) hq;have Uf:∀{n:Int},n=(q.set.map Aq).length→n=0→q.set.isEmpty=true:=fun h1 h2=>by
   rw[Lm]at h1;rw[GL];exact AN (by omega)
  have fS:¬((q.set.map Aq).length:Int)=0→q.set.isEmpty=false:=fun h=>by
   cases hqs:q.set with
   |nil=>rw[hqs]at h;exact absurd rfl h
   |cons a l=>rfl
  rcases Bt (decide (q.set=canon q.set))with h2 | h2
  ·rw[h2]at he;refine Ps (Jv [2,4]) Tryz.func112 rfl (Nz rfl) ?_;refine Xi .pure (Xi _ (Yi (hl) ?_));refine Xi ⟨[(1,.cptr (AK b)),(2,.ref 2 0),(7,vi 0)],[(2,.cells (AK q))],Ab⟩ (Yi ⟨Z3,Z1,Fh,Tv⟩ ?_)
   refine Yi ?_ ?_
   ·intro h;exact absurd rfl h
   intro _;refine Xi ⟨[(1,.cptr (AK b)),(2,.ref 2 0)],[(2,.cells (AK q))],Ab⟩ (Yi ⟨Z2,Z1,Fh,Tv⟩ ?_)
   refine Yi ?_ ?_
   ·intro h;have h:((q.set.map Aq).length:Int)=0:=h;have e:(1:Int)=GI (some b.path) q:=by rw[er,Uf rfl h];rfl
    refine Yi (by kernel_rfl) ?_;exact .of_eq (Ac vi e)
   intro h;have h:¬((q.set.map Aq).length:Int)=0:=h;have hn:=fS h;refine Xi _ (Yi (hc) ?_);refine Xi _ (Yi (he) ?_);refine Yi ?_ ?_
   ·intro h3;have h3:Op.bytesLess b.path.toList q.path.toList=false:=h3;refine Yi (by kernel_rfl) ?_;have e:(1:Int)=GI (some b.path) q:=by rw[er,hn,h2,GW,h3];rfl
    exact .of_eq (Ac vi e)
   ·intro h3;have h3:¬Op.bytesLess b.path.toList q.path.toList=false:=h3;have h3:Op.bytesLess b.path.toList q.path.toList=true:=by simpa using h3
    refine Yi (by kernel_rfl) ?_;have e:(0:Int)=GI (some b.path) q:=by rw[er,hn,h2,GW,h3];rfl
    exact .of_eq (Ac vi e)
  ·rw[h2]at he;refine Ps (Jv [2,4]) Tryz.func112 rfl (Nz rfl) ?_;refine Xi .pure (Xi _ (Yi (hl) ?_));refine Xi ⟨[(1,.cptr (AK b)),(2,.ref 2 0),(7,vi 0)],[(2,.cells (AK q))],Ab⟩ (Yi ⟨Z3,Z1,Fh,Tv⟩ ?_)
   refine Yi ?_ ?_
   ·intro h;exact absurd rfl h
   intro _;refine Xi ⟨[(1,.cptr (AK b)),(2,.ref 2 0)],[(2,.cells (AK q))],Ab⟩ (Yi ⟨Z2,Z1,Fh,Tv⟩ ?_)
   refine Yi ?_ ?_
   ·intro h;have h:((q.set.map Aq).length:Int)=0:=h;have e:(1:Int)=GI (some b.path) q:=by rw[er,Uf rfl h];rfl
    refine Yi (by kernel_rfl) ?_;exact .of_eq (Ac vi e)
   intro h;have h:¬((q.set.map Aq).length:Int)=0:=h;have hn:=fS h;refine Xi _ (Yi (hc) ?_);refine Xi _ (Yi (he) ?_);refine Yi (by kernel_rfl) ?_;have e:(1:Int)=GI (some b.path) q:=by rw[er,hn,h2];rfl
   exact .of_eq (Ac vi e)
abbrev Mr(l:List Rq)(k:Nat):List AV:=((l.map AK)[k]?).getD []
abbrev pD(l:List Rq):Nat→AV
 |0=>.v (.pointer none)
 |k+1=>.cptr (Mr l k)
abbrev Km(l:List Rq):Nat→Option ByteArray
 |0=>none
 |k+1=>(l[k]?).map (·.path)
theorem No{l:List Rq}{k:Nat}(h:k<l.length):Mr l k=AK l[k]:=by
 unfold Mr;rw[AG,Ge h];rfl
theorem RW{l:List Rq}{k:Nat}(h:k<l.length):Km l (k+1)=some l[k].path:=by
 show(l[k]?).map _=_;rw[Ge h];rfl
theorem xw{nm:ByteArray→ByteArray}(hL:T3 nm)(l:List Rq)(hs:∀q∈l,N1 q):PC 82 [sl AK l] (vi (BK l)):=by
 refine Ps (Jv [8]) Tryz.func82 rfl (Nz rfl) ?_;refine Yi ?_ ?_
 ·intro h;have h:(16:Int)<(l.map AK).length:=h;exact .of_eq (Ac vi (show(7:Int)=BK l by unfold BK;rw[Ao (by rw[Lm]at h;omega)]))
 intro h;have h:¬(16:Int)<(l.map AK).length:=h;have hl:l.length≤16:=by rw[Lm]at h;omega
 have TZ:BK l=FR none l:=by unfold BK;rw[Ah (by omega)]
 refine Xi {i:Nat // i≤l.length∧FR none l=FR (Km l i) (l.drop i)} (Xi (fun i=>⟨[(0,sl AK l),(3,pD l i.1),(10,sl AK l),(11,vi (l.map AK).length),(12,vi i.1)],[],Ab⟩) (Xi (fun i=>l.length-i.1) (Yi (Xi ⟨0,AJ _,rfl⟩ ?_) ?_)))
 ·exact⟨Z5,Tv,Fh,Tv⟩
 intro⟨i,h1,h2⟩;refine Yi ?_ ?_
 ·intro h;have h:(i:Int)<(l.map AK).length:=h;have h:i<l.length:=by simpa using h
  have hg:l[i]?=some l[i]:=Ge h;have hd:l.drop i=l[i]::l.drop (i+1):=Bk h;have hq:=hs l[i] (AC h);have hc:PC 112 [.agg (AK l[i]),pD l i] (vi (GI (Km l i) l[i])):=by
   cases i with
   |zero=>exact pG hL _ hq.1 hq.2
   |succ k =>
    rw[RW (by omega:k<l.length)];show PC 112 [_,.cptr (Mr l k)] _;rw[No (by omega:k<l.length)];exact pH hL _ _ hq.1 hq.2
  have J3:FR none l=if GI (Km l i) l[i]=0 then FR (some l[i].path) (l.drop (i+1))else GI (Km l i) l[i]:=by rw[h2,hd];rfl
  match i,h1,h2,h,hg,hd,hc,J3 with
  |0,h1,h2,h,hg,hd,hc,J3 =>
   refine Xi (AK l[0]) (Yi (Yi (by show(0:Int)≤((0:Nat):Int);omega) (by simp[hg])) (Yi rfl ?_));refine Yi (Nz rfl) (Yi (Nz rfl) (Yi (Nz rfl) ?_));refine Xi .pure (Xi _ (Yi (hc) ?_));refine Xi ⟨[(0,sl AK l),(4,vi ((0:Nat):Int)),(6,vi (GI (Km l (0)) l[0])),(10,sl AK l),(11,vi (l.map AK).length),(12,vi ((0:Nat):Int))],[],Ab⟩ (Yi ⟨Z6,Tv,Fh,Tv⟩ ?_)
   refine Yi ?_ ?_
   ·intro h4;have h4:GI (Km l (0)) l[0]≠0:=h4;exact .of_eq (Ac vi (show GI (Km l (0)) l[0]=BK l by rw[TZ,J3,Ah h4]))
   ·intro h4;have h4:¬GI (Km l (0)) l[0]≠0:=h4;refine Xi (AK l[0]) (Yi (Yi (by show(0:Int)≤((0:Nat):Int);omega) (by simp[hg])) (Yi rfl ?_));refine Yi (by show BR (((0:Nat):Int)+1);unfold BR;omega) ?_;refine Xi ⟨0+1,by omega,by rw[J3,Ao (Ga h4),RW h]⟩ ?_;have e1:AV.cptr (AK l[0])=.cptr (Mr l (0)):=by rw[No h]
    exact⟨by show l.length-(0+1)<l.length-(0);omega,⟨Zr,⟨e1,rfl⟩,Zr,Zr,Zr,Tv⟩,Tv,Fh,Tv⟩
  |k+1,h1,h2,h,hg,hd,hc,J3 =>
   refine Xi (AK l[k+1]) (Yi (Yi (by show(0:Int)≤((k+1:Nat):Int);omega) (by simp[hg])) (Yi rfl ?_));refine Yi (Nz rfl) (Yi (Nz rfl) (Yi (Nz rfl) ?_));refine Xi .pure (Xi _ (Yi (hc) ?_));refine Xi ⟨[(0,sl AK l),(4,vi ((k+1:Nat):Int)),(6,vi (GI (Km l (k+1)) l[k+1])),(10,sl AK l),(11,vi (l.map AK).length),(12,vi ((k+1:Nat):Int))],[],Ab⟩ (Yi ⟨Z6,Tv,Fh,Tv⟩ ?_)
   refine Yi ?_ ?_
   ·intro h4;have h4:GI (Km l (k+1)) l[k+1]≠0:=h4;exact .of_eq (Ac vi (show GI (Km l (k+1)) l[k+1]=BK l by rw[TZ,J3,Ah h4]))
   ·intro h4;have h4:¬GI (Km l (k+1)) l[k+1]≠0:=h4;refine Xi (AK l[k+1]) (Yi (Yi (by show(0:Int)≤((k+1:Nat):Int);omega) (by simp[hg])) (Yi rfl ?_));refine Yi (by show BR (((k+1:Nat):Int)+1);unfold BR;omega) ?_;refine Xi ⟨k+1+1,by omega,by rw[J3,Ao (Ga h4),RW h]⟩ ?_;have e1:AV.cptr (AK l[k+1])=.cptr (Mr l (k+1)):=by rw[No h]
    exact⟨by show l.length-(k+1+1)<l.length-(k+1);omega,⟨Zr,⟨e1,rfl⟩,Zr,Zr,Zr,Tv⟩,Tv,Fh,Tv⟩
 ·intro h;have h:¬(i:Int)<(l.map AK).length:=h;have h:¬i<l.length:=by simpa using h
  have e:(0:Int)=BK l:=by rw[TZ,h2,T4 (by omega)];rfl
  exact .of_eq (Ac vi e)
abbrev eU(r:Rl):Nat→ByteArray
 |0=>r.arch
 |1=>r.ifc
 |_=>r.cert
theorem na{r:Rl}(h:∀j,j<3→EU (eU r j)=true):(EU r.arch&&EU r.ifc&&EU r.cert)=true:=by
 have h0:EU r.arch=true:=h 0 (by decide);have h1:EU r.ifc=true:=h 1 (by decide);have h2:EU r.cert=true:=h 2 (by decide);rw[h0,h1,h2];rfl
theorem Y1{r:Rl}{i:Nat}(hi:i<3)(h:EU (eU r i)=false):(EU r.arch&&EU r.ifc&&EU r.cert)=false:=by
 match i,hi,h with
 |0,_,h=>have h:EU r.arch=false:=h;rw[h];rfl
 |1,_,h=>have h:EU r.ifc=false:=h;rw[h,D8];rfl
 |2,_,h=>have h:EU r.cert=false:=h;rw[h,D8]
theorem tD{nm:ByteArray→ByteArray}(hL:T3 nm)(r:Rl)(hr:JW r):PC 58 [.agg (Aj r)] (vi (Dj r)):=by
 cases T0:CE r.path with
 |none =>
  have e:(4:Int)=Dj r:=by unfold Dj;rw[T0]
  have hl:=hL.none hr.1 T0;refine Ps Gn Tryz.func58 rfl (Nz rfl) ?_;refine Xi .pure (Xi _ (Yi (hl) ?_));refine Yi ?_ ?_
  ·intro _;exact .of_eq (Ac vi e)
  ·intro h;exact absurd (show(4:Int)≠0 by decide) h
 |some m =>
  have er:Dj r=if(!Cs r.ver||!decide (r.ver.a=m))=true then 2 else if BK r.reqs≠0 then BK r.reqs else if(EU r.arch&&EU r.ifc&&EU r.cert)=true then 0 else 1:=by unfold Dj;rw[T0]
  have hl:=hL.some hr.1 T0;have hv:=mP r.ver;have hc:=xw hL r.reqs hr.2;rcases Bt (Cs r.ver)with h2 | h2
  ·rw[h2]at hv;refine Ps (Jv [2,4,6,7,9]) Tryz.func58 rfl (Nz rfl) ?_;refine Xi .pure (Xi _ (Yi (hl) ?_));refine Xi ⟨[(1,.ref 1 0),(4,vi m),(5,vi 0)],[(1,.cells (Aj r))],Ab⟩ (Yi ⟨Z3,Z1,Fh,Tv⟩ ?_)
   refine Yi ?_ ?_
   ·intro h;exact absurd rfl h
   intro _;refine Xi ⟨[(1,.ref 1 0),(4,vi m)],[(1,.cells (Aj r))],Ab⟩ (Yi ⟨Z2,Z1,Fh,Tv⟩ ?_)
   refine Yi (Nz rfl) ?_;refine Xi .pure (Xi _ (Yi (hv) ?_));refine Yi ?_ ?_
   ·intro h;have h:r.ver.a≠m:=h;have e:(2:Int)=Dj r:=by rw[er,h2,Az h];rfl
    exact .of_eq (Ac vi e)
   intro h;have h:¬r.ver.a≠m:=h;have h3:r.ver.a=m:=Ga h;have p5:Dj r=if BK r.reqs≠0 then BK r.reqs else if(EU r.arch&&EU r.ifc&&EU r.cert)=true then 0 else 1:=by rw[er,h2,Ax h3];rfl
   refine Xi ⟨[(1,.ref 1 0)],[(1,.cells (Aj r))],Ab⟩ (Yi ⟨Z1,Z1,Fh,Tv⟩ ?_)
   refine Xi .pure (Xi _ (Yi (hc) ?_));refine Xi ⟨[(1,.ref 1 0),(6,vi (BK r.reqs))],[(1,.cells (Aj r))],Ab⟩ (Yi ⟨Z2,Z1,Fh,Tv⟩ ?_)
   refine Yi ?_ ?_
   ·intro h4;have h4:BK r.reqs≠0:=h4;exact .of_eq (Ac vi (show BK r.reqs=Dj r by rw[p5,Ao h4]))
   intro h4;have h4:¬BK r.reqs≠0:=h4;have sC:Dj r=if(EU r.arch&&EU r.ifc&&EU r.cert)=true then 0 else 1:=by rw[p5,Ah h4]
   refine Xi ⟨[(1,.ref 1 0)],[(1,.cells (Aj r))],Ab⟩ (Yi ⟨Z1,Z1,Fh,Tv⟩ ?_)
   refine Xi {i:Nat // i≤3∧∀j,j<i→EU (eU r j)=true} (Xi (fun i=>⟨[(41,.slice (.id 41 1) [[vs r.arch],[vs r.ifc],[vs r.cert]]),(42,vi 3),(43,vi i.1)],[(41,.tok 1 3)],Ab⟩) (Xi (fun i=>3-i.1) (Yi (Xi ⟨0,by omega,fun j h=>by omega⟩ ?_) ?_)))
   ·exact⟨Z3,Z1,Fh,Tv⟩
   intro⟨i,i1,i2⟩;refine Yi ?_ ?_
   ·intro h;have h:(i:Int)<3:=h;have next:EU (eU r i)=true→∀j,j<i+1→EU (eU r j)=true:=fun hz j hj=>by
     rcases ED j i with q | q
     ·exact i2 j q
     ·have:j=i:=by omega
      subst this;exact hz
    match i,i1,i2,h,next with
    |0,i1,i2,h,next =>
     refine Xi [vs r.arch] (Yi (Yi (by show(0:Int)≤0;decide) rfl) (Yi rfl ?_));refine Yi ?_ ?_
     ·intro h5;have h5:((r.arch.size:Nat):Int)≠0:=h5;refine Yi ?_ ?_
      ·intro h6;have h6:((r.arch.size:Nat):Int)≠32:=h6;have e:(1:Int)=Dj r:=by rw[sC,Y1 (i:=0) (by decide) (show EU r.arch=false by unfold EU;rw[Az (by omega),Az (by omega)];rfl)];rfl
       exact .of_eq (Ac vi e)
      ·intro h6;have h6:¬((r.arch.size:Nat):Int)≠32:=h6;refine Yi (Ii 0 (by omega)) ?_;refine Xi ⟨1,by omega,next (show EU r.arch=true by unfold EU;rw[Ax (by omega:r.arch.size=32),Bool.or_true])⟩ ?_
       exact⟨by show 3-1<3-0;decide,Z3,Z1,Fh,Tv⟩
     ·intro h5;have h5:¬((r.arch.size:Nat):Int)≠0:=h5;refine Yi (Ii 0 (by omega)) ?_;refine Xi ⟨1,by omega,next (show EU r.arch=true by unfold EU;rw[Ax (by omega:r.arch.size=0)];rfl)⟩ ?_
      exact⟨by show 3-1<3-0;decide,Z3,Z1,Fh,Tv⟩
    |1,i1,i2,h,next =>
     refine Xi [vs r.ifc] (Yi (Yi (by show(0:Int)≤1;decide) rfl) (Yi rfl ?_));refine Yi ?_ ?_
     ·intro h5;have h5:((r.ifc.size:Nat):Int)≠0:=h5;refine Yi ?_ ?_
      ·intro h6;have h6:((r.ifc.size:Nat):Int)≠32:=h6;have e:(1:Int)=Dj r:=by rw[sC,Y1 (i:=1) (by decide) (show EU r.ifc=false by unfold EU;rw[Az (by omega),Az (by omega)];rfl)];rfl
       exact .of_eq (Ac vi e)
      ·intro h6;have h6:¬((r.ifc.size:Nat):Int)≠32:=h6;refine Yi (Ii 1 (by omega)) ?_;refine Xi ⟨2,by omega,next (show EU r.ifc=true by unfold EU;rw[Ax (by omega:r.ifc.size=32),Bool.or_true])⟩ ?_
       exact⟨by show 3-2<3-1;decide,Z3,Z1,Fh,Tv⟩
     ·intro h5;have h5:¬((r.ifc.size:Nat):Int)≠0:=h5;refine Yi (Ii 1 (by omega)) ?_;refine Xi ⟨2,by omega,next (show EU r.ifc=true by unfold EU;rw[Ax (by omega:r.ifc.size=0)];rfl)⟩ ?_
      exact⟨by show 3-2<3-1;decide,Z3,Z1,Fh,Tv⟩
    |2,i1,i2,h,next =>
     refine Xi [vs r.cert] (Yi (Yi (by show(0:Int)≤2;decide) rfl) (Yi rfl ?_));refine Yi ?_ ?_
     ·intro h5;have h5:((r.cert.size:Nat):Int)≠0:=h5;refine Yi ?_ ?_
      ·intro h6;have h6:((r.cert.size:Nat):Int)≠32:=h6;have e:(1:Int)=Dj r:=by rw[sC,Y1 (i:=2) (by decide) (show EU r.cert=false by unfold EU;rw[Az (by omega),Az (by omega)];rfl)];rfl
       exact .of_eq (Ac vi e)
      ·intro h6;have h6:¬((r.cert.size:Nat):Int)≠32:=h6;refine Yi (Ii 2 (by omega)) ?_;refine Xi ⟨3,by omega,next (show EU r.cert=true by unfold EU;rw[Ax (by omega:r.cert.size=32),Bool.or_true])⟩ ?_
       exact⟨by show 3-3<3-2;decide,Z3,Z1,Fh,Tv⟩
     ·intro h5;have h5:¬((r.cert.size:Nat):Int)≠0:=h5;refine Yi (Ii 2 (by omega)) ?_;refine Xi ⟨3,by omega,next (show EU r.cert=true by unfold EU;rw[Ax (by omega:r.cert.size=0)];rfl)⟩ ?_
      exact⟨by show 3-3<3-2;decide,Z3,Z1,Fh,Tv⟩
    |i+3,i1,i2,h,next=>omega
   ·intro h;have h:¬(i:Int)<3:=h;have e:(0:Int)=Dj r:=by rw[sC,Ao (na fun j hj=>i2 j (by omega))]
    exact .of_eq (Ac vi e)
  ·rw[h2]at hv;have e:(2:Int)=Dj r:=by rw[er,h2];rfl
   refine Ps (Jv [2,4]) Tryz.func58 rfl (Nz rfl) ?_;refine Xi .pure (Xi _ (Yi (hl) ?_));refine Xi ⟨[(1,.ref 1 0),(4,vi m),(5,vi 0)],[(1,.cells (Aj r))],Ab⟩ (Yi ⟨Z3,Z1,Fh,Tv⟩ ?_)
   refine Yi ?_ ?_
   ·intro h;exact absurd rfl h
   intro _;refine Xi ⟨[(1,.ref 1 0),(4,vi m)],[(1,.cells (Aj r))],Ab⟩ (Yi ⟨Z2,Z1,Fh,Tv⟩ ?_)
   refine Yi (Nz rfl) ?_;refine Xi .pure (Xi _ (Yi (hv) ?_));exact .of_eq (Ac vi e)
theorem n6{a b:Rl}(h:a.path=b.path∧a.ver.a=b.ver.a∧a.ver.b=b.ver.b∧a.ver.c=b.ver.c):Fm a=Fm b:=by
 unfold Fm;obtain⟨h1,h2,h3,h4⟩:=h
 have:a.ver=b.ver:=by
  cases ha:a.ver;cases hb:b.ver;rw[ha,hb]at h2 h3 h4;simp_all
 rw[h1,this]
theorem cA{a b:Rl}(h:Fm a=Fm b):a.path=b.path∧a.ver.a=b.ver.a∧a.ver.b=b.ver.b∧a.ver.c=b.ver.c:=by
 unfold Fm at h
 injection h with h1 h2
 exact⟨h1,by rw[h2],by rw[h2],by rw[h2]⟩
abbrev jv(x:List Rl):Nat→Option Rl
 |0=>none
 |k+1=>x[k]?
theorem jC{nm:ByteArray→ByteArray}(hL:T3 nm)(x:List Rl)(ifs:List (List AV))(hs:∀r∈x,JW r):PC 37 [.agg (Ic x ifs)] (vi (AQ x)):=by
 refine Ps (Jv [7,9,11,13]) Tryz.func37 rfl (Nz rfl) ?_;refine Yi ?_ ?_
 ·intro h;have h:(256:Int)<(x.map Aj).length:=h;exact .of_eq (Ac vi (show(7:Int)=AQ x by unfold AQ;rw[Ao (by rw[Lm]at h;omega)]))
 intro h;have h:¬(256:Int)<(x.map Aj).length:=h;have hl:x.length≤256:=by rw[Lm]at h;omega
 have TZ:AQ x=CL none x:=by unfold AQ;rw[Ah (by omega)]
 refine Xi {i:Nat // i≤x.length∧CL none x=CL (jv x i) (x.drop i)} (Xi (fun i=>⟨[(1,.ref 1 0),(12,sl Aj x),(13,vi (x.map Aj).length),(14,vi i.1)],[(1,.cells (Ic x ifs))],Ab⟩) (Xi (fun i=>x.length-i.1) (Yi (Xi ⟨0,AJ _,rfl⟩ ?_) ?_)))
 ·exact⟨Z4,Z1,Fh,Tv⟩
 intro⟨i,h1,h2⟩;refine Yi ?_ ?_
 ·intro h;have h:(i:Int)<(x.map Aj).length:=h;have h:i<x.length:=by simpa using h
  have hg:x[i]?=some x[i]:=Ge h;have hd:x.drop i=x[i]::x.drop (i+1):=Bk h;have hc:=tD hL x[i] (hs x[i] (AC h));have J3:CL none x=if Dj x[i]≠0 then Dj x[i]else match jv x i with
   |none=>CL (some x[i]) (x.drop (i+1))
   |some b=>if Fm b=Fm x[i]then 5 else if 0<Dz b x[i]then 1 else CL (some x[i]) (x.drop (i+1)):=by rw[h2,hd];rfl
  have lU:jv x (i+1)=some x[i]:=Ge h;refine Xi (Aj x[i]) (Yi (Yi (Nn i) (by simp[hg])) (Yi rfl ?_));refine Yi (Nz rfl) (Yi (Nz rfl) (Yi (Nz rfl) ?_));refine Xi .pure (Xi _ (Yi (hc) ?_));refine Xi ⟨[(1,.ref 1 0),(3,vi i),(4,.ref 4 0),(5,vi (Dj x[i])),(12,sl Aj x),(13,vi (x.map Aj).length),(14,vi i)],[(1,.cells (Ic x ifs)),(4,.cells (Aj x[i]))],Ab⟩ (Yi ⟨Z7,Z2,Fh,Tv⟩ ?_)
  refine Yi ?_ ?_
  ·intro h4;have h4:Dj x[i]≠0:=h4;exact .of_eq (Ac vi (show Dj x[i]=AQ x by rw[TZ,J3,Ao h4]))
  intro h4;have h4:¬Dj x[i]≠0:=h4;refine Xi ⟨[(1,.ref 1 0),(3,vi i),(4,.ref 4 0),(12,sl Aj x),(13,vi (x.map Aj).length),(14,vi i)],[(1,.cells (Ic x ifs)),(4,.cells (Aj x[i]))],Ab⟩ (Yi ⟨Z6,Z2,Fh,Tv⟩ ?_)
  refine Yi ?_ ?_
  ·intro h5;have h5:(i:Int)=0:=h5;have h6:i=0:=by omega
   refine Yi (Ii i (by omega)) ?_;refine Xi ⟨i+1,by omega,by rw[J3,Ah h4,lU];subst h6;rfl⟩ ?_;exact⟨Dl x.length i (by omega),Z4,Z1,Fh,Tv⟩
  intro h5;have h5:¬(i:Int)=0:=h5;have z7:i-1<x.length:=by omega
  have hb:jv x i=some x[i-1]:=by
   obtain⟨k,rfl⟩:∃k,i=k+1:=⟨i-1,by omega⟩;exact Ge (by omega)
  have nD:CL none x=if Fm x[i-1]=Fm x[i]then 5 else if 0<Dz x[i-1] x[i]then 1 else CL (some x[i]) (x.drop (i+1)):=by rw[J3,Ah h4,hb]
  refine Yi (by show BR ((i:Int)-1);unfold BR;omega) ?_;have Ug:(x.map Aj)[((i:Int)-1).toNat]?=some (Aj x[i-1]):=by rw[show((i:Int)-1).toNat=i-1 by omega];exact Dg (Ge z7)
  refine Xi (Aj x[i-1]) (Yi (Yi (by show(0:Int)≤(i:Int)-1;omega) Ug) (Yi rfl ?_));refine Yi (Nz rfl) (Yi (Nz rfl) ?_);refine Xi ⟨[(1,.ref 1 0),(4,.ref 4 0),(6,.ref 6 0),(12,sl Aj x),(13,vi (x.map Aj).length),(14,vi i)],[(1,.cells (Ic x ifs)),(4,.cells (Aj x[i])),(6,.cells (Aj x[i-1]))],Ab⟩ (Yi ⟨Z6,Z3,Fh,Tv⟩ ?_)
  refine Yi (Nz rfl) ?_;refine Xi _ (Yi (mS x[i-1]) ?_);refine Yi (Nz rfl) ?_;refine Xi _ (Yi (mS x[i]) ?_);refine Yi ?_ ?_
  ·intro h6;refine Yi (by kernel_rfl) ?_;have e:(5:Int)=AQ x:=by rw[TZ,nD,Ao (n6 ⟨h6.1,h6.2.1,h6.2.2.1,h6.2.2.2.1⟩)]
   exact .of_eq (Ac vi e)
  intro h6;refine Yi (by kernel_rfl) ?_;have h7:¬Fm x[i-1]=Fm x[i]:=fun e=>by
   have e:=cA e;exact h6 ⟨e.1,e.2.1,e.2.2.1,e.2.2.2,trivial⟩
  refine Xi ⟨[(1,.ref 1 0),(4,.ref 4 0),(6,.ref 6 0),(12,sl Aj x),(13,vi (x.map Aj).length),(14,vi i)],[(1,.cells (Ic x ifs)),(4,.cells (Aj x[i])),(6,.cells (Aj x[i-1]))],Ab⟩ (Yi ⟨Z6,Z3,Fh,Tv⟩ ?_)
  refine Yi (Nz rfl) (Yi (Nz rfl) ?_);refine Xi .pure (Xi _ (Yi (pF x[i-1] x[i]) ?_));refine Yi ?_ ?_
  ·intro h8;have h8:(0:Int)<Dz x[i-1] x[i]:=h8;have e:(1:Int)=AQ x:=by rw[TZ,nD,Ah h7,Ao h8]
   exact .of_eq (Ac vi e)
  ·intro h8;have h8:¬(0:Int)<Dz x[i-1] x[i]:=h8;refine Yi (Ii i (by omega)) ?_;refine Xi ⟨i+1,by omega,by rw[nD,Ah h7,Ah h8,lU]⟩ ?_;exact⟨Dl x.length i (by omega),Z4,Z1,Fh,Tv⟩
 ·intro h;have h:¬(i:Int)<(x.map Aj).length:=h;have h:¬i<x.length:=by simpa using h
  have e:(0:Int)=AQ x:=by rw[TZ,h2,T4 (by omega)];rfl
  exact .of_eq (Ac vi e)
end Go.Eng
