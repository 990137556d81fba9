/- Lemmas for the claims of this seat, without a condition: part 20 (C24, C25, C26, C27, C28, C29, C30, C31, C32, C33, C34, C35, C36, C37). -/
import Derived.Test.YtddfphmpfnmknaaGreatDoorA19
import Derived.Shelf.Slices.Delete
namespace Go.Eng
open Go.Proofs
theorem lY(l:List Tm)(hl:CJ l)(hs:∀t∈l,CJ t.set):PC 174 [sl AC l] (sl AC (Pq l)):=by
 refine Ps F1 Tryz.func174 rfl (Nz rfl) ?_;refine Xi .pure (Xi _ (Yi (rp l hl hs) ?_));exact .refl _
theorem Pe(s:Bh):CJ (Ee s):=by
 unfold CJ;have:=HR (GY s);omega
theorem me{α:Type}(x:α):CJ [x]:=by unfold CJ;simp
theorem tf{α:Type}(x y:α):CJ [x,y]:=by unfold CJ;simp
theorem sP(q:Rq)(hq:CJ q.set):PC 122 [.agg (AI q)] (sl AC (Jj q)):=by
 have hc:PC 174 [sl AC [Dx q]] (sl AC (Jj q)):=lY [Dx q] (me _) fun t ht=>by rw[Am.1 ht];exact Pe _
 refine Ps F1 Tryz.func122 rfl (Nz rfl) ?_;refine Yi (Nz rfl) ?_;refine Xi .pure (Xi _ (Yi (oR q hq) ?_));refine Xi .pure (Xi _ (Yi (hc) ?_));exact .refl _
theorem sQ(p:ByteArray)(pl:Int)(q:Rq)(hp:BK (pl+1))(hq:CJ q.set):PC 123 [vs p,vi pl,.agg (AI q)] (sl AC (Ed p pl q)):=by
 have hc:PC 174 [sl AC [⟨p,false,[(pl,pl+1)]⟩,Dx q]] (sl AC (Ed p pl q)):=lY [⟨p,false,[(pl,pl+1)]⟩,Dx q] (tf _ _) fun t ht=>by
  rcases Av.1 ht with rfl | ht
  ·exact me _
  ·rw[Am.1 ht];exact Pe _
 refine Ps F1 Tryz.func123 rfl (Nz rfl) ?_;refine Yi hp ?_;refine Yi (Nz rfl) ?_;refine Xi .pure (Xi _ (Yi (oR q hq) ?_));refine Xi .pure (Xi _ (Yi (hc) ?_));exact .refl _
theorem oO(p:ByteArray)(s:Bh)(hs:CJ s):PC 127 [vs p,sl Ao s] (sl AC (HM p s)):=by
 have hc:PC 174 [sl AC [⟨p,false,Ee s⟩]] (sl AC (HM p s)):=lY [⟨p,false,Ee s⟩] (me _) fun t ht=>by rw[Am.1 ht];exact Pe _
 refine Ps F1 Tryz.func127 rfl (Nz rfl) ?_;refine Xi .pure (Xi _ (Yi (lN s hs) ?_));refine Xi .pure (Xi _ (Yi (hc) ?_));exact .refl _
end Go.Eng
namespace Go.Eng
open Go.Proofs Go.Shelf Go.RowKit Go.Lib Go.Sort
theorem mX(F:Array Value)(i n:Nat)(hF:F.size=n*3)(hi:i<n)(z:List Value)(hz:z.length=3):(lay (lay F (i*3) (F.toList.drop ((i+1)*3))) ((n-1)*3) z).toList=F.toList.take (i*3)++F.toList.drop ((i+1)*3)++z:=by
 have l1:(F.toList.take (i*3)).length=i*3:=by simp;omega
 have l2:(F.toList.drop ((i+1)*3)).length=(n-(i+1))*3:=by simp;omega
 apply CU
 intro t
 rw[A1,lay_get? _ _ _ _ (by rw[Lib.lay_size];omega),lay_get? _ _ _ _ (by rw[l2];omega)]
 rw[hz,l2]
 by_cases c1:t<i*3
 ·rw[Ai (by omega),Ai (by omega),AX (by rw[Ad];omega),AX (by omega),Jp,Aq c1,A1]
 ·by_cases c2:t<(n-1)*3
  ·rw[Ai (by omega),Aq (by omega),AX (by rw[Ad];omega),AZ (by omega),l1]
  ·rw[AZ (by rw[Ad];omega),Ad,l1,l2]
   by_cases c3:t<n*3
   ·rw[Aq (by omega)];congr 1;omega
   ·rw[Ai (by omega),Ai (by omega),Ty (by omega),A2 (by omega)]
abbrev iv:List Value:=[.string ⟨#[]⟩,.bool false,.slice none 0 0]
set_option maxHeartbeats 4000000 in
set_option maxRecDepth 1000000 in
theorem dF(w:World)(b cap i n:Nat)(F:Array Value)(hF:F.size=n*3)(hi:i<n)(Oi:n≤cap)(hH:Holds id w b 0 F)(h1:∀x∈F.toList,x.oneCell'=true) :
  Calls Tryz.prog 212 #[.slice (some ⟨b,0,none⟩) n cap,.int .i64 i,.int .i64 ((i:Int)+1)] w fun e w'=>e=.returned (.slice (some ⟨b,0,none⟩) (n-1) cap) ∧
   w'=putRow id (Sort.ahead w 1) b 0 (lay (lay F (i*3) (F.toList.drop ((i+1)*3))) ((n-1)*3) iv):=by
 obtain⟨i0,ub,mR⟩:∃i0,Tryz.prog.info? 198=some i0∧i0.size=3:=by
  obtain⟨i,z,h1,_,h2,_⟩:=Hh (P:=Tryz.prog) (T:=lh) Cn (e:=198) (n:=2) (by kernel_rfl)
  exact⟨i,h1,h2.trans (by kernel_rfl)⟩
 obtain⟨news,IH⟩:∃news,news=F.toList.drop ((i+1)*3):=⟨_,rfl⟩
 have Cu:news.length=(n-(i+1))*3:=by rw[IH];simp;omega
 have E6:∀t,t<(n-(i+1))*3→news[t]?=some F[(i+1)*3+t]!:=by
  intro t ht
  rw[IH,Dr,A1,Ds F ((i+1)*3+t) (by omega),Bk (by omega)]
 obtain⟨A,hA,bm⟩:∃A:Addr,(if cap=i+1 then some (⟨b,0,none⟩:Addr)else some ⟨b,(i+1)*3,none⟩)=some A∧Hid (∀t u,news[t]?=some u→w.drew.cell? (A.add t)=some u):=by
  by_cases h:cap=i+1
  ·refine⟨⟨b,0,none⟩,by simp[h],fun t u hu=>?_⟩
   have h0:news.length=0:=by rw[Cu];omega
   rw[List.length_eq_zero_iff.1 h0]at hu
   simp at hu
  ·refine⟨⟨b,(i+1)*3,none⟩,by simp[h],fun t u hu=>?_⟩
   have ht:t<(n-(i+1))*3:=by
    have:=(Ap.1 hu).1
    rwa [Cu]at this
   rw[E6 t ht]at hu
   rw[Addr.add_lit]
   have:=(hH ((i+1)*3+t) (by omega)).1
   rw[Be]at this
   exact this.trans hu
 have s1:Hid (news.length=(n-(i+1))*3):=Cu
 have s2:Hid (∀u∈news,u.oneCell'=true):=by
  intro u hu
  rw[IH]at hu
  exact h1 u (If hu)
 have s3:Hid (∀t,t<news.length→(w.drew.cell? ⟨b,0+i*3+t,none⟩).isSome=true∧w.drew.frozen? ⟨b,0+i*3+t,none⟩=false):=by
  intro t ht
  rw[Cu]at ht
  have:=hH (i*3+t) (by omega)
  rw[Gf]
  exact⟨by show(w.cell? _).isSome=true;rw[this.1];rfl,this.2⟩
 obtain⟨W1,tG⟩:∃W1,W1=w.drew.setCells b (0+i*3) news:=⟨_,rfl⟩
 have mn : W1=putRow id (Sort.ahead w 1) b 0 (lay F (i*3) news):=by
  have:=putRow_setCells id (Sort.ahead w 1) b 0 news F (i*3) (by omega)
  rw[putRow_self id (Sort.ahead w 1) b 0 F (holds_ahead id w 1 b 0 F hH),Ie]at this
  rw[tG,←this]
  rfl
 have tw:Holds id W1 b 0 (lay F (i*3) news):=by rw[mn];exact holds_putRow id _ b 0 F _ (holds_ahead id w 1 b 0 F hH) (Lib.lay_size _ _ _)
 have Ja:(storeCells ⟨b,0+(n-1)*3,none⟩ iv 0).run Tryz.prog W1=.ok () (W1.setCells b (0+(n-1)*3) iv):=by
  have:=run_storeCells_cells (P:=Tryz.prog) b (0+(n-1)*3) iv 0 W1 (fun j hj=>by
   have hj:j<3:=hj
   have:=tw ((n-1)*3+j) (by rw[Lib.lay_size];omega)
   rw[show 0+(n-1)*3+0+j=0+((n-1)*3+j) by omega,this.1];rfl) (fun j hj=>by
   have hj:j<3:=hj
   have:=tw ((n-1)*3+j) (by rw[Lib.lay_size];omega)
   rw[show 0+(n-1)*3+0+j=0+((n-1)*3+j) by omega];exact this.2) (fun v hv=>by
   simp only[Av,Lj,or_false]at hv
   rcases hv with rfl | rfl | rfl<;>rfl)
  exact this
 have hcl:∀ty c,(Builtin.clear_ #[168] ty #[.slice (some ⟨b,(n-1)*3,none⟩) 1 c]).run Tryz.prog W1=.ok (.tuple #[]) (W1.setCells b (0+(n-1)*3) iv):=fun ty c=>by
  have hv:=Tryz.zeroValue198
  rw[Be]at Ja⊢
  have hz:(Builtin.zeroCells (Value.agg #[Value.string { data:=#[] },Value.bool false,Value.slice none 0 0]).cells 1).toList=iv:=by kernel_rfl
  simp[Builtin.clear_,run_underlying Tryz.underlying168,hv,hz,Ja]
 have yT:∀ty,(Builtin.clear_ #[168] ty #[.slice (some ⟨b,(i+(n-(i+1)))*3,none⟩) (n-(i+(n-(i+1)))) (cap-(i+(n-(i+1))))]).run Tryz.prog W1=.ok (.tuple #[]) (W1.setCells b (0+(n-1)*3) iv):=fun ty=>by
  have e1:i+(n-(i+1))=n-1:=by omega
  have e2:n-(n-1)=1:=by omega
  rw[e1,e2];exact hcl ty _
 have X:Aside (W1=putRow id (Sort.ahead w 1) b 0 (lay F (i*3) news)):=mn
 have hW:Hid (W1=w.drew.setCells b (0+i*3) news):=tG
 have Y:Aside (news=F.toList.drop ((i+1)*3)):=IH
 have Z:Aside (news.length=(n-(i+1))*3):=Cu
 have pN:i≤cap:=by omega
 have hjc:i+1≤cap:=by omega
 have mixed:=Go.Eng.hm
 have wR:(0:Int)≤(i:Int)+1:=by omega
 have Sf:(i:Int)+1≤(n:Int):=by omega
 clear tG mn tw hH E6 IH Cu Ja hcl
 go_enter Tryz.func212,Tryz.ntmps212
 go_wp2_with fail
 go_region_law_o (refine step_append_room rfl (.tmp 22) (.tmp 25) 168 rfl 198 i0 3 Tryz.underlying168 ub mR b 0 i cap (by simp[Act.eval,Act.put]) A (n-(i+1)) (cap-(i+1)) news (by simp[Act.eval,Act.put]) s1.out bm.out s2.out (by omega) s3.out ?_;rw[←hW.out])
 go_wp2
 go_ret
 refine⟨by rw[show i+(n-(i+1))=n-1 by omega];rfl,?_⟩
 rw[X.out]
 have e1:=Y.out
 have e2:=Z.out
 rw[←e1]
 have:=putRow_setCells id (Sort.ahead w 1) b 0 iv (lay F (i*3) news) ((n-1)*3) (by rw[Lib.lay_size];show _+3≤_;omega)
 rw[Ie,Be]at this
 exact this
abbrev TX:List AV:=[Go.Eng.vs ⟨#[]⟩,vb false,.v (.slice none 0 0)]
theorem s7(l:List Tm)(i:Nat)(hi:i<l.length) :
  A3 Tryz.prog 212 [.msl 1000 l.length,vi i,vi ((i:Int)+1)] (Aj [(1000,.arr 3 (l.map AC))] Aa) fun r h'=>r=.msl 2000 (l.length-1)∧h'=Aj [(1000,.dead),(2000,.arr 3 ((l.eraseIdx i).map AC))] Aa:=by
 have hE:FU Tryz.prog 212:=cK 212 Tryz.func212 (by kernel_rfl) rfl
 have Cu:(l.eraseIdx i).length=l.length-1:=List.length_eraseIdx_of_lt hi
 have G1:=T2 (P:=Tryz.prog) (f:=212) (es:=l.map AC) (sz:=3) (rest:=[.int .i64 i,.int .i64 ((i:Int)+1)]) (n':=l.length-1) (Q:=fun Ft=>Ft=(l.eraseIdx i).map AC++[TX]) hE (fun e=>by
  rw[D0]at e;subst e;simp at hi) (by rw[A7];omega) ?_
 ·rw[A7]at G1
  refine⟨hE,fun g w vals q1 q2 q3=>(G1.2 g w vals q1 q2 q3).mono fun _ _ ⟨v,r,h',g',e1,⟨e2,Ft,p1,p2⟩,rest⟩=>⟨v,r,h',g',e1,⟨e2,by rw[p2,p1,GV (by rw[A7,Cu];exact Al _),AD (by rw[A7,Cu];exact Al _)]⟩,rest⟩⟩
 ·intro g w b cap F hr hF hH hb hc
  rw[A7]at hF hc⊢
  have hu:∀e∈l.map AC,e.length=3:=fun e he=>by
   obtain⟨t,_,rfl⟩:=Ak.1 he;rfl
  refine(dF w b cap i l.length F hF hi hc hH hr.2.1).mono ?_
  rintro e w' ⟨rfl,rfl⟩
  refine⟨rfl,_,_,1,#[],?_,rfl,?_,fun cs hcs=>?_,fun g w hr=>?_,rfl⟩
  ·rw[Lib.lay_size,Lib.lay_size]
  ·rw[Ad,A7,Cu,A5];omega
  ·rcases AW.1 hcs with h | h
   ·obtain⟨t,_,rfl⟩:=Ak.1 h;rfl
   ·rw[Am.1 h];rfl
  ·rw[mX F i l.length hF hi iv rfl,List.eraseIdx_eq_take_drop_succ,Cv,Az,Cv,List.map_take,List.map_drop,←KQ _ i hu,←Oa _ (i+1) hu]
   refine Cs.append (Cs.append (hr.take _) (hr.drop _)) ?_
   exact MB g w E9 iv fun x hx=>by
    simp only[Av,Lj,or_false]at hx
    rcases hx with rfl | rfl | rfl<;>rfl
end Go.Eng
namespace Go.Eng
open Go.Proofs
theorem oT(l:List Tm)(hl:CJ l)(Dt:l≠[]):A3 Tryz.prog 213 [sl AC l] (Aj [] Aa) fun r h'=>r=.msl 2000 l.length∧h'=Aj [(2000,.arr 3 (l.map AC))] Aa:=by
 refine BV (Ll (xE [(5,3)] [])) [(5,2000)] rfl Cn hm rfl Tryz.func213 (by kernel_rfl) rfl (Nz rfl) (by kernel_rfl) rfl ?_;have G9:Df 3 (l.map AC)∧([]:List (List AV)).length=0∧(([]:List (List AV)).length+(l.map AC).length)*48≤140737488355328∧([]:List (List AV)).length+(l.map AC).length≤9223372036854775807:=by
  refine⟨Fa (enc:=AC) (n:=3) (fun _=>rfl) l,rfl,?_,?_⟩<;>simp only[AG,Lm]<;>unfold CJ at hl<;>omega
 refine Yi ?_ ?_
 ·intro _;refine Yi G9 ?_;have e1:AV.msl 2000 (([]:List (List AV)).length+(l.map AC).length)=.msl 2000 l.length:=by simp
  refine Xi (.msl 2000 (([]:List (List AV)).length+(l.map AC).length)) (Yi (.refl _) (Yi e1 ?_))
  rfl
 ·intro h;have h:l.map AC=[]:=h;exact absurd (D0.1 h) Dt
theorem lZ(x:Tm)(p:ByteArray):PC 211 [.agg (AC x),.cptr [vs p]] (vb (decide (x.path=p))):=by
 refine Ps F1 Tryz.func211 rfl (Nz rfl) ?_;refine Yi ?_ ?_
 ·intro h;have h:x.path=p:=h;rw[AA h];exact .refl _
 ·intro h;have h:¬x.path=p:=h;rw[At h];exact .refl _
theorem MO{p:ByteArray}:∀{c:List Tm} {i:Nat},(Eo c).Nodup→∀(hi:i<c.length),c[i].path=p→c.eraseIdx i=FC c p
 |t::c,0,hn,_,h=>by
  have h:t.path=p:=h;unfold Eo at hn;rw[AK,CI]at hn;unfold FC;rw[CT,Ai (by simp[h])];show c=_;rw[List.filter_eq_self.2 fun u hu=>by
   have:u.path≠p:=fun e=>hn.1 (h▸e▸Ak.2 ⟨u,hu,rfl⟩)
   simp[this]]
 |t::c,i+1,hn,hi,h=>by
  have hi:i<c.length:=by simpa using hi
  have h:c[i].path=p:=h;unfold Eo at hn;rw[AK,CI]at hn
  have:t.path≠p:=fun e=>hn.1 (by rw[e,←h];exact Ak.2 ⟨_,Ax hi,rfl⟩)
  have ih:=MO hn.2 hi h;unfold FC at ih⊢;rw[List.eraseIdx_cons_succ,CT,Aq (by simp[this]),ih]
theorem Pd{l c:List Tm}(hl:CJ l)(h:CD l=some c):CJ c:=by
 have h1:=Ns l l.length (Al _);rw[DU]at h1;have h2:c=(EP l).filter fun t=>!Gi t:=by
  unfold CD at h;split at h
  ·cases h
  ·exact(Cr h).symm
 have h3:c.length≤(EP l).length:=by rw[h2];exact BA _ _
 have h4:(EP l).length=(CL l).length:=by
  have:=(NK (Hx (Ht l)) (Hx (HD (Ei l)))).2 (IX l)
  exact this.length_eq.symm
 unfold CJ at hl⊢;omega
abbrev jH:AV:=.tup [.agg TX,.v (.slice none 0 0),vb false]
abbrev ld:Ro:=⟨[3],[],[],[],[],[],[],[],[(30,0),(34,1)],[],[3]⟩
theorem dq(l:List Tm)(p:ByteArray)(hl:CJ l)(hs:∀t∈l,CJ t.set)(hn:Ff l p=none):PC 182 [sl AC l,vs p] jH:=by
 have hc:=rp l hl hs;unfold Ff at hn;cases e:CD l with
 |none =>
  have e1:Gt l=.tup [sl AC [],vb false]:=by unfold Gt Pq;rw[e];rfl
  rw[e1]at hc;have hi:=iL (EV.ptr [vs p]) [] (fun x=>decide (x.path=p)) (fun x _=>lZ x p) (by simp);refine Ps ld Tryz.func182 rfl (Nz rfl) ?_;refine Xi .pure (Xi _ (Yi (hc) ?_));refine Xi .pure (Xi _ (Yi (hi) ?_));refine Xi ⟨[(4,.ref 4 0),(7,sl AC []),(8,vb false),(9,vi (-1))],[(4,.cells TX)],Aa⟩ (Yi ⟨Z4,Z1,Fh,Tv⟩ ?_)
  refine Yi (Nz rfl) (Yi (Nz rfl) ?_);exact .refl _
 |some c =>
  rw[e]at hn;have hn:(match Dc c p with | none=>none | some t=>some (t,FC c p))=none:=hn;have pK:Dc c p=none:=by
   cases h:Dc c p with
   |none=>rfl
   |some t=>rw[h]at hn;cases hn
  have e1:Gt l=.tup [sl AC c,vb true]:=by unfold Gt Pq;rw[e];rfl
  rw[e1]at hc;have pI:=Pd hl e;have hi:=iL (EV.ptr [vs p]) c (fun x=>decide (x.path=p)) (fun x _=>lZ x p) (by unfold CJ at pI;omega);have hid:KF (fun x:Tm=>decide (x.path=p)) c 0=-1:=by
   rcases Ok (p:=fun x:Tm=>decide (x.path=p)) c 0 with ⟨h1,_⟩ | ⟨i,x,_,_,h3⟩
   ·exact h1
   ·unfold Dc at pK;rw[h3]at pK;cases pK
  rw[hid]at hi;refine Ps ld Tryz.func182 rfl (Nz rfl) ?_;refine Xi .pure (Xi _ (Yi (hc) ?_));refine Xi .pure (Xi _ (Yi (hi) ?_));refine Xi ⟨[(4,.ref 4 0),(7,sl AC c),(8,vb true),(9,vi (-1))],[(4,.cells TX)],Aa⟩ (Yi ⟨Z4,Z1,Fh,Tv⟩ ?_)
  refine Yi ?_ ?_
  ·intro _;refine Yi (Nz rfl) (Yi (Nz rfl) ?_);exact .refl _
  ·intro h;exact absurd (show(-1:Int)<0 by decide) h
abbrev ne:Ro:=⟨[3],[],[],[],[],[],[],[],[(30,0),(34,2)],[],[]⟩
theorem dt(l:List Tm)(p:ByteArray)(hl:CJ l)(hs:∀t∈l,CJ t.set){t:Tm}{r:List Tm}(hn:Ff l p=some (t,r)) :
  A3 Tryz.prog 182 [sl AC l,vs p] (Aj [] Aa) fun v h'=>v=.tup [.agg (AC t),.msl 2000 r.length,vb true]∧h'=Aj [(2000,.arr 3 (r.map AC))] Aa:=by
 have hc:=rp l hl hs;unfold Ff at hn;cases e:CD l with
 |none=>rw[e]at hn;cases hn
 |some c =>
  rw[e]at hn;have hn:(match Dc c p with | none=>none | some t=>some (t,FC c p))=some (t,r):=hn;have eB:Dc c p=some t∧FC c p=r:=by
   cases h:Dc c p with
   |none=>rw[h]at hn;cases hn
   |some t=>rw[h]at hn;cases hn;exact Zr
  have e1:Gt l=.tup [sl AC c,vb true]:=by unfold Gt Pq;rw[e];rfl
  rw[e1]at hc;have pI:=Pd hl e;have hi:=iL (EV.ptr [vs p]) c (fun x=>decide (x.path=p)) (fun x _=>lZ x p) (by unfold CJ at pI;omega);rcases Ok (p:=fun x:Tm=>decide (x.path=p)) c 0 with ⟨_,h2⟩ | ⟨i,x,h1,h2,h3⟩
  ·unfold Dc at eB;rw[h2]at eB;cases eB.1
  have hx:x=t:=by
   have:=eB.1
   unfold Dc at this;rw[h3]at this;exact Cr this
  subst hx;rw[h1,J7]at hi;obtain⟨pN,y8⟩:=Ap.1 h2;have wY:c.eraseIdx i=r:=by
   rw[←eB.2];exact MO (HD (EG e)) pN (by rw[y8];exact GO eB.1)
  have rM:c.length-1=r.length:=by rw[←wY,List.length_eraseIdx_of_lt pN]
  have Dt:c≠[]:=fun h=>by subst h;simp at pN
  have yX:c.length≤1073741824:=pI;refine BV (Ll ne) [(13400,2000)] rfl Cn hm rfl Tryz.func182 (by kernel_rfl) rfl (Nz rfl) (by kernel_rfl) rfl ?_;refine Xi .pure (Xi _ (Yi (hc) ?_));refine Xi .pure (Xi _ (Yi (hi) ?_));refine Yi ?_ ?_
  ·intro h;have h:(i:Int)<0:=h;omega
  intro _;have hg:(c.map AC)[((i:Nat):Int).toNat]?=some (AC x):=by rw[Cg,AF,h2];rfl
  refine Xi (AC x) (Yi (Yi (Nn i) hg) (Yi rfl (Yi (Nz rfl) ?_)));refine Xi c.length (Xi 3 (Xi (c.map AC) (Yi rfl (Yi (oT c pI Dt) ?_))));refine Yi (Ii i (by omega)) ?_;refine Xi (c.length-1) (Xi ((c.eraseIdx i).map AC) (Yi rfl (Yi (s7 c i pN) ?_)));refine Yi (Nz rfl) ?_;refine Yi (by kernel_rfl) ?_;refine Yi (Nz rfl) ?_;have e2:AV.tup [.agg (AC x),.msl 2000 (c.length-1),vb true]=.tup [.agg (AC x),.msl 2000 r.length,vb true]:=by rw[rM]
  have e3:Aj [(2000,HO.arr 3 ((c.eraseIdx i).map AC))] Aa=Aj [(2000,.arr 3 (r.map AC))] Aa:=by rw[wY]
  exact Xi _ (Yi (.refl _) (Yi e2 e3))
abbrev ZO:Ro:=⟨[],[],[],[],[],[],[],[],[],[(24,9),(30,12)],[2,3,5,6]⟩
abbrev nq(a b:List Tm)(p:ByteArray):AV:=.tup [sl AC (Bq a b p).1,vi (Bq a b p).2]
theorem UT{l r:List Tm}{p:ByteArray}{t:Tm}(h:Ff l p=some (t,r)):∃c,CD l=some c∧t∈c∧r=FC c p:=by
 unfold Ff at h;cases e:CD l with
 |none=>rw[e]at h;cases h
 |some c =>
  rw[e]at h;have h:(match Dc c p with | none=>none | some t=>some (t,FC c p))=some (t,r):=h;cases e2:Dc c p with
  |none=>rw[e2]at h;cases h
  |some u=>rw[e2]at h;cases h;exact⟨c,rfl,EZ e2,rfl⟩
theorem UU{l r:List Tm}{p:ByteArray}{t:Tm}(hl:CJ l)(h:Ff l p=some (t,r)):CJ t.set∧CJ r∧∀u∈r,CJ u.set:=by
 obtain⟨c,h1,h2,rfl⟩:=UT h;have hs:=EG h1;refine⟨N5 (hs.canon t h2),?_,fun u hu=>N5 (hs.canon u (BH.1 hu).1)⟩
 have:=Pd hl h1
 have h3:(FC c p).length≤c.length:=BA _ _;unfold CJ at *;omega
theorem dw{l c:List Tm}(h:CD l=some c):c.length≤l.length:=by
 have h1:=Ns l l.length (Al _);rw[DU]at h1;have h2:c=(EP l).filter fun t=>!Gi t:=by
  unfold CD at h;split at h
  ·cases h
  ·exact(Cr h).symm
 have h3:c.length≤(EP l).length:=by rw[h2];exact BA _ _
 have h4:(EP l).length=(CL l).length:=by
  have:=(NK (Hx (Ht l)) (Hx (HD (Ei l)))).2 (IX l)
  exact this.length_eq.symm
 omega
theorem UV{l r:List Tm}{p:ByteArray}{t:Tm}(h:Ff l p=some (t,r)):r.length≤l.length:=by
 obtain⟨c,h1,h2,rfl⟩:=UT h;have h3:(FC c p).length≤c.length:=BA _ _
 have:=dw h1
 omega
theorem aR(a b:Bh):CJ (OO a b):=by
 unfold CJ;have:=HR (XR a b);omega
theorem sT(a b:List Tm)(p:ByteArray)(ha:a.length≤500000000)(hb:b.length≤500000000)(xo:∀t∈a,CJ t.set)(jo:∀t∈b,CJ t.set):PC 128 [sl AC a,sl AC b,vs p] (nq a b p):=by
 have pH:CJ a:=by unfold CJ;omega
 have mw:CJ b:=by unfold CJ;omega
 have er:∀{l:List Tm} {e:Int},Bq a b p=(l,e)→nq a b p=.tup [sl AC l,vi e]:=fun h=>by unfold nq;rw[h]
 have e0:Hg (.tup [.v (.slice none 0 0),vi 1]) (.tup [.slice .none [],vi 1]):=Hg.tup ⟨.nil,.refl _,trivial⟩;cases h1:Ff a p with
 |none =>
  have hr:Bq a b p=([],1):=by unfold Bq;rw[h1]
  have c1:=dq a p pH xo h1;cases h2:Ff b p with
  |none =>
   have c2:=dq b p mw jo h2;refine Ps ZO Tryz.func128 rfl (Nz rfl) ?_;refine Xi .pure (Xi _ (Yi (c1) ?_));refine Yi (Nz rfl) ?_;refine Xi ⟨[(1,sl AC b),(2,vs p),(8,.ref 8 0),(9,.v (.slice none 0 0)),(10,vb false)],[(8,.cells TX)],Aa⟩ (Yi ⟨Z5,Z1,Fh,Tv⟩ ?_)
   refine Xi .pure (Xi _ (Yi (c2) ?_));refine Yi (Nz rfl) ?_;refine Xi ⟨[(8,.ref 8 0),(9,.v (.slice none 0 0)),(10,vb false),(11,.ref 11 0),(12,.v (.slice none 0 0)),(13,vb false)],[(8,.cells TX),(11,.cells TX)],Aa⟩ (Yi ⟨Z6,Z2,Fh,Tv⟩ ?_)
   exact e0.trans (.of_eq (er hr).symm)
  |some q2 =>
   obtain⟨t2,r2⟩:=q2;have c2:=dt b p mw jo h2;refine Ps ZO Tryz.func128 rfl (Nz rfl) ?_;refine Xi .pure (Xi _ (Yi (c1) ?_));refine Yi (Nz rfl) ?_;refine Xi ⟨[(1,sl AC b),(2,vs p),(8,.ref 8 0),(9,.v (.slice none 0 0)),(10,vb false)],[(8,.cells TX)],Aa⟩ (Yi ⟨Z5,Z1,Fh,Tv⟩ ?_)
   have z2:r2.length=(r2.map AC).length:=by rw[Lm]
   refine Xi (.gen [] 1) (Yi rfl (c2.imp ?_));intro v2 g2 q2;have vg:=q2.1;have vh:=q2.2;subst vg;subst vh;refine Yi (Nz rfl) ?_;refine Xi ⟨[(8,.ref 8 0),(9,.v (.slice none 0 0)),(10,vb false),(11,.ref 11 0),(12,.msl 12600 r2.length),(13,vb true)],[(8,.cells TX),(11,.cells (AC t2)),(12600,.arr 3 (r2.map AC))],Aa⟩ (Yi ⟨Z6,Z3,Fh,Tv⟩ ?_)
   refine Yi z2 ?_;exact e0.trans (.of_eq (er hr).symm)
 |some q1 =>
  obtain⟨t1,r1⟩:=q1;have c1:=dt a p pH xo h1;obtain⟨f1,f2,f3⟩:=UU pH h1;cases h2:Ff b p with
  |none =>
   have hr:Bq a b p=([],1):=by unfold Bq;rw[h1,h2]
   have c2:=dq b p mw jo h2;refine Ps ZO Tryz.func128 rfl (Nz rfl) ?_;refine Xi (.gen [] 1) (Yi rfl (c1.imp ?_));intro v1 g1 q1;have u7:=q1.1;have jW:=q1.2;subst u7;subst jW;refine Yi (Nz rfl) ?_;refine Xi ⟨[(1,sl AC b),(2,vs p),(8,.ref 8 0),(9,.msl 11900 r1.length),(10,vb true)],[(8,.cells (AC t1)),(11900,.arr 3 (r1.map AC))],Aa⟩ (Yi ⟨Z5,Z2,Fh,Tv⟩ ?_)
   have z1:r1.length=(r1.map AC).length:=by rw[Lm]
   refine Yi z1 ?_;refine Xi .pure (Xi _ (Yi (c2) ?_));refine Yi (Nz rfl) ?_;refine Xi ⟨[(8,.ref 8 0),(9,.slice (.id 11900 3) (r1.map AC)),(10,vb true),(11,.ref 11 0),(12,.v (.slice none 0 0)),(13,vb false)],[(8,.cells (AC t1)),(11,.cells TX),(11900,.tok 3 (r1.map AC).length)],Aa⟩ (Yi ⟨Z6,Z3,Fh,Tv⟩ ?_)
   exact e0.trans (.of_eq (er hr).symm)
  |some q2 =>
   obtain⟨t2,r2⟩:=q2;have c2:=dt b p mw jo h2;obtain⟨g1,g2,g3⟩:=UU mw h2;refine Ps ZO Tryz.func128 rfl (Nz rfl) ?_;refine Xi (.gen [] 1) (Yi rfl (c1.imp ?_));intro v1 g1 q1;have u7:=q1.1;have jW:=q1.2;subst u7;subst jW;refine Yi (Nz rfl) ?_;refine Xi ⟨[(1,sl AC b),(2,vs p),(8,.ref 8 0),(9,.msl 11900 r1.length),(10,vb true)],[(8,.cells (AC t1)),(11900,.arr 3 (r1.map AC))],Aa⟩ (Yi ⟨Z5,Z2,Fh,Tv⟩ ?_)
   have z1:r1.length=(r1.map AC).length:=by rw[Lm]
   have z2:r2.length=(r2.map AC).length:=by rw[Lm]
   refine Yi z1 ?_;refine Xi (.gen [] 1) (Yi rfl (c2.imp ?_));intro v2 g2 q2;have vg:=q2.1;have vh:=q2.2;subst vg;subst vh;refine Yi (Nz rfl) ?_;refine Xi ⟨[(8,.ref 8 0),(9,.slice (.id 11900 3) (r1.map AC)),(10,vb true),(11,.ref 11 0),(12,.msl 12600 r2.length),(13,vb true)],[(8,.cells (AC t1)),(11,.cells (AC t2)),(11900,.tok 3 (r1.map AC).length),(12600,.arr 3 (r2.map AC))],Aa⟩ (Yi ⟨Z6,Z4,Fh,Tv⟩ ?_)
   refine Yi z2 ?_;refine Xi ⟨[(8,.ref 8 0),(9,.slice (.id 11900 3) (r1.map AC)),(11,.ref 11 0),(12,.slice (.id 12600 3) (r2.map AC))],[(8,.cells (AC t1)),(11,.cells (AC t2)),(11900,.tok 3 (r1.map AC).length),(12600,.tok 3 (r2.map AC).length)],Aa⟩ (Yi ⟨Z4,Z4,Fh,Tv⟩ ?_)
   have l1:=UV h1;have l2:=UV h2;have b1:Df 3 (r2.map AC)∧(r1.map AC).length=(r1.map AC).length∧((r1.map AC).length+(r2.map AC).length)*48≤140737488355328∧(r1.map AC).length+(r2.map AC).length≤9223372036854775807 :=
    ⟨Fa (enc:=AC) (n:=3) (fun _=>rfl) r2,rfl,by rw[Lm,Lm];omega,by rw[Lm,Lm];omega⟩
   refine Yi b1 ?_;refine Yi (Nz rfl) (Yi (Nz rfl) ?_);refine Xi _ (Yi (sX t1 t2 f1 g1) ?_);have b2:Df 3 [AC (Da t1 t2)]∧(r1.map AC++r2.map AC).length=(r1.map AC).length+(r2.map AC).length∧((r1.map AC++r2.map AC).length+[AC (Da t1 t2)].length)*48≤140737488355328∧(r1.map AC++r2.map AC).length+[AC (Da t1 t2)].length≤9223372036854775807 :=
    ⟨⟨rfl,trivial⟩,by rw[Ad],by rw[Ad,Lm,Lm,A5];omega,by rw[Ad,Lm,Lm,A5];omega⟩
   refine Yi b2 ?_;have mu:=rp (r1++r2++[Da t1 t2]) (by unfold CJ;simp only[Ad,A5];omega) (fun u hu=>by
    rcases AW.1 hu with hu | hu
    ·rcases AW.1 hu with hu | hu
     ·exact f3 u hu
     ·exact g3 u hu
    ·rw[Am.1 hu];exact aR _ _)
   have e1:sl AC (r1++r2++[Da t1 t2])=.slice .none (r1.map AC++r2.map AC++[AC (Da t1 t2)]):=by simp
   have wT:PC 183 [.slice .none (r1.map AC++r2.map AC++[AC (Da t1 t2)])] (Gt (r1++r2++[Da t1 t2])):=e1▸mu;cases nY:CD (r1++r2++[Da t1 t2])with
   |none =>
    have hr:Bq a b p=([],8):=by unfold Bq;rw[h1,h2];dsimp only;rw[nY]
    have ec:Gt (r1++r2++[Da t1 t2])=.tup [sl AC [],vb false]:=by unfold Gt Pq;rw[nY];rfl
    have hc:PC 183 [.slice .none (r1.map AC++r2.map AC++[AC (Da t1 t2)])] (.tup [sl AC [],vb false]):=ec▸wT;have e8:Hg (.tup [.v (.slice none 0 0),vi 8]) (.tup [.slice .none [],vi 8]):=Hg.tup ⟨.nil,.refl _,trivial⟩;refine Xi _ (Yi (hc) ?_);refine Yi (by kernel_rfl) ?_;refine Xi ⟨[(14,sl AC []),(15,vb false)],[],Aa⟩ (Yi ⟨Z2,Tv,Fh,Tv⟩ ?_)
    exact e8.trans (.of_eq (er hr).symm)
   |some o =>
    have hr:Bq a b p=(o,0):=by unfold Bq;rw[h1,h2];dsimp only;rw[nY]
    have ec:Gt (r1++r2++[Da t1 t2])=.tup [sl AC o,vb true]:=by unfold Gt Pq;rw[nY];rfl
    have hc:PC 183 [.slice .none (r1.map AC++r2.map AC++[AC (Da t1 t2)])] (.tup [sl AC o,vb true]):=ec▸wT;refine Xi _ (Yi (hc) ?_);refine Yi (by kernel_rfl) ?_;refine Xi ⟨[(14,sl AC o),(15,vb true)],[],Aa⟩ (Yi ⟨Z2,Tv,Fh,Tv⟩ ?_)
    exact .of_eq (er hr).symm
def Zj(h s:Nat→HO):Nat→Bool
 |0=>true
 |n+1=>(match h (1000+n)with |.free=>true |_=>(match s (1000+n)with |.free=>false |_=>true))&&Zj h s n
theorem RO{h s:Nat→HO}:∀{n:Nat},Zj h s n=true→∀j,j<n→h (1000+j)≠.free→s (1000+j)≠.free
 |n+1,hd,j,hj,hn=>by
  simp only[Zj,Ae]at hd;rcases EA j n with h1 | h1
  ·exact RO hd.2 j h1 hn
  ·have:j=n:=by omega
   subst this
   have:=hd.1
   intro e;split at this
   ·rename_i q;exact hn q
   ·rw[e]at this;cases this
theorem Aw{h s:Nat→HO}(hd:Zj h s 1000=true):∀j,1000≤j→j<2000→h j≠.free→s j≠.free:=fun j h1 h2=>by
 have:=RO hd (j-1000) (by omega)
 rw[show 1000+(j-1000)=j by omega]at this;exact this
abbrev XV:List AV:=[vs ⟨#[]⟩,vi 0,vi 0,vi 0,.v (.slice none 0 0),vs ⟨#[]⟩,vs ⟨#[]⟩,vs ⟨#[]⟩,vb false]
abbrev XC:Option Rl→AV
 |some r=>.tup [.agg (Ag r),vb true]
 |none=>.tup [.agg XV,vb false]
theorem jU(v:Ver):0≤plc v∧plc v<1000000:=by
 unfold plc;cases h:Cq v with
 |true=>exact Jh h
 |false=>simp
abbrev lx(t:List Tm):Prop:=t.length≤500000000∧∀u∈t,CJ u.set
theorem oN(s:ByteArray):PC 113 [vs s] (vb false):=by
 refine Ps F1 Tryz.func113 rfl (Nz rfl) ?_;refine Yi ?_ ?_
 ·intro h;exact absurd rfl (show s≠s from h)
 ·intro _;exact .refl _
theorem oQ(z:Int):PC 167 [vi z] (vb false):=by
 refine Ps F1 Tryz.func167 rfl (Nz rfl) ?_;refine Yi ?_ ?_
 ·intro h;exact absurd rfl (show z≠z from h)
 ·intro _;exact .refl _
theorem sI(a b:ByteArray):PC 84 [vs a,vs b] (vi (JP a b)):=by
 refine Ps F1 Tryz.func84 rfl (Nz rfl) ?_;refine Xi .pure (Xi _ (Yi (oN a) ?_));refine Xi .pure (Xi _ (Yi (oN b) ?_));refine Yi ?_ ?_
 ·intro h;have h:Op.bytesLess a.toList b.toList=true:=h;exact .of_eq (Ac vi (show(-1:Int)=JP a b by unfold JP;rw[Aq (by rw[GM];exact h)]))
 ·intro h;have h:¬Op.bytesLess a.toList b.toList=true:=h;refine Yi ?_ ?_
  ·intro h2;have h2:Op.bytesLess b.toList a.toList=true:=h2;exact .of_eq (Ac vi (show(1:Int)=JP a b by unfold JP;rw[Ai (by rw[GM];exact h),Aq (by rw[GM];exact h2)]))
  ·intro h2;have h2:¬Op.bytesLess b.toList a.toList=true:=h2;exact .of_eq (Ac vi (show(0:Int)=JP a b by unfold JP;rw[Ai (by rw[GM];exact h),Ai (by rw[GM];exact h2)]))
theorem lU(a b:Int):PC 114 [vi a,vi b] (vi (FI a b)):=by
 refine Ps F1 Tryz.func114 rfl (Nz rfl) ?_;refine Xi .pure (Xi _ (Yi (oQ a) ?_));refine Xi .pure (Xi _ (Yi (oQ b) ?_));refine Yi ?_ ?_
 ·intro h;have h:a<b:=h;exact .of_eq (Ac vi (show(-1:Int)=FI a b by unfold FI;rw[Aq h]))
 ·intro h;have h:¬a<b:=h;refine Yi ?_ ?_
  ·intro h2;have h2:b<a:=h2;exact .of_eq (Ac vi (show(1:Int)=FI a b by unfold FI;rw[Ai h,Aq h2]))
  ·intro h2;have h2:¬b<a:=h2;exact .of_eq (Ac vi (show(0:Int)=FI a b by unfold FI;rw[Ai h,Ai h2]))
theorem sH(a b:Int):PC 83 [.slice .none [[vi a],[vi b]]] (vi (if a≠0 then a else b)):=by
 refine Ps F1 Tryz.func83 rfl (Nz rfl) ?_;refine Xi {i:Nat // i≤2∧(0<i→a=0)∧(1<i→b=0)} (Xi (fun i=>⟨[(3,vi 0),(6,.slice .none [[vi a],[vi b]]),(7,vi 2),(8,vi i.1)],[],Aa⟩) (Xi (fun i=>2-i.1) (Yi (Xi ⟨0,by omega,by omega,by omega⟩ ?_) ?_)))
 ·exact⟨Z4,Tv,Fh,Tv⟩
 intro⟨i,h1,h2,h3⟩;refine Yi ?_ ?_
 ·intro h;have h:(i:Int)<2:=h
  match i,h1,h2,h3,h with
  |0,h1,h2,h3,h =>
   refine Xi [vi a] (Yi (Yi (BO _) rfl) (Yi rfl ?_));refine Yi ?_ ?_
   ·intro h4;have h4:a≠0:=h4;exact .of_eq (Ac vi (Aq h4).symm)
   ·intro h4;have h4:¬a≠0:=h4;refine Yi (Ii 0 (by omega)) ?_;refine Xi ⟨1,by omega,fun _=>by omega,fun q=>absurd q (by decide)⟩ ?_;exact⟨by show 2-1<2-0;decide,Z4,Tv,Fh,Tv⟩
  |1,h1,h2,h3,h =>
   have ha:=h2 (by decide);refine Xi [vi b] (Yi (Yi (by show(0:Int)≤1;decide) rfl) (Yi rfl ?_));refine Yi ?_ ?_
   ·intro h4;exact .of_eq (Ac vi (Ai (by omega)).symm)
   ·intro h4;have h4:¬b≠0:=h4;refine Yi (Ii 1 (by omega)) ?_;refine Xi ⟨2,by omega,fun _=>ha,fun q=>by omega⟩ ?_;exact⟨by show 2-2<2-1;decide,Z4,Tv,Fh,Tv⟩
  |i+2,h1,h2,h3,h=>omega
 ·intro h;have h:¬(i:Int)<2:=h;have ha:=h2 (by omega);have hb:=h3 (by omega);exact .of_eq (Ac vi (show(0:Int)=if a≠0 then a else b by rw[Ai (by omega),hb]))
theorem RH(a b:Ver)(i:Nat)(hi:i<3)(h:∀j,j<i→FI (part a j) (part b j)=0)(hn:FI (part a i) (part b i)≠0):NW a b=FI (part a i) (part b i):=by
 unfold NW
 match i,hi,h,hn with
 |0,_,_,hn=>exact Aq hn
 |1,_,h,hn =>
  have h0:FI a.a b.a=0:=h 0 (by decide);rw[Ai (by omega)];exact Aq hn
 |2,_,h,hn =>
  have h0:FI a.a b.a=0:=h 0 (by decide);have h1:FI a.b b.b=0:=h 1 (by decide);rw[Ai (by omega),Ai (by omega)];rfl
theorem dB(a b:Ver)(h:∀j,j<3→FI (part a j) (part b j)=0):NW a b=0:=by
 unfold NW;have h0:FI a.a b.a=0:=h 0 (by decide);have h1:FI a.b b.b=0:=h 1 (by decide);have h2:FI a.c b.c=0:=h 2 (by decide);rw[Ai (by omega),Ai (by omega),h2]
theorem sJ(a b:Ver):PC 85 [.agg (Gu a),.agg (Gu b)] (vi (NW a b)):=by
 refine Ps F1 Tryz.func85 rfl (Nz rfl) ?_;refine Yi (Nz rfl) ?_;refine Xi _ (Yi (lR a) ?_);refine Yi (Nz rfl) ?_;refine Xi _ (Yi (lR b) ?_);refine Yi (Nz rfl) (Yi (Nz rfl) ?_);refine Yi (by kernel_rfl) ?_;refine Xi {i:Nat // i≤3∧∀j,j<i→FI (part a j) (part b j)=0} (Xi (fun i=>⟨[(5,.ref 5 0),(6,.ref 6 0),(13,vi i.1)],[(5,.cells (Gu a)),(6,.cells (Gu b))],Aa⟩) (Xi (fun i=>3-i.1) (Yi (Xi ⟨0,by omega,fun j h=>by omega⟩ ?_) ?_)))
 ·exact⟨Z3,Z2,Fh,Tv⟩
 intro⟨i,h1,h2⟩;refine Yi ?_ ?_
 ·intro h;have h:(i:Int)<3:=h;have next:FI (part a i) (part b i)=0→∀j,j<i+1→FI (part a j) (part b j)=0:=fun hz j hj=>by
   rcases EA j i with q | q
   ·exact h2 j q
   ·have:j=i:=by omega
    subst this;exact hz
  match i,h1,h2,h,next with
  |0,h1,h2,h,next =>
   refine Yi ⟨by show(0:Int)≤0;decide,by show(0:Int)<3;decide⟩ ?_;refine Yi ⟨by show(0:Int)≤0;decide,by show(0:Int)<3;decide⟩ ?_;refine Xi _ (Yi (lU (part a 0) (part b 0)) ?_);refine Yi (by kernel_rfl) ?_;refine Yi ?_ ?_
   ·intro h4;have h4:FI (part a 0) (part b 0)≠0:=h4;exact .of_eq (Ac vi (RH a b 0 (by decide) h2 h4).symm)
   ·intro h4;have h4:¬FI (part a 0) (part b 0)≠0:=h4;refine Yi (Ii 0 (by omega)) ?_;refine Xi ⟨1,by omega,next (F2 h4)⟩ ?_
    exact⟨by show 3-1<3-0;decide,Z3,Z2,Fh,Tv⟩
  |1,h1,h2,h,next =>
   refine Yi ⟨by show(0:Int)≤1;decide,by show(1:Int)<3;decide⟩ ?_;refine Yi ⟨by show(0:Int)≤1;decide,by show(1:Int)<3;decide⟩ ?_;refine Xi _ (Yi (lU (part a 1) (part b 1)) ?_);refine Yi (by kernel_rfl) ?_;refine Yi ?_ ?_
   ·intro h4;have h4:FI (part a 1) (part b 1)≠0:=h4;exact .of_eq (Ac vi (RH a b 1 (by decide) h2 h4).symm)
   ·intro h4;have h4:¬FI (part a 1) (part b 1)≠0:=h4;refine Yi (Ii 1 (by omega)) ?_;refine Xi ⟨2,by omega,next (F2 h4)⟩ ?_
    exact⟨by show 3-2<3-1;decide,Z3,Z2,Fh,Tv⟩
  |2,h1,h2,h,next =>
   refine Yi ⟨by show(0:Int)≤2;decide,by show(2:Int)<3;decide⟩ ?_;refine Yi ⟨by show(0:Int)≤2;decide,by show(2:Int)<3;decide⟩ ?_;refine Xi _ (Yi (lU (part a 2) (part b 2)) ?_);refine Yi (by kernel_rfl) ?_;refine Yi ?_ ?_
   ·intro h4;have h4:FI (part a 2) (part b 2)≠0:=h4;exact .of_eq (Ac vi (RH a b 2 (by decide) h2 h4).symm)
   ·intro h4;have h4:¬FI (part a 2) (part b 2)≠0:=h4;refine Yi (Ii 2 (by omega)) ?_;refine Xi ⟨3,by omega,next (F2 h4)⟩ ?_
    exact⟨by show 3-3<3-2;decide,Z3,Z2,Fh,Tv⟩
  |i+3,h1,h2,h,next=>omega
 ·intro h;have h:¬(i:Int)<3:=h;exact .of_eq (Ac vi (dB a b fun j hj=>h2 j (by omega)).symm)
theorem oH(a b:Rl):PC 60 [.agg (Ag a),.agg (Ag b)] (vi (Dy a b)):=by
 refine Ps F1 Tryz.func60 rfl (Nz rfl) ?_;refine Xi _ (Yi (sI a.path b.path) ?_);refine Yi (Nz rfl) (Yi (Nz rfl) ?_);refine Xi _ (Yi (sJ a.ver b.ver) ?_);refine Xi _ (Yi (sH (JP a.path b.path) (NW a.ver b.ver)) ?_);refine Yi (by kernel_rfl) ?_;exact .refl _
abbrev HF(s:ByteArray):Prop:=s.size≤1073741824
abbrev NJ(q:Rq):Prop:=CJ q.set∧HF q.path
abbrev JL(r:Rl):Prop:=HF r.path∧∀q∈r.reqs,NJ q
abbrev Zz(nm:ByteArray→ByteArray)(p:ByteArray):AV:=match CB p with
 |some m=>.tup [vs (nm p),vi m,vi 0]
 |none=>.tup [vs ⟨#[]⟩,vi 0,vi 4]
abbrev Tz(nm:ByteArray→ByteArray):Prop:=∀p:ByteArray,HF p→PC 81 [vs p] (Zz nm p)
theorem Tz.none{nm:ByteArray→ByteArray}(h:Tz nm){p:ByteArray}(hp:HF p)(e:CB p=.none):PC 81 [vs p] (.tup [vs ⟨#[]⟩,vi 0,vi 4]):=by
 have:=h p hp;unfold Zz at this;rw[e]at this;exact this
theorem Tz.some{nm:ByteArray→ByteArray}(h:Tz nm){p:ByteArray}{m:Int}(hp:HF p)(e:CB p=.some m):PC 81 [vs p] (.tup [vs (nm p),vi m,vi 0]):=by
 have:=h p hp;unfold Zz at this;rw[e]at this;exact this
theorem oJ{nm:ByteArray→ByteArray}(hL:Tz nm)(q:Rq)(hq:CJ q.set)(hp:HF q.path):PC 112 [.agg (AI q),.v (.pointer none)] (vi (Gx none q)):=by
 cases Tu:CB q.path with
 |none =>
  have e:(4:Int)=Gx none q:=by unfold Gx;rw[Tu];rfl
  have hl:=hL.none hp Tu;refine Ps F1 Tryz.func112 rfl (Nz rfl) ?_;refine Xi .pure (Xi _ (Yi (hl) ?_));refine Yi ?_ ?_
  ·intro _;exact .of_eq (Ac vi e)
  ·intro h;exact absurd (show(4:Int)≠0 by decide) h
 |some m =>
  have er:Gx none q=if(q.set.isEmpty||!decide (q.set=canon q.set)||false)=true then 1 else 0:=by unfold Gx;rw[Tu];rfl
  have hl:=hL.some hp Tu;have hc:=Wv q.set hq;have he:=oL q.set (canon q.set) hq;have TL:∀{n:Int},n=(q.set.map Ao).length→n=0→q.set.isEmpty=true:=fun h1 h2=>by
   rw[Lm]at h1;rw[GB];exact AN (by omega)
  have eJ:¬((q.set.map Ao).length:Int)=0→q.set.isEmpty=false:=fun h=>by
   cases hqs:q.set with
   |nil=>rw[hqs]at h;exact absurd rfl h
   |cons a l=>rfl
  rcases Bt (decide (q.set=canon q.set))with h2 | h2
  ·rw[h2]at he;refine Ps (Ji [2,4]) Tryz.func112 rfl (Nz rfl) ?_;refine Xi .pure (Xi _ (Yi (hl) ?_));refine Xi ⟨[(1,.v (.pointer none)),(2,.ref 2 0),(7,vi 0)],[(2,.cells (AI q))],Aa⟩ (Yi ⟨Z3,Z1,Fh,Tv⟩ ?_)
   refine Yi ?_ ?_
   ·intro h;exact absurd rfl h
   intro _;refine Xi ⟨[(1,.v (.pointer none)),(2,.ref 2 0)],[(2,.cells (AI q))],Aa⟩ (Yi ⟨Z2,Z1,Fh,Tv⟩ ?_)
   refine Yi ?_ ?_
   ·intro h;have h:((q.set.map Ao).length:Int)=0:=h;have e:(1:Int)=Gx none q:=by rw[er,TL rfl h];rfl
    refine Yi (by kernel_rfl) ?_;exact .of_eq (Ac vi e)
   intro h;have h:¬((q.set.map Ao).length:Int)=0:=h;have hn:=eJ h;refine Xi _ (Yi (hc) ?_);refine Xi _ (Yi (he) ?_);refine Yi (by kernel_rfl) ?_;have e:(0:Int)=Gx none q:=by rw[er,hn,h2];rfl
   exact .of_eq (Ac vi e)
  ·rw[h2]at he;refine Ps (Ji [2,4]) Tryz.func112 rfl (Nz rfl) ?_;refine Xi .pure (Xi _ (Yi (hl) ?_));refine Xi ⟨[(1,.v (.pointer none)),(2,.ref 2 0),(7,vi 0)],[(2,.cells (AI q))],Aa⟩ (Yi ⟨Z3,Z1,Fh,Tv⟩ ?_)
   refine Yi ?_ ?_
   ·intro h;exact absurd rfl h
   intro _;refine Xi ⟨[(1,.v (.pointer none)),(2,.ref 2 0)],[(2,.cells (AI q))],Aa⟩ (Yi ⟨Z2,Z1,Fh,Tv⟩ ?_)
   refine Yi ?_ ?_
   ·intro h;have h:((q.set.map Ao).length:Int)=0:=h;have e:(1:Int)=Gx none q:=by rw[er,TL rfl h];rfl
    refine Yi (by kernel_rfl) ?_;exact .of_eq (Ac vi e)
   intro h;have h:¬((q.set.map Ao).length:Int)=0:=h;have hn:=eJ h;refine Xi _ (Yi (hc) ?_);refine Xi _ (Yi (he) ?_);refine Yi (by kernel_rfl) ?_;have e:(1:Int)=Gx none q:=by rw[er,hn,h2];rfl
   exact .of_eq (Ac vi e)
theorem oK{nm:ByteArray→ByteArray}(hL:Tz nm)(q b:Rq)(hq:CJ q.set)(hp:HF q.path):PC 112 [.agg (AI q),.cptr (AI b)] (vi (Gx (some b.path) q)):=by
 cases Tu:CB q.path with
 |none =>
  have e:(4:Int)=Gx (some b.path) q:=by unfold Gx;rw[Tu];rfl
  have hl:=hL.none hp Tu;refine Ps F1 Tryz.func112 rfl (Nz rfl) ?_;refine Xi .pure (Xi _ (Yi (hl) ?_));refine Yi ?_ ?_
  ·intro _;exact .of_eq (Ac vi e)
  ·intro h;exact absurd (show(4:Int)≠0 by decide) h
 |some m =>
  have er:Gx (some b.path) q=if(q.set.isEmpty||!decide (q.set=canon q.set)||!Ep b.path q.path)=true then 1 else 0:=by unfold Gx;rw[Tu];rfl
  have hl:=hL.some hp Tu;have hc:=Wv q.set hq;have he:=oL q.set (canon q.set) hq;have TL:∀{n:Int},n=(q.set.map Ao).length→n=0→q.set.isEmpty=true:=fun h1 h2=>by
   rw[Lm]at h1;rw[GB];exact AN (by omega)
  have eJ:¬((q.set.map Ao).length:Int)=0→q.set.isEmpty=false:=fun h=>by
   cases hqs:q.set with
   |nil=>rw[hqs]at h;exact absurd rfl h
   |cons a l=>rfl
  rcases Bt (decide (q.set=canon q.set))with h2 | h2
  ·rw[h2]at he;refine Ps (Ji [2,4]) Tryz.func112 rfl (Nz rfl) ?_;refine Xi .pure (Xi _ (Yi (hl) ?_));refine Xi ⟨[(1,.cptr (AI b)),(2,.ref 2 0),(7,vi 0)],[(2,.cells (AI q))],Aa⟩ (Yi ⟨Z3,Z1,Fh,Tv⟩ ?_)
   refine Yi ?_ ?_
   ·intro h;exact absurd rfl h
   intro _;refine Xi ⟨[(1,.cptr (AI b)),(2,.ref 2 0)],[(2,.cells (AI q))],Aa⟩ (Yi ⟨Z2,Z1,Fh,Tv⟩ ?_)
   refine Yi ?_ ?_
   ·intro h;have h:((q.set.map Ao).length:Int)=0:=h;have e:(1:Int)=Gx (some b.path) q:=by rw[er,TL rfl h];rfl
    refine Yi (by kernel_rfl) ?_;exact .of_eq (Ac vi e)
   intro h;have h:¬((q.set.map Ao).length:Int)=0:=h;have hn:=eJ h;refine Xi _ (Yi (hc) ?_);refine Xi _ (Yi (he) ?_);refine Yi ?_ ?_
   ·intro h3;have h3:Op.bytesLess b.path.toList q.path.toList=false:=h3;refine Yi (by kernel_rfl) ?_;have e:(1:Int)=Gx (some b.path) q:=by rw[er,hn,h2,GM,h3];rfl
    exact .of_eq (Ac vi e)
   ·intro h3;have h3:¬Op.bytesLess b.path.toList q.path.toList=false:=h3;have h3:Op.bytesLess b.path.toList q.path.toList=true:=by simpa using h3
    refine Yi (by kernel_rfl) ?_;have e:(0:Int)=Gx (some b.path) q:=by rw[er,hn,h2,GM,h3];rfl
    exact .of_eq (Ac vi e)
  ·rw[h2]at he;refine Ps (Ji [2,4]) Tryz.func112 rfl (Nz rfl) ?_;refine Xi .pure (Xi _ (Yi (hl) ?_));refine Xi ⟨[(1,.cptr (AI b)),(2,.ref 2 0),(7,vi 0)],[(2,.cells (AI q))],Aa⟩ (Yi ⟨Z3,Z1,Fh,Tv⟩ ?_)
   refine Yi ?_ ?_
   ·intro h;exact absurd rfl h
   intro _;refine Xi ⟨[(1,.cptr (AI b)),(2,.ref 2 0)],[(2,.cells (AI q))],Aa⟩ (Yi ⟨Z2,Z1,Fh,Tv⟩ ?_)
   refine Yi ?_ ?_
   ·intro h;have h:((q.set.map Ao).length:Int)=0:=h;have e:(1:Int)=Gx (some b.path) q:=by rw[er,TL rfl h];rfl
    refine Yi (by kernel_rfl) ?_;exact .of_eq (Ac vi e)
   intro h;have h:¬((q.set.map Ao).length:Int)=0:=h;have hn:=eJ h;refine Xi _ (Yi (hc) ?_);refine Xi _ (Yi (he) ?_);refine Yi (by kernel_rfl) ?_;have e:(1:Int)=Gx (some b.path) q:=by rw[er,hn,h2];rfl
   exact .of_eq (Ac vi e)
abbrev Mh(l:List Rq)(k:Nat):List AV:=((l.map AI)[k]?).getD []
abbrev oF(l:List Rq):Nat→AV
 |0=>.v (.pointer none)
 |k+1=>.cptr (Mh l k)
abbrev Kg(l:List Rq):Nat→Option ByteArray
 |0=>none
 |k+1=>(l[k]?).map (·.path)
theorem M7{l:List Rq}{k:Nat}(h:k<l.length):Mh l k=AI l[k]:=by
 unfold Mh;rw[AF,Ge h];rfl
theorem Rx{l:List Rq}{k:Nat}(h:k<l.length):Kg l (k+1)=some l[k].path:=by
 show(l[k]?).map _=_;rw[Ge h];rfl
theorem wy{nm:ByteArray→ByteArray}(hL:Tz nm)(l:List Rq)(hs:∀q∈l,NJ q):PC 82 [sl AI l] (vi (BL l)):=by
 refine Ps (Ji [8]) Tryz.func82 rfl (Nz rfl) ?_;refine Yi ?_ ?_
 ·intro h;have h:(16:Int)<(l.map AI).length:=h;exact .of_eq (Ac vi (show(7:Int)=BL l by unfold BL;rw[Aq (by rw[Lm]at h;omega)]))
 intro h;have h:¬(16:Int)<(l.map AI).length:=h;have hl:l.length≤16:=by rw[Lm]at h;omega
 have Tt:BL l=FH none l:=by unfold BL;rw[Ai (by omega)]
 refine Xi {i:Nat // i≤l.length∧FH none l=FH (Kg l i) (l.drop i)} (Xi (fun i=>⟨[(0,sl AI l),(3,oF l i.1),(10,sl AI l),(11,vi (l.map AI).length),(12,vi i.1)],[],Aa⟩) (Xi (fun i=>l.length-i.1) (Yi (Xi ⟨0,AL _,rfl⟩ ?_) ?_)))
 ·exact⟨Z5,Tv,Fh,Tv⟩
 intro⟨i,h1,h2⟩;refine Yi ?_ ?_
 ·intro h;have h:(i:Int)<(l.map AI).length:=h;have h:i<l.length:=by simpa using h
  have hg:l[i]?=some l[i]:=Ge h;have hd:l.drop i=l[i]::l.drop (i+1):=Bl h;have hq:=hs l[i] (Ax h);have hc:PC 112 [.agg (AI l[i]),oF l i] (vi (Gx (Kg l i) l[i])):=by
   cases i with
   |zero=>exact oJ hL _ hq.1 hq.2
   |succ k =>
    rw[Rx (by omega:k<l.length)];show PC 112 [_,.cptr (Mh l k)] _;rw[M7 (by omega:k<l.length)];exact oK hL _ _ hq.1 hq.2
  have JR:FH none l=if Gx (Kg l i) l[i]=0 then FH (some l[i].path) (l.drop (i+1))else Gx (Kg l i) l[i]:=by rw[h2,hd];rfl
  match i,h1,h2,h,hg,hd,hc,JR with
  |0,h1,h2,h,hg,hd,hc,JR =>
   refine Xi (AI l[0]) (Yi (Yi (by show(0:Int)≤((0:Nat):Int);omega) (by simp[hg])) (Yi rfl ?_));refine Yi (Nz rfl) (Yi (Nz rfl) (Yi (Nz rfl) ?_));refine Xi .pure (Xi _ (Yi (hc) ?_));refine Xi ⟨[(0,sl AI l),(4,vi ((0:Nat):Int)),(6,vi (Gx (Kg l (0)) l[0])),(10,sl AI l),(11,vi (l.map AI).length),(12,vi ((0:Nat):Int))],[],Aa⟩ (Yi ⟨Z6,Tv,Fh,Tv⟩ ?_)
   refine Yi ?_ ?_
   ·intro h4;have h4:Gx (Kg l (0)) l[0]≠0:=h4;exact .of_eq (Ac vi (show Gx (Kg l (0)) l[0]=BL l by rw[Tt,JR,Ai h4]))
   ·intro h4;have h4:¬Gx (Kg l (0)) l[0]≠0:=h4;refine Xi (AI l[0]) (Yi (Yi (by show(0:Int)≤((0:Nat):Int);omega) (by simp[hg])) (Yi rfl ?_));refine Yi (by show BK (((0:Nat):Int)+1);unfold BK;omega) ?_;refine Xi ⟨0+1,by omega,by rw[JR,Aq (F2 h4),Rx h]⟩ ?_;have e1:AV.cptr (AI l[0])=.cptr (Mh l (0)):=by rw[M7 h]
    exact⟨by show l.length-(0+1)<l.length-(0);omega,⟨Zr,⟨e1,rfl⟩,Zr,Zr,Zr,Tv⟩,Tv,Fh,Tv⟩
  |k+1,h1,h2,h,hg,hd,hc,JR =>
   refine Xi (AI l[k+1]) (Yi (Yi (by show(0:Int)≤((k+1:Nat):Int);omega) (by simp[hg])) (Yi rfl ?_));refine Yi (Nz rfl) (Yi (Nz rfl) (Yi (Nz rfl) ?_));refine Xi .pure (Xi _ (Yi (hc) ?_));refine Xi ⟨[(0,sl AI l),(4,vi ((k+1:Nat):Int)),(6,vi (Gx (Kg l (k+1)) l[k+1])),(10,sl AI l),(11,vi (l.map AI).length),(12,vi ((k+1:Nat):Int))],[],Aa⟩ (Yi ⟨Z6,Tv,Fh,Tv⟩ ?_)
   refine Yi ?_ ?_
   ·intro h4;have h4:Gx (Kg l (k+1)) l[k+1]≠0:=h4;exact .of_eq (Ac vi (show Gx (Kg l (k+1)) l[k+1]=BL l by rw[Tt,JR,Ai h4]))
   ·intro h4;have h4:¬Gx (Kg l (k+1)) l[k+1]≠0:=h4;refine Xi (AI l[k+1]) (Yi (Yi (by show(0:Int)≤((k+1:Nat):Int);omega) (by simp[hg])) (Yi rfl ?_));refine Yi (by show BK (((k+1:Nat):Int)+1);unfold BK;omega) ?_;refine Xi ⟨k+1+1,by omega,by rw[JR,Aq (F2 h4),Rx h]⟩ ?_;have e1:AV.cptr (AI l[k+1])=.cptr (Mh l (k+1)):=by rw[M7 h]
    exact⟨by show l.length-(k+1+1)<l.length-(k+1);omega,⟨Zr,⟨e1,rfl⟩,Zr,Zr,Zr,Tv⟩,Tv,Fh,Tv⟩
 ·intro h;have h:¬(i:Int)<(l.map AI).length:=h;have h:¬i<l.length:=by simpa using h
  have e:(0:Int)=BL l:=by rw[Tt,h2,TA (by omega)];rfl
  exact .of_eq (Ac vi e)
abbrev dG(r:Rl):Nat→ByteArray
 |0=>r.arch
 |1=>r.ifc
 |_=>r.cert
theorem l8{r:Rl}(h:∀j,j<3→EN (dG r j)=true):(EN r.arch&&EN r.ifc&&EN r.cert)=true:=by
 have h0:EN r.arch=true:=h 0 (by decide);have h1:EN r.ifc=true:=h 1 (by decide);have h2:EN r.cert=true:=h 2 (by decide);rw[h0,h1,h2];rfl
theorem Yk{r:Rl}{i:Nat}(hi:i<3)(h:EN (dG r i)=false):(EN r.arch&&EN r.ifc&&EN r.cert)=false:=by
 match i,hi,h with
 |0,_,h=>have h:EN r.arch=false:=h;rw[h];rfl
 |1,_,h=>have h:EN r.ifc=false:=h;rw[h,D6];rfl
 |2,_,h=>have h:EN r.cert=false:=h;rw[h,D6]
theorem sv{nm:ByteArray→ByteArray}(hL:Tz nm)(r:Rl)(hr:JL r):PC 58 [.agg (Ag r)] (vi (DD r)):=by
 cases Tu:CB r.path with
 |none =>
  have e:(4:Int)=DD r:=by unfold DD;rw[Tu]
  have hl:=hL.none hr.1 Tu;refine Ps F1 Tryz.func58 rfl (Nz rfl) ?_;refine Xi .pure (Xi _ (Yi (hl) ?_));refine Yi ?_ ?_
  ·intro _;exact .of_eq (Ac vi e)
  ·intro h;exact absurd (show(4:Int)≠0 by decide) h
 |some m =>
  have er:DD r=if(!Cq r.ver||!decide (r.ver.a=m))=true then 2 else if BL r.reqs≠0 then BL r.reqs else if(EN r.arch&&EN r.ifc&&EN r.cert)=true then 0 else 1:=by unfold DD;rw[Tu]
  have hl:=hL.some hr.1 Tu;have hv:=lM r.ver;have hc:=wy hL r.reqs hr.2;rcases Bt (Cq r.ver)with h2 | h2
  ·rw[h2]at hv;refine Ps (Ji [2,4,6,7,9]) Tryz.func58 rfl (Nz rfl) ?_;refine Xi .pure (Xi _ (Yi (hl) ?_));refine Xi ⟨[(1,.ref 1 0),(4,vi m),(5,vi 0)],[(1,.cells (Ag r))],Aa⟩ (Yi ⟨Z3,Z1,Fh,Tv⟩ ?_)
   refine Yi ?_ ?_
   ·intro h;exact absurd rfl h
   intro _;refine Xi ⟨[(1,.ref 1 0),(4,vi m)],[(1,.cells (Ag r))],Aa⟩ (Yi ⟨Z2,Z1,Fh,Tv⟩ ?_)
   refine Yi (Nz rfl) ?_;refine Xi .pure (Xi _ (Yi (hv) ?_));refine Yi ?_ ?_
   ·intro h;have h:r.ver.a≠m:=h;have e:(2:Int)=DD r:=by rw[er,h2,At h];rfl
    exact .of_eq (Ac vi e)
   intro h;have h:¬r.ver.a≠m:=h;have h3:r.ver.a=m:=F2 h;have o8:DD r=if BL r.reqs≠0 then BL r.reqs else if(EN r.arch&&EN r.ifc&&EN r.cert)=true then 0 else 1:=by rw[er,h2,AA h3];rfl
   refine Xi ⟨[(1,.ref 1 0)],[(1,.cells (Ag r))],Aa⟩ (Yi ⟨Z1,Z1,Fh,Tv⟩ ?_)
   refine Xi .pure (Xi _ (Yi (hc) ?_));refine Xi ⟨[(1,.ref 1 0),(6,vi (BL r.reqs))],[(1,.cells (Ag r))],Aa⟩ (Yi ⟨Z2,Z1,Fh,Tv⟩ ?_)
   refine Yi ?_ ?_
   ·intro h4;have h4:BL r.reqs≠0:=h4;exact .of_eq (Ac vi (show BL r.reqs=DD r by rw[o8,Aq h4]))
   intro h4;have h4:¬BL r.reqs≠0:=h4;have rr:DD r=if(EN r.arch&&EN r.ifc&&EN r.cert)=true then 0 else 1:=by rw[o8,Ai h4]
   refine Xi ⟨[(1,.ref 1 0)],[(1,.cells (Ag r))],Aa⟩ (Yi ⟨Z1,Z1,Fh,Tv⟩ ?_)
   refine Xi {i:Nat // i≤3∧∀j,j<i→EN (dG r j)=true} (Xi (fun i=>⟨[(41,.slice (.id 41 1) [[vs r.arch],[vs r.ifc],[vs r.cert]]),(42,vi 3),(43,vi i.1)],[(41,.tok 1 3)],Aa⟩) (Xi (fun i=>3-i.1) (Yi (Xi ⟨0,by omega,fun j h=>by omega⟩ ?_) ?_)))
   ·exact⟨Z3,Z1,Fh,Tv⟩
   intro⟨i,i1,i2⟩;refine Yi ?_ ?_
   ·intro h;have h:(i:Int)<3:=h;have next:EN (dG r i)=true→∀j,j<i+1→EN (dG r j)=true:=fun hz j hj=>by
     rcases EA j i with q | q
     ·exact i2 j q
     ·have:j=i:=by omega
      subst this;exact hz
    match i,i1,i2,h,next with
    |0,i1,i2,h,next =>
     refine Xi [vs r.arch] (Yi (Yi (by show(0:Int)≤0;decide) rfl) (Yi rfl ?_));refine Yi ?_ ?_
     ·intro h5;have h5:((r.arch.size:Nat):Int)≠0:=h5;refine Yi ?_ ?_
      ·intro h6;have h6:((r.arch.size:Nat):Int)≠32:=h6;have e:(1:Int)=DD r:=by rw[rr,Yk (i:=0) (by decide) (show EN r.arch=false by unfold EN;rw[At (by omega),At (by omega)];rfl)];rfl
       exact .of_eq (Ac vi e)
      ·intro h6;have h6:¬((r.arch.size:Nat):Int)≠32:=h6;refine Yi (Ii 0 (by omega)) ?_;refine Xi ⟨1,by omega,next (show EN r.arch=true by unfold EN;rw[AA (by omega:r.arch.size=32),Bool.or_true])⟩ ?_
       exact⟨by show 3-1<3-0;decide,Z3,Z1,Fh,Tv⟩
     ·intro h5;have h5:¬((r.arch.size:Nat):Int)≠0:=h5;refine Yi (Ii 0 (by omega)) ?_;refine Xi ⟨1,by omega,next (show EN r.arch=true by unfold EN;rw[AA (by omega:r.arch.size=0)];rfl)⟩ ?_
      exact⟨by show 3-1<3-0;decide,Z3,Z1,Fh,Tv⟩
    |1,i1,i2,h,next =>
     refine Xi [vs r.ifc] (Yi (Yi (by show(0:Int)≤1;decide) rfl) (Yi rfl ?_));refine Yi ?_ ?_
     ·intro h5;have h5:((r.ifc.size:Nat):Int)≠0:=h5;refine Yi ?_ ?_
      ·intro h6;have h6:((r.ifc.size:Nat):Int)≠32:=h6;have e:(1:Int)=DD r:=by rw[rr,Yk (i:=1) (by decide) (show EN r.ifc=false by unfold EN;rw[At (by omega),At (by omega)];rfl)];rfl
       exact .of_eq (Ac vi e)
      ·intro h6;have h6:¬((r.ifc.size:Nat):Int)≠32:=h6;refine Yi (Ii 1 (by omega)) ?_;refine Xi ⟨2,by omega,next (show EN r.ifc=true by unfold EN;rw[AA (by omega:r.ifc.size=32),Bool.or_true])⟩ ?_
       exact⟨by show 3-2<3-1;decide,Z3,Z1,Fh,Tv⟩
     ·intro h5;have h5:¬((r.ifc.size:Nat):Int)≠0:=h5;refine Yi (Ii 1 (by omega)) ?_;refine Xi ⟨2,by omega,next (show EN r.ifc=true by unfold EN;rw[AA (by omega:r.ifc.size=0)];rfl)⟩ ?_
      exact⟨by show 3-2<3-1;decide,Z3,Z1,Fh,Tv⟩
    |2,i1,i2,h,next =>
     refine Xi [vs r.cert] (Yi (Yi (by show(0:Int)≤2;decide) rfl) (Yi rfl ?_));refine Yi ?_ ?_
     ·intro h5;have h5:((r.cert.size:Nat):Int)≠0:=h5;refine Yi ?_ ?_
      ·intro h6;have h6:((r.cert.size:Nat):Int)≠32:=h6;have e:(1:Int)=DD r:=by rw[rr,Yk (i:=2) (by decide) (show EN r.cert=false by unfold EN;rw[At (by omega),At (by omega)];rfl)];rfl
       exact .of_eq (Ac vi e)
      ·intro h6;have h6:¬((r.cert.size:Nat):Int)≠32:=h6;refine Yi (Ii 2 (by omega)) ?_;refine Xi ⟨3,by omega,next (show EN r.cert=true by unfold EN;rw[AA (by omega:r.cert.size=32),Bool.or_true])⟩ ?_
       exact⟨by show 3-3<3-2;decide,Z3,Z1,Fh,Tv⟩
     ·intro h5;have h5:¬((r.cert.size:Nat):Int)≠0:=h5;refine Yi (Ii 2 (by omega)) ?_;refine Xi ⟨3,by omega,next (show EN r.cert=true by unfold EN;rw[AA (by omega:r.cert.size=0)];rfl)⟩ ?_
      exact⟨by show 3-3<3-2;decide,Z3,Z1,Fh,Tv⟩
    |i+3,i1,i2,h,next=>omega
   ·intro h;have h:¬(i:Int)<3:=h;have e:(0:Int)=DD r:=by rw[rr,Aq (l8 fun j hj=>i2 j (by omega))]
    exact .of_eq (Ac vi e)
  ·rw[h2]at hv;have e:(2:Int)=DD r:=by rw[er,h2];rfl
   refine Ps (Ji [2,4]) Tryz.func58 rfl (Nz rfl) ?_;refine Xi .pure (Xi _ (Yi (hl) ?_));refine Xi ⟨[(1,.ref 1 0),(4,vi m),(5,vi 0)],[(1,.cells (Ag r))],Aa⟩ (Yi ⟨Z3,Z1,Fh,Tv⟩ ?_)
   refine Yi ?_ ?_
   ·intro h;exact absurd rfl h
   intro _;refine Xi ⟨[(1,.ref 1 0),(4,vi m)],[(1,.cells (Ag r))],Aa⟩ (Yi ⟨Z2,Z1,Fh,Tv⟩ ?_)
   refine Yi (Nz rfl) ?_;refine Xi .pure (Xi _ (Yi (hv) ?_));exact .of_eq (Ac vi e)
theorem mV{a b:Rl}(h:a.path=b.path∧a.ver.a=b.ver.a∧a.ver.b=b.ver.b∧a.ver.c=b.ver.c):Fc a=Fc b:=by
 unfold Fc;obtain⟨h1,h2,h3,h4⟩:=h
 have:a.ver=b.ver:=by
  cases ha:a.ver;cases hb:b.ver;rw[ha,hb]at h2 h3 h4;simp_all
 rw[h1,this]
theorem bw{a b:Rl}(h:Fc a=Fc b):a.path=b.path∧a.ver.a=b.ver.a∧a.ver.b=b.ver.b∧a.ver.c=b.ver.c:=by
 unfold Fc at h
 injection h with h1 h2
 exact⟨h1,by rw[h2],by rw[h2],by rw[h2]⟩
abbrev iF(x:List Rl):Nat→Option Rl
 |0=>none
 |k+1=>x[k]?
theorem ku{nm:ByteArray→ByteArray}(hL:Tz nm)(x:List Rl)(ifs:List (List AV))(hs:∀r∈x,JL r):PC 37 [.agg (Ic x ifs)] (vi (AU x)):=by
 refine Ps (Ji [7,9,11,13]) Tryz.func37 rfl (Nz rfl) ?_;refine Yi ?_ ?_
 ·intro h;have h:(256:Int)<(x.map Ag).length:=h;exact .of_eq (Ac vi (show(7:Int)=AU x by unfold AU;rw[Aq (by rw[Lm]at h;omega)]))
 intro h;have h:¬(256:Int)<(x.map Ag).length:=h;have hl:x.length≤256:=by rw[Lm]at h;omega
 have Tt:AU x=DG none x:=by unfold AU;rw[Ai (by omega)]
 refine Xi {i:Nat // i≤x.length∧DG none x=DG (iF x i) (x.drop i)} (Xi (fun i=>⟨[(1,.ref 1 0),(12,sl Ag x),(13,vi (x.map Ag).length),(14,vi i.1)],[(1,.cells (Ic x ifs))],Aa⟩) (Xi (fun i=>x.length-i.1) (Yi (Xi ⟨0,AL _,rfl⟩ ?_) ?_)))
 ·exact⟨Z4,Z1,Fh,Tv⟩
 intro⟨i,h1,h2⟩;refine Yi ?_ ?_
 ·intro h;have h:(i:Int)<(x.map Ag).length:=h;have h:i<x.length:=by simpa using h
  have hg:x[i]?=some x[i]:=Ge h;have hd:x.drop i=x[i]::x.drop (i+1):=Bl h;have hc:=sv hL x[i] (hs x[i] (Ax h));have JR:DG none x=if DD x[i]≠0 then DD x[i]else match iF x i with
   |none=>DG (some x[i]) (x.drop (i+1))
   |some b=>if Fc b=Fc x[i]then 5 else if 0<Dy b x[i]then 1 else DG (some x[i]) (x.drop (i+1)):=by rw[h2,hd];rfl
  have kM:iF x (i+1)=some x[i]:=Ge h;refine Xi (Ag x[i]) (Yi (Yi (Nn i) (by simp[hg])) (Yi rfl ?_));refine Yi (Nz rfl) (Yi (Nz rfl) (Yi (Nz rfl) ?_));refine Xi .pure (Xi _ (Yi (hc) ?_));refine Xi ⟨[(1,.ref 1 0),(3,vi i),(4,.ref 4 0),(5,vi (DD x[i])),(12,sl Ag x),(13,vi (x.map Ag).length),(14,vi i)],[(1,.cells (Ic x ifs)),(4,.cells (Ag x[i]))],Aa⟩ (Yi ⟨Z7,Z2,Fh,Tv⟩ ?_)
  refine Yi ?_ ?_
  ·intro h4;have h4:DD x[i]≠0:=h4;exact .of_eq (Ac vi (show DD x[i]=AU x by rw[Tt,JR,Aq h4]))
  intro h4;have h4:¬DD x[i]≠0:=h4;refine Xi ⟨[(1,.ref 1 0),(3,vi i),(4,.ref 4 0),(12,sl Ag x),(13,vi (x.map Ag).length),(14,vi i)],[(1,.cells (Ic x ifs)),(4,.cells (Ag x[i]))],Aa⟩ (Yi ⟨Z6,Z2,Fh,Tv⟩ ?_)
  refine Yi ?_ ?_
  ·intro h5;have h5:(i:Int)=0:=h5;have h6:i=0:=by omega
   refine Yi (Ii i (by omega)) ?_;refine Xi ⟨i+1,by omega,by rw[JR,Ai h4,kM];subst h6;rfl⟩ ?_;exact⟨Dl x.length i (by omega),Z4,Z1,Fh,Tv⟩
  intro h5;have h5:¬(i:Int)=0:=h5;have y6:i-1<x.length:=by omega
  have hb:iF x i=some x[i-1]:=by
   obtain⟨k,rfl⟩:∃k,i=k+1:=⟨i-1,by omega⟩;exact Ge (by omega)
  have mA:DG none x=if Fc x[i-1]=Fc x[i]then 5 else if 0<Dy x[i-1] x[i]then 1 else DG (some x[i]) (x.drop (i+1)):=by rw[JR,Ai h4,hb]
  refine Yi (by show BK ((i:Int)-1);unfold BK;omega) ?_;have TM:(x.map Ag)[((i:Int)-1).toNat]?=some (Ag x[i-1]):=by rw[show((i:Int)-1).toNat=i-1 by omega];exact Dp (Ge y6)
  refine Xi (Ag x[i-1]) (Yi (Yi (by show(0:Int)≤(i:Int)-1;omega) TM) (Yi rfl ?_));refine Yi (Nz rfl) (Yi (Nz rfl) ?_);refine Xi ⟨[(1,.ref 1 0),(4,.ref 4 0),(6,.ref 6 0),(12,sl Ag x),(13,vi (x.map Ag).length),(14,vi i)],[(1,.cells (Ic x ifs)),(4,.cells (Ag x[i])),(6,.cells (Ag x[i-1]))],Aa⟩ (Yi ⟨Z6,Z3,Fh,Tv⟩ ?_)
  refine Yi (Nz rfl) ?_;refine Xi _ (Yi (lP x[i-1]) ?_);refine Yi (Nz rfl) ?_;refine Xi _ (Yi (lP x[i]) ?_);refine Yi ?_ ?_
  ·intro h6;refine Yi (by kernel_rfl) ?_;have e:(5:Int)=AU x:=by rw[Tt,mA,Aq (mV ⟨h6.1,h6.2.1,h6.2.2.1,h6.2.2.2.1⟩)]
   exact .of_eq (Ac vi e)
  intro h6;refine Yi (by kernel_rfl) ?_;have h7:¬Fc x[i-1]=Fc x[i]:=fun e=>by
   have e:=bw e;exact h6 ⟨e.1,e.2.1,e.2.2.1,e.2.2.2,trivial⟩
  refine Xi ⟨[(1,.ref 1 0),(4,.ref 4 0),(6,.ref 6 0),(12,sl Ag x),(13,vi (x.map Ag).length),(14,vi i)],[(1,.cells (Ic x ifs)),(4,.cells (Ag x[i])),(6,.cells (Ag x[i-1]))],Aa⟩ (Yi ⟨Z6,Z3,Fh,Tv⟩ ?_)
  refine Yi (Nz rfl) (Yi (Nz rfl) ?_);refine Xi .pure (Xi _ (Yi (oH x[i-1] x[i]) ?_));refine Yi ?_ ?_
  ·intro h8;have h8:(0:Int)<Dy x[i-1] x[i]:=h8;have e:(1:Int)=AU x:=by rw[Tt,mA,Ai h7,Aq h8]
   exact .of_eq (Ac vi e)
  ·intro h8;have h8:¬(0:Int)<Dy x[i-1] x[i]:=h8;refine Yi (Ii i (by omega)) ?_;refine Xi ⟨i+1,by omega,by rw[mA,Ai h7,Ai h8,kM]⟩ ?_;exact⟨Dl x.length i (by omega),Z4,Z1,Fh,Tv⟩
 ·intro h;have h:¬(i:Int)<(x.map Ag).length:=h;have h:¬i<x.length:=by simpa using h
  have e:(0:Int)=AU x:=by rw[Tt,h2,TA (by omega)];rfl
  exact .of_eq (Ac vi e)
end Go.Eng
