/- Lemmas for the claims of this seat, without a condition: part 20 (C25, C26, C27, C28, C29, C30, C31, C32, C33, C34, C35, C36, C37). -/
import Derived.Test.YtddfphmpfnmknaaGreatDoorBA19
import Derived.Shelf.Slices.Delete
namespace Go.Eng
open Go.Proofs Go.Shelf Go.RowKit Go.Lib Go.Sort
theorem mV(F:Array Value)(i n:Nat)(hF:F.size=n*3)(hi:i<n)(z:List Value)(hz:z.length=3):(lay (lay F (i*3) (F.toList.drop ((i+1)*3))) ((n-1)*3) z).toList=F.toList.take (i*3)++F.toList.drop ((i+1)*3)++z:=by
 have l1:(F.toList.take (i*3)).length=i*3:=by simp;omega
 have l2:(F.toList.drop ((i+1)*3)).length=(n-(i+1))*3:=by simp;omega
 apply CV
 intro t
 rw[A1,lay_get? _ _ _ _ (by rw[Lib.lay_size];omega),lay_get? _ _ _ _ (by rw[l2];omega)]
 rw[hz,l2]
 by_cases c1:t<i*3
 ·rw[Ai (by omega),Ai (by omega),AY (by rw[Ac];omega),AY (by omega),Jl,Ao c1,A1]
 ·by_cases c2:t<(n-1)*3
  ·rw[Ai (by omega),Ao (by omega),AY (by rw[Ac];omega),AZ (by omega),l1]
  ·rw[AZ (by rw[Ac];omega),Ac,l1,l2]
   by_cases c3:t<n*3
   ·rw[Ao (by omega)];congr 1;omega
   ·rw[Ai (by omega),Ai (by omega),Tu (by omega),A2 (by omega)]
abbrev iu:List Value:=[.string ⟨#[]⟩,.bool false,.slice none 0 0]
set_option maxHeartbeats 4000000 in
set_option maxRecDepth 1000000 in
theorem dA(w:World)(b cap i n:Nat)(F:Array Value)(hF:F.size=n*3)(hi:i<n)(Og:n≤cap)(hH:Holds id w b 0 F)(h1:∀x∈F.toList,x.oneCell'=true) :
  Calls Tryz.prog 212 #[.slice (some ⟨b,0,none⟩) n cap,.int .i64 i,.int .i64 ((i:Int)+1)] w fun e w'=>e=.returned (.slice (some ⟨b,0,none⟩) (n-1) cap) ∧
   w'=putRow id (Sort.ahead w 1) b 0 (lay (lay F (i*3) (F.toList.drop ((i+1)*3))) ((n-1)*3) iu):=by
 obtain⟨i0,t8,mP⟩:∃i0,Tryz.prog.info? 198=some i0∧i0.size=3:=by
  obtain⟨i,z,h1,_,h2,_⟩:=Hg (P:=Tryz.prog) (T:=lg) Cs (e:=198) (n:=2) (by kernel_rfl)
  exact⟨i,h1,h2.trans (by kernel_rfl)⟩
 obtain⟨news,ID⟩:∃news,news=F.toList.drop ((i+1)*3):=⟨_,rfl⟩
 have Cw:news.length=(n-(i+1))*3:=by rw[ID];simp;omega
 have E5:∀t,t<(n-(i+1))*3→news[t]?=some F[(i+1)*3+t]!:=by
  intro t ht
  rw[ID,Dq,A1,Dr F ((i+1)*3+t) (by omega),Bk (by omega)]
 obtain⟨A,hA,bj⟩:∃A:Addr,(if cap=i+1 then some (⟨b,0,none⟩:Addr)else some ⟨b,(i+1)*3,none⟩)=some A∧Hid (∀t u,news[t]?=some u→w.drew.cell? (A.add t)=some u):=by
  by_cases h:cap=i+1
  ·refine⟨⟨b,0,none⟩,by simp[h],fun t u hu=>?_⟩
   have h0:news.length=0:=by rw[Cw];omega
   rw[List.length_eq_zero_iff.1 h0]at hu
   simp at hu
  ·refine⟨⟨b,(i+1)*3,none⟩,by simp[h],fun t u hu=>?_⟩
   have ht:t<(n-(i+1))*3:=by
    have:=(Ap.1 hu).1
    rwa [Cw]at this
   rw[E5 t ht]at hu
   rw[Addr.add_lit]
   have:=(hH ((i+1)*3+t) (by omega)).1
   rw[Bg]at this
   exact this.trans hu
 have s1:Hid (news.length=(n-(i+1))*3):=Cw
 have s2:Hid (∀u∈news,u.oneCell'=true):=by
  intro u hu
  rw[ID]at hu
  exact h1 u (Ia hu)
 have s3:Hid (∀t,t<news.length→(w.drew.cell? ⟨b,0+i*3+t,none⟩).isSome=true∧w.drew.frozen? ⟨b,0+i*3+t,none⟩=false):=by
  intro t ht
  rw[Cw]at ht
  have:=hH (i*3+t) (by omega)
  rw[Gd]
  exact⟨by show(w.cell? _).isSome=true;rw[this.1];rfl,this.2⟩
 obtain⟨W1,tC⟩:∃W1,W1=w.drew.setCells b (0+i*3) news:=⟨_,rfl⟩
 have mi : W1=putRow id (Sort.ahead w 1) b 0 (lay F (i*3) news):=by
  have:=putRow_setCells id (Sort.ahead w 1) b 0 news F (i*3) (by omega)
  rw[putRow_self id (Sort.ahead w 1) b 0 F (holds_ahead id w 1 b 0 F hH),Jq]at this
  rw[tC,←this]
  rfl
 have tt:Holds id W1 b 0 (lay F (i*3) news):=by rw[mi];exact holds_putRow id _ b 0 F _ (holds_ahead id w 1 b 0 F hH) (Lib.lay_size _ _ _)
 have I7:(storeCells ⟨b,0+(n-1)*3,none⟩ iu 0).run Tryz.prog W1=.ok () (W1.setCells b (0+(n-1)*3) iu):=by
  have:=run_storeCells_cells (P:=Tryz.prog) b (0+(n-1)*3) iu 0 W1 (fun j hj=>by
   have hj:j<3:=hj
   have:=tt ((n-1)*3+j) (by rw[Lib.lay_size];omega)
   rw[show 0+(n-1)*3+0+j=0+((n-1)*3+j) by omega,this.1];rfl) (fun j hj=>by
   have hj:j<3:=hj
   have:=tt ((n-1)*3+j) (by rw[Lib.lay_size];omega)
   rw[show 0+(n-1)*3+0+j=0+((n-1)*3+j) by omega];exact this.2) (fun v hv=>by
   simp only[Au,Ld,or_false]at hv
   rcases hv with rfl | rfl | rfl<;>rfl)
  exact this
 have hcl:∀ty c,(Builtin.clear_ #[168] ty #[.slice (some ⟨b,(n-1)*3,none⟩) 1 c]).run Tryz.prog W1=.ok (.tuple #[]) (W1.setCells b (0+(n-1)*3) iu):=fun ty c=>by
  have hv:=Tryz.zeroValue198
  rw[Bg]at I7⊢
  have hz:(Builtin.zeroCells (Value.agg #[Value.string { data:=#[] },Value.bool false,Value.slice none 0 0]).cells 1).toList=iu:=by kernel_rfl
  simp[Builtin.clear_,run_underlying Tryz.underlying168,hv,hz,I7]
 have yT:∀ty,(Builtin.clear_ #[168] ty #[.slice (some ⟨b,(i+(n-(i+1)))*3,none⟩) (n-(i+(n-(i+1)))) (cap-(i+(n-(i+1))))]).run Tryz.prog W1=.ok (.tuple #[]) (W1.setCells b (0+(n-1)*3) iu):=fun ty=>by
  have e1:i+(n-(i+1))=n-1:=by omega
  have e2:n-(n-1)=1:=by omega
  rw[e1,e2];exact hcl ty _
 have X:Aside (W1=putRow id (Sort.ahead w 1) b 0 (lay F (i*3) news)):=mi
 have hW:Hid (W1=w.drew.setCells b (0+i*3) news):=tC
 have Y:Aside (news=F.toList.drop ((i+1)*3)):=ID
 have Z:Aside (news.length=(n-(i+1))*3):=Cw
 have pR:i≤cap:=by omega
 have hjc:i+1≤cap:=by omega
 have mixed:=Go.Eng.hm
 have wR:(0:Int)≤(i:Int)+1:=by omega
 have Sb:(i:Int)+1≤(n:Int):=by omega
 clear tC mi tt hH E5 ID Cw I7 hcl
 go_enter Tryz.func212,Tryz.ntmps212
 go_wp2_with fail
 go_region_law_o (refine step_append_room rfl (.tmp 22) (.tmp 25) 168 rfl 198 i0 3 Tryz.underlying168 t8 mP b 0 i cap (by simp[Act.eval,Act.put]) A (n-(i+1)) (cap-(i+1)) news (by simp[Act.eval,Act.put]) s1.out bj.out s2.out (by omega) s3.out ?_;rw[←hW.out])
 go_wp2
 go_ret
 refine⟨by rw[show i+(n-(i+1))=n-1 by omega];rfl,?_⟩
 rw[X.out]
 have e1:=Y.out
 have e2:=Z.out
 rw[←e1]
 have:=putRow_setCells id (Sort.ahead w 1) b 0 iu (lay F (i*3) news) ((n-1)*3) (by rw[Lib.lay_size];show _+3≤_;omega)
 rw[Jq,Bg]at this
 exact this
abbrev TT:List AV:=[Go.Eng.vs ⟨#[]⟩,vb false,.v (.slice none 0 0)]
theorem s5(l:List Tm)(i:Nat)(hi:i<l.length) :
  A3 Tryz.prog 212 [.msl 1000 l.length,vi i,vi ((i:Int)+1)] (Aj [(1000,.arr 3 (l.map AA))] Aa) fun r h'=>r=.msl 2000 (l.length-1)∧h'=Aj [(1000,.dead),(2000,.arr 3 ((l.eraseIdx i).map AA))] Aa:=by
 have hE:FS Tryz.prog 212:=cI 212 Tryz.func212 (by kernel_rfl) rfl
 have Cw:(l.eraseIdx i).length=l.length-1:=List.length_eraseIdx_of_lt hi
 have G1:=TZ (P:=Tryz.prog) (f:=212) (es:=l.map AA) (sz:=3) (rest:=[.int .i64 i,.int .i64 ((i:Int)+1)]) (n':=l.length-1) (Q:=fun Fr=>Fr=(l.eraseIdx i).map AA++[TT]) hE (fun e=>by
  rw[DY]at e;subst e;simp at hi) (by rw[A7];omega) ?_
 ·rw[A7]at G1
  refine⟨hE,fun g w vals q1 q2 q3=>(G1.2 g w vals q1 q2 q3).mono fun _ _ ⟨v,r,h',g',e1,⟨e2,Fr,p1,p2⟩,rest⟩=>⟨v,r,h',g',e1,⟨e2,by rw[p2,p1,GV (by rw[A7,Cw];exact Am _),AD (by rw[A7,Cw];exact Am _)]⟩,rest⟩⟩
 ·intro g w b cap F hr hF hH hb hc
  rw[A7]at hF hc⊢
  have hu:∀e∈l.map AA,e.length=3:=fun e he=>by
   obtain⟨t,_,rfl⟩:=Al.1 he;rfl
  refine(dA w b cap i l.length F hF hi hc hH hr.2.1).mono ?_
  rintro e w' ⟨rfl,rfl⟩
  refine⟨rfl,_,_,1,#[],?_,rfl,?_,fun cs hcs=>?_,fun g w hr=>?_,rfl⟩
  ·rw[Lib.lay_size,Lib.lay_size]
  ·rw[Ac,A7,Cw,A5];omega
  ·rcases AL.1 hcs with h | h
   ·obtain⟨t,_,rfl⟩:=Al.1 h;rfl
   ·rw[Ak.1 h];rfl
  ·rw[mV F i l.length hF hi iu rfl,List.eraseIdx_eq_take_drop_succ,Cy,Ay,Cy,List.map_take,List.map_drop,←KN _ i hu,←N8 _ (i+1) hu]
   refine Cu.append (Cu.append (hr.take _) (hr.drop _)) ?_
   exact Mt g w E8 iu fun x hx=>by
    simp only[Au,Ld,or_false]at hx
    rcases hx with rfl | rfl | rfl<;>rfl
end Go.Eng
namespace Go.Eng
open Go.Proofs
theorem oR(l:List Tm)(hl:CU l)(Dt:l≠[]):A3 Tryz.prog 213 [sl AA l] (Aj [] Aa) fun r h'=>r=.msl 2000 l.length∧h'=Aj [(2000,.arr 3 (l.map AA))] Aa:=by
 refine BV (Lh (xE [(5,3)] [])) [(5,2000)] rfl Cs hm rfl Tryz.func213 (by kernel_rfl) rfl (Nz rfl) (by kernel_rfl) rfl ?_;have G9:De 3 (l.map AA)∧([]:List (List AV)).length=0∧(([]:List (List AV)).length+(l.map AA).length)*48≤140737488355328∧([]:List (List AV)).length+(l.map AA).length≤9223372036854775807:=by
  refine⟨E9 (enc:=AA) (n:=3) (fun _=>rfl) l,rfl,?_,?_⟩<;>simp only[AF,Lm]<;>unfold CU at hl<;>omega
 refine Yi ?_ ?_
 ·intro _;refine Yi G9 ?_;have e1:AV.msl 2000 (([]:List (List AV)).length+(l.map AA).length)=.msl 2000 l.length:=by simp
  refine Xi (.msl 2000 (([]:List (List AV)).length+(l.map AA).length)) (Yi (.refl _) (Yi e1 ?_))
  rfl
 ·intro h;have h:l.map AA=[]:=h;exact absurd (DY.1 h) Dt
theorem lW(x:Tm)(p:ByteArray):PC 211 [.agg (AA x),.cptr [vs p]] (vb (decide (x.path=p))):=by
 refine Ps Ga Tryz.func211 rfl (Nz rfl) ?_;refine Yi ?_ ?_
 ·intro h;have h:x.path=p:=h;rw[AE h];exact .refl _
 ·intro h;have h:¬x.path=p:=h;rw[AG h];exact .refl _
theorem MJ{p:ByteArray}:∀{c:List Tm} {i:Nat},(Em c).Nodup→∀(hi:i<c.length),c[i].path=p→c.eraseIdx i=FA c p
 |t::c,0,hn,_,h=>by
  have h:t.path=p:=h;unfold Em at hn;rw[AJ,CI]at hn;unfold FA;rw[CT,Ai (by simp[h])];show c=_;rw[List.filter_eq_self.2 fun u hu=>by
   have:u.path≠p:=fun e=>hn.1 (h▸e▸Al.2 ⟨u,hu,rfl⟩)
   simp[this]]
 |t::c,i+1,hn,hi,h=>by
  have hi:i<c.length:=by simpa using hi
  have h:c[i].path=p:=h;unfold Em at hn;rw[AJ,CI]at hn
  have:t.path≠p:=fun e=>hn.1 (by rw[e,←h];exact Al.2 ⟨_,At hi,rfl⟩)
  have ih:=MJ hn.2 hi h;unfold FA at ih⊢;rw[List.eraseIdx_cons_succ,CT,Ao (by simp[this]),ih]
theorem Pa{l c:List Tm}(hl:CU l)(h:CE l=some c):CU c:=by
 have h1:=Np l l.length (Am _);rw[DA]at h1;have h2:c=(EO l).filter fun t=>!Gg t:=by
  unfold CE at h;split at h
  ·cases h
  ·exact(B2 h).symm
 have h3:c.length≤(EO l).length:=by rw[h2];exact BA _ _
 have h4:(EO l).length=(CK l).length:=by
  have:=(NI (Hx (Ht l)) (Hx (HD (Eg l)))).2 (IU l)
  exact this.length_eq.symm
 unfold CU at hl⊢;omega
abbrev jH:AV:=.tup [.agg TT,.v (.slice none 0 0),vb false]
abbrev lf:Rk:=⟨[3],[],[],[],[],[],[],[],[(30,0),(34,1)],[],[3]⟩
theorem di(l:List Tm)(p:ByteArray)(hl:CU l)(hs:∀t∈l,CU t.set)(hn:Fc l p=none):PC 182 [sl AA l,vs p] jH:=by
 have hc:=rr l hl hs;unfold Fc at hn;cases e:CE l with
 |none =>
  have e1:Gt l=.tup [sl AA [],vb false]:=by unfold Gt Po;rw[e];rfl
  rw[e1]at hc;have hi:=iJ (EU.ptr [vs p]) [] (fun x=>decide (x.path=p)) (fun x _=>lW x p) (by simp);refine Ps lf Tryz.func182 rfl (Nz rfl) ?_;refine Xi .pure (Xi _ (Yi (hc) ?_));refine Xi .pure (Xi _ (Yi (hi) ?_));refine Xi ⟨[(4,.ref 4 0),(7,sl AA []),(8,vb false),(9,vi (-1))],[(4,.cells TT)],Aa⟩ (Yi ⟨Z4,Z1,Fh,Tv⟩ ?_)
  refine Yi (Nz rfl) (Yi (Nz rfl) ?_);exact .refl _
 |some c =>
  rw[e]at hn;have hn:(match Db c p with | none=>none | some t=>some (t,FA c p))=none:=hn;have pO:Db c p=none:=by
   cases h:Db c p with
   |none=>rfl
   |some t=>rw[h]at hn;cases hn
  have e1:Gt l=.tup [sl AA c,vb true]:=by unfold Gt Po;rw[e];rfl
  rw[e1]at hc;have pL:=Pa hl e;have hi:=iJ (EU.ptr [vs p]) c (fun x=>decide (x.path=p)) (fun x _=>lW x p) (by unfold CU at pL;omega);have hid:KB (fun x:Tm=>decide (x.path=p)) c 0=-1:=by
   rcases Oi (p:=fun x:Tm=>decide (x.path=p)) c 0 with ⟨h1,_⟩ | ⟨i,x,_,_,h3⟩
   ·exact h1
   ·unfold Db at pO;rw[h3]at pO;cases pO
  rw[hid]at hi;refine Ps lf Tryz.func182 rfl (Nz rfl) ?_;refine Xi .pure (Xi _ (Yi (hc) ?_));refine Xi .pure (Xi _ (Yi (hi) ?_));refine Xi ⟨[(4,.ref 4 0),(7,sl AA c),(8,vb true),(9,vi (-1))],[(4,.cells TT)],Aa⟩ (Yi ⟨Z4,Z1,Fh,Tv⟩ ?_)
  refine Yi ?_ ?_
  ·intro _;refine Yi (Nz rfl) (Yi (Nz rfl) ?_);exact .refl _
  ·intro h;exact absurd (show(-1:Int)<0 by decide) h
abbrev m9:Rk:=⟨[3],[],[],[],[],[],[],[],[(30,0),(34,2)],[],[]⟩
theorem dj(l:List Tm)(p:ByteArray)(hl:CU l)(hs:∀t∈l,CU t.set){t:Tm}{r:List Tm}(hn:Fc l p=some (t,r)) :
  A3 Tryz.prog 182 [sl AA l,vs p] (Aj [] Aa) fun v h'=>v=.tup [.agg (AA t),.msl 2000 r.length,vb true]∧h'=Aj [(2000,.arr 3 (r.map AA))] Aa:=by
 have hc:=rr l hl hs;unfold Fc at hn;cases e:CE l with
 |none=>rw[e]at hn;cases hn
 |some c =>
  rw[e]at hn;have hn:(match Db c p with | none=>none | some t=>some (t,FA c p))=some (t,r):=hn;have eB:Db c p=some t∧FA c p=r:=by
   cases h:Db c p with
   |none=>rw[h]at hn;cases hn
   |some t=>rw[h]at hn;cases hn;exact Zr
  have e1:Gt l=.tup [sl AA c,vb true]:=by unfold Gt Po;rw[e];rfl
  rw[e1]at hc;have pL:=Pa hl e;have hi:=iJ (EU.ptr [vs p]) c (fun x=>decide (x.path=p)) (fun x _=>lW x p) (by unfold CU at pL;omega);rcases Oi (p:=fun x:Tm=>decide (x.path=p)) c 0 with ⟨_,h2⟩ | ⟨i,x,h1,h2,h3⟩
  ·unfold Db at eB;rw[h2]at eB;cases eB.1
  have hx:x=t:=by
   have:=eB.1
   unfold Db at this;rw[h3]at this;exact B2 this
  subst hx;rw[h1,J3]at hi;obtain⟨pR,y8⟩:=Ap.1 h2;have wY:c.eraseIdx i=r:=by
   rw[←eB.2];exact MJ (HD (EF e)) pR (by rw[y8];exact GO eB.1)
  have rM:c.length-1=r.length:=by rw[←wY,List.length_eraseIdx_of_lt pR]
  have Dt:c≠[]:=fun h=>by subst h;simp at pR
  have yX:c.length≤1073741824:=pL;refine BV (Lh m9) [(13400,2000)] rfl Cs hm rfl Tryz.func182 (by kernel_rfl) rfl (Nz rfl) (by kernel_rfl) rfl ?_;refine Xi .pure (Xi _ (Yi (hc) ?_));refine Xi .pure (Xi _ (Yi (hi) ?_));refine Yi ?_ ?_
  ·intro h;have h:(i:Int)<0:=h;omega
  intro _;have hg:(c.map AA)[((i:Nat):Int).toNat]?=some (AA x):=by rw[Cn,AC,h2];rfl
  refine Xi (AA x) (Yi (Yi (Nn i) hg) (Yi rfl (Yi (Nz rfl) ?_)));refine Xi c.length (Xi 3 (Xi (c.map AA) (Yi rfl (Yi (oR c pL Dt) ?_))));refine Yi (Ii i (by omega)) ?_;refine Xi (c.length-1) (Xi ((c.eraseIdx i).map AA) (Yi rfl (Yi (s5 c i pR) ?_)));refine Yi (Nz rfl) ?_;refine Yi (by kernel_rfl) ?_;refine Yi (Nz rfl) ?_;have e2:AV.tup [.agg (AA x),.msl 2000 (c.length-1),vb true]=.tup [.agg (AA x),.msl 2000 r.length,vb true]:=by rw[rM]
  have e3:Aj [(2000,HO.arr 3 ((c.eraseIdx i).map AA))] Aa=Aj [(2000,.arr 3 (r.map AA))] Aa:=by rw[wY]
  exact Xi _ (Yi (.refl _) (Yi e2 e3))
abbrev ZN:Rk:=⟨[],[],[],[],[],[],[],[],[],[(24,9),(30,12)],[2,3,5,6]⟩
abbrev np(a b:List Tm)(p:ByteArray):AV:=.tup [sl AA (Bq a b p).1,vi (Bq a b p).2]
theorem UT{l r:List Tm}{p:ByteArray}{t:Tm}(h:Fc l p=some (t,r)):∃c,CE l=some c∧t∈c∧r=FA c p:=by
 unfold Fc at h;cases e:CE l with
 |none=>rw[e]at h;cases h
 |some c =>
  rw[e]at h;have h:(match Db c p with | none=>none | some t=>some (t,FA c p))=some (t,r):=h;cases e2:Db c p with
  |none=>rw[e2]at h;cases h
  |some u=>rw[e2]at h;cases h;exact⟨c,rfl,EY e2,rfl⟩
theorem UU{l r:List Tm}{p:ByteArray}{t:Tm}(hl:CU l)(h:Fc l p=some (t,r)):CU t.set∧CU r∧∀u∈r,CU u.set:=by
 obtain⟨c,h1,h2,rfl⟩:=UT h;have hs:=EF h1;refine⟨N3 (hs.canon t h2),?_,fun u hu=>N3 (hs.canon u (BI.1 hu).1)⟩
 have:=Pa hl h1
 have h3:(FA c p).length≤c.length:=BA _ _;unfold CU at *;omega
theorem dp{l c:List Tm}(h:CE l=some c):c.length≤l.length:=by
 have h1:=Np l l.length (Am _);rw[DA]at h1;have h2:c=(EO l).filter fun t=>!Gg t:=by
  unfold CE at h;split at h
  ·cases h
  ·exact(B2 h).symm
 have h3:c.length≤(EO l).length:=by rw[h2];exact BA _ _
 have h4:(EO l).length=(CK l).length:=by
  have:=(NI (Hx (Ht l)) (Hx (HD (Eg l)))).2 (IU l)
  exact this.length_eq.symm
 omega
theorem UV{l r:List Tm}{p:ByteArray}{t:Tm}(h:Fc l p=some (t,r)):r.length≤l.length:=by
 obtain⟨c,h1,h2,rfl⟩:=UT h;have h3:(FA c p).length≤c.length:=BA _ _
 have:=dp h1
 omega
theorem aO(a b:Bi):CU (OK a b):=by
 unfold CU;have:=HR (XP a b);omega
theorem sR(a b:List Tm)(p:ByteArray)(ha:a.length≤500000000)(hb:b.length≤500000000)(xp:∀t∈a,CU t.set)(jo:∀t∈b,CU t.set):PC 128 [sl AA a,sl AA b,vs p] (np a b p):=by
 have pK:CU a:=by unfold CU;omega
 have mr:CU b:=by unfold CU;omega
 have er:∀{l:List Tm} {e:Int},Bq a b p=(l,e)→np a b p=.tup [sl AA l,vi e]:=fun h=>by unfold np;rw[h]
 have e0:Hf (.tup [.v (.slice none 0 0),vi 1]) (.tup [.slice .none [],vi 1]):=Hf.tup ⟨.nil,.refl _,trivial⟩;cases h1:Fc a p with
 |none =>
  have hr:Bq a b p=([],1):=by unfold Bq;rw[h1]
  have c1:=di a p pK xp h1;cases h2:Fc b p with
  |none =>
   have c2:=di b p mr jo h2;refine Ps ZN Tryz.func128 rfl (Nz rfl) ?_;refine Xi .pure (Xi _ (Yi (c1) ?_));refine Yi (Nz rfl) ?_;refine Xi ⟨[(1,sl AA b),(2,vs p),(8,.ref 8 0),(9,.v (.slice none 0 0)),(10,vb false)],[(8,.cells TT)],Aa⟩ (Yi ⟨Z5,Z1,Fh,Tv⟩ ?_)
   refine Xi .pure (Xi _ (Yi (c2) ?_));refine Yi (Nz rfl) ?_;refine Xi ⟨[(8,.ref 8 0),(9,.v (.slice none 0 0)),(10,vb false),(11,.ref 11 0),(12,.v (.slice none 0 0)),(13,vb false)],[(8,.cells TT),(11,.cells TT)],Aa⟩ (Yi ⟨Z6,Z2,Fh,Tv⟩ ?_)
   exact e0.trans (.of_eq (er hr).symm)
  |some q2 =>
   obtain⟨t2,r2⟩:=q2;have c2:=dj b p mr jo h2;refine Ps ZN Tryz.func128 rfl (Nz rfl) ?_;refine Xi .pure (Xi _ (Yi (c1) ?_));refine Yi (Nz rfl) ?_;refine Xi ⟨[(1,sl AA b),(2,vs p),(8,.ref 8 0),(9,.v (.slice none 0 0)),(10,vb false)],[(8,.cells TT)],Aa⟩ (Yi ⟨Z5,Z1,Fh,Tv⟩ ?_)
   have z2:r2.length=(r2.map AA).length:=by rw[Lm]
   refine Xi (.gen [] 1) (Yi rfl (c2.imp ?_));intro v2 g2 q2;have ve:=q2.1;have vf:=q2.2;subst ve;subst vf;refine Yi (Nz rfl) ?_;refine Xi ⟨[(8,.ref 8 0),(9,.v (.slice none 0 0)),(10,vb false),(11,.ref 11 0),(12,.msl 12600 r2.length),(13,vb true)],[(8,.cells TT),(11,.cells (AA t2)),(12600,.arr 3 (r2.map AA))],Aa⟩ (Yi ⟨Z6,Z3,Fh,Tv⟩ ?_)
   refine Yi z2 ?_;exact e0.trans (.of_eq (er hr).symm)
 |some q1 =>
  obtain⟨t1,r1⟩:=q1;have c1:=dj a p pK xp h1;obtain⟨f1,f2,f3⟩:=UU pK h1;cases h2:Fc b p with
  |none =>
   have hr:Bq a b p=([],1):=by unfold Bq;rw[h1,h2]
   have c2:=di b p mr jo h2;refine Ps ZN Tryz.func128 rfl (Nz rfl) ?_;refine Xi (.gen [] 1) (Yi rfl (c1.imp ?_));intro v1 g1 q1;have u5:=q1.1;have jX:=q1.2;subst u5;subst jX;refine Yi (Nz rfl) ?_;refine Xi ⟨[(1,sl AA b),(2,vs p),(8,.ref 8 0),(9,.msl 11900 r1.length),(10,vb true)],[(8,.cells (AA t1)),(11900,.arr 3 (r1.map AA))],Aa⟩ (Yi ⟨Z5,Z2,Fh,Tv⟩ ?_)
   have z1:r1.length=(r1.map AA).length:=by rw[Lm]
   refine Yi z1 ?_;refine Xi .pure (Xi _ (Yi (c2) ?_));refine Yi (Nz rfl) ?_;refine Xi ⟨[(8,.ref 8 0),(9,.slice (.id 11900 3) (r1.map AA)),(10,vb true),(11,.ref 11 0),(12,.v (.slice none 0 0)),(13,vb false)],[(8,.cells (AA t1)),(11,.cells TT),(11900,.tok 3 (r1.map AA).length)],Aa⟩ (Yi ⟨Z6,Z3,Fh,Tv⟩ ?_)
   exact e0.trans (.of_eq (er hr).symm)
  |some q2 =>
   obtain⟨t2,r2⟩:=q2;have c2:=dj b p mr jo h2;obtain⟨g1,g2,g3⟩:=UU mr h2;refine Ps ZN Tryz.func128 rfl (Nz rfl) ?_;refine Xi (.gen [] 1) (Yi rfl (c1.imp ?_));intro v1 g1 q1;have u5:=q1.1;have jX:=q1.2;subst u5;subst jX;refine Yi (Nz rfl) ?_;refine Xi ⟨[(1,sl AA b),(2,vs p),(8,.ref 8 0),(9,.msl 11900 r1.length),(10,vb true)],[(8,.cells (AA t1)),(11900,.arr 3 (r1.map AA))],Aa⟩ (Yi ⟨Z5,Z2,Fh,Tv⟩ ?_)
   have z1:r1.length=(r1.map AA).length:=by rw[Lm]
   have z2:r2.length=(r2.map AA).length:=by rw[Lm]
   refine Yi z1 ?_;refine Xi (.gen [] 1) (Yi rfl (c2.imp ?_));intro v2 g2 q2;have ve:=q2.1;have vf:=q2.2;subst ve;subst vf;refine Yi (Nz rfl) ?_;refine Xi ⟨[(8,.ref 8 0),(9,.slice (.id 11900 3) (r1.map AA)),(10,vb true),(11,.ref 11 0),(12,.msl 12600 r2.length),(13,vb true)],[(8,.cells (AA t1)),(11,.cells (AA t2)),(11900,.tok 3 (r1.map AA).length),(12600,.arr 3 (r2.map AA))],Aa⟩ (Yi ⟨Z6,Z4,Fh,Tv⟩ ?_)
   refine Yi z2 ?_;refine Xi ⟨[(8,.ref 8 0),(9,.slice (.id 11900 3) (r1.map AA)),(11,.ref 11 0),(12,.slice (.id 12600 3) (r2.map AA))],[(8,.cells (AA t1)),(11,.cells (AA t2)),(11900,.tok 3 (r1.map AA).length),(12600,.tok 3 (r2.map AA).length)],Aa⟩ (Yi ⟨Z4,Z4,Fh,Tv⟩ ?_)
   have l1:=UV h1;have l2:=UV h2;have b1:De 3 (r2.map AA)∧(r1.map AA).length=(r1.map AA).length∧((r1.map AA).length+(r2.map AA).length)*48≤140737488355328∧(r1.map AA).length+(r2.map AA).length≤9223372036854775807 :=
    ⟨E9 (enc:=AA) (n:=3) (fun _=>rfl) r2,rfl,by rw[Lm,Lm];omega,by rw[Lm,Lm];omega⟩
   refine Yi b1 ?_;refine Yi (Nz rfl) (Yi (Nz rfl) ?_);refine Xi _ (Yi (sW t1 t2 f1 g1) ?_);have b2:De 3 [AA (C3 t1 t2)]∧(r1.map AA++r2.map AA).length=(r1.map AA).length+(r2.map AA).length∧((r1.map AA++r2.map AA).length+[AA (C3 t1 t2)].length)*48≤140737488355328∧(r1.map AA++r2.map AA).length+[AA (C3 t1 t2)].length≤9223372036854775807 :=
    ⟨⟨rfl,trivial⟩,by rw[Ac],by rw[Ac,Lm,Lm,A5];omega,by rw[Ac,Lm,Lm,A5];omega⟩
   refine Yi b2 ?_;have mo:=rr (r1++r2++[C3 t1 t2]) (by unfold CU;simp only[Ac,A5];omega) (fun u hu=>by
    rcases AL.1 hu with hu | hu
    ·rcases AL.1 hu with hu | hu
     ·exact f3 u hu
     ·exact g3 u hu
    ·rw[Ak.1 hu];exact aO _ _)
   have e1:sl AA (r1++r2++[C3 t1 t2])=.slice .none (r1.map AA++r2.map AA++[AA (C3 t1 t2)]):=by simp
   have wT:PC 183 [.slice .none (r1.map AA++r2.map AA++[AA (C3 t1 t2)])] (Gt (r1++r2++[C3 t1 t2])):=e1▸mo;cases nW:CE (r1++r2++[C3 t1 t2])with
   |none =>
    have hr:Bq a b p=([],8):=by unfold Bq;rw[h1,h2];dsimp only;rw[nW]
    have ec:Gt (r1++r2++[C3 t1 t2])=.tup [sl AA [],vb false]:=by unfold Gt Po;rw[nW];rfl
    have hc:PC 183 [.slice .none (r1.map AA++r2.map AA++[AA (C3 t1 t2)])] (.tup [sl AA [],vb false]):=ec▸wT;have e8:Hf (.tup [.v (.slice none 0 0),vi 8]) (.tup [.slice .none [],vi 8]):=Hf.tup ⟨.nil,.refl _,trivial⟩;refine Xi _ (Yi (hc) ?_);refine Yi (by kernel_rfl) ?_;refine Xi ⟨[(14,sl AA []),(15,vb false)],[],Aa⟩ (Yi ⟨Z2,Tv,Fh,Tv⟩ ?_)
    exact e8.trans (.of_eq (er hr).symm)
   |some o =>
    have hr:Bq a b p=(o,0):=by unfold Bq;rw[h1,h2];dsimp only;rw[nW]
    have ec:Gt (r1++r2++[C3 t1 t2])=.tup [sl AA o,vb true]:=by unfold Gt Po;rw[nW];rfl
    have hc:PC 183 [.slice .none (r1.map AA++r2.map AA++[AA (C3 t1 t2)])] (.tup [sl AA o,vb true]):=ec▸wT;refine Xi _ (Yi (hc) ?_);refine Yi (by kernel_rfl) ?_;refine Xi ⟨[(14,sl AA o),(15,vb true)],[],Aa⟩ (Yi ⟨Z2,Tv,Fh,Tv⟩ ?_)
    exact .of_eq (er hr).symm
def Zh(h s:Nat→HO):Nat→Bool
 |0=>true
 |n+1=>(match h (1000+n)with |.free=>true |_=>(match s (1000+n)with |.free=>false |_=>true))&&Zh h s n
theorem RK{h s:Nat→HO}:∀{n:Nat},Zh h s n=true→∀j,j<n→h (1000+j)≠.free→s (1000+j)≠.free
 |n+1,hd,j,hj,hn=>by
  simp only[Zh,Af]at hd;rcases Ez j n with h1 | h1
  ·exact RK hd.2 j h1 hn
  ·have:j=n:=by omega
   subst this
   have:=hd.1
   intro e;split at this
   ·rename_i q;exact hn q
   ·rw[e]at this;cases this
theorem Aw{h s:Nat→HO}(hd:Zh h s 1000=true):∀j,1000≤j→j<2000→h j≠.free→s j≠.free:=fun j h1 h2=>by
 have:=RK hd (j-1000) (by omega)
 rw[show 1000+(j-1000)=j by omega]at this;exact this
abbrev XS:List AV:=[vs ⟨#[]⟩,vi 0,vi 0,vi 0,.v (.slice none 0 0),vs ⟨#[]⟩,vs ⟨#[]⟩,vs ⟨#[]⟩,vb false]
abbrev UJ:Option Rl→AV
 |some r=>.tup [.agg (Ah r),vb true]
 |none=>.tup [.agg XS,vb false]
theorem jV(v:Ver):0≤plc v∧plc v<1000000:=by
 unfold plc;cases h:B8 v with
 |true=>exact Je h
 |false=>simp
abbrev lr(t:List Tm):Prop:=t.length≤500000000∧∀u∈t,CU u.set
theorem oM(s:ByteArray):PC 113 [vs s] (vb false):=by
 refine Ps Ga Tryz.func113 rfl (Nz rfl) ?_;refine Yi ?_ ?_
 ·intro h;exact absurd rfl (show s≠s from h)
 ·intro _;exact .refl _
theorem oP(z:Int):PC 167 [vi z] (vb false):=by
 refine Ps Ga Tryz.func167 rfl (Nz rfl) ?_;refine Yi ?_ ?_
 ·intro h;exact absurd rfl (show z≠z from h)
 ·intro _;exact .refl _
theorem sH(a b:ByteArray):PC 84 [vs a,vs b] (vi (JL a b)):=by
 refine Ps Ga Tryz.func84 rfl (Nz rfl) ?_;refine Xi .pure (Xi _ (Yi (oM a) ?_));refine Xi .pure (Xi _ (Yi (oM b) ?_));refine Yi ?_ ?_
 ·intro h;have h:Op.bytesLess a.toList b.toList=true:=h;exact .of_eq (Ad vi (show(-1:Int)=JL a b by unfold JL;rw[Ao (by rw[GM];exact h)]))
 ·intro h;have h:¬Op.bytesLess a.toList b.toList=true:=h;refine Yi ?_ ?_
  ·intro h2;have h2:Op.bytesLess b.toList a.toList=true:=h2;exact .of_eq (Ad vi (show(1:Int)=JL a b by unfold JL;rw[Ai (by rw[GM];exact h),Ao (by rw[GM];exact h2)]))
  ·intro h2;have h2:¬Op.bytesLess b.toList a.toList=true:=h2;exact .of_eq (Ad vi (show(0:Int)=JL a b by unfold JL;rw[Ai (by rw[GM];exact h),Ai (by rw[GM];exact h2)]))
theorem lQ(a b:Int):PC 114 [vi a,vi b] (vi (FG a b)):=by
 refine Ps Ga Tryz.func114 rfl (Nz rfl) ?_;refine Xi .pure (Xi _ (Yi (oP a) ?_));refine Xi .pure (Xi _ (Yi (oP b) ?_));refine Yi ?_ ?_
 ·intro h;have h:a<b:=h;exact .of_eq (Ad vi (show(-1:Int)=FG a b by unfold FG;rw[Ao h]))
 ·intro h;have h:¬a<b:=h;refine Yi ?_ ?_
  ·intro h2;have h2:b<a:=h2;exact .of_eq (Ad vi (show(1:Int)=FG a b by unfold FG;rw[Ai h,Ao h2]))
  ·intro h2;have h2:¬b<a:=h2;exact .of_eq (Ad vi (show(0:Int)=FG a b by unfold FG;rw[Ai h,Ai h2]))
theorem sG(a b:Int):PC 83 [.slice .none [[vi a],[vi b]]] (vi (if a≠0 then a else b)):=by
 refine Ps Ga Tryz.func83 rfl (Nz rfl) ?_;refine Xi {i:Nat // i≤2∧(0<i→a=0)∧(1<i→b=0)} (Xi (fun i=>⟨[(3,vi 0),(6,.slice .none [[vi a],[vi b]]),(7,vi 2),(8,vi i.1)],[],Aa⟩) (Xi (fun i=>2-i.1) (Yi (Xi ⟨0,by omega,by omega,by omega⟩ ?_) ?_)))
 ·exact⟨Z4,Tv,Fh,Tv⟩
 intro⟨i,h1,h2,h3⟩;refine Yi ?_ ?_
 ·intro h;have h:(i:Int)<2:=h
  match i,h1,h2,h3,h with
  |0,h1,h2,h3,h =>
   refine Xi [vi a] (Yi (Yi (BD _) rfl) (Yi rfl ?_));refine Yi ?_ ?_
   ·intro h4;have h4:a≠0:=h4;exact .of_eq (Ad vi (Ao h4).symm)
   ·intro h4;have h4:¬a≠0:=h4;refine Yi (Ii 0 (by omega)) ?_;refine Xi ⟨1,by omega,fun _=>by omega,fun q=>absurd q (by decide)⟩ ?_;exact⟨by show 2-1<2-0;decide,Z4,Tv,Fh,Tv⟩
  |1,h1,h2,h3,h =>
   have ha:=h2 (by decide);refine Xi [vi b] (Yi (Yi (by show(0:Int)≤1;decide) rfl) (Yi rfl ?_));refine Yi ?_ ?_
   ·intro h4;exact .of_eq (Ad vi (Ai (by omega)).symm)
   ·intro h4;have h4:¬b≠0:=h4;refine Yi (Ii 1 (by omega)) ?_;refine Xi ⟨2,by omega,fun _=>ha,fun q=>by omega⟩ ?_;exact⟨by show 2-2<2-1;decide,Z4,Tv,Fh,Tv⟩
  |i+2,h1,h2,h3,h=>omega
 ·intro h;have h:¬(i:Int)<2:=h;have ha:=h2 (by omega);have hb:=h3 (by omega);exact .of_eq (Ad vi (show(0:Int)=if a≠0 then a else b by rw[Ai (by omega),hb]))
theorem RD(a b:Ver)(i:Nat)(hi:i<3)(h:∀j,j<i→FG (part a j) (part b j)=0)(hn:FG (part a i) (part b i)≠0):NU a b=FG (part a i) (part b i):=by
 unfold NU
 match i,hi,h,hn with
 |0,_,_,hn=>exact Ao hn
 |1,_,h,hn =>
  have h0:FG a.a b.a=0:=h 0 (by decide);rw[Ai (by omega)];exact Ao hn
 |2,_,h,hn =>
  have h0:FG a.a b.a=0:=h 0 (by decide);have h1:FG a.b b.b=0:=h 1 (by decide);rw[Ai (by omega),Ai (by omega)];rfl
theorem dw(a b:Ver)(h:∀j,j<3→FG (part a j) (part b j)=0):NU a b=0:=by
 unfold NU;have h0:FG a.a b.a=0:=h 0 (by decide);have h1:FG a.b b.b=0:=h 1 (by decide);have h2:FG a.c b.c=0:=h 2 (by decide);rw[Ai (by omega),Ai (by omega),h2]
theorem sI(a b:Ver):PC 85 [.agg (FW a),.agg (FW b)] (vi (NU a b)):=by
 refine Ps Ga Tryz.func85 rfl (Nz rfl) ?_;refine Yi (Nz rfl) ?_;refine Xi _ (Yi (lO a) ?_);refine Yi (Nz rfl) ?_;refine Xi _ (Yi (lO b) ?_);refine Yi (Nz rfl) (Yi (Nz rfl) ?_);refine Yi (by kernel_rfl) ?_;refine Xi {i:Nat // i≤3∧∀j,j<i→FG (part a j) (part b j)=0} (Xi (fun i=>⟨[(5,.ref 5 0),(6,.ref 6 0),(13,vi i.1)],[(5,.cells (FW a)),(6,.cells (FW b))],Aa⟩) (Xi (fun i=>3-i.1) (Yi (Xi ⟨0,by omega,fun j h=>by omega⟩ ?_) ?_)))
 ·exact⟨Z3,Z2,Fh,Tv⟩
 intro⟨i,h1,h2⟩;refine Yi ?_ ?_
 ·intro h;have h:(i:Int)<3:=h;have next:FG (part a i) (part b i)=0→∀j,j<i+1→FG (part a j) (part b j)=0:=fun hz j hj=>by
   rcases Ez j i with q | q
   ·exact h2 j q
   ·have:j=i:=by omega
    subst this;exact hz
  match i,h1,h2,h,next with
  |0,h1,h2,h,next =>
   refine Yi ⟨by show(0:Int)≤0;decide,by show(0:Int)<3;decide⟩ ?_;refine Yi ⟨by show(0:Int)≤0;decide,by show(0:Int)<3;decide⟩ ?_;refine Xi _ (Yi (lQ (part a 0) (part b 0)) ?_);refine Yi (by kernel_rfl) ?_;refine Yi ?_ ?_
   ·intro h4;have h4:FG (part a 0) (part b 0)≠0:=h4;exact .of_eq (Ad vi (RD a b 0 (by decide) h2 h4).symm)
   ·intro h4;have h4:¬FG (part a 0) (part b 0)≠0:=h4;refine Yi (Ii 0 (by omega)) ?_;refine Xi ⟨1,by omega,next (FZ h4)⟩ ?_
    exact⟨by show 3-1<3-0;decide,Z3,Z2,Fh,Tv⟩
  |1,h1,h2,h,next =>
   refine Yi ⟨by show(0:Int)≤1;decide,by show(1:Int)<3;decide⟩ ?_;refine Yi ⟨by show(0:Int)≤1;decide,by show(1:Int)<3;decide⟩ ?_;refine Xi _ (Yi (lQ (part a 1) (part b 1)) ?_);refine Yi (by kernel_rfl) ?_;refine Yi ?_ ?_
   ·intro h4;have h4:FG (part a 1) (part b 1)≠0:=h4;exact .of_eq (Ad vi (RD a b 1 (by decide) h2 h4).symm)
   ·intro h4;have h4:¬FG (part a 1) (part b 1)≠0:=h4;refine Yi (Ii 1 (by omega)) ?_;refine Xi ⟨2,by omega,next (FZ h4)⟩ ?_
    exact⟨by show 3-2<3-1;decide,Z3,Z2,Fh,Tv⟩
  |2,h1,h2,h,next =>
   refine Yi ⟨by show(0:Int)≤2;decide,by show(2:Int)<3;decide⟩ ?_;refine Yi ⟨by show(0:Int)≤2;decide,by show(2:Int)<3;decide⟩ ?_;refine Xi _ (Yi (lQ (part a 2) (part b 2)) ?_);refine Yi (by kernel_rfl) ?_;refine Yi ?_ ?_
   ·intro h4;have h4:FG (part a 2) (part b 2)≠0:=h4;exact .of_eq (Ad vi (RD a b 2 (by decide) h2 h4).symm)
   ·intro h4;have h4:¬FG (part a 2) (part b 2)≠0:=h4;refine Yi (Ii 2 (by omega)) ?_;refine Xi ⟨3,by omega,next (FZ h4)⟩ ?_
    exact⟨by show 3-3<3-2;decide,Z3,Z2,Fh,Tv⟩
  |i+3,h1,h2,h,next=>omega
 ·intro h;have h:¬(i:Int)<3:=h;exact .of_eq (Ad vi (dw a b fun j hj=>h2 j (by omega)).symm)
theorem oG(a b:Rl):PC 60 [.agg (Ah a),.agg (Ah b)] (vi (DF a b)):=by
 refine Ps Ga Tryz.func60 rfl (Nz rfl) ?_;refine Xi _ (Yi (sH a.path b.path) ?_);refine Yi (Nz rfl) (Yi (Nz rfl) ?_);refine Xi _ (Yi (sI a.ver b.ver) ?_);refine Xi _ (Yi (sG (JL a.path b.path) (NU a.ver b.ver)) ?_);refine Yi (by kernel_rfl) ?_;exact .refl _
abbrev HF(s:ByteArray):Prop:=s.size≤1073741824
abbrev NH(q:Rq):Prop:=CU q.set∧HF q.path
abbrev KC(r:Rl):Prop:=HF r.path∧∀q∈r.reqs,NH q
abbrev Zy(nm:ByteArray→ByteArray)(p:ByteArray):AV:=match CC p with
 |some m=>.tup [vs (nm p),vi m,vi 0]
 |none=>.tup [vs ⟨#[]⟩,vi 0,vi 4]
abbrev Tw(nm:ByteArray→ByteArray):Prop:=∀p:ByteArray,HF p→PC 81 [vs p] (Zy nm p)
theorem Tw.none{nm:ByteArray→ByteArray}(h:Tw nm){p:ByteArray}(hp:HF p)(e:CC p=.none):PC 81 [vs p] (.tup [vs ⟨#[]⟩,vi 0,vi 4]):=by
 have:=h p hp;unfold Zy at this;rw[e]at this;exact this
theorem Tw.some{nm:ByteArray→ByteArray}(h:Tw nm){p:ByteArray}{m:Int}(hp:HF p)(e:CC p=.some m):PC 81 [vs p] (.tup [vs (nm p),vi m,vi 0]):=by
 have:=h p hp;unfold Zy at this;rw[e]at this;exact this
theorem oH{nm:ByteArray→ByteArray}(hL:Tw nm)(q:Rq)(hq:CU q.set)(hp:HF q.path):PC 112 [.agg (AN q),.v (.pointer none)] (vi (Gw none q)):=by
 cases Tr:CC q.path with
 |none =>
  have e:(4:Int)=Gw none q:=by unfold Gw;rw[Tr];rfl
  have hl:=hL.none hp Tr;refine Ps Ga Tryz.func112 rfl (Nz rfl) ?_;refine Xi .pure (Xi _ (Yi (hl) ?_));refine Yi ?_ ?_
  ·intro _;exact .of_eq (Ad vi e)
  ·intro h;exact absurd (show(4:Int)≠0 by decide) h
 |some m =>
  have er:Gw none q=if(q.set.isEmpty||!decide (q.set=canon q.set)||false)=true then 1 else 0:=by unfold Gw;rw[Tr];rfl
  have hl:=hL.some hp Tr;have hc:=Ww q.set hq;have he:=oK q.set (canon q.set) hq;have TG:∀{n:Int},n=(q.set.map Aq).length→n=0→q.set.isEmpty=true:=fun h1 h2=>by
   rw[Lm]at h1;rw[GA];exact AM (by omega)
  have eJ:¬((q.set.map Aq).length:Int)=0→q.set.isEmpty=false:=fun h=>by
   cases hqs:q.set with
   |nil=>rw[hqs]at h;exact absurd rfl h
   |cons a l=>rfl
  rcases Bt (decide (q.set=canon q.set))with h2 | h2
  ·rw[h2]at he;refine Ps (Jf [2,4]) Tryz.func112 rfl (Nz rfl) ?_;refine Xi .pure (Xi _ (Yi (hl) ?_));refine Xi ⟨[(1,.v (.pointer none)),(2,.ref 2 0),(7,vi 0)],[(2,.cells (AN q))],Aa⟩ (Yi ⟨Z3,Z1,Fh,Tv⟩ ?_)
   refine Yi ?_ ?_
   ·intro h;exact absurd rfl h
   intro _;refine Xi ⟨[(1,.v (.pointer none)),(2,.ref 2 0)],[(2,.cells (AN q))],Aa⟩ (Yi ⟨Z2,Z1,Fh,Tv⟩ ?_)
   refine Yi ?_ ?_
   ·intro h;have h:((q.set.map Aq).length:Int)=0:=h;have e:(1:Int)=Gw none q:=by rw[er,TG rfl h];rfl
    refine Yi (by kernel_rfl) ?_;exact .of_eq (Ad vi e)
   intro h;have h:¬((q.set.map Aq).length:Int)=0:=h;have hn:=eJ h;refine Xi _ (Yi (hc) ?_);refine Xi _ (Yi (he) ?_);refine Yi (by kernel_rfl) ?_;have e:(0:Int)=Gw none q:=by rw[er,hn,h2];rfl
   exact .of_eq (Ad vi e)
  ·rw[h2]at he;refine Ps (Jf [2,4]) Tryz.func112 rfl (Nz rfl) ?_;refine Xi .pure (Xi _ (Yi (hl) ?_));refine Xi ⟨[(1,.v (.pointer none)),(2,.ref 2 0),(7,vi 0)],[(2,.cells (AN q))],Aa⟩ (Yi ⟨Z3,Z1,Fh,Tv⟩ ?_)
   refine Yi ?_ ?_
   ·intro h;exact absurd rfl h
   intro _;refine Xi ⟨[(1,.v (.pointer none)),(2,.ref 2 0)],[(2,.cells (AN q))],Aa⟩ (Yi ⟨Z2,Z1,Fh,Tv⟩ ?_)
   refine Yi ?_ ?_
   ·intro h;have h:((q.set.map Aq).length:Int)=0:=h;have e:(1:Int)=Gw none q:=by rw[er,TG rfl h];rfl
    refine Yi (by kernel_rfl) ?_;exact .of_eq (Ad vi e)
   intro h;have h:¬((q.set.map Aq).length:Int)=0:=h;have hn:=eJ h;refine Xi _ (Yi (hc) ?_);refine Xi _ (Yi (he) ?_);refine Yi (by kernel_rfl) ?_;have e:(1:Int)=Gw none q:=by rw[er,hn,h2];rfl
   exact .of_eq (Ad vi e)
theorem oJ{nm:ByteArray→ByteArray}(hL:Tw nm)(q b:Rq)(hq:CU q.set)(hp:HF q.path):PC 112 [.agg (AN q),.cptr (AN b)] (vi (Gw (some b.path) q)):=by
 cases Tr:CC q.path with
 |none =>
  have e:(4:Int)=Gw (some b.path) q:=by unfold Gw;rw[Tr];rfl
  have hl:=hL.none hp Tr;refine Ps Ga Tryz.func112 rfl (Nz rfl) ?_;refine Xi .pure (Xi _ (Yi (hl) ?_));refine Yi ?_ ?_
  ·intro _;exact .of_eq (Ad vi e)
  ·intro h;exact absurd (show(4:Int)≠0 by decide) h
 |some m =>
  have er:Gw (some b.path) q=if(q.set.isEmpty||!decide (q.set=canon q.set)||!En b.path q.path)=true then 1 else 0:=by unfold Gw;rw[Tr];rfl
  have hl:=hL.some hp Tr;have hc:=Ww q.set hq;have he:=oK q.set (canon q.set) hq;have TG:∀{n:Int},n=(q.set.map Aq).length→n=0→q.set.isEmpty=true:=fun h1 h2=>by
   rw[Lm]at h1;rw[GA];exact AM (by omega)
  have eJ:¬((q.set.map Aq).length:Int)=0→q.set.isEmpty=false:=fun h=>by
   cases hqs:q.set with
   |nil=>rw[hqs]at h;exact absurd rfl h
   |cons a l=>rfl
  rcases Bt (decide (q.set=canon q.set))with h2 | h2
  ·rw[h2]at he;refine Ps (Jf [2,4]) Tryz.func112 rfl (Nz rfl) ?_;refine Xi .pure (Xi _ (Yi (hl) ?_));refine Xi ⟨[(1,.cptr (AN b)),(2,.ref 2 0),(7,vi 0)],[(2,.cells (AN q))],Aa⟩ (Yi ⟨Z3,Z1,Fh,Tv⟩ ?_)
   refine Yi ?_ ?_
   ·intro h;exact absurd rfl h
   intro _;refine Xi ⟨[(1,.cptr (AN b)),(2,.ref 2 0)],[(2,.cells (AN q))],Aa⟩ (Yi ⟨Z2,Z1,Fh,Tv⟩ ?_)
   refine Yi ?_ ?_
   ·intro h;have h:((q.set.map Aq).length:Int)=0:=h;have e:(1:Int)=Gw (some b.path) q:=by rw[er,TG rfl h];rfl
    refine Yi (by kernel_rfl) ?_;exact .of_eq (Ad vi e)
   intro h;have h:¬((q.set.map Aq).length:Int)=0:=h;have hn:=eJ h;refine Xi _ (Yi (hc) ?_);refine Xi _ (Yi (he) ?_);refine Yi ?_ ?_
   ·intro h3;have h3:Op.bytesLess b.path.toList q.path.toList=false:=h3;refine Yi (by kernel_rfl) ?_;have e:(1:Int)=Gw (some b.path) q:=by rw[er,hn,h2,GM,h3];rfl
    exact .of_eq (Ad vi e)
   ·intro h3;have h3:¬Op.bytesLess b.path.toList q.path.toList=false:=h3;have h3:Op.bytesLess b.path.toList q.path.toList=true:=by simpa using h3
    refine Yi (by kernel_rfl) ?_;have e:(0:Int)=Gw (some b.path) q:=by rw[er,hn,h2,GM,h3];rfl
    exact .of_eq (Ad vi e)
  ·rw[h2]at he;refine Ps (Jf [2,4]) Tryz.func112 rfl (Nz rfl) ?_;refine Xi .pure (Xi _ (Yi (hl) ?_));refine Xi ⟨[(1,.cptr (AN b)),(2,.ref 2 0),(7,vi 0)],[(2,.cells (AN q))],Aa⟩ (Yi ⟨Z3,Z1,Fh,Tv⟩ ?_)
   refine Yi ?_ ?_
   ·intro h;exact absurd rfl h
   intro _;refine Xi ⟨[(1,.cptr (AN b)),(2,.ref 2 0)],[(2,.cells (AN q))],Aa⟩ (Yi ⟨Z2,Z1,Fh,Tv⟩ ?_)
   refine Yi ?_ ?_
   ·intro h;have h:((q.set.map Aq).length:Int)=0:=h;have e:(1:Int)=Gw (some b.path) q:=by rw[er,TG rfl h];rfl
    refine Yi (by kernel_rfl) ?_;exact .of_eq (Ad vi e)
   intro h;have h:¬((q.set.map Aq).length:Int)=0:=h;have hn:=eJ h;refine Xi _ (Yi (hc) ?_);refine Xi _ (Yi (he) ?_);refine Yi (by kernel_rfl) ?_;have e:(1:Int)=Gw (some b.path) q:=by rw[er,hn,h2];rfl
   exact .of_eq (Ad vi e)
abbrev Ma(l:List Rq)(k:Nat):List AV:=((l.map AN)[k]?).getD []
abbrev oE(l:List Rq):Nat→AV
 |0=>.v (.pointer none)
 |k+1=>.cptr (Ma l k)
abbrev Kc(l:List Rq):Nat→Option ByteArray
 |0=>none
 |k+1=>(l[k]?).map (·.path)
theorem M2{l:List Rq}{k:Nat}(h:k<l.length):Ma l k=AN l[k]:=by
 unfold Ma;rw[AC,Ge h];rfl
theorem Rt{l:List Rq}{k:Nat}(h:k<l.length):Kc l (k+1)=some l[k].path:=by
 show(l[k]?).map _=_;rw[Ge h];rfl
theorem wz{nm:ByteArray→ByteArray}(hL:Tw nm)(l:List Rq)(hs:∀q∈l,NH q):PC 82 [sl AN l] (vi (BL l)):=by
 refine Ps (Jf [8]) Tryz.func82 rfl (Nz rfl) ?_;refine Yi ?_ ?_
 ·intro h;have h:(16:Int)<(l.map AN).length:=h;exact .of_eq (Ad vi (show(7:Int)=BL l by unfold BL;rw[Ao (by rw[Lm]at h;omega)]))
 intro h;have h:¬(16:Int)<(l.map AN).length:=h;have hl:l.length≤16:=by rw[Lm]at h;omega
 have Tq:BL l=FF none l:=by unfold BL;rw[Ai (by omega)]
 refine Xi {i:Nat // i≤l.length∧FF none l=FF (Kc l i) (l.drop i)} (Xi (fun i=>⟨[(0,sl AN l),(3,oE l i.1),(10,sl AN l),(11,vi (l.map AN).length),(12,vi i.1)],[],Aa⟩) (Xi (fun i=>l.length-i.1) (Yi (Xi ⟨0,AO _,rfl⟩ ?_) ?_)))
 ·exact⟨Z5,Tv,Fh,Tv⟩
 intro⟨i,h1,h2⟩;refine Yi ?_ ?_
 ·intro h;have h:(i:Int)<(l.map AN).length:=h;have h:i<l.length:=by simpa using h
  have hg:l[i]?=some l[i]:=Ge h;have hd:l.drop i=l[i]::l.drop (i+1):=Bl h;have hq:=hs l[i] (At h);have hc:PC 112 [.agg (AN l[i]),oE l i] (vi (Gw (Kc l i) l[i])):=by
   cases i with
   |zero=>exact oH hL _ hq.1 hq.2
   |succ k =>
    rw[Rt (by omega:k<l.length)];show PC 112 [_,.cptr (Ma l k)] _;rw[M2 (by omega:k<l.length)];exact oJ hL _ _ hq.1 hq.2
  have JO:FF none l=if Gw (Kc l i) l[i]=0 then FF (some l[i].path) (l.drop (i+1))else Gw (Kc l i) l[i]:=by rw[h2,hd];rfl
  match i,h1,h2,h,hg,hd,hc,JO with
  |0,h1,h2,h,hg,hd,hc,JO =>
   refine Xi (AN l[0]) (Yi (Yi (by show(0:Int)≤((0:Nat):Int);omega) (by simp[hg])) (Yi rfl ?_));refine Yi (Nz rfl) (Yi (Nz rfl) (Yi (Nz rfl) ?_));refine Xi .pure (Xi _ (Yi (hc) ?_));refine Xi ⟨[(0,sl AN l),(4,vi ((0:Nat):Int)),(6,vi (Gw (Kc l (0)) l[0])),(10,sl AN l),(11,vi (l.map AN).length),(12,vi ((0:Nat):Int))],[],Aa⟩ (Yi ⟨Z6,Tv,Fh,Tv⟩ ?_)
   refine Yi ?_ ?_
   ·intro h4;have h4:Gw (Kc l (0)) l[0]≠0:=h4;exact .of_eq (Ad vi (show Gw (Kc l (0)) l[0]=BL l by rw[Tq,JO,Ai h4]))
   ·intro h4;have h4:¬Gw (Kc l (0)) l[0]≠0:=h4;refine Xi (AN l[0]) (Yi (Yi (by show(0:Int)≤((0:Nat):Int);omega) (by simp[hg])) (Yi rfl ?_));refine Yi (by show BM (((0:Nat):Int)+1);unfold BM;omega) ?_;refine Xi ⟨0+1,by omega,by rw[JO,Ao (FZ h4),Rt h]⟩ ?_;have e1:AV.cptr (AN l[0])=.cptr (Ma l (0)):=by rw[M2 h]
    exact⟨by show l.length-(0+1)<l.length-(0);omega,⟨Zr,⟨e1,rfl⟩,Zr,Zr,Zr,Tv⟩,Tv,Fh,Tv⟩
  |k+1,h1,h2,h,hg,hd,hc,JO =>
   refine Xi (AN l[k+1]) (Yi (Yi (by show(0:Int)≤((k+1:Nat):Int);omega) (by simp[hg])) (Yi rfl ?_));refine Yi (Nz rfl) (Yi (Nz rfl) (Yi (Nz rfl) ?_));refine Xi .pure (Xi _ (Yi (hc) ?_));refine Xi ⟨[(0,sl AN l),(4,vi ((k+1:Nat):Int)),(6,vi (Gw (Kc l (k+1)) l[k+1])),(10,sl AN l),(11,vi (l.map AN).length),(12,vi ((k+1:Nat):Int))],[],Aa⟩ (Yi ⟨Z6,Tv,Fh,Tv⟩ ?_)
   refine Yi ?_ ?_
   ·intro h4;have h4:Gw (Kc l (k+1)) l[k+1]≠0:=h4;exact .of_eq (Ad vi (show Gw (Kc l (k+1)) l[k+1]=BL l by rw[Tq,JO,Ai h4]))
   ·intro h4;have h4:¬Gw (Kc l (k+1)) l[k+1]≠0:=h4;refine Xi (AN l[k+1]) (Yi (Yi (by show(0:Int)≤((k+1:Nat):Int);omega) (by simp[hg])) (Yi rfl ?_));refine Yi (by show BM (((k+1:Nat):Int)+1);unfold BM;omega) ?_;refine Xi ⟨k+1+1,by omega,by rw[JO,Ao (FZ h4),Rt h]⟩ ?_;have e1:AV.cptr (AN l[k+1])=.cptr (Ma l (k+1)):=by rw[M2 h]
    exact⟨by show l.length-(k+1+1)<l.length-(k+1);omega,⟨Zr,⟨e1,rfl⟩,Zr,Zr,Zr,Tv⟩,Tv,Fh,Tv⟩
 ·intro h;have h:¬(i:Int)<(l.map AN).length:=h;have h:¬i<l.length:=by simpa using h
  have e:(0:Int)=BL l:=by rw[Tq,h2,Tx (by omega)];rfl
  exact .of_eq (Ad vi e)
abbrev dB(r:Rl):Nat→ByteArray
 |0=>r.arch
 |1=>r.ifc
 |_=>r.cert
theorem l5{r:Rl}(h:∀j,j<3→EM (dB r j)=true):(EM r.arch&&EM r.ifc&&EM r.cert)=true:=by
 have h0:EM r.arch=true:=h 0 (by decide);have h1:EM r.ifc=true:=h 1 (by decide);have h2:EM r.cert=true:=h 2 (by decide);rw[h0,h1,h2];rfl
theorem Yf{r:Rl}{i:Nat}(hi:i<3)(h:EM (dB r i)=false):(EM r.arch&&EM r.ifc&&EM r.cert)=false:=by
 match i,hi,h with
 |0,_,h=>have h:EM r.arch=false:=h;rw[h];rfl
 |1,_,h=>have h:EM r.ifc=false:=h;rw[h,D4];rfl
 |2,_,h=>have h:EM r.cert=false:=h;rw[h,D4]
theorem su{nm:ByteArray→ByteArray}(hL:Tw nm)(r:Rl)(hr:KC r):PC 58 [.agg (Ah r)] (vi (DN r)):=by
 cases Tr:CC r.path with
 |none =>
  have e:(4:Int)=DN r:=by unfold DN;rw[Tr]
  have hl:=hL.none hr.1 Tr;refine Ps Ga Tryz.func58 rfl (Nz rfl) ?_;refine Xi .pure (Xi _ (Yi (hl) ?_));refine Yi ?_ ?_
  ·intro _;exact .of_eq (Ad vi e)
  ·intro h;exact absurd (show(4:Int)≠0 by decide) h
 |some m =>
  have er:DN r=if(!B8 r.ver||!decide (r.ver.a=m))=true then 2 else if BL r.reqs≠0 then BL r.reqs else if(EM r.arch&&EM r.ifc&&EM r.cert)=true then 0 else 1:=by unfold DN;rw[Tr]
  have hl:=hL.some hr.1 Tr;have hv:=lJ r.ver;have hc:=wz hL r.reqs hr.2;rcases Bt (B8 r.ver)with h2 | h2
  ·rw[h2]at hv;refine Ps (Jf [2,4,6,7,9]) Tryz.func58 rfl (Nz rfl) ?_;refine Xi .pure (Xi _ (Yi (hl) ?_));refine Xi ⟨[(1,.ref 1 0),(4,vi m),(5,vi 0)],[(1,.cells (Ah r))],Aa⟩ (Yi ⟨Z3,Z1,Fh,Tv⟩ ?_)
   refine Yi ?_ ?_
   ·intro h;exact absurd rfl h
   intro _;refine Xi ⟨[(1,.ref 1 0),(4,vi m)],[(1,.cells (Ah r))],Aa⟩ (Yi ⟨Z2,Z1,Fh,Tv⟩ ?_)
   refine Yi (Nz rfl) ?_;refine Xi .pure (Xi _ (Yi (hv) ?_));refine Yi ?_ ?_
   ·intro h;have h:r.ver.a≠m:=h;have e:(2:Int)=DN r:=by rw[er,h2,AG h];rfl
    exact .of_eq (Ad vi e)
   intro h;have h:¬r.ver.a≠m:=h;have h3:r.ver.a=m:=FZ h;have o7:DN r=if BL r.reqs≠0 then BL r.reqs else if(EM r.arch&&EM r.ifc&&EM r.cert)=true then 0 else 1:=by rw[er,h2,AE h3];rfl
   refine Xi ⟨[(1,.ref 1 0)],[(1,.cells (Ah r))],Aa⟩ (Yi ⟨Z1,Z1,Fh,Tv⟩ ?_)
   refine Xi .pure (Xi _ (Yi (hc) ?_));refine Xi ⟨[(1,.ref 1 0),(6,vi (BL r.reqs))],[(1,.cells (Ah r))],Aa⟩ (Yi ⟨Z2,Z1,Fh,Tv⟩ ?_)
   refine Yi ?_ ?_
   ·intro h4;have h4:BL r.reqs≠0:=h4;exact .of_eq (Ad vi (show BL r.reqs=DN r by rw[o7,Ao h4]))
   intro h4;have h4:¬BL r.reqs≠0:=h4;have rt:DN r=if(EM r.arch&&EM r.ifc&&EM r.cert)=true then 0 else 1:=by rw[o7,Ai h4]
   refine Xi ⟨[(1,.ref 1 0)],[(1,.cells (Ah r))],Aa⟩ (Yi ⟨Z1,Z1,Fh,Tv⟩ ?_)
   refine Xi {i:Nat // i≤3∧∀j,j<i→EM (dB r j)=true} (Xi (fun i=>⟨[(41,.slice (.id 41 1) [[vs r.arch],[vs r.ifc],[vs r.cert]]),(42,vi 3),(43,vi i.1)],[(41,.tok 1 3)],Aa⟩) (Xi (fun i=>3-i.1) (Yi (Xi ⟨0,by omega,fun j h=>by omega⟩ ?_) ?_)))
   ·exact⟨Z3,Z1,Fh,Tv⟩
   intro⟨i,i1,i2⟩;refine Yi ?_ ?_
   ·intro h;have h:(i:Int)<3:=h;have next:EM (dB r i)=true→∀j,j<i+1→EM (dB r j)=true:=fun hz j hj=>by
     rcases Ez j i with q | q
     ·exact i2 j q
     ·have:j=i:=by omega
      subst this;exact hz
    match i,i1,i2,h,next with
    |0,i1,i2,h,next =>
     refine Xi [vs r.arch] (Yi (Yi (by show(0:Int)≤0;decide) rfl) (Yi rfl ?_));refine Yi ?_ ?_
     ·intro h5;have h5:((r.arch.size:Nat):Int)≠0:=h5;refine Yi ?_ ?_
      ·intro h6;have h6:((r.arch.size:Nat):Int)≠32:=h6;have e:(1:Int)=DN r:=by rw[rt,Yf (i:=0) (by decide) (show EM r.arch=false by unfold EM;rw[AG (by omega),AG (by omega)];rfl)];rfl
       exact .of_eq (Ad vi e)
      ·intro h6;have h6:¬((r.arch.size:Nat):Int)≠32:=h6;refine Yi (Ii 0 (by omega)) ?_;refine Xi ⟨1,by omega,next (show EM r.arch=true by unfold EM;rw[AE (by omega:r.arch.size=32),Bool.or_true])⟩ ?_
       exact⟨by show 3-1<3-0;decide,Z3,Z1,Fh,Tv⟩
     ·intro h5;have h5:¬((r.arch.size:Nat):Int)≠0:=h5;refine Yi (Ii 0 (by omega)) ?_;refine Xi ⟨1,by omega,next (show EM r.arch=true by unfold EM;rw[AE (by omega:r.arch.size=0)];rfl)⟩ ?_
      exact⟨by show 3-1<3-0;decide,Z3,Z1,Fh,Tv⟩
    |1,i1,i2,h,next =>
     refine Xi [vs r.ifc] (Yi (Yi (by show(0:Int)≤1;decide) rfl) (Yi rfl ?_));refine Yi ?_ ?_
     ·intro h5;have h5:((r.ifc.size:Nat):Int)≠0:=h5;refine Yi ?_ ?_
      ·intro h6;have h6:((r.ifc.size:Nat):Int)≠32:=h6;have e:(1:Int)=DN r:=by rw[rt,Yf (i:=1) (by decide) (show EM r.ifc=false by unfold EM;rw[AG (by omega),AG (by omega)];rfl)];rfl
       exact .of_eq (Ad vi e)
      ·intro h6;have h6:¬((r.ifc.size:Nat):Int)≠32:=h6;refine Yi (Ii 1 (by omega)) ?_;refine Xi ⟨2,by omega,next (show EM r.ifc=true by unfold EM;rw[AE (by omega:r.ifc.size=32),Bool.or_true])⟩ ?_
       exact⟨by show 3-2<3-1;decide,Z3,Z1,Fh,Tv⟩
     ·intro h5;have h5:¬((r.ifc.size:Nat):Int)≠0:=h5;refine Yi (Ii 1 (by omega)) ?_;refine Xi ⟨2,by omega,next (show EM r.ifc=true by unfold EM;rw[AE (by omega:r.ifc.size=0)];rfl)⟩ ?_
      exact⟨by show 3-2<3-1;decide,Z3,Z1,Fh,Tv⟩
    |2,i1,i2,h,next =>
     refine Xi [vs r.cert] (Yi (Yi (by show(0:Int)≤2;decide) rfl) (Yi rfl ?_));refine Yi ?_ ?_
     ·intro h5;have h5:((r.cert.size:Nat):Int)≠0:=h5;refine Yi ?_ ?_
      ·intro h6;have h6:((r.cert.size:Nat):Int)≠32:=h6;have e:(1:Int)=DN r:=by rw[rt,Yf (i:=2) (by decide) (show EM r.cert=false by unfold EM;rw[AG (by omega),AG (by omega)];rfl)];rfl
       exact .of_eq (Ad vi e)
      ·intro h6;have h6:¬((r.cert.size:Nat):Int)≠32:=h6;refine Yi (Ii 2 (by omega)) ?_;refine Xi ⟨3,by omega,next (show EM r.cert=true by unfold EM;rw[AE (by omega:r.cert.size=32),Bool.or_true])⟩ ?_
       exact⟨by show 3-3<3-2;decide,Z3,Z1,Fh,Tv⟩
     ·intro h5;have h5:¬((r.cert.size:Nat):Int)≠0:=h5;refine Yi (Ii 2 (by omega)) ?_;refine Xi ⟨3,by omega,next (show EM r.cert=true by unfold EM;rw[AE (by omega:r.cert.size=0)];rfl)⟩ ?_
      exact⟨by show 3-3<3-2;decide,Z3,Z1,Fh,Tv⟩
    |i+3,i1,i2,h,next=>omega
   ·intro h;have h:¬(i:Int)<3:=h;have e:(0:Int)=DN r:=by rw[rt,Ao (l5 fun j hj=>i2 j (by omega))]
    exact .of_eq (Ad vi e)
  ·rw[h2]at hv;have e:(2:Int)=DN r:=by rw[er,h2];rfl
   refine Ps (Jf [2,4]) Tryz.func58 rfl (Nz rfl) ?_;refine Xi .pure (Xi _ (Yi (hl) ?_));refine Xi ⟨[(1,.ref 1 0),(4,vi m),(5,vi 0)],[(1,.cells (Ah r))],Aa⟩ (Yi ⟨Z3,Z1,Fh,Tv⟩ ?_)
   refine Yi ?_ ?_
   ·intro h;exact absurd rfl h
   intro _;refine Xi ⟨[(1,.ref 1 0),(4,vi m)],[(1,.cells (Ah r))],Aa⟩ (Yi ⟨Z2,Z1,Fh,Tv⟩ ?_)
   refine Yi (Nz rfl) ?_;refine Xi .pure (Xi _ (Yi (hv) ?_));exact .of_eq (Ad vi e)
theorem mT{a b:Rl}(h:a.path=b.path∧a.ver.a=b.ver.a∧a.ver.b=b.ver.b∧a.ver.c=b.ver.c):FJ a=FJ b:=by
 unfold FJ;obtain⟨h1,h2,h3,h4⟩:=h
 have:a.ver=b.ver:=by
  cases ha:a.ver;cases hb:b.ver;rw[ha,hb]at h2 h3 h4;simp_all
 rw[h1,this]
theorem bu{a b:Rl}(h:FJ a=FJ b):a.path=b.path∧a.ver.a=b.ver.a∧a.ver.b=b.ver.b∧a.ver.c=b.ver.c:=by
 unfold FJ at h
 injection h with h1 h2
 exact⟨h1,by rw[h2],by rw[h2],by rw[h2]⟩
abbrev iD(x:List Rl):Nat→Option Rl
 |0=>none
 |k+1=>x[k]?
theorem ks{nm:ByteArray→ByteArray}(hL:Tw nm)(x:List Rl)(ifs:List (List AV))(hs:∀r∈x,KC r):PC 37 [.agg (Ic x ifs)] (vi (AX x)):=by
 refine Ps (Jf [7,9,11,13]) Tryz.func37 rfl (Nz rfl) ?_;refine Yi ?_ ?_
 ·intro h;have h:(256:Int)<(x.map Ah).length:=h;exact .of_eq (Ad vi (show(7:Int)=AX x by unfold AX;rw[Ao (by rw[Lm]at h;omega)]))
 intro h;have h:¬(256:Int)<(x.map Ah).length:=h;have hl:x.length≤256:=by rw[Lm]at h;omega
 have Tq:AX x=Ep none x:=by unfold AX;rw[Ai (by omega)]
 refine Xi {i:Nat // i≤x.length∧Ep none x=Ep (iD x i) (x.drop i)} (Xi (fun i=>⟨[(1,.ref 1 0),(12,sl Ah x),(13,vi (x.map Ah).length),(14,vi i.1)],[(1,.cells (Ic x ifs))],Aa⟩) (Xi (fun i=>x.length-i.1) (Yi (Xi ⟨0,AO _,rfl⟩ ?_) ?_)))
 ·exact⟨Z4,Z1,Fh,Tv⟩
 intro⟨i,h1,h2⟩;refine Yi ?_ ?_
 ·intro h;have h:(i:Int)<(x.map Ah).length:=h;have h:i<x.length:=by simpa using h
  have hg:x[i]?=some x[i]:=Ge h;have hd:x.drop i=x[i]::x.drop (i+1):=Bl h;have hc:=su hL x[i] (hs x[i] (At h));have JO:Ep none x=if DN x[i]≠0 then DN x[i]else match iD x i with
   |none=>Ep (some x[i]) (x.drop (i+1))
   |some b=>if FJ b=FJ x[i]then 5 else if 0<DF b x[i]then 1 else Ep (some x[i]) (x.drop (i+1)):=by rw[h2,hd];rfl
  have kO:iD x (i+1)=some x[i]:=Ge h;refine Xi (Ah x[i]) (Yi (Yi (Nn i) (by simp[hg])) (Yi rfl ?_));refine Yi (Nz rfl) (Yi (Nz rfl) (Yi (Nz rfl) ?_));refine Xi .pure (Xi _ (Yi (hc) ?_));refine Xi ⟨[(1,.ref 1 0),(3,vi i),(4,.ref 4 0),(5,vi (DN x[i])),(12,sl Ah x),(13,vi (x.map Ah).length),(14,vi i)],[(1,.cells (Ic x ifs)),(4,.cells (Ah x[i]))],Aa⟩ (Yi ⟨Z7,Z2,Fh,Tv⟩ ?_)
  refine Yi ?_ ?_
  ·intro h4;have h4:DN x[i]≠0:=h4;exact .of_eq (Ad vi (show DN x[i]=AX x by rw[Tq,JO,Ao h4]))
  intro h4;have h4:¬DN x[i]≠0:=h4;refine Xi ⟨[(1,.ref 1 0),(3,vi i),(4,.ref 4 0),(12,sl Ah x),(13,vi (x.map Ah).length),(14,vi i)],[(1,.cells (Ic x ifs)),(4,.cells (Ah x[i]))],Aa⟩ (Yi ⟨Z6,Z2,Fh,Tv⟩ ?_)
  refine Yi ?_ ?_
  ·intro h5;have h5:(i:Int)=0:=h5;have h6:i=0:=by omega
   refine Yi (Ii i (by omega)) ?_;refine Xi ⟨i+1,by omega,by rw[JO,Ai h4,kO];subst h6;rfl⟩ ?_;exact⟨Dl x.length i (by omega),Z4,Z1,Fh,Tv⟩
  intro h5;have h5:¬(i:Int)=0:=h5;have y6:i-1<x.length:=by omega
  have hb:iD x i=some x[i-1]:=by
   obtain⟨k,rfl⟩:∃k,i=k+1:=⟨i-1,by omega⟩;exact Ge (by omega)
  have mw:Ep none x=if FJ x[i-1]=FJ x[i]then 5 else if 0<DF x[i-1] x[i]then 1 else Ep (some x[i]) (x.drop (i+1)):=by rw[JO,Ai h4,hb]
  refine Yi (by show BM ((i:Int)-1);unfold BM;omega) ?_;have TH:(x.map Ah)[((i:Int)-1).toNat]?=some (Ah x[i-1]):=by rw[show((i:Int)-1).toNat=i-1 by omega];exact Dp (Ge y6)
  refine Xi (Ah x[i-1]) (Yi (Yi (by show(0:Int)≤(i:Int)-1;omega) TH) (Yi rfl ?_));refine Yi (Nz rfl) (Yi (Nz rfl) ?_);refine Xi ⟨[(1,.ref 1 0),(4,.ref 4 0),(6,.ref 6 0),(12,sl Ah x),(13,vi (x.map Ah).length),(14,vi i)],[(1,.cells (Ic x ifs)),(4,.cells (Ah x[i])),(6,.cells (Ah x[i-1]))],Aa⟩ (Yi ⟨Z6,Z3,Fh,Tv⟩ ?_)
  refine Yi (Nz rfl) ?_;refine Xi _ (Yi (lM x[i-1]) ?_);refine Yi (Nz rfl) ?_;refine Xi _ (Yi (lM x[i]) ?_);refine Yi ?_ ?_
  ·intro h6;refine Yi (by kernel_rfl) ?_;have e:(5:Int)=AX x:=by rw[Tq,mw,Ao (mT ⟨h6.1,h6.2.1,h6.2.2.1,h6.2.2.2.1⟩)]
   exact .of_eq (Ad vi e)
  intro h6;refine Yi (by kernel_rfl) ?_;have h7:¬FJ x[i-1]=FJ x[i]:=fun e=>by
   have e:=bu e;exact h6 ⟨e.1,e.2.1,e.2.2.1,e.2.2.2,trivial⟩
  refine Xi ⟨[(1,.ref 1 0),(4,.ref 4 0),(6,.ref 6 0),(12,sl Ah x),(13,vi (x.map Ah).length),(14,vi i)],[(1,.cells (Ic x ifs)),(4,.cells (Ah x[i])),(6,.cells (Ah x[i-1]))],Aa⟩ (Yi ⟨Z6,Z3,Fh,Tv⟩ ?_)
  refine Yi (Nz rfl) (Yi (Nz rfl) ?_);refine Xi .pure (Xi _ (Yi (oG x[i-1] x[i]) ?_));refine Yi ?_ ?_
  ·intro h8;have h8:(0:Int)<DF x[i-1] x[i]:=h8;have e:(1:Int)=AX x:=by rw[Tq,mw,Ai h7,Ao h8]
   exact .of_eq (Ad vi e)
  ·intro h8;have h8:¬(0:Int)<DF x[i-1] x[i]:=h8;refine Yi (Ii i (by omega)) ?_;refine Xi ⟨i+1,by omega,by rw[mw,Ai h7,Ai h8,kO]⟩ ?_;exact⟨Dl x.length i (by omega),Z4,Z1,Fh,Tv⟩
 ·intro h;have h:¬(i:Int)<(x.map Ah).length:=h;have h:¬i<x.length:=by simpa using h
  have e:(0:Int)=AX x:=by rw[Tq,h2,Tx (by omega)];rfl
  exact .of_eq (Ad vi e)
end Go.Eng
