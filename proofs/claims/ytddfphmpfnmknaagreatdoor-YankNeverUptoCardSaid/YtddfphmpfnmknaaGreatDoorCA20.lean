/- Lemmas for the claims of this seat, without a condition: part 20 (C25, C26, C27, C28, C29, C30, C31, C32, C33, C34, C35, C36, C37). -/
import Derived.Test.YtddfphmpfnmknaaGreatDoorCA19
import Derived.Shelf.Slices.Delete
namespace Go.Eng
open Go.Proofs Go.Shelf Go.RowKit Go.Lib Go.Sort
theorem nT(F:Array Value)(i n:Nat)(hF:F.size=n*3)(hi:i<n)(z:List Value)(hz:z.length=3):(lay (lay F (i*3) (F.toList.drop ((i+1)*3))) ((n-1)*3) z).toList=F.toList.take (i*3)++F.toList.drop ((i+1)*3)++z:=by
 have l1:(F.toList.take (i*3)).length=i*3:=by simp;omega
 have l2:(F.toList.drop ((i+1)*3)).length=(n-(i+1))*3:=by simp;omega
 apply CU
 intro t
 rw[A1,lay_get? _ _ _ _ (by rw[Lib.lay_size];omega),lay_get? _ _ _ _ (by rw[l2];omega)]
 rw[hz,l2]
 by_cases c1:t<i*3
 ·rw[Ah (by omega),Ah (by omega),AX (by rw[Ad];omega),AX (by omega),Jv,Ao c1,A1]
 ·by_cases c2:t<(n-1)*3
  ·rw[Ah (by omega),Ao (by omega),AX (by rw[Ad];omega),AZ (by omega),l1]
  ·rw[AZ (by rw[Ad];omega),Ad,l1,l2]
   by_cases c3:t<n*3
   ·rw[Ao (by omega)];congr 1;omega
   ·rw[Ah (by omega),Ah (by omega),TW (by omega),A2 (by omega)]
abbrev jc:List Value:=[.string ⟨#[]⟩,.bool false,.slice none 0 0]
set_option maxHeartbeats 4000000 in
set_option maxRecDepth 1000000 in
theorem eI(w:World)(b cap i n:Nat)(F:Array Value)(hF:F.size=n*3)(hi:i<n)(OF:n≤cap)(hH:Holds id w b 0 F)(h1:∀x∈F.toList,x.oneCell'=true) :
  Calls Tryz.prog 212 #[.slice (some ⟨b,0,none⟩) n cap,.int .i64 i,.int .i64 ((i:Int)+1)] w fun e w'=>e=.returned (.slice (some ⟨b,0,none⟩) (n-1) cap) ∧
   w'=putRow id (Sort.ahead w 1) b 0 (lay (lay F (i*3) (F.toList.drop ((i+1)*3))) ((n-1)*3) jc):=by
 obtain⟨i0,uS,nN⟩:∃i0,Tryz.prog.info? 198=some i0∧i0.size=3:=by
  obtain⟨i,z,h1,_,h2,_⟩:=Hm (P:=Tryz.prog) (T:=l5) Co (e:=198) (n:=2) (by kernel_rfl)
  exact⟨i,h1,h2.trans (by kernel_rfl)⟩
 obtain⟨news,IL⟩:∃news,news=F.toList.drop ((i+1)*3):=⟨_,rfl⟩
 have Cn:news.length=(n-(i+1))*3:=by rw[IL];simp;omega
 have Fc:∀t,t<(n-(i+1))*3→news[t]?=some F[(i+1)*3+t]!:=by
  intro t ht
  rw[IL,Dp,A1,Dq F ((i+1)*3+t) (by omega),Bi (by omega)]
 obtain⟨A,hA,cd⟩:∃A:Addr,(if cap=i+1 then some (⟨b,0,none⟩:Addr)else some ⟨b,(i+1)*3,none⟩)=some A∧Hid (∀t u,news[t]?=some u→w.drew.cell? (A.add t)=some u):=by
  by_cases h:cap=i+1
  ·refine⟨⟨b,0,none⟩,by simp[h],fun t u hu=>?_⟩
   have h0:news.length=0:=by rw[Cn];omega
   rw[List.length_eq_zero_iff.1 h0]at hu
   simp at hu
  ·refine⟨⟨b,(i+1)*3,none⟩,by simp[h],fun t u hu=>?_⟩
   have ht:t<(n-(i+1))*3:=by
    have:=(Ap.1 hu).1
    rwa [Cn]at this
   rw[Fc t ht]at hu
   rw[Addr.add_lit]
   have:=(hH ((i+1)*3+t) (by omega)).1
   rw[Be]at this
   exact this.trans hu
 have s1:Hid (news.length=(n-(i+1))*3):=Cn
 have s2:Hid (∀u∈news,u.oneCell'=true):=by
  intro u hu
  rw[IL]at hu
  exact h1 u (Ih hu)
 have s3:Hid (∀t,t<news.length→(w.drew.cell? ⟨b,0+i*3+t,none⟩).isSome=true∧w.drew.frozen? ⟨b,0+i*3+t,none⟩=false):=by
  intro t ht
  rw[Cn]at ht
  have:=hH (i*3+t) (by omega)
  rw[Gq]
  exact⟨by show(w.cell? _).isSome=true;rw[this.1];rfl,this.2⟩
 obtain⟨W1,uv⟩:∃W1,W1=w.drew.setCells b (0+i*3) news:=⟨_,rfl⟩
 have nf : W1=putRow id (Sort.ahead w 1) b 0 (lay F (i*3) news):=by
  have:=putRow_setCells id (Sort.ahead w 1) b 0 news F (i*3) (by omega)
  rw[putRow_self id (Sort.ahead w 1) b 0 F (holds_ahead id w 1 b 0 F hH),JD]at this
  rw[uv,←this]
  rfl
 have um:Holds id W1 b 0 (lay F (i*3) news):=by rw[nf];exact holds_putRow id _ b 0 F _ (holds_ahead id w 1 b 0 F hH) (Lib.lay_size _ _ _)
 have Jf:(storeCells ⟨b,0+(n-1)*3,none⟩ jc 0).run Tryz.prog W1=.ok () (W1.setCells b (0+(n-1)*3) jc):=by
  have:=run_storeCells_cells (P:=Tryz.prog) b (0+(n-1)*3) jc 0 W1 (fun j hj=>by
   have hj:j<3:=hj
   have:=um ((n-1)*3+j) (by rw[Lib.lay_size];omega)
   rw[show 0+(n-1)*3+0+j=0+((n-1)*3+j) by omega,this.1];rfl) (fun j hj=>by
   have hj:j<3:=hj
   have:=um ((n-1)*3+j) (by rw[Lib.lay_size];omega)
   rw[show 0+(n-1)*3+0+j=0+((n-1)*3+j) by omega];exact this.2) (fun v hv=>by
   simp only[Av,LA,or_false]at hv
   rcases hv with rfl | rfl | rfl<;>rfl)
  exact this
 have hcl:∀ty c,(Builtin.clear_ #[168] ty #[.slice (some ⟨b,(n-1)*3,none⟩) 1 c]).run Tryz.prog W1=.ok (.tuple #[]) (W1.setCells b (0+(n-1)*3) jc):=fun ty c=>by
  have hv:=Tryz.zeroValue198
  rw[Be]at Jf⊢
  have hz:(Builtin.zeroCells (Value.agg #[Value.string { data:=#[] },Value.bool false,Value.slice none 0 0]).cells 1).toList=jc:=by kernel_rfl
  simp[Builtin.clear_,run_underlying Tryz.underlying168,hv,hz,Jf]
 have zF:∀ty,(Builtin.clear_ #[168] ty #[.slice (some ⟨b,(i+(n-(i+1)))*3,none⟩) (n-(i+(n-(i+1)))) (cap-(i+(n-(i+1))))]).run Tryz.prog W1=.ok (.tuple #[]) (W1.setCells b (0+(n-1)*3) jc):=fun ty=>by
  have e1:i+(n-(i+1))=n-1:=by omega
  have e2:n-(n-1)=1:=by omega
  rw[e1,e2];exact hcl ty _
 have X:Aside (W1=putRow id (Sort.ahead w 1) b 0 (lay F (i*3) news)):=nf
 have hW:Hid (W1=w.drew.setCells b (0+i*3) news):=uv
 have Y:Aside (news=F.toList.drop ((i+1)*3)):=IL
 have Z:Aside (news.length=(n-(i+1))*3):=Cn
 have qA:i≤cap:=by omega
 have hjc:i+1≤cap:=by omega
 have mixed:=Go.Eng.hm
 have xF:(0:Int)≤(i:Int)+1:=by omega
 have SE:(i:Int)+1≤(n:Int):=by omega
 clear uv nf um hH Fc IL Cn Jf hcl
 go_enter Tryz.func212,Tryz.ntmps212
 go_wp2_with fail
 go_region_law_o (refine step_append_room rfl (.tmp 22) (.tmp 25) 168 rfl 198 i0 3 Tryz.underlying168 uS nN b 0 i cap (by simp[Act.eval,Act.put]) A (n-(i+1)) (cap-(i+1)) news (by simp[Act.eval,Act.put]) s1.out cd.out s2.out (by omega) s3.out ?_;rw[←hW.out])
 go_wp2
 go_ret
 refine⟨by rw[show i+(n-(i+1))=n-1 by omega];rfl,?_⟩
 rw[X.out]
 have e1:=Y.out
 have e2:=Z.out
 rw[←e1]
 have:=putRow_setCells id (Sort.ahead w 1) b 0 jc (lay F (i*3) news) ((n-1)*3) (by rw[Lib.lay_size];show _+3≤_;omega)
 rw[JD,Be]at this
 exact this
abbrev Uk:List AV:=[Go.Eng.vs ⟨#[]⟩,vb false,.v (.slice none 0 0)]
theorem tZ(l:List Tm)(i:Nat)(hi:i<l.length) :
  A3 Tryz.prog 212 [.msl 1000 l.length,vi i,vi ((i:Int)+1)] (Ai [(1000,.arr 3 (l.map AB))] Aa) fun r h'=>r=.msl 2000 (l.length-1)∧h'=Ai [(1000,.dead),(2000,.arr 3 ((l.eraseIdx i).map AB))] Aa:=by
 have hE:F3 Tryz.prog 212:=dD 212 Tryz.func212 (by kernel_rfl) rfl
 have Cn:(l.eraseIdx i).length=l.length-1:=List.length_eraseIdx_of_lt hi
 have G8:=Up (P:=Tryz.prog) (f:=212) (es:=l.map AB) (sz:=3) (rest:=[.int .i64 i,.int .i64 ((i:Int)+1)]) (n':=l.length-1) (Q:=fun Fy=>Fy=(l.eraseIdx i).map AB++[Uk]) hE (fun e=>by
  rw[D5]at e;subst e;simp at hi) (by rw[A4];omega) ?_
 ·rw[A4]at G8
  refine⟨hE,fun g w vals q1 q2 q3=>(G8.2 g w vals q1 q2 q3).mono fun _ _ ⟨v,r,h',g',e1,⟨e2,Fy,p1,p2⟩,rest⟩=>⟨v,r,h',g',e1,⟨e2,by rw[p2,p1,G2 (by rw[A4,Cn];exact Al _),AG (by rw[A4,Cn];exact Al _)]⟩,rest⟩⟩
 ·intro g w b cap F hr hF hH hb hc
  rw[A4]at hF hc⊢
  have hu:∀e∈l.map AB,e.length=3:=fun e he=>by
   obtain⟨t,_,rfl⟩:=Aj.1 he;rfl
  refine(eI w b cap i l.length F hF hi hc hH hr.2.1).mono ?_
  rintro e w' ⟨rfl,rfl⟩
  refine⟨rfl,_,_,1,#[],?_,rfl,?_,fun cs hcs=>?_,fun g w hr=>?_,rfl⟩
  ·rw[Lib.lay_size,Lib.lay_size]
  ·rw[Ad,A4,Cn,A6];omega
  ·rcases AU.1 hcs with h | h
   ·obtain⟨t,_,rfl⟩:=Aj.1 h;rfl
   ·rw[Am.1 h];rfl
  ·rw[nT F i l.length hF hi jc rfl,List.eraseIdx_eq_take_drop_succ,Cv,Ax,Cv,List.map_take,List.map_drop,←K5 _ i hu,←Ow _ (i+1) hu]
   refine Ct.append (Ct.append (hr.take _) (hr.drop _)) ?_
   exact MP g w Fg jc fun x hx=>by
    simp only[Av,LA,or_false]at hx
    rcases hx with rfl | rfl | rfl<;>rfl
end Go.Eng
namespace Go.Eng
open Go.Proofs
theorem pJ(l:List Tm)(hl:CO l)(Dr:l≠[]):A3 Tryz.prog 213 [sl AB l] (Ai [] Aa) fun r h'=>r=.msl 2000 l.length∧h'=Ai [(2000,.arr 3 (l.map AB))] Aa:=by
 refine BX (LC (yt [(5,3)] [])) [(5,2000)] rfl Co hm rfl Tryz.func213 (by kernel_rfl) rfl (Nz rfl) (by kernel_rfl) rfl ?_;have He:De 3 (l.map AB)∧([]:List (List AV)).length=0∧(([]:List (List AV)).length+(l.map AB).length)*48≤140737488355328∧([]:List (List AV)).length+(l.map AB).length≤9223372036854775807:=by
  refine⟨Fi (enc:=AB) (n:=3) (fun _=>rfl) l,rfl,?_,?_⟩<;>simp only[AE,Lm]<;>unfold CO at hl<;>omega
 refine Yi ?_ ?_
 ·intro _;refine Yi He ?_;have e1:AV.msl 2000 (([]:List (List AV)).length+(l.map AB).length)=.msl 2000 l.length:=by simp
  refine Xi (.msl 2000 (([]:List (List AV)).length+(l.map AB).length)) (Yi (.refl _) (Yi e1 ?_))
  rfl
 ·intro h;have h:l.map AB=[]:=h;exact absurd (D5.1 h) Dr
theorem mP(x:Tm)(p:ByteArray):PC 211 [.agg (AB x),.cptr [vs p]] (vb (decide (x.path=p))):=by
 refine Ps Gl Tryz.func211 rfl (Nz rfl) ?_;refine Yi ?_ ?_
 ·intro h;have h:x.path=p:=h;rw[AA h];exact .refl _
 ·intro h;have h:¬x.path=p:=h;rw[Ay h];exact .refl _
theorem M3{p:ByteArray}:∀{c:List Tm} {i:Nat},(Ev c).Nodup→∀(hi:i<c.length),c[i].path=p→c.eraseIdx i=FH c p
 |t::c,0,hn,_,h=>by
  have h:t.path=p:=h;unfold Ev at hn;rw[AH,CI]at hn;unfold FH;rw[BN,Ah (by simp[h])];show c=_;rw[List.filter_eq_self.2 fun u hu=>by
   have:u.path≠p:=fun e=>hn.1 (h▸e▸Aj.2 ⟨u,hu,rfl⟩)
   simp[this]]
 |t::c,i+1,hn,hi,h=>by
  have hi:i<c.length:=by simpa using hi
  have h:c[i].path=p:=h;unfold Ev at hn;rw[AH,CI]at hn
  have:t.path≠p:=fun e=>hn.1 (by rw[e,←h];exact Aj.2 ⟨_,AC hi,rfl⟩)
  have ih:=M3 hn.2 hi h;unfold FH at ih⊢;rw[List.eraseIdx_cons_succ,BN,Ao (by simp[this]),ih]
theorem Px{l c:List Tm}(hl:CO l)(h:CE l=some c):CO c:=by
 have h1:=NM l l.length (Al _);rw[DZ]at h1;have h2:c=(EX l).filter fun t=>!Gs t:=by
  unfold CE at h;split at h
  ·cases h
  ·exact(Cs h).symm
 have h3:c.length≤(EX l).length:=by rw[h2];exact BA _ _
 have h4:(EX l).length=(CL l).length:=by
  have:=(N5 (HD (Hz l)) (HD (HM (Em l)))).2 (I1 l)
  exact this.length_eq.symm
 unfold CO at hl⊢;omega
abbrev kq:AV:=.tup [.agg Uk,.v (.slice none 0 0),vb false]
abbrev lY:RK:=⟨[3],[],[],[],[],[],[],[],[(30,0),(34,1)],[],[3]⟩
theorem d5(l:List Tm)(p:ByteArray)(hl:CO l)(hs:∀t∈l,CO t.set)(hn:Fm l p=none):PC 182 [sl AB l,vs p] kq:=by
 have hc:=sn l hl hs;unfold Fm at hn;cases e:CE l with
 |none =>
  have e1:GB l=.tup [sl AB [],vb false]:=by unfold GB PM;rw[e];rfl
  rw[e1]at hc;have hi:=jr (E2.ptr [vs p]) [] (fun x=>decide (x.path=p)) (fun x _=>mP x p) (by simp);refine Ps lY Tryz.func182 rfl (Nz rfl) ?_;refine Xi .pure (Xi _ (Yi (hc) ?_));refine Xi .pure (Xi _ (Yi (hi) ?_));refine Xi ⟨[(4,.ref 4 0),(7,sl AB []),(8,vb false),(9,vi (-1))],[(4,.cells Uk)],Aa⟩ (Yi ⟨Z4,Z1,Fh,Tv⟩ ?_)
  refine Yi (Nz rfl) (Yi (Nz rfl) ?_);exact .refl _
 |some c =>
  rw[e]at hn;have hn:(match Db c p with | none=>none | some t=>some (t,FH c p))=none:=hn;have qw:Db c p=none:=by
   cases h:Db c p with
   |none=>rfl
   |some t=>rw[h]at hn;cases hn
  have e1:GB l=.tup [sl AB c,vb true]:=by unfold GB PM;rw[e];rfl
  rw[e1]at hc;have qu:=Px hl e;have hi:=jr (E2.ptr [vs p]) c (fun x=>decide (x.path=p)) (fun x _=>mP x p) (by unfold CO at qu;omega);have hid:Kg (fun x:Tm=>decide (x.path=p)) c 0=-1:=by
   rcases OI (p:=fun x:Tm=>decide (x.path=p)) c 0 with ⟨h1,_⟩ | ⟨i,x,_,_,h3⟩
   ·exact h1
   ·unfold Db at qw;rw[h3]at qw;cases qw
  rw[hid]at hi;refine Ps lY Tryz.func182 rfl (Nz rfl) ?_;refine Xi .pure (Xi _ (Yi (hc) ?_));refine Xi .pure (Xi _ (Yi (hi) ?_));refine Xi ⟨[(4,.ref 4 0),(7,sl AB c),(8,vb true),(9,vi (-1))],[(4,.cells Uk)],Aa⟩ (Yi ⟨Z4,Z1,Fh,Tv⟩ ?_)
  refine Yi ?_ ?_
  ·intro _;refine Yi (Nz rfl) (Yi (Nz rfl) ?_);exact .refl _
  ·intro h;exact absurd (show(-1:Int)<0 by decide) h
abbrev n9:RK:=⟨[3],[],[],[],[],[],[],[],[(30,0),(34,2)],[],[]⟩
theorem d6(l:List Tm)(p:ByteArray)(hl:CO l)(hs:∀t∈l,CO t.set){t:Tm}{r:List Tm}(hn:Fm l p=some (t,r)) :
  A3 Tryz.prog 182 [sl AB l,vs p] (Ai [] Aa) fun v h'=>v=.tup [.agg (AB t),.msl 2000 r.length,vb true]∧h'=Ai [(2000,.arr 3 (r.map AB))] Aa:=by
 have hc:=sn l hl hs;unfold Fm at hn;cases e:CE l with
 |none=>rw[e]at hn;cases hn
 |some c =>
  rw[e]at hn;have hn:(match Db c p with | none=>none | some t=>some (t,FH c p))=some (t,r):=hn;have fE:Db c p=some t∧FH c p=r:=by
   cases h:Db c p with
   |none=>rw[h]at hn;cases hn
   |some t=>rw[h]at hn;cases hn;exact Zr
  have e1:GB l=.tup [sl AB c,vb true]:=by unfold GB PM;rw[e];rfl
  rw[e1]at hc;have qu:=Px hl e;have hi:=jr (E2.ptr [vs p]) c (fun x=>decide (x.path=p)) (fun x _=>mP x p) (by unfold CO at qu;omega);rcases OI (p:=fun x:Tm=>decide (x.path=p)) c 0 with ⟨_,h2⟩ | ⟨i,x,h1,h2,h3⟩
  ·unfold Db at fE;rw[h2]at fE;cases fE.1
  have hx:x=t:=by
   have:=fE.1
   unfold Db at this;rw[h3]at this;exact Cs this
  subst hx;rw[h1,Iz]at hi;obtain⟨qA,zP⟩:=Ap.1 h2;have xM:c.eraseIdx i=r:=by
   rw[←fE.2];exact M3 (HM (EO e)) qA (by rw[zP];exact GV fE.1)
  have sJ:c.length-1=r.length:=by rw[←xM,List.length_eraseIdx_of_lt qA]
  have Dr:c≠[]:=fun h=>by subst h;simp at qA
  have zJ:c.length≤1073741824:=qu;refine BX (LC n9) [(13400,2000)] rfl Co hm rfl Tryz.func182 (by kernel_rfl) rfl (Nz rfl) (by kernel_rfl) rfl ?_;refine Xi .pure (Xi _ (Yi (hc) ?_));refine Xi .pure (Xi _ (Yi (hi) ?_));refine Yi ?_ ?_
  ·intro h;have h:(i:Int)<0:=h;omega
  intro _;have hg:(c.map AB)[((i:Nat):Int).toNat]?=some (AB x):=by rw[Ch,AF,h2];rfl
  refine Xi (AB x) (Yi (Yi (Nn i) hg) (Yi rfl (Yi (Nz rfl) ?_)));refine Xi c.length (Xi 3 (Xi (c.map AB) (Yi rfl (Yi (pJ c qu Dr) ?_))));refine Yi (Ii i (by omega)) ?_;refine Xi (c.length-1) (Xi ((c.eraseIdx i).map AB) (Yi rfl (Yi (tZ c i qA) ?_)));refine Yi (Nz rfl) ?_;refine Yi (by kernel_rfl) ?_;refine Yi (Nz rfl) ?_;have e2:AV.tup [.agg (AB x),.msl 2000 (c.length-1),vb true]=.tup [.agg (AB x),.msl 2000 r.length,vb true]:=by rw[sJ]
  have e3:Ai [(2000,HO.arr 3 ((c.eraseIdx i).map AB))] Aa=Ai [(2000,.arr 3 (r.map AB))] Aa:=by rw[xM]
  exact Xi _ (Yi (.refl _) (Yi e2 e3))
abbrev aJ:RK:=⟨[],[],[],[],[],[],[],[],[],[(24,9),(30,12)],[2,3,5,6]⟩
abbrev ol(a b:List Tm)(p:ByteArray):AV:=.tup [sl AB (Bo a b p).1,vi (Bo a b p).2]
theorem Vj{l r:List Tm}{p:ByteArray}{t:Tm}(h:Fm l p=some (t,r)):∃c,CE l=some c∧t∈c∧r=FH c p:=by
 unfold Fm at h;cases e:CE l with
 |none=>rw[e]at h;cases h
 |some c =>
  rw[e]at h;have h:(match Db c p with | none=>none | some t=>some (t,FH c p))=some (t,r):=h;cases e2:Db c p with
  |none=>rw[e2]at h;cases h
  |some u=>rw[e2]at h;cases h;exact⟨c,rfl,E6 e2,rfl⟩
theorem Vk{l r:List Tm}{p:ByteArray}{t:Tm}(hl:CO l)(h:Fm l p=some (t,r)):CO t.set∧CO r∧∀u∈r,CO u.set:=by
 obtain⟨c,h1,h2,rfl⟩:=Vj h;have hs:=EO h1;refine⟨Oo (hs.canon t h2),?_,fun u hu=>Oo (hs.canon u (BC.1 hu).1)⟩
 have:=Px hl h1
 have h3:(FH c p).length≤c.length:=BA _ _;unfold CO at *;omega
theorem d9{l c:List Tm}(h:CE l=some c):c.length≤l.length:=by
 have h1:=NM l l.length (Al _);rw[DZ]at h1;have h2:c=(EX l).filter fun t=>!Gs t:=by
  unfold CE at h;split at h
  ·cases h
  ·exact(Cs h).symm
 have h3:c.length≤(EX l).length:=by rw[h2];exact BA _ _
 have h4:(EX l).length=(CL l).length:=by
  have:=(N5 (HD (Hz l)) (HD (HM (Em l)))).2 (I1 l)
  exact this.length_eq.symm
 omega
theorem Vl{l r:List Tm}{p:ByteArray}{t:Tm}(h:Fm l p=some (t,r)):r.length≤l.length:=by
 obtain⟨c,h1,h2,rfl⟩:=Vj h;have h3:(FH c p).length≤c.length:=BA _ _
 have:=d9 h1
 omega
theorem bN(a b:Bg):CO (Pg a b):=by
 unfold CO;have:=HY (Yq a b);omega
theorem tQ(a b:List Tm)(p:ByteArray)(ha:a.length≤500000000)(hb:b.length≤500000000)(yb:∀t∈a,CO t.set)(jY:∀t∈b,CO t.set):PC 128 [sl AB a,sl AB b,vs p] (ol a b p):=by
 have qt:CO a:=by unfold CO;omega
 have np:CO b:=by unfold CO;omega
 have er:∀{l:List Tm} {e:Int},Bo a b p=(l,e)→ol a b p=.tup [sl AB l,vi e]:=fun h=>by unfold ol;rw[h]
 have e0:Hl (.tup [.v (.slice none 0 0),vi 1]) (.tup [.slice .none [],vi 1]):=Hl.tup ⟨.nil,.refl _,trivial⟩;cases h1:Fm a p with
 |none =>
  have hr:Bo a b p=([],1):=by unfold Bo;rw[h1]
  have c1:=d5 a p qt yb h1;cases h2:Fm b p with
  |none =>
   have c2:=d5 b p np jY h2;refine Ps aJ Tryz.func128 rfl (Nz rfl) ?_;refine Xi .pure (Xi _ (Yi (c1) ?_));refine Yi (Nz rfl) ?_;refine Xi ⟨[(1,sl AB b),(2,vs p),(8,.ref 8 0),(9,.v (.slice none 0 0)),(10,vb false)],[(8,.cells Uk)],Aa⟩ (Yi ⟨Z5,Z1,Fh,Tv⟩ ?_)
   refine Xi .pure (Xi _ (Yi (c2) ?_));refine Yi (Nz rfl) ?_;refine Xi ⟨[(8,.ref 8 0),(9,.v (.slice none 0 0)),(10,vb false),(11,.ref 11 0),(12,.v (.slice none 0 0)),(13,vb false)],[(8,.cells Uk),(11,.cells Uk)],Aa⟩ (Yi ⟨Z6,Z2,Fh,Tv⟩ ?_)
   exact e0.trans (.of_eq (er hr).symm)
  |some q2 =>
   obtain⟨t2,r2⟩:=q2;have c2:=d6 b p np jY h2;refine Ps aJ Tryz.func128 rfl (Nz rfl) ?_;refine Xi .pure (Xi _ (Yi (c1) ?_));refine Yi (Nz rfl) ?_;refine Xi ⟨[(1,sl AB b),(2,vs p),(8,.ref 8 0),(9,.v (.slice none 0 0)),(10,vb false)],[(8,.cells Uk)],Aa⟩ (Yi ⟨Z5,Z1,Fh,Tv⟩ ?_)
   have z2:r2.length=(r2.map AB).length:=by rw[Lm]
   refine Xi (.gen [] 1) (Yi rfl (c2.imp ?_));intro v2 g2 q2;have we:=q2.1;have wg:=q2.2;subst we;subst wg;refine Yi (Nz rfl) ?_;refine Xi ⟨[(8,.ref 8 0),(9,.v (.slice none 0 0)),(10,vb false),(11,.ref 11 0),(12,.msl 12600 r2.length),(13,vb true)],[(8,.cells Uk),(11,.cells (AB t2)),(12600,.arr 3 (r2.map AB))],Aa⟩ (Yi ⟨Z6,Z3,Fh,Tv⟩ ?_)
   refine Yi z2 ?_;exact e0.trans (.of_eq (er hr).symm)
 |some q1 =>
  obtain⟨t1,r1⟩:=q1;have c1:=d6 a p qt yb h1;obtain⟨f1,f2,f3⟩:=Vk qt h1;cases h2:Fm b p with
  |none =>
   have hr:Bo a b p=([],1):=by unfold Bo;rw[h1,h2]
   have c2:=d5 b p np jY h2;refine Ps aJ Tryz.func128 rfl (Nz rfl) ?_;refine Xi (.gen [] 1) (Yi rfl (c1.imp ?_));intro v1 g1 q1;have vZ:=q1.1;have kM:=q1.2;subst vZ;subst kM;refine Yi (Nz rfl) ?_;refine Xi ⟨[(1,sl AB b),(2,vs p),(8,.ref 8 0),(9,.msl 11900 r1.length),(10,vb true)],[(8,.cells (AB t1)),(11900,.arr 3 (r1.map AB))],Aa⟩ (Yi ⟨Z5,Z2,Fh,Tv⟩ ?_)
   have z1:r1.length=(r1.map AB).length:=by rw[Lm]
   refine Yi z1 ?_;refine Xi .pure (Xi _ (Yi (c2) ?_));refine Yi (Nz rfl) ?_;refine Xi ⟨[(8,.ref 8 0),(9,.slice (.id 11900 3) (r1.map AB)),(10,vb true),(11,.ref 11 0),(12,.v (.slice none 0 0)),(13,vb false)],[(8,.cells (AB t1)),(11,.cells Uk),(11900,.tok 3 (r1.map AB).length)],Aa⟩ (Yi ⟨Z6,Z3,Fh,Tv⟩ ?_)
   exact e0.trans (.of_eq (er hr).symm)
  |some q2 =>
   obtain⟨t2,r2⟩:=q2;have c2:=d6 b p np jY h2;obtain⟨g1,g2,g3⟩:=Vk np h2;refine Ps aJ Tryz.func128 rfl (Nz rfl) ?_;refine Xi (.gen [] 1) (Yi rfl (c1.imp ?_));intro v1 g1 q1;have vZ:=q1.1;have kM:=q1.2;subst vZ;subst kM;refine Yi (Nz rfl) ?_;refine Xi ⟨[(1,sl AB b),(2,vs p),(8,.ref 8 0),(9,.msl 11900 r1.length),(10,vb true)],[(8,.cells (AB t1)),(11900,.arr 3 (r1.map AB))],Aa⟩ (Yi ⟨Z5,Z2,Fh,Tv⟩ ?_)
   have z1:r1.length=(r1.map AB).length:=by rw[Lm]
   have z2:r2.length=(r2.map AB).length:=by rw[Lm]
   refine Yi z1 ?_;refine Xi (.gen [] 1) (Yi rfl (c2.imp ?_));intro v2 g2 q2;have we:=q2.1;have wg:=q2.2;subst we;subst wg;refine Yi (Nz rfl) ?_;refine Xi ⟨[(8,.ref 8 0),(9,.slice (.id 11900 3) (r1.map AB)),(10,vb true),(11,.ref 11 0),(12,.msl 12600 r2.length),(13,vb true)],[(8,.cells (AB t1)),(11,.cells (AB t2)),(11900,.tok 3 (r1.map AB).length),(12600,.arr 3 (r2.map AB))],Aa⟩ (Yi ⟨Z6,Z4,Fh,Tv⟩ ?_)
   refine Yi z2 ?_;refine Xi ⟨[(8,.ref 8 0),(9,.slice (.id 11900 3) (r1.map AB)),(11,.ref 11 0),(12,.slice (.id 12600 3) (r2.map AB))],[(8,.cells (AB t1)),(11,.cells (AB t2)),(11900,.tok 3 (r1.map AB).length),(12600,.tok 3 (r2.map AB).length)],Aa⟩ (Yi ⟨Z4,Z4,Fh,Tv⟩ ?_)
   have l1:=Vl h1;have l2:=Vl h2;have b1:De 3 (r2.map AB)∧(r1.map AB).length=(r1.map AB).length∧((r1.map AB).length+(r2.map AB).length)*48≤140737488355328∧(r1.map AB).length+(r2.map AB).length≤9223372036854775807 :=
    ⟨Fi (enc:=AB) (n:=3) (fun _=>rfl) r2,rfl,by rw[Lm,Lm];omega,by rw[Lm,Lm];omega⟩
   refine Yi b1 ?_;refine Yi (Nz rfl) (Yi (Nz rfl) ?_);refine Xi _ (Yi (tV t1 t2 f1 g1) ?_);have b2:De 3 [AB (C3 t1 t2)]∧(r1.map AB++r2.map AB).length=(r1.map AB).length+(r2.map AB).length∧((r1.map AB++r2.map AB).length+[AB (C3 t1 t2)].length)*48≤140737488355328∧(r1.map AB++r2.map AB).length+[AB (C3 t1 t2)].length≤9223372036854775807 :=
    ⟨⟨rfl,trivial⟩,by rw[Ad],by rw[Ad,Lm,Lm,A6];omega,by rw[Ad,Lm,Lm,A6];omega⟩
   refine Yi b2 ?_;have jN:=sn (r1++r2++[C3 t1 t2]) (by unfold CO;simp only[Ad,A6];omega) (fun u hu=>by
    rcases AU.1 hu with hu | hu
    ·rcases AU.1 hu with hu | hu
     ·exact f3 u hu
     ·exact g3 u hu
    ·rw[Am.1 hu];exact bN _ _)
   have e1:sl AB (r1++r2++[C3 t1 t2])=.slice .none (r1.map AB++r2.map AB++[AB (C3 t1 t2)]):=by simp
   have xH:PC 183 [.slice .none (r1.map AB++r2.map AB++[AB (C3 t1 t2)])] (GB (r1++r2++[C3 t1 t2])):=e1▸jN;cases oZ:CE (r1++r2++[C3 t1 t2])with
   |none =>
    have hr:Bo a b p=([],8):=by unfold Bo;rw[h1,h2];dsimp only;rw[oZ]
    have ec:GB (r1++r2++[C3 t1 t2])=.tup [sl AB [],vb false]:=by unfold GB PM;rw[oZ];rfl
    have hc:PC 183 [.slice .none (r1.map AB++r2.map AB++[AB (C3 t1 t2)])] (.tup [sl AB [],vb false]):=ec▸xH;have e8:Hl (.tup [.v (.slice none 0 0),vi 8]) (.tup [.slice .none [],vi 8]):=Hl.tup ⟨.nil,.refl _,trivial⟩;refine Xi _ (Yi (hc) ?_);refine Yi (by kernel_rfl) ?_;refine Xi ⟨[(14,sl AB []),(15,vb false)],[],Aa⟩ (Yi ⟨Z2,Tv,Fh,Tv⟩ ?_)
    exact e8.trans (.of_eq (er hr).symm)
   |some o =>
    have hr:Bo a b p=(o,0):=by unfold Bo;rw[h1,h2];dsimp only;rw[oZ]
    have ec:GB (r1++r2++[C3 t1 t2])=.tup [sl AB o,vb true]:=by unfold GB PM;rw[oZ];rfl
    have hc:PC 183 [.slice .none (r1.map AB++r2.map AB++[AB (C3 t1 t2)])] (.tup [sl AB o,vb true]):=ec▸xH;refine Xi _ (Yi (hc) ?_);refine Yi (by kernel_rfl) ?_;refine Xi ⟨[(14,sl AB o),(15,vb true)],[],Aa⟩ (Yi ⟨Z2,Tv,Fh,Tv⟩ ?_)
    exact .of_eq (er hr).symm
def ZW(h s:Nat→HO):Nat→Bool
 |0=>true
 |n+1=>(match h (1000+n)with |.free=>true |_=>(match s (1000+n)with |.free=>false |_=>true))&&ZW h s n
theorem Sm{h s:Nat→HO}:∀{n:Nat},ZW h s n=true→∀j,j<n→h (1000+j)≠.free→s (1000+j)≠.free
 |n+1,hd,j,hj,hn=>by
  simp only[ZW,Af]at hd;rcases EF j n with h1 | h1
  ·exact Sm hd.2 j h1 hn
  ·have:j=n:=by omega
   subst this
   have:=hd.1
   intro e;split at this
   ·rename_i q;exact hn q
   ·rw[e]at this;cases this
theorem Aw{h s:Nat→HO}(hd:ZW h s 1000=true):∀j,1000≤j→j<2000→h j≠.free→s j≠.free:=fun j h1 h2=>by
 have:=Sm hd (j-1000) (by omega)
 rw[show 1000+(j-1000)=j by omega]at this;exact this
abbrev Yu:List AV:=[vs ⟨#[]⟩,vi 0,vi 0,vi 0,.v (.slice none 0 0),vs ⟨#[]⟩,vs ⟨#[]⟩,vs ⟨#[]⟩,vb false]
abbrev Yb:Option Rl→AV
 |some r=>.tup [.agg (Ak r),vb true]
 |none=>.tup [.agg Yu,vb false]
theorem kK(v:Ver):0≤plc v∧plc v<1000000:=by
 unfold plc;cases h:Cr v with
 |true=>exact Jn h
 |false=>simp
abbrev mi(t:List Tm):Prop:=t.length≤500000000∧∀u∈t,CO u.set
theorem pE(s:ByteArray):PC 113 [vs s] (vb false):=by
 refine Ps Gl Tryz.func113 rfl (Nz rfl) ?_;refine Yi ?_ ?_
 ·intro h;exact absurd rfl (show s≠s from h)
 ·intro _;exact .refl _
theorem pH(z:Int):PC 167 [vi z] (vb false):=by
 refine Ps Gl Tryz.func167 rfl (Nz rfl) ?_;refine Yi ?_ ?_
 ·intro h;exact absurd rfl (show z≠z from h)
 ·intro _;exact .refl _
theorem tD(a b:ByteArray):PC 84 [vs a,vs b] (vi (J0 a b)):=by
 refine Ps Gl Tryz.func84 rfl (Nz rfl) ?_;refine Xi .pure (Xi _ (Yi (pE a) ?_));refine Xi .pure (Xi _ (Yi (pE b) ?_));refine Yi ?_ ?_
 ·intro h;have h:Op.bytesLess a.toList b.toList=true:=h;exact .of_eq (Ac vi (show(-1:Int)=J0 a b by unfold J0;rw[Ao (by rw[GT];exact h)]))
 ·intro h;have h:¬Op.bytesLess a.toList b.toList=true:=h;refine Yi ?_ ?_
  ·intro h2;have h2:Op.bytesLess b.toList a.toList=true:=h2;exact .of_eq (Ac vi (show(1:Int)=J0 a b by unfold J0;rw[Ah (by rw[GT];exact h),Ao (by rw[GT];exact h2)]))
  ·intro h2;have h2:¬Op.bytesLess b.toList a.toList=true:=h2;exact .of_eq (Ac vi (show(0:Int)=J0 a b by unfold J0;rw[Ah (by rw[GT];exact h),Ah (by rw[GT];exact h2)]))
theorem mK(a b:Int):PC 114 [vi a,vi b] (vi (FQ a b)):=by
 refine Ps Gl Tryz.func114 rfl (Nz rfl) ?_;refine Xi .pure (Xi _ (Yi (pH a) ?_));refine Xi .pure (Xi _ (Yi (pH b) ?_));refine Yi ?_ ?_
 ·intro h;have h:a<b:=h;exact .of_eq (Ac vi (show(-1:Int)=FQ a b by unfold FQ;rw[Ao h]))
 ·intro h;have h:¬a<b:=h;refine Yi ?_ ?_
  ·intro h2;have h2:b<a:=h2;exact .of_eq (Ac vi (show(1:Int)=FQ a b by unfold FQ;rw[Ah h,Ao h2]))
  ·intro h2;have h2:¬b<a:=h2;exact .of_eq (Ac vi (show(0:Int)=FQ a b by unfold FQ;rw[Ah h,Ah h2]))
theorem tC(a b:Int):PC 83 [.slice .none [[vi a],[vi b]]] (vi (if a≠0 then a else b)):=by
 refine Ps Gl Tryz.func83 rfl (Nz rfl) ?_;refine Xi {i:Nat // i≤2∧(0<i→a=0)∧(1<i→b=0)} (Xi (fun i=>⟨[(3,vi 0),(6,.slice .none [[vi a],[vi b]]),(7,vi 2),(8,vi i.1)],[],Aa⟩) (Xi (fun i=>2-i.1) (Yi (Xi ⟨0,by omega,by omega,by omega⟩ ?_) ?_)))
 ·exact⟨Z4,Tv,Fh,Tv⟩
 intro⟨i,h1,h2,h3⟩;refine Yi ?_ ?_
 ·intro h;have h:(i:Int)<2:=h
  match i,h1,h2,h3,h with
  |0,h1,h2,h3,h =>
   refine Xi [vi a] (Yi (Yi (BO _) rfl) (Yi rfl ?_));refine Yi ?_ ?_
   ·intro h4;have h4:a≠0:=h4;exact .of_eq (Ac vi (Ao h4).symm)
   ·intro h4;have h4:¬a≠0:=h4;refine Yi (Ii 0 (by omega)) ?_;refine Xi ⟨1,by omega,fun _=>by omega,fun q=>absurd q (by decide)⟩ ?_;exact⟨by show 2-1<2-0;decide,Z4,Tv,Fh,Tv⟩
  |1,h1,h2,h3,h =>
   have ha:=h2 (by decide);refine Xi [vi b] (Yi (Yi (by show(0:Int)≤1;decide) rfl) (Yi rfl ?_));refine Yi ?_ ?_
   ·intro h4;exact .of_eq (Ac vi (Ah (by omega)).symm)
   ·intro h4;have h4:¬b≠0:=h4;refine Yi (Ii 1 (by omega)) ?_;refine Xi ⟨2,by omega,fun _=>ha,fun q=>by omega⟩ ?_;exact⟨by show 2-2<2-1;decide,Z4,Tv,Fh,Tv⟩
  |i+2,h1,h2,h3,h=>omega
 ·intro h;have h:¬(i:Int)<2:=h;have ha:=h2 (by omega);have hb:=h3 (by omega);exact .of_eq (Ac vi (show(0:Int)=if a≠0 then a else b by rw[Ah (by omega),hb]))
theorem Sd(a b:Ver)(i:Nat)(hi:i<3)(h:∀j,j<i→FQ (part a j) (part b j)=0)(hn:FQ (part a i) (part b i)≠0):Og a b=FQ (part a i) (part b i):=by
 unfold Og
 match i,hi,h,hn with
 |0,_,_,hn=>exact Ao hn
 |1,_,h,hn =>
  have h0:FQ a.a b.a=0:=h 0 (by decide);rw[Ah (by omega)];exact Ao hn
 |2,_,h,hn =>
  have h0:FQ a.a b.a=0:=h 0 (by decide);have h1:FQ a.b b.b=0:=h 1 (by decide);rw[Ah (by omega),Ah (by omega)];rfl
theorem eD(a b:Ver)(h:∀j,j<3→FQ (part a j) (part b j)=0):Og a b=0:=by
 unfold Og;have h0:FQ a.a b.a=0:=h 0 (by decide);have h1:FQ a.b b.b=0:=h 1 (by decide);have h2:FQ a.c b.c=0:=h 2 (by decide);rw[Ah (by omega),Ah (by omega),h2]
theorem tE(a b:Ver):PC 85 [.agg (GC a),.agg (GC b)] (vi (Og a b)):=by
 refine Ps Gl Tryz.func85 rfl (Nz rfl) ?_;refine Yi (Nz rfl) ?_;refine Xi _ (Yi (mI a) ?_);refine Yi (Nz rfl) ?_;refine Xi _ (Yi (mI b) ?_);refine Yi (Nz rfl) (Yi (Nz rfl) ?_);refine Yi (by kernel_rfl) ?_;refine Xi {i:Nat // i≤3∧∀j,j<i→FQ (part a j) (part b j)=0} (Xi (fun i=>⟨[(5,.ref 5 0),(6,.ref 6 0),(13,vi i.1)],[(5,.cells (GC a)),(6,.cells (GC b))],Aa⟩) (Xi (fun i=>3-i.1) (Yi (Xi ⟨0,by omega,fun j h=>by omega⟩ ?_) ?_)))
 ·exact⟨Z3,Z2,Fh,Tv⟩
 intro⟨i,h1,h2⟩;refine Yi ?_ ?_
 ·intro h;have h:(i:Int)<3:=h;have next:FQ (part a i) (part b i)=0→∀j,j<i+1→FQ (part a j) (part b j)=0:=fun hz j hj=>by
   rcases EF j i with q | q
   ·exact h2 j q
   ·have:j=i:=by omega
    subst this;exact hz
  match i,h1,h2,h,next with
  |0,h1,h2,h,next =>
   refine Yi ⟨by show(0:Int)≤0;decide,by show(0:Int)<3;decide⟩ ?_;refine Yi ⟨by show(0:Int)≤0;decide,by show(0:Int)<3;decide⟩ ?_;refine Xi _ (Yi (mK (part a 0) (part b 0)) ?_);refine Yi (by kernel_rfl) ?_;refine Yi ?_ ?_
   ·intro h4;have h4:FQ (part a 0) (part b 0)≠0:=h4;exact .of_eq (Ac vi (Sd a b 0 (by decide) h2 h4).symm)
   ·intro h4;have h4:¬FQ (part a 0) (part b 0)≠0:=h4;refine Yi (Ii 0 (by omega)) ?_;refine Xi ⟨1,by omega,next (Ga h4)⟩ ?_
    exact⟨by show 3-1<3-0;decide,Z3,Z2,Fh,Tv⟩
  |1,h1,h2,h,next =>
   refine Yi ⟨by show(0:Int)≤1;decide,by show(1:Int)<3;decide⟩ ?_;refine Yi ⟨by show(0:Int)≤1;decide,by show(1:Int)<3;decide⟩ ?_;refine Xi _ (Yi (mK (part a 1) (part b 1)) ?_);refine Yi (by kernel_rfl) ?_;refine Yi ?_ ?_
   ·intro h4;have h4:FQ (part a 1) (part b 1)≠0:=h4;exact .of_eq (Ac vi (Sd a b 1 (by decide) h2 h4).symm)
   ·intro h4;have h4:¬FQ (part a 1) (part b 1)≠0:=h4;refine Yi (Ii 1 (by omega)) ?_;refine Xi ⟨2,by omega,next (Ga h4)⟩ ?_
    exact⟨by show 3-2<3-1;decide,Z3,Z2,Fh,Tv⟩
  |2,h1,h2,h,next =>
   refine Yi ⟨by show(0:Int)≤2;decide,by show(2:Int)<3;decide⟩ ?_;refine Yi ⟨by show(0:Int)≤2;decide,by show(2:Int)<3;decide⟩ ?_;refine Xi _ (Yi (mK (part a 2) (part b 2)) ?_);refine Yi (by kernel_rfl) ?_;refine Yi ?_ ?_
   ·intro h4;have h4:FQ (part a 2) (part b 2)≠0:=h4;exact .of_eq (Ac vi (Sd a b 2 (by decide) h2 h4).symm)
   ·intro h4;have h4:¬FQ (part a 2) (part b 2)≠0:=h4;refine Yi (Ii 2 (by omega)) ?_;refine Xi ⟨3,by omega,next (Ga h4)⟩ ?_
    exact⟨by show 3-3<3-2;decide,Z3,Z2,Fh,Tv⟩
  |i+3,h1,h2,h,next=>omega
 ·intro h;have h:¬(i:Int)<3:=h;exact .of_eq (Ac vi (eD a b fun j hj=>h2 j (by omega)).symm)
theorem pz(a b:Rl):PC 60 [.agg (Ak a),.agg (Ak b)] (vi (Dy a b)):=by
 refine Ps Gl Tryz.func60 rfl (Nz rfl) ?_;refine Xi _ (Yi (tD a.path b.path) ?_);refine Yi (Nz rfl) (Yi (Nz rfl) ?_);refine Xi _ (Yi (tE a.ver b.ver) ?_);refine Xi _ (Yi (tC (J0 a.path b.path) (Og a.ver b.ver)) ?_);refine Yi (by kernel_rfl) ?_;exact .refl _
abbrev HP(s:ByteArray):Prop:=s.size≤1073741824
abbrev N2(q:Rq):Prop:=CO q.set∧HP q.path
abbrev JX(r:Rl):Prop:=HP r.path∧∀q∈r.reqs,N2 q
abbrev ar(nm:ByteArray→ByteArray)(p:ByteArray):AV:=match CC p with
 |some m=>.tup [vs (nm p),vi m,vi 0]
 |none=>.tup [vs ⟨#[]⟩,vi 0,vi 4]
abbrev TX(nm:ByteArray→ByteArray):Prop:=∀p:ByteArray,HP p→PC 81 [vs p] (ar nm p)
theorem TX.none{nm:ByteArray→ByteArray}(h:TX nm){p:ByteArray}(hp:HP p)(e:CC p=.none):PC 81 [vs p] (.tup [vs ⟨#[]⟩,vi 0,vi 4]):=by
 have:=h p hp;unfold ar at this;rw[e]at this;exact this
theorem TX.some{nm:ByteArray→ByteArray}(h:TX nm){p:ByteArray}{m:Int}(hp:HP p)(e:CC p=.some m):PC 81 [vs p] (.tup [vs (nm p),vi m,vi 0]):=by
 have:=h p hp;unfold ar at this;rw[e]at this;exact this
theorem pA{nm:ByteArray→ByteArray}(hL:TX nm)(q:Rq)(hq:CO q.set)(hp:HP q.path):PC 112 [.agg (AK q),.v (.pointer none)] (vi (GF none q)):=by
 cases TT:CC q.path with
 |none =>
  have e:(4:Int)=GF none q:=by unfold GF;rw[TT];rfl
  have hl:=hL.none hp TT;refine Ps Gl Tryz.func112 rfl (Nz rfl) ?_;refine Xi .pure (Xi _ (Yi (hl) ?_));refine Yi ?_ ?_
  ·intro _;exact .of_eq (Ac vi e)
  ·intro h;exact absurd (show(4:Int)≠0 by decide) h
 |some m =>
  have er:GF none q=if(q.set.isEmpty||!decide (q.set=canon q.set)||false)=true then 1 else 0:=by unfold GF;rw[TT];rfl
  have hl:=hL.some hp TT;have hc:=WZ q.set hq;have he:=pC q.set (canon q.set) hq;have T8:∀{n:Int},n=(q.set.map Aq).length→n=0→q.set.isEmpty=true:=fun h1 h2=>by
   rw[Lm]at h1;rw[GI];exact AN (by omega)
  have fK:¬((q.set.map Aq).length:Int)=0→q.set.isEmpty=false:=fun h=>by
   cases hqs:q.set with
   |nil=>rw[hqs]at h;exact absurd rfl h
   |cons a l=>rfl
  rcases Bt (decide (q.set=canon q.set))with h2 | h2
  ·rw[h2]at he;refine Ps (Jo [2,4]) Tryz.func112 rfl (Nz rfl) ?_;refine Xi .pure (Xi _ (Yi (hl) ?_));refine Xi ⟨[(1,.v (.pointer none)),(2,.ref 2 0),(7,vi 0)],[(2,.cells (AK q))],Aa⟩ (Yi ⟨Z3,Z1,Fh,Tv⟩ ?_)
   refine Yi ?_ ?_
   ·intro h;exact absurd rfl h
   intro _;refine Xi ⟨[(1,.v (.pointer none)),(2,.ref 2 0)],[(2,.cells (AK q))],Aa⟩ (Yi ⟨Z2,Z1,Fh,Tv⟩ ?_)
   refine Yi ?_ ?_
   ·intro h;have h:((q.set.map Aq).length:Int)=0:=h;have e:(1:Int)=GF none q:=by rw[er,T8 rfl h];rfl
    refine Yi (by kernel_rfl) ?_;exact .of_eq (Ac vi e)
   intro h;have h:¬((q.set.map Aq).length:Int)=0:=h;have hn:=fK h;refine Xi _ (Yi (hc) ?_);refine Xi _ (Yi (he) ?_);refine Yi (by kernel_rfl) ?_;have e:(0:Int)=GF none q:=by rw[er,hn,h2];rfl
   exact .of_eq (Ac vi e)
  ·rw[h2]at he;refine Ps (Jo [2,4]) Tryz.func112 rfl (Nz rfl) ?_;refine Xi .pure (Xi _ (Yi (hl) ?_));refine Xi ⟨[(1,.v (.pointer none)),(2,.ref 2 0),(7,vi 0)],[(2,.cells (AK q))],Aa⟩ (Yi ⟨Z3,Z1,Fh,Tv⟩ ?_)
   refine Yi ?_ ?_
   ·intro h;exact absurd rfl h
   intro _;refine Xi ⟨[(1,.v (.pointer none)),(2,.ref 2 0)],[(2,.cells (AK q))],Aa⟩ (Yi ⟨Z2,Z1,Fh,Tv⟩ ?_)
   refine Yi ?_ ?_
   ·intro h;have h:((q.set.map Aq).length:Int)=0:=h;have e:(1:Int)=GF none q:=by rw[er,T8 rfl h];rfl
    refine Yi (by kernel_rfl) ?_;exact .of_eq (Ac vi e)
   intro h;have h:¬((q.set.map Aq).length:Int)=0:=h;have hn:=fK h;refine Xi _ (Yi (hc) ?_);refine Xi _ (Yi (he) ?_);refine Yi (by kernel_rfl) ?_;have e:(1:Int)=GF none q:=by rw[er,hn,h2];rfl
   exact .of_eq (Ac vi e)
theorem pB{nm:ByteArray→ByteArray}(hL:TX nm)(q b:Rq)(hq:CO q.set)(hp:HP q.path):PC 112 [.agg (AK q),.cptr (AK b)] (vi (GF (some b.path) q)):=by
 cases TT:CC q.path with
 |none =>
  have e:(4:Int)=GF (some b.path) q:=by unfold GF;rw[TT];rfl
  have hl:=hL.none hp TT;refine Ps Gl Tryz.func112 rfl (Nz rfl) ?_;refine Xi .pure (Xi _ (Yi (hl) ?_));refine Yi ?_ ?_
  ·intro _;exact .of_eq (Ac vi e)
  ·intro h;exact absurd (show(4:Int)≠0 by decide) h
 |some m =>
  have er:GF (some b.path) q=if(q.set.isEmpty||!decide (q.set=canon q.set)||!Ew b.path q.path)=true then 1 else 0:=by unfold GF;rw[TT];rfl
  have hl:=hL.some hp TT;have hc:=WZ q.set hq;have he:=pC q.set (canon q.set) hq;have T8:∀{n:Int},n=(q.set.map Aq).length→n=0→q.set.isEmpty=true:=fun h1 h2=>by
   rw[Lm]at h1;rw[GI];exact AN (by omega)
  have fK:¬((q.set.map Aq).length:Int)=0→q.set.isEmpty=false:=fun h=>by
   cases hqs:q.set with
   |nil=>rw[hqs]at h;exact absurd rfl h
   |cons a l=>rfl
  rcases Bt (decide (q.set=canon q.set))with h2 | h2
  ·rw[h2]at he;refine Ps (Jo [2,4]) Tryz.func112 rfl (Nz rfl) ?_;refine Xi .pure (Xi _ (Yi (hl) ?_));refine Xi ⟨[(1,.cptr (AK b)),(2,.ref 2 0),(7,vi 0)],[(2,.cells (AK q))],Aa⟩ (Yi ⟨Z3,Z1,Fh,Tv⟩ ?_)
   refine Yi ?_ ?_
   ·intro h;exact absurd rfl h
   intro _;refine Xi ⟨[(1,.cptr (AK b)),(2,.ref 2 0)],[(2,.cells (AK q))],Aa⟩ (Yi ⟨Z2,Z1,Fh,Tv⟩ ?_)
   refine Yi ?_ ?_
   ·intro h;have h:((q.set.map Aq).length:Int)=0:=h;have e:(1:Int)=GF (some b.path) q:=by rw[er,T8 rfl h];rfl
    refine Yi (by kernel_rfl) ?_;exact .of_eq (Ac vi e)
   intro h;have h:¬((q.set.map Aq).length:Int)=0:=h;have hn:=fK h;refine Xi _ (Yi (hc) ?_);refine Xi _ (Yi (he) ?_);refine Yi ?_ ?_
   ·intro h3;have h3:Op.bytesLess b.path.toList q.path.toList=false:=h3;refine Yi (by kernel_rfl) ?_;have e:(1:Int)=GF (some b.path) q:=by rw[er,hn,h2,GT,h3];rfl
    exact .of_eq (Ac vi e)
   ·intro h3;have h3:¬Op.bytesLess b.path.toList q.path.toList=false:=h3;have h3:Op.bytesLess b.path.toList q.path.toList=true:=by simpa using h3
    refine Yi (by kernel_rfl) ?_;have e:(0:Int)=GF (some b.path) q:=by rw[er,hn,h2,GT,h3];rfl
    exact .of_eq (Ac vi e)
  ·rw[h2]at he;refine Ps (Jo [2,4]) Tryz.func112 rfl (Nz rfl) ?_;refine Xi .pure (Xi _ (Yi (hl) ?_));refine Xi ⟨[(1,.cptr (AK b)),(2,.ref 2 0),(7,vi 0)],[(2,.cells (AK q))],Aa⟩ (Yi ⟨Z3,Z1,Fh,Tv⟩ ?_)
   refine Yi ?_ ?_
   ·intro h;exact absurd rfl h
   intro _;refine Xi ⟨[(1,.cptr (AK b)),(2,.ref 2 0)],[(2,.cells (AK q))],Aa⟩ (Yi ⟨Z2,Z1,Fh,Tv⟩ ?_)
   refine Yi ?_ ?_
   ·intro h;have h:((q.set.map Aq).length:Int)=0:=h;have e:(1:Int)=GF (some b.path) q:=by rw[er,T8 rfl h];rfl
    refine Yi (by kernel_rfl) ?_;exact .of_eq (Ac vi e)
   intro h;have h:¬((q.set.map Aq).length:Int)=0:=h;have hn:=fK h;refine Xi _ (Yi (hc) ?_);refine Xi _ (Yi (he) ?_);refine Yi (by kernel_rfl) ?_;have e:(1:Int)=GF (some b.path) q:=by rw[er,hn,h2];rfl
   exact .of_eq (Ac vi e)
abbrev Mw(l:List Rq)(k:Nat):List AV:=((l.map AK)[k]?).getD []
abbrev px(l:List Rq):Nat→AV
 |0=>.v (.pointer none)
 |k+1=>.cptr (Mw l k)
abbrev Kp(l:List Rq):Nat→Option ByteArray
 |0=>none
 |k+1=>(l[k]?).map (·.path)
theorem Nr{l:List Rq}{k:Nat}(h:k<l.length):Mw l k=AK l[k]:=by
 unfold Mw;rw[AF,Ge h];rfl
theorem RS{l:List Rq}{k:Nat}(h:k<l.length):Kp l (k+1)=some l[k].path:=by
 show(l[k]?).map _=_;rw[Ge h];rfl
theorem xj{nm:ByteArray→ByteArray}(hL:TX nm)(l:List Rq)(hs:∀q∈l,N2 q):PC 82 [sl AK l] (vi (BL l)):=by
 refine Ps (Jo [8]) Tryz.func82 rfl (Nz rfl) ?_;refine Yi ?_ ?_
 ·intro h;have h:(16:Int)<(l.map AK).length:=h;exact .of_eq (Ac vi (show(7:Int)=BL l by unfold BL;rw[Ao (by rw[Lm]at h;omega)]))
 intro h;have h:¬(16:Int)<(l.map AK).length:=h;have hl:l.length≤16:=by rw[Lm]at h;omega
 have TS:BL l=FP none l:=by unfold BL;rw[Ah (by omega)]
 refine Xi {i:Nat // i≤l.length∧FP none l=FP (Kp l i) (l.drop i)} (Xi (fun i=>⟨[(0,sl AK l),(3,px l i.1),(10,sl AK l),(11,vi (l.map AK).length),(12,vi i.1)],[],Aa⟩) (Xi (fun i=>l.length-i.1) (Yi (Xi ⟨0,AL _,rfl⟩ ?_) ?_)))
 ·exact⟨Z5,Tv,Fh,Tv⟩
 intro⟨i,h1,h2⟩;refine Yi ?_ ?_
 ·intro h;have h:(i:Int)<(l.map AK).length:=h;have h:i<l.length:=by simpa using h
  have hg:l[i]?=some l[i]:=Ge h;have hd:l.drop i=l[i]::l.drop (i+1):=Bj h;have hq:=hs l[i] (AC h);have hc:PC 112 [.agg (AK l[i]),px l i] (vi (GF (Kp l i) l[i])):=by
   cases i with
   |zero=>exact pA hL _ hq.1 hq.2
   |succ k =>
    rw[RS (by omega:k<l.length)];show PC 112 [_,.cptr (Mw l k)] _;rw[Nr (by omega:k<l.length)];exact pB hL _ _ hq.1 hq.2
  have J5:FP none l=if GF (Kp l i) l[i]=0 then FP (some l[i].path) (l.drop (i+1))else GF (Kp l i) l[i]:=by rw[h2,hd];rfl
  match i,h1,h2,h,hg,hd,hc,J5 with
  |0,h1,h2,h,hg,hd,hc,J5 =>
   refine Xi (AK l[0]) (Yi (Yi (by show(0:Int)≤((0:Nat):Int);omega) (by simp[hg])) (Yi rfl ?_));refine Yi (Nz rfl) (Yi (Nz rfl) (Yi (Nz rfl) ?_));refine Xi .pure (Xi _ (Yi (hc) ?_));refine Xi ⟨[(0,sl AK l),(4,vi ((0:Nat):Int)),(6,vi (GF (Kp l (0)) l[0])),(10,sl AK l),(11,vi (l.map AK).length),(12,vi ((0:Nat):Int))],[],Aa⟩ (Yi ⟨Z6,Tv,Fh,Tv⟩ ?_)
   refine Yi ?_ ?_
   ·intro h4;have h4:GF (Kp l (0)) l[0]≠0:=h4;exact .of_eq (Ac vi (show GF (Kp l (0)) l[0]=BL l by rw[TS,J5,Ah h4]))
   ·intro h4;have h4:¬GF (Kp l (0)) l[0]≠0:=h4;refine Xi (AK l[0]) (Yi (Yi (by show(0:Int)≤((0:Nat):Int);omega) (by simp[hg])) (Yi rfl ?_));refine Yi (by show BQ (((0:Nat):Int)+1);unfold BQ;omega) ?_;refine Xi ⟨0+1,by omega,by rw[J5,Ao (Ga h4),RS h]⟩ ?_;have e1:AV.cptr (AK l[0])=.cptr (Mw l (0)):=by rw[Nr h]
    exact⟨by show l.length-(0+1)<l.length-(0);omega,⟨Zr,⟨e1,rfl⟩,Zr,Zr,Zr,Tv⟩,Tv,Fh,Tv⟩
  |k+1,h1,h2,h,hg,hd,hc,J5 =>
   refine Xi (AK l[k+1]) (Yi (Yi (by show(0:Int)≤((k+1:Nat):Int);omega) (by simp[hg])) (Yi rfl ?_));refine Yi (Nz rfl) (Yi (Nz rfl) (Yi (Nz rfl) ?_));refine Xi .pure (Xi _ (Yi (hc) ?_));refine Xi ⟨[(0,sl AK l),(4,vi ((k+1:Nat):Int)),(6,vi (GF (Kp l (k+1)) l[k+1])),(10,sl AK l),(11,vi (l.map AK).length),(12,vi ((k+1:Nat):Int))],[],Aa⟩ (Yi ⟨Z6,Tv,Fh,Tv⟩ ?_)
   refine Yi ?_ ?_
   ·intro h4;have h4:GF (Kp l (k+1)) l[k+1]≠0:=h4;exact .of_eq (Ac vi (show GF (Kp l (k+1)) l[k+1]=BL l by rw[TS,J5,Ah h4]))
   ·intro h4;have h4:¬GF (Kp l (k+1)) l[k+1]≠0:=h4;refine Xi (AK l[k+1]) (Yi (Yi (by show(0:Int)≤((k+1:Nat):Int);omega) (by simp[hg])) (Yi rfl ?_));refine Yi (by show BQ (((k+1:Nat):Int)+1);unfold BQ;omega) ?_;refine Xi ⟨k+1+1,by omega,by rw[J5,Ao (Ga h4),RS h]⟩ ?_;have e1:AV.cptr (AK l[k+1])=.cptr (Mw l (k+1)):=by rw[Nr h]
    exact⟨by show l.length-(k+1+1)<l.length-(k+1);omega,⟨Zr,⟨e1,rfl⟩,Zr,Zr,Zr,Tv⟩,Tv,Fh,Tv⟩
 ·intro h;have h:¬(i:Int)<(l.map AK).length:=h;have h:¬i<l.length:=by simpa using h
  have e:(0:Int)=BL l:=by rw[TS,h2,TY (by omega)];rfl
  exact .of_eq (Ac vi e)
abbrev eJ(r:Rl):Nat→ByteArray
 |0=>r.arch
 |1=>r.ifc
 |_=>r.cert
theorem mT{r:Rl}(h:∀j,j<3→EV (eJ r j)=true):(EV r.arch&&EV r.ifc&&EV r.cert)=true:=by
 have h0:EV r.arch=true:=h 0 (by decide);have h1:EV r.ifc=true:=h 1 (by decide);have h2:EV r.cert=true:=h 2 (by decide);rw[h0,h1,h2];rfl
theorem YT{r:Rl}{i:Nat}(hi:i<3)(h:EV (eJ r i)=false):(EV r.arch&&EV r.ifc&&EV r.cert)=false:=by
 match i,hi,h with
 |0,_,h=>have h:EV r.arch=false:=h;rw[h];rfl
 |1,_,h=>have h:EV r.ifc=false:=h;rw[h,Ec];rfl
 |2,_,h=>have h:EV r.cert=false:=h;rw[h,Ec]
theorem tp{nm:ByteArray→ByteArray}(hL:TX nm)(r:Rl)(hr:JX r):PC 58 [.agg (Ak r)] (vi (DF r)):=by
 cases TT:CC r.path with
 |none =>
  have e:(4:Int)=DF r:=by unfold DF;rw[TT]
  have hl:=hL.none hr.1 TT;refine Ps Gl Tryz.func58 rfl (Nz rfl) ?_;refine Xi .pure (Xi _ (Yi (hl) ?_));refine Yi ?_ ?_
  ·intro _;exact .of_eq (Ac vi e)
  ·intro h;exact absurd (show(4:Int)≠0 by decide) h
 |some m =>
  have er:DF r=if(!Cr r.ver||!decide (r.ver.a=m))=true then 2 else if BL r.reqs≠0 then BL r.reqs else if(EV r.arch&&EV r.ifc&&EV r.cert)=true then 0 else 1:=by unfold DF;rw[TT]
  have hl:=hL.some hr.1 TT;have hv:=mD r.ver;have hc:=xj hL r.reqs hr.2;rcases Bt (Cr r.ver)with h2 | h2
  ·rw[h2]at hv;refine Ps (Jo [2,4,6,7,9]) Tryz.func58 rfl (Nz rfl) ?_;refine Xi .pure (Xi _ (Yi (hl) ?_));refine Xi ⟨[(1,.ref 1 0),(4,vi m),(5,vi 0)],[(1,.cells (Ak r))],Aa⟩ (Yi ⟨Z3,Z1,Fh,Tv⟩ ?_)
   refine Yi ?_ ?_
   ·intro h;exact absurd rfl h
   intro _;refine Xi ⟨[(1,.ref 1 0),(4,vi m)],[(1,.cells (Ak r))],Aa⟩ (Yi ⟨Z2,Z1,Fh,Tv⟩ ?_)
   refine Yi (Nz rfl) ?_;refine Xi .pure (Xi _ (Yi (hv) ?_));refine Yi ?_ ?_
   ·intro h;have h:r.ver.a≠m:=h;have e:(2:Int)=DF r:=by rw[er,h2,Ay h];rfl
    exact .of_eq (Ac vi e)
   intro h;have h:¬r.ver.a≠m:=h;have h3:r.ver.a=m:=Ga h;have pU:DF r=if BL r.reqs≠0 then BL r.reqs else if(EV r.arch&&EV r.ifc&&EV r.cert)=true then 0 else 1:=by rw[er,h2,AA h3];rfl
   refine Xi ⟨[(1,.ref 1 0)],[(1,.cells (Ak r))],Aa⟩ (Yi ⟨Z1,Z1,Fh,Tv⟩ ?_)
   refine Xi .pure (Xi _ (Yi (hc) ?_));refine Xi ⟨[(1,.ref 1 0),(6,vi (BL r.reqs))],[(1,.cells (Ak r))],Aa⟩ (Yi ⟨Z2,Z1,Fh,Tv⟩ ?_)
   refine Yi ?_ ?_
   ·intro h4;have h4:BL r.reqs≠0:=h4;exact .of_eq (Ac vi (show BL r.reqs=DF r by rw[pU,Ao h4]))
   intro h4;have h4:¬BL r.reqs≠0:=h4;have so:DF r=if(EV r.arch&&EV r.ifc&&EV r.cert)=true then 0 else 1:=by rw[pU,Ah h4]
   refine Xi ⟨[(1,.ref 1 0)],[(1,.cells (Ak r))],Aa⟩ (Yi ⟨Z1,Z1,Fh,Tv⟩ ?_)
   refine Xi {i:Nat // i≤3∧∀j,j<i→EV (eJ r j)=true} (Xi (fun i=>⟨[(41,.slice (.id 41 1) [[vs r.arch],[vs r.ifc],[vs r.cert]]),(42,vi 3),(43,vi i.1)],[(41,.tok 1 3)],Aa⟩) (Xi (fun i=>3-i.1) (Yi (Xi ⟨0,by omega,fun j h=>by omega⟩ ?_) ?_)))
   ·exact⟨Z3,Z1,Fh,Tv⟩
   intro⟨i,i1,i2⟩;refine Yi ?_ ?_
   ·intro h;have h:(i:Int)<3:=h;have next:EV (eJ r i)=true→∀j,j<i+1→EV (eJ r j)=true:=fun hz j hj=>by
     rcases EF j i with q | q
     ·exact i2 j q
     ·have:j=i:=by omega
      subst this;exact hz
    match i,i1,i2,h,next with
    |0,i1,i2,h,next =>
     refine Xi [vs r.arch] (Yi (Yi (by show(0:Int)≤0;decide) rfl) (Yi rfl ?_));refine Yi ?_ ?_
     ·intro h5;have h5:((r.arch.size:Nat):Int)≠0:=h5;refine Yi ?_ ?_
      ·intro h6;have h6:((r.arch.size:Nat):Int)≠32:=h6;have e:(1:Int)=DF r:=by rw[so,YT (i:=0) (by decide) (show EV r.arch=false by unfold EV;rw[Ay (by omega),Ay (by omega)];rfl)];rfl
       exact .of_eq (Ac vi e)
      ·intro h6;have h6:¬((r.arch.size:Nat):Int)≠32:=h6;refine Yi (Ii 0 (by omega)) ?_;refine Xi ⟨1,by omega,next (show EV r.arch=true by unfold EV;rw[AA (by omega:r.arch.size=32),Bool.or_true])⟩ ?_
       exact⟨by show 3-1<3-0;decide,Z3,Z1,Fh,Tv⟩
     ·intro h5;have h5:¬((r.arch.size:Nat):Int)≠0:=h5;refine Yi (Ii 0 (by omega)) ?_;refine Xi ⟨1,by omega,next (show EV r.arch=true by unfold EV;rw[AA (by omega:r.arch.size=0)];rfl)⟩ ?_
      exact⟨by show 3-1<3-0;decide,Z3,Z1,Fh,Tv⟩
    |1,i1,i2,h,next =>
     refine Xi [vs r.ifc] (Yi (Yi (by show(0:Int)≤1;decide) rfl) (Yi rfl ?_));refine Yi ?_ ?_
     ·intro h5;have h5:((r.ifc.size:Nat):Int)≠0:=h5;refine Yi ?_ ?_
      ·intro h6;have h6:((r.ifc.size:Nat):Int)≠32:=h6;have e:(1:Int)=DF r:=by rw[so,YT (i:=1) (by decide) (show EV r.ifc=false by unfold EV;rw[Ay (by omega),Ay (by omega)];rfl)];rfl
       exact .of_eq (Ac vi e)
      ·intro h6;have h6:¬((r.ifc.size:Nat):Int)≠32:=h6;refine Yi (Ii 1 (by omega)) ?_;refine Xi ⟨2,by omega,next (show EV r.ifc=true by unfold EV;rw[AA (by omega:r.ifc.size=32),Bool.or_true])⟩ ?_
       exact⟨by show 3-2<3-1;decide,Z3,Z1,Fh,Tv⟩
     ·intro h5;have h5:¬((r.ifc.size:Nat):Int)≠0:=h5;refine Yi (Ii 1 (by omega)) ?_;refine Xi ⟨2,by omega,next (show EV r.ifc=true by unfold EV;rw[AA (by omega:r.ifc.size=0)];rfl)⟩ ?_
      exact⟨by show 3-2<3-1;decide,Z3,Z1,Fh,Tv⟩
    |2,i1,i2,h,next =>
     refine Xi [vs r.cert] (Yi (Yi (by show(0:Int)≤2;decide) rfl) (Yi rfl ?_));refine Yi ?_ ?_
     ·intro h5;have h5:((r.cert.size:Nat):Int)≠0:=h5;refine Yi ?_ ?_
      ·intro h6;have h6:((r.cert.size:Nat):Int)≠32:=h6;have e:(1:Int)=DF r:=by rw[so,YT (i:=2) (by decide) (show EV r.cert=false by unfold EV;rw[Ay (by omega),Ay (by omega)];rfl)];rfl
       exact .of_eq (Ac vi e)
      ·intro h6;have h6:¬((r.cert.size:Nat):Int)≠32:=h6;refine Yi (Ii 2 (by omega)) ?_;refine Xi ⟨3,by omega,next (show EV r.cert=true by unfold EV;rw[AA (by omega:r.cert.size=32),Bool.or_true])⟩ ?_
       exact⟨by show 3-3<3-2;decide,Z3,Z1,Fh,Tv⟩
     ·intro h5;have h5:¬((r.cert.size:Nat):Int)≠0:=h5;refine Yi (Ii 2 (by omega)) ?_;refine Xi ⟨3,by omega,next (show EV r.cert=true by unfold EV;rw[AA (by omega:r.cert.size=0)];rfl)⟩ ?_
      exact⟨by show 3-3<3-2;decide,Z3,Z1,Fh,Tv⟩
    |i+3,i1,i2,h,next=>omega
   ·intro h;have h:¬(i:Int)<3:=h;have e:(0:Int)=DF r:=by rw[so,Ao (mT fun j hj=>i2 j (by omega))]
    exact .of_eq (Ac vi e)
  ·rw[h2]at hv;have e:(2:Int)=DF r:=by rw[er,h2];rfl
   refine Ps (Jo [2,4]) Tryz.func58 rfl (Nz rfl) ?_;refine Xi .pure (Xi _ (Yi (hl) ?_));refine Xi ⟨[(1,.ref 1 0),(4,vi m),(5,vi 0)],[(1,.cells (Ak r))],Aa⟩ (Yi ⟨Z3,Z1,Fh,Tv⟩ ?_)
   refine Yi ?_ ?_
   ·intro h;exact absurd rfl h
   intro _;refine Xi ⟨[(1,.ref 1 0),(4,vi m)],[(1,.cells (Ak r))],Aa⟩ (Yi ⟨Z2,Z1,Fh,Tv⟩ ?_)
   refine Yi (Nz rfl) ?_;refine Xi .pure (Xi _ (Yi (hv) ?_));exact .of_eq (Ac vi e)
theorem nR{a b:Rl}(h:a.path=b.path∧a.ver.a=b.ver.a∧a.ver.b=b.ver.b∧a.ver.c=b.ver.c):Fk a=Fk b:=by
 unfold Fk;obtain⟨h1,h2,h3,h4⟩:=h
 have:a.ver=b.ver:=by
  cases ha:a.ver;cases hb:b.ver;rw[ha,hb]at h2 h3 h4;simp_all
 rw[h1,this]
theorem cq{a b:Rl}(h:Fk a=Fk b):a.path=b.path∧a.ver.a=b.ver.a∧a.ver.b=b.ver.b∧a.ver.c=b.ver.c:=by
 unfold Fk at h
 injection h with h1 h2
 exact⟨h1,by rw[h2],by rw[h2],by rw[h2]⟩
abbrev jl(x:List Rl):Nat→Option Rl
 |0=>none
 |k+1=>x[k]?
theorem lr{nm:ByteArray→ByteArray}(hL:TX nm)(x:List Rl)(ifs:List (List AV))(hs:∀r∈x,JX r):PC 37 [.agg (Ic x ifs)] (vi (AT x)):=by
 refine Ps (Jo [7,9,11,13]) Tryz.func37 rfl (Nz rfl) ?_;refine Yi ?_ ?_
 ·intro h;have h:(256:Int)<(x.map Ak).length:=h;exact .of_eq (Ac vi (show(7:Int)=AT x by unfold AT;rw[Ao (by rw[Lm]at h;omega)]))
 intro h;have h:¬(256:Int)<(x.map Ak).length:=h;have hl:x.length≤256:=by rw[Lm]at h;omega
 have TS:AT x=DH none x:=by unfold AT;rw[Ah (by omega)]
 refine Xi {i:Nat // i≤x.length∧DH none x=DH (jl x i) (x.drop i)} (Xi (fun i=>⟨[(1,.ref 1 0),(12,sl Ak x),(13,vi (x.map Ak).length),(14,vi i.1)],[(1,.cells (Ic x ifs))],Aa⟩) (Xi (fun i=>x.length-i.1) (Yi (Xi ⟨0,AL _,rfl⟩ ?_) ?_)))
 ·exact⟨Z4,Z1,Fh,Tv⟩
 intro⟨i,h1,h2⟩;refine Yi ?_ ?_
 ·intro h;have h:(i:Int)<(x.map Ak).length:=h;have h:i<x.length:=by simpa using h
  have hg:x[i]?=some x[i]:=Ge h;have hd:x.drop i=x[i]::x.drop (i+1):=Bj h;have hc:=tp hL x[i] (hs x[i] (AC h));have J5:DH none x=if DF x[i]≠0 then DF x[i]else match jl x i with
   |none=>DH (some x[i]) (x.drop (i+1))
   |some b=>if Fk b=Fk x[i]then 5 else if 0<Dy b x[i]then 1 else DH (some x[i]) (x.drop (i+1)):=by rw[h2,hd];rfl
  have lJ:jl x (i+1)=some x[i]:=Ge h;refine Xi (Ak x[i]) (Yi (Yi (Nn i) (by simp[hg])) (Yi rfl ?_));refine Yi (Nz rfl) (Yi (Nz rfl) (Yi (Nz rfl) ?_));refine Xi .pure (Xi _ (Yi (hc) ?_));refine Xi ⟨[(1,.ref 1 0),(3,vi i),(4,.ref 4 0),(5,vi (DF x[i])),(12,sl Ak x),(13,vi (x.map Ak).length),(14,vi i)],[(1,.cells (Ic x ifs)),(4,.cells (Ak x[i]))],Aa⟩ (Yi ⟨Z7,Z2,Fh,Tv⟩ ?_)
  refine Yi ?_ ?_
  ·intro h4;have h4:DF x[i]≠0:=h4;exact .of_eq (Ac vi (show DF x[i]=AT x by rw[TS,J5,Ao h4]))
  intro h4;have h4:¬DF x[i]≠0:=h4;refine Xi ⟨[(1,.ref 1 0),(3,vi i),(4,.ref 4 0),(12,sl Ak x),(13,vi (x.map Ak).length),(14,vi i)],[(1,.cells (Ic x ifs)),(4,.cells (Ak x[i]))],Aa⟩ (Yi ⟨Z6,Z2,Fh,Tv⟩ ?_)
  refine Yi ?_ ?_
  ·intro h5;have h5:(i:Int)=0:=h5;have h6:i=0:=by omega
   refine Yi (Ii i (by omega)) ?_;refine Xi ⟨i+1,by omega,by rw[J5,Ah h4,lJ];subst h6;rfl⟩ ?_;exact⟨Dl x.length i (by omega),Z4,Z1,Fh,Tv⟩
  intro h5;have h5:¬(i:Int)=0:=h5;have zN:i-1<x.length:=by omega
  have hb:jl x i=some x[i-1]:=by
   obtain⟨k,rfl⟩:∃k,i=k+1:=⟨i-1,by omega⟩;exact Ge (by omega)
  have nt:DH none x=if Fk x[i-1]=Fk x[i]then 5 else if 0<Dy x[i-1] x[i]then 1 else DH (some x[i]) (x.drop (i+1)):=by rw[J5,Ah h4,hb]
  refine Yi (by show BQ ((i:Int)-1);unfold BQ;omega) ?_;have T9:(x.map Ak)[((i:Int)-1).toNat]?=some (Ak x[i-1]):=by rw[show((i:Int)-1).toNat=i-1 by omega];exact Do (Ge zN)
  refine Xi (Ak x[i-1]) (Yi (Yi (by show(0:Int)≤(i:Int)-1;omega) T9) (Yi rfl ?_));refine Yi (Nz rfl) (Yi (Nz rfl) ?_);refine Xi ⟨[(1,.ref 1 0),(4,.ref 4 0),(6,.ref 6 0),(12,sl Ak x),(13,vi (x.map Ak).length),(14,vi i)],[(1,.cells (Ic x ifs)),(4,.cells (Ak x[i])),(6,.cells (Ak x[i-1]))],Aa⟩ (Yi ⟨Z6,Z3,Fh,Tv⟩ ?_)
  refine Yi (Nz rfl) ?_;refine Xi _ (Yi (mG x[i-1]) ?_);refine Yi (Nz rfl) ?_;refine Xi _ (Yi (mG x[i]) ?_);refine Yi ?_ ?_
  ·intro h6;refine Yi (by kernel_rfl) ?_;have e:(5:Int)=AT x:=by rw[TS,nt,Ao (nR ⟨h6.1,h6.2.1,h6.2.2.1,h6.2.2.2.1⟩)]
   exact .of_eq (Ac vi e)
  intro h6;refine Yi (by kernel_rfl) ?_;have h7:¬Fk x[i-1]=Fk x[i]:=fun e=>by
   have e:=cq e;exact h6 ⟨e.1,e.2.1,e.2.2.1,e.2.2.2,trivial⟩
  refine Xi ⟨[(1,.ref 1 0),(4,.ref 4 0),(6,.ref 6 0),(12,sl Ak x),(13,vi (x.map Ak).length),(14,vi i)],[(1,.cells (Ic x ifs)),(4,.cells (Ak x[i])),(6,.cells (Ak x[i-1]))],Aa⟩ (Yi ⟨Z6,Z3,Fh,Tv⟩ ?_)
  refine Yi (Nz rfl) (Yi (Nz rfl) ?_);refine Xi .pure (Xi _ (Yi (pz x[i-1] x[i]) ?_));refine Yi ?_ ?_
  ·intro h8;have h8:(0:Int)<Dy x[i-1] x[i]:=h8;have e:(1:Int)=AT x:=by rw[TS,nt,Ah h7,Ao h8]
   exact .of_eq (Ac vi e)
  ·intro h8;have h8:¬(0:Int)<Dy x[i-1] x[i]:=h8;refine Yi (Ii i (by omega)) ?_;refine Xi ⟨i+1,by omega,by rw[nt,Ah h7,Ah h8,lJ]⟩ ?_;exact⟨Dl x.length i (by omega),Z4,Z1,Fh,Tv⟩
 ·intro h;have h:¬(i:Int)<(x.map Ak).length:=h;have h:¬i<x.length:=by simpa using h
  have e:(0:Int)=AT x:=by rw[TS,h2,TY (by omega)];rfl
  exact .of_eq (Ac vi e)
end Go.Eng
