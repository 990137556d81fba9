/- Lemmas for the claims of this seat, without a condition: part 19 (C24, C25, C26, C27, C28, C29, C30, C31, C32, C33, C34, C35, C36, C37, C38). -/
import Derived.Test.YtmcbkdbfaneofaaGreatDoorEA18
import Derived.Shelf.Slices.Delete
namespace Go.Eng
open Go.Proofs
theorem mT(l:List Tm)(hl:Cm l)(hs:∀t∈l,Cm t.set):PC 196 [sl AF l] (sl AF (PY l)):=by
 refine Ps F3 Tryz.func196 rfl (Nz rfl) ?_;refine Xi .pure (Xi _ (Yi (r8 l hl hs) ?_));exact .refl _
theorem PL(s:Bj):Cm (Ed s):=by
 unfold Cm;have:=HW (G5 s);omega
theorem m6{α:Type}(x:α):Cm [x]:=by unfold Cm;simp
theorem t8{α:Type}(x y:α):Cm [x,y]:=by unfold Cm;simp
theorem tJ(q:Rq)(hq:Cm q.set):PC 155 [.agg (AM q)] (sl AF (Jt q)):=by
 have hc:PC 196 [sl AF [DG q]] (sl AF (Jt q)):=mT [DG q] (m6 _) fun t ht=>by rw[Am.1 ht];exact PL _
 refine Ps F3 Tryz.func155 rfl (Nz rfl) ?_;refine Yi (Nz rfl) ?_;refine Xi .pure (Xi _ (Yi (pL q hq) ?_));refine Xi .pure (Xi _ (Yi (hc) ?_));exact .refl _
theorem tK(p:ByteArray)(pl:Int)(q:Rq)(hp:B2 (pl+1))(hq:Cm q.set):PC 156 [vs p,vi pl,.agg (AM q)] (sl AF (Ei p pl q)):=by
 have hc:PC 196 [sl AF [⟨p,false,[(pl,pl+1)]⟩,DG q]] (sl AF (Ei p pl q)):=mT [⟨p,false,[(pl,pl+1)]⟩,DG q] (t8 _ _) fun t ht=>by
  rcases Aq.1 ht with rfl | ht
  ·exact m6 _
  ·rw[Am.1 ht];exact PL _
 refine Ps F3 Tryz.func156 rfl (Nz rfl) ?_;refine Yi hp ?_;refine Yi (Nz rfl) ?_;refine Xi .pure (Xi _ (Yi (pL q hq) ?_));refine Xi .pure (Xi _ (Yi (hc) ?_));exact .refl _
theorem pI(p:ByteArray)(s:Bj)(hs:Cm s):PC 160 [vs p,sl Ao s] (sl AF (HR p s)):=by
 have hc:PC 196 [sl AF [⟨p,false,Ed s⟩]] (sl AF (HR p s)):=mT [⟨p,false,Ed s⟩] (m6 _) fun t ht=>by rw[Am.1 ht];exact PL _
 refine Ps F3 Tryz.func160 rfl (Nz rfl) ?_;refine Xi .pure (Xi _ (Yi (mJ s hs) ?_));refine Xi .pure (Xi _ (Yi (hc) ?_));exact .refl _
end Go.Eng
namespace Go.Eng
open Go.Proofs Go.Shelf Go.RowKit Go.Lib Go.Sort
theorem nT(F:Array Value)(i n:Nat)(hF:F.size=n*3)(hi:i<n)(z:List Value)(hz:z.length=3):(lay (lay F (i*3) (F.toList.drop ((i+1)*3))) ((n-1)*3) z).toList=F.toList.take (i*3)++F.toList.drop ((i+1)*3)++z:=by
 have l1:(F.toList.take (i*3)).length=i*3:=by simp;omega
 have l2:(F.toList.drop ((i+1)*3)).length=(n-(i+1))*3:=by simp;omega
 apply CC
 intro t
 rw[A3,lay_get? _ _ _ _ (by rw[Lib.lay_size];omega),lay_get? _ _ _ _ (by rw[l2];omega)]
 rw[hz,l2]
 by_cases c1:t<i*3
 ·rw[Ah (by omega),Ah (by omega),AY (by rw[Ad];omega),AY (by omega),Jx,Aw c1,A3]
 ·by_cases c2:t<(n-1)*3
  ·rw[Ah (by omega),Aw (by omega),AY (by rw[Ad];omega),A5 (by omega),l1]
  ·rw[A5 (by rw[Ad];omega),Ad,l1,l2]
   by_cases c3:t<n*3
   ·rw[Aw (by omega)];congr 1;omega
   ·rw[Ah (by omega),Ah (by omega),T5 (by omega),A6 (by omega)]
abbrev jp:List Value:=[.string ⟨#[]⟩,.bool false,.slice none 0 0]
set_option maxHeartbeats 4000000 in
set_option maxRecDepth 1000000 in
theorem eZ(w:World)(b cap i n:Nat)(F:Array Value)(hF:F.size=n*3)(hi:i<n)(OK:n≤cap)(hH:Holds id w b 0 F)(h1:∀x∈F.toList,x.oneCell'=true) :
  Calls Tryz.prog 229 #[.slice (some ⟨b,0,none⟩) n cap,.int .i64 i,.int .i64 ((i:Int)+1)] w fun e w'=>e=.returned (.slice (some ⟨b,0,none⟩) (n-1) cap) ∧
   w'=putRow id (Sort.ahead w 1) b 0 (lay (lay F (i*3) (F.toList.drop ((i+1)*3))) ((n-1)*3) jp):=by
 obtain⟨i0,fO,nL⟩:∃i0,Tryz.prog.info? 207=some i0∧i0.size=3:=by
  obtain⟨i,z,h1,_,h2,_⟩:=Ho (P:=Tryz.prog) (T:=mn) CB (e:=207) (n:=2) (by kernel_rfl)
  exact⟨i,h1,h2.trans (by kernel_rfl)⟩
 obtain⟨news,IM⟩:∃news,news=F.toList.drop ((i+1)*3):=⟨_,rfl⟩
 have CI:news.length=(n-(i+1))*3:=by rw[IM];simp;omega
 have Fb:∀t,t<(n-(i+1))*3→news[t]?=some F[(i+1)*3+t]!:=by
  intro t ht
  rw[IM,BR,A3,DB F ((i+1)*3+t) (by omega),BE (by omega)]
 obtain⟨A,hA,ct⟩:∃A:Addr,(if cap=i+1 then some (⟨b,0,none⟩:Addr)else some ⟨b,(i+1)*3,none⟩)=some A∧Hid (∀t u,news[t]?=some u→w.drew.cell? (A.add t)=some u):=by
  by_cases h:cap=i+1
  ·refine⟨⟨b,0,none⟩,by simp[h],fun t u hu=>?_⟩
   have h0:news.length=0:=by rw[CI];omega
   rw[List.length_eq_zero_iff.1 h0]at hu
   simp at hu
  ·refine⟨⟨b,(i+1)*3,none⟩,by simp[h],fun t u hu=>?_⟩
   have ht:t<(n-(i+1))*3:=by
    have:=(At.1 hu).1
    rwa [CI]at this
   rw[Fb t ht]at hu
   rw[Addr.add_lit]
   have:=(hH ((i+1)*3+t) (by omega)).1
   rw[Bi]at this
   exact this.trans hu
 have s1:Hid (news.length=(n-(i+1))*3):=CI
 have s2:Hid (∀u∈news,u.oneCell'=true):=by
  intro u hu
  rw[IM]at hu
  exact h1 u (Il hu)
 have s3:Hid (∀t,t<news.length→(w.drew.cell? ⟨b,0+i*3+t,none⟩).isSome=true∧w.drew.frozen? ⟨b,0+i*3+t,none⟩=false):=by
  intro t ht
  rw[CI]at ht
  have:=hH (i*3+t) (by omega)
  rw[Gl]
  exact⟨by show(w.cell? _).isSome=true;rw[this.1];rfl,this.2⟩
 obtain⟨W1,sn⟩:∃W1,W1=w.drew.setCells b (0+i*3) news:=⟨_,rfl⟩
 have nf : W1=putRow id (Sort.ahead w 1) b 0 (lay F (i*3) news):=by
  have:=putRow_setCells id (Sort.ahead w 1) b 0 news F (i*3) (by omega)
  rw[putRow_self id (Sort.ahead w 1) b 0 F (holds_ahead id w 1 b 0 F hH),JD]at this
  rw[sn,←this]
  rfl
 have uh:Holds id W1 b 0 (lay F (i*3) news):=by rw[nf];exact holds_putRow id _ b 0 F _ (holds_ahead id w 1 b 0 F hH) (Lib.lay_size _ _ _)
 have Jg:(storeCells ⟨b,0+(n-1)*3,none⟩ jp 0).run Tryz.prog W1=.ok () (W1.setCells b (0+(n-1)*3) jp):=by
  have:=run_storeCells_cells (P:=Tryz.prog) b (0+(n-1)*3) jp 0 W1 (fun j hj=>by
   have hj:j<3:=hj
   have:=uh ((n-1)*3+j) (by rw[Lib.lay_size];omega)
   rw[show 0+(n-1)*3+0+j=0+((n-1)*3+j) by omega,this.1];rfl) (fun j hj=>by
   have hj:j<3:=hj
   have:=uh ((n-1)*3+j) (by rw[Lib.lay_size];omega)
   rw[show 0+(n-1)*3+0+j=0+((n-1)*3+j) by omega];exact this.2) (fun v hv=>by
   simp only[Aq,LE,or_false]at hv
   rcases hv with rfl | rfl | rfl<;>rfl)
  exact this
 have hcl:∀ty c,(Builtin.clear_ #[179] ty #[.slice (some ⟨b,(n-1)*3,none⟩) 1 c]).run Tryz.prog W1=.ok (.tuple #[]) (W1.setCells b (0+(n-1)*3) jp):=fun ty c=>by
  have hv:=Tryz.zeroValue207
  rw[Bi]at Jg⊢
  have hz:(Builtin.zeroCells (Value.agg #[Value.string { data:=#[] },Value.bool false,Value.slice none 0 0]).cells 1).toList=jp:=by kernel_rfl
  simp[Builtin.clear_,run_underlying Tryz.underlying179,hv,hz,Jg]
 have zE:∀ty,(Builtin.clear_ #[179] ty #[.slice (some ⟨b,(i+(n-(i+1)))*3,none⟩) (n-(i+(n-(i+1)))) (cap-(i+(n-(i+1))))]).run Tryz.prog W1=.ok (.tuple #[]) (W1.setCells b (0+(n-1)*3) jp):=fun ty=>by
  have e1:i+(n-(i+1))=n-1:=by omega
  have e2:n-(n-1)=1:=by omega
  rw[e1,e2];exact hcl ty _
 have X:Aside (W1=putRow id (Sort.ahead w 1) b 0 (lay F (i*3) news)):=nf
 have hW:Hid (W1=w.drew.setCells b (0+i*3) news):=sn
 have Y:Aside (news=F.toList.drop ((i+1)*3)):=IM
 have Z:Aside (news.length=(n-(i+1))*3):=CI
 have qw:i≤cap:=by omega
 have hjc:i+1≤cap:=by omega
 have mixed:=Go.Eng.hm
 have hb1:(0:Int)≤(i:Int)+1:=by omega
 have Ui:(i:Int)+1≤(n:Int):=by omega
 clear sn nf uh hH Fb IM CI Jg hcl
 go_enter Tryz.func229,Tryz.ntmps229
 go_wp2_with fail
 go_region_law_o (refine step_append_room rfl (.tmp 22) (.tmp 25) 179 rfl 207 i0 3 Tryz.underlying179 fO nL b 0 i cap (by simp[Act.eval,Act.put]) A (n-(i+1)) (cap-(i+1)) news (by simp[Act.eval,Act.put]) s1.out ct.out s2.out (by omega) s3.out ?_;rw[←hW.out])
 go_wp2
 go_ret
 refine⟨by rw[show i+(n-(i+1))=n-1 by omega];rfl,?_⟩
 rw[X.out]
 have e1:=Y.out
 have e2:=Z.out
 rw[←e1]
 have:=putRow_setCells id (Sort.ahead w 1) b 0 jp (lay F (i*3) news) ((n-1)*3) (by rw[Lib.lay_size];show _+3≤_;omega)
 rw[JD,Bi]at this
 exact this
abbrev Uv:List AV:=[Go.Eng.vs ⟨#[]⟩,vb false,.v (.slice none 0 0)]
theorem tW(l:List Tm)(i:Nat)(hi:i<l.length) :
  Be Tryz.prog 229 [.msl 1000 l.length,vi i,vi ((i:Int)+1)] (Ai [(1000,.arr 3 (l.map AF))] Ab) fun r h'=>r=.msl 2000 (l.length-1)∧h'=Ai [(1000,.dead),(2000,.arr 3 ((l.eraseIdx i).map AF))] Ab:=by
 have hE:FX Tryz.prog 229:=dK 229 Tryz.func229 (by kernel_rfl) rfl
 have CI:(l.eraseIdx i).length=l.length-1:=List.length_eraseIdx_of_lt hi
 have G8:=Uz (P:=Tryz.prog) (f:=229) (es:=l.map AF) (sz:=3) (rest:=[.int .i64 i,.int .i64 ((i:Int)+1)]) (n':=l.length-1) (Q:=fun Fz=>Fz=(l.eraseIdx i).map AF++[Uv]) hE (fun e=>by
  rw[Dq]at e;subst e;simp at hi) (by rw[Ba];omega) ?_
 ·rw[Ba]at G8
  refine⟨hE,fun g w vals q1 q2 q3=>(G8.2 g w vals q1 q2 q3).mono fun _ _ ⟨v,r,h',g',e1,⟨e2,Fz,p1,p2⟩,rest⟩=>⟨v,r,h',g',e1,⟨e2,by rw[p2,p1,D5 (by rw[Ba,CI];exact Aj _),AT (by rw[Ba,CI];exact Aj _)]⟩,rest⟩⟩
 ·intro g w b cap F hr hF hH hb hc
  rw[Ba]at hF hc⊢
  have hu:∀e∈l.map AF,e.length=3:=fun e he=>by
   obtain⟨t,_,rfl⟩:=Ak.1 he;rfl
  refine(eZ w b cap i l.length F hF hi hc hH hr.2.1).mono ?_
  rintro e w' ⟨rfl,rfl⟩
  refine⟨rfl,_,_,1,#[],?_,rfl,?_,fun cs hcs=>?_,fun g w hr=>?_,rfl⟩
  ·rw[Lib.lay_size,Lib.lay_size]
  ·rw[Ad,Ba,CI,AD];omega
  ·rcases A7.1 hcs with h | h
   ·obtain⟨t,_,rfl⟩:=Ak.1 h;rfl
   ·rw[Am.1 h];rfl
  ·rw[nT F i l.length hF hi jp rfl,List.eraseIdx_eq_take_drop_succ,CK,AH,CK,Re,List.map_drop,←KZ _ i hu,←OB _ (i+1) hu]
   refine CG.append (CG.append (hr.take _) (hr.drop _)) ?_
   exact MW g w Fp jp fun x hx=>by
    simp only[Aq,LE,or_false]at hx
    rcases hx with rfl | rfl | rfl<;>rfl
end Go.Eng
namespace Go.Eng
open Go.Proofs
theorem pM(l:List Tm)(hl:Cm l)(DC:l≠[]):Be Tryz.prog 230 [sl AF l] (Ai [] Ab) fun r h'=>r=.msl 2000 l.length∧h'=Ai [(2000,.arr 3 (l.map AF))] Ab:=by
 refine Co (MF (yo [(5,3)] [])) [(5,2000)] rfl CB hm rfl Tryz.func230 (by kernel_rfl) rfl (Nz rfl) (by kernel_rfl) rfl ?_;have Gp:Do 3 (l.map AF)∧([]:List (List AV)).length=0∧(([]:List (List AV)).length+(l.map AF).length)*48≤140737488355328∧([]:List (List AV)).length+(l.map AF).length≤9223372036854775807:=by
  refine⟨Ez (enc:=AF) (n:=3) (fun _=>rfl) l,rfl,?_,?_⟩<;>simp only[AC,Lm]<;>unfold Cm at hl<;>omega
 refine Yi ?_ ?_
 ·intro _;refine Yi Gp ?_;have e1:AV.msl 2000 (([]:List (List AV)).length+(l.map AF).length)=.msl 2000 l.length:=by simp
  refine Xi (.msl 2000 (([]:List (List AV)).length+(l.map AF).length)) (Yi (.refl _) (Yi e1 ?_))
  rfl
 ·intro h;have h:l.map AF=[]:=h;exact absurd (Dq.1 h) DC
theorem mU(x:Tm)(p:ByteArray):PC 228 [.agg (AF x),.cptr [vs p]] (vb (decide (x.path=p))):=by
 refine Ps F3 Tryz.func228 rfl (Nz rfl) ?_;refine Yi ?_ ?_
 ·intro h;have h:x.path=p:=h;rw[Ax h];exact .refl _
 ·intro h;have h:¬x.path=p:=h;rw[Ar h];exact .refl _
theorem Na{p:ByteArray}:∀{c:List Tm} {i:Nat},(Eu c).Nodup→∀(hi:i<c.length),c[i].path=p→c.eraseIdx i=FI c p
 |t::c,0,hn,_,h=>by
  have h:t.path=p:=h;unfold Eu at hn;rw[AN,CF]at hn;unfold FI;rw[DK,Ah (by simp[h])];show c=_;rw[List.filter_eq_self.2 fun u hu=>by
   have:u.path≠p:=fun e=>hn.1 (h▸e▸Ak.2 ⟨u,hu,rfl⟩)
   simp[this]]
 |t::c,i+1,hn,hi,h=>by
  have hi:i<c.length:=by simpa using hi
  have h:c[i].path=p:=h;unfold Eu at hn;rw[AN,CF]at hn
  have:t.path≠p:=fun e=>hn.1 (by rw[e,←h];exact Ak.2 ⟨_,Ap hi,rfl⟩)
  have ih:=Na hn.2 hi h;unfold FI at ih⊢;rw[List.eraseIdx_cons_succ,DK,Aw (by simp[this]),ih]
theorem PK{l c:List Tm}(hl:Cm l)(h:CP l=some c):Cm c:=by
 have h1:=NQ l l.length (Aj _);rw[Du]at h1;have h2:c=(ET l).filter fun t=>!Gn t:=by
  unfold CP at h;split at h
  ·cases h
  ·exact(BM h).symm
 have h3:c.length≤(ET l).length:=by rw[h2];exact BD _ _
 have h4:(ET l).length=(CX l).length:=by
  have:=(List.perm_ext_iff_of_nodup (HD (HB l)) (HD (HL (Eo l)))).2 (I5 l)
  exact this.length_eq.symm
 unfold Cm at hl⊢;omega
abbrev kK:AV:=.tup [.agg Uv,.v (.slice none 0 0),vb false]
abbrev mh:T2:=⟨[3],[],[],[],[],[],[],[],[(30,0),(34,1)],[],[3]⟩
theorem eD(l:List Tm)(p:ByteArray)(hl:Cm l)(hs:∀t∈l,Cm t.set)(hn:Fk l p=none):PC 203 [sl AF l,vs p] kK:=by
 have hc:=r8 l hl hs;unfold Fk at hn;cases e:CP l with
 |none =>
  have e1:GB l=.tup [sl AF [],vb false]:=by unfold GB PY;rw[e];rfl
  rw[e1]at hc;have hi:=jF (EH.ptr [vs p]) [] (fun x=>decide (x.path=p)) (fun x _=>mU x p) (by simp);refine Ps mh Tryz.func203 rfl (Nz rfl) ?_;refine Xi .pure (Xi _ (Yi (hc) ?_));refine Xi .pure (Xi _ (Yi (hi) ?_));refine Xi ⟨[(4,.ref 4 0),(7,sl AF []),(8,vb false),(9,vi (-1))],[(4,.cells Uv)],Ab⟩ (Yi ⟨Z4,Z1,Fh,Tv⟩ ?_)
  refine Yi (Nz rfl) (Yi (Nz rfl) ?_);exact .refl _
 |some c =>
  rw[e]at hn;have hn:(match Dj c p with | none=>none | some t=>some (t,FI c p))=none:=hn;have qt:Dj c p=none:=by
   cases h:Dj c p with
   |none=>rfl
   |some t=>rw[h]at hn;cases hn
  have e1:GB l=.tup [sl AF c,vb true]:=by unfold GB PY;rw[e];rfl
  rw[e1]at hc;have qq:=PK hl e;have hi:=jF (EH.ptr [vs p]) c (fun x=>decide (x.path=p)) (fun x _=>mU x p) (by unfold Cm at qq;omega);have hid:H1 (fun x:Tm=>decide (x.path=p)) c 0=-1:=by
   rcases ON (p:=fun x:Tm=>decide (x.path=p)) c 0 with ⟨h1,_⟩ | ⟨i,x,_,_,h3⟩
   ·exact h1
   ·unfold Dj at qt;rw[h3]at qt;cases qt
  rw[hid]at hi;refine Ps mh Tryz.func203 rfl (Nz rfl) ?_;refine Xi .pure (Xi _ (Yi (hc) ?_));refine Xi .pure (Xi _ (Yi (hi) ?_));refine Xi ⟨[(4,.ref 4 0),(7,sl AF c),(8,vb true),(9,vi (-1))],[(4,.cells Uv)],Ab⟩ (Yi ⟨Z4,Z1,Fh,Tv⟩ ?_)
  refine Yi ?_ ?_
  ·intro _;refine Yi (Nz rfl) (Yi (Nz rfl) ?_);exact .refl _
  ·intro h;exact absurd (show(-1:Int)<0 by decide) h
abbrev oc:T2:=⟨[3],[],[],[],[],[],[],[],[(30,0),(34,2)],[],[]⟩
theorem eF(l:List Tm)(p:ByteArray)(hl:Cm l)(hs:∀t∈l,Cm t.set){t:Tm}{r:List Tm}(hn:Fk l p=some (t,r)) :
  Be Tryz.prog 203 [sl AF l,vs p] (Ai [] Ab) fun v h'=>v=.tup [.agg (AF t),.msl 2000 r.length,vb true]∧h'=Ai [(2000,.arr 3 (r.map AF))] Ab:=by
 have hc:=r8 l hl hs;unfold Fk at hn;cases e:CP l with
 |none=>rw[e]at hn;cases hn
 |some c =>
  rw[e]at hn;have hn:(match Dj c p with | none=>none | some t=>some (t,FI c p))=some (t,r):=hn;have fK:Dj c p=some t∧FI c p=r:=by
   cases h:Dj c p with
   |none=>rw[h]at hn;cases hn
   |some t=>rw[h]at hn;cases hn;exact Zr
  have e1:GB l=.tup [sl AF c,vb true]:=by unfold GB PY;rw[e];rfl
  rw[e1]at hc;have qq:=PK hl e;have hi:=jF (EH.ptr [vs p]) c (fun x=>decide (x.path=p)) (fun x _=>mU x p) (by unfold Cm at qq;omega);rcases ON (p:=fun x:Tm=>decide (x.path=p)) c 0 with ⟨_,h2⟩ | ⟨i,x,h1,h2,h3⟩
  ·unfold Dj at fK;rw[h2]at fK;cases fK.1
  have hx:x=t:=by
   have:=fK.1
   unfold Dj at this;rw[h3]at this;exact BM this
  subst hx;rw[h1,E0]at hi;obtain⟨qw,zP⟩:=At.1 h2;have xC:c.eraseIdx i=r:=by
   rw[←fK.2];exact Na (HL (EJ e)) qw (by rw[zP];exact GY fK.1)
  have sA:c.length-1=r.length:=by rw[←xC,List.length_eraseIdx_of_lt qw]
  have DC:c≠[]:=fun h=>by subst h;simp at qw
  have zJ:c.length≤1073741824:=qq;refine Co (MF oc) [(13400,2000)] rfl CB hm rfl Tryz.func203 (by kernel_rfl) rfl (Nz rfl) (by kernel_rfl) rfl ?_;refine Xi .pure (Xi _ (Yi (hc) ?_));refine Xi .pure (Xi _ (Yi (hi) ?_));refine Yi ?_ ?_
  ·intro h;have h:(i:Int)<0:=h;omega
  intro _;have hg:(c.map AF)[((i:Nat):Int).toNat]?=some (AF x):=by rw[Ci,AG,h2];rfl
  refine Xi (AF x) (Yi (Yi (Nn i) hg) (Yi rfl (Yi (Nz rfl) ?_)));refine Xi c.length (Xi 3 (Xi (c.map AF) (Yi rfl (Yi (pM c qq DC) ?_))));refine Yi (Ii i (by omega)) ?_;refine Xi (c.length-1) (Xi ((c.eraseIdx i).map AF) (Yi rfl (Yi (tW c i qw) ?_)));refine Yi (Nz rfl) ?_;refine Yi (by kernel_rfl) ?_;refine Yi (Nz rfl) ?_;have e2:AV.tup [.agg (AF x),.msl 2000 (c.length-1),vb true]=.tup [.agg (AF x),.msl 2000 r.length,vb true]:=by rw[sA]
  have e3:Ai [(2000,HO.arr 3 ((c.eraseIdx i).map AF))] Ab=Ai [(2000,.arr 3 (r.map AF))] Ab:=by rw[xC]
  exact Xi _ (Yi (.refl _) (Yi e2 e3))
abbrev aT:T2:=⟨[],[],[],[],[],[],[],[],[],[(24,9),(30,12)],[2,3,5,6]⟩
abbrev oo(a b:List Tm)(p:ByteArray):AV:=.tup [sl AF (Bw a b p).1,vi (Bw a b p).2]
theorem Vu{l r:List Tm}{p:ByteArray}{t:Tm}(h:Fk l p=some (t,r)):∃c,CP l=some c∧t∈c∧r=FI c p:=by
 unfold Fk at h;cases e:CP l with
 |none=>rw[e]at h;cases h
 |some c =>
  rw[e]at h;have h:(match Dj c p with | none=>none | some t=>some (t,FI c p))=some (t,r):=h;cases e2:Dj c p with
  |none=>rw[e2]at h;cases h
  |some u=>rw[e2]at h;cases h;exact⟨c,rfl,E5 e2,rfl⟩
theorem Vv{l r:List Tm}{p:ByteArray}{t:Tm}(hl:Cm l)(h:Fk l p=some (t,r)):Cm t.set∧Cm r∧∀u∈r,Cm u.set:=by
 obtain⟨c,h1,h2,rfl⟩:=Vu h;have hs:=EJ h1;refine⟨Ow (hs.canon t h2),?_,fun u hu=>Ow (hs.canon u (Bo.1 hu).1)⟩
 have:=PK hl h1
 have h3:(FI c p).length≤c.length:=BD _ _;unfold Cm at *;omega
theorem eI{l c:List Tm}(h:CP l=some c):c.length≤l.length:=by
 have h1:=NQ l l.length (Aj _);rw[Du]at h1;have h2:c=(ET l).filter fun t=>!Gn t:=by
  unfold CP at h;split at h
  ·cases h
  ·exact(BM h).symm
 have h3:c.length≤(ET l).length:=by rw[h2];exact BD _ _
 have h4:(ET l).length=(CX l).length:=by
  have:=(List.perm_ext_iff_of_nodup (HD (HB l)) (HD (HL (Eo l)))).2 (I5 l)
  exact this.length_eq.symm
 omega
theorem Vw{l r:List Tm}{p:ByteArray}{t:Tm}(h:Fk l p=some (t,r)):r.length≤l.length:=by
 obtain⟨c,h1,h2,rfl⟩:=Vu h;have h3:(FI c p).length≤c.length:=BD _ _
 have:=eI h1
 omega
theorem bX(a b:Bj):Cm (Pl a b):=by
 unfold Cm;have:=HW (Yt a b);omega
theorem tM(a b:List Tm)(p:ByteArray)(ha:a.length≤500000000)(hb:b.length≤500000000)(xW:∀t∈a,Cm t.set)(kg:∀t∈b,Cm t.set):PC 161 [sl AF a,sl AF b,vs p] (oo a b p):=by
 have qo:Cm a:=by unfold Cm;omega
 have nq:Cm b:=by unfold Cm;omega
 have er:∀{l:List Tm} {e:Int},Bw a b p=(l,e)→oo a b p=.tup [sl AF l,vi e]:=fun h=>by unfold oo;rw[h]
 have e0:Hm (.tup [.v (.slice none 0 0),vi 1]) (.tup [.slice .none [],vi 1]):=Hm.tup ⟨.nil,.refl _,trivial⟩;cases h1:Fk a p with
 |none =>
  have hr:Bw a b p=([],1):=by unfold Bw;rw[h1]
  have c1:=eD a p qo xW h1;cases h2:Fk b p with
  |none =>
   have c2:=eD b p nq kg h2;refine Ps aT Tryz.func161 rfl (Nz rfl) ?_;refine Xi .pure (Xi _ (Yi (c1) ?_));refine Yi (Nz rfl) ?_;refine Xi ⟨[(1,sl AF b),(2,vs p),(8,.ref 8 0),(9,.v (.slice none 0 0)),(10,vb false)],[(8,.cells Uv)],Ab⟩ (Yi ⟨Z5,Z1,Fh,Tv⟩ ?_)
   refine Xi .pure (Xi _ (Yi (c2) ?_));refine Yi (Nz rfl) ?_;refine Xi ⟨[(8,.ref 8 0),(9,.v (.slice none 0 0)),(10,vb false),(11,.ref 11 0),(12,.v (.slice none 0 0)),(13,vb false)],[(8,.cells Uv),(11,.cells Uv)],Ab⟩ (Yi ⟨Z6,Z2,Fh,Tv⟩ ?_)
   exact e0.trans (.of_eq (er hr).symm)
  |some q2 =>
   obtain⟨t2,r2⟩:=q2;have c2:=eF b p nq kg h2;refine Ps aT Tryz.func161 rfl (Nz rfl) ?_;refine Xi .pure (Xi _ (Yi (c1) ?_));refine Yi (Nz rfl) ?_;refine Xi ⟨[(1,sl AF b),(2,vs p),(8,.ref 8 0),(9,.v (.slice none 0 0)),(10,vb false)],[(8,.cells Uv)],Ab⟩ (Yi ⟨Z5,Z1,Fh,Tv⟩ ?_)
   have z2:r2.length=(r2.map AF).length:=by rw[Lm]
   refine Xi (.gen [] 1) (Yi rfl (c2.imp ?_));intro v2 g2 q2;have v8:=q2.1;have wa:=q2.2;subst v8;subst wa;refine Yi (Nz rfl) ?_;refine Xi ⟨[(8,.ref 8 0),(9,.v (.slice none 0 0)),(10,vb false),(11,.ref 11 0),(12,.msl 12600 r2.length),(13,vb true)],[(8,.cells Uv),(11,.cells (AF t2)),(12600,.arr 3 (r2.map AF))],Ab⟩ (Yi ⟨Z6,Z3,Fh,Tv⟩ ?_)
   refine Yi z2 ?_;exact e0.trans (.of_eq (er hr).symm)
 |some q1 =>
  obtain⟨t1,r1⟩:=q1;have c1:=eF a p qo xW h1;obtain⟨f1,f2,f3⟩:=Vv qo h1;cases h2:Fk b p with
  |none =>
   have hr:Bw a b p=([],1):=by unfold Bw;rw[h1,h2]
   have c2:=eD b p nq kg h2;refine Ps aT Tryz.func161 rfl (Nz rfl) ?_;refine Xi (.gen [] 1) (Yi rfl (c1.imp ?_));intro v1 g1 q1;have vV:=q1.1;have kZ:=q1.2;subst vV;subst kZ;refine Yi (Nz rfl) ?_;refine Xi ⟨[(1,sl AF b),(2,vs p),(8,.ref 8 0),(9,.msl 11900 r1.length),(10,vb true)],[(8,.cells (AF t1)),(11900,.arr 3 (r1.map AF))],Ab⟩ (Yi ⟨Z5,Z2,Fh,Tv⟩ ?_)
   have z1:r1.length=(r1.map AF).length:=by rw[Lm]
   refine Yi z1 ?_;refine Xi .pure (Xi _ (Yi (c2) ?_));refine Yi (Nz rfl) ?_;refine Xi ⟨[(8,.ref 8 0),(9,.slice (.id 11900 3) (r1.map AF)),(10,vb true),(11,.ref 11 0),(12,.v (.slice none 0 0)),(13,vb false)],[(8,.cells (AF t1)),(11,.cells Uv),(11900,.tok 3 (r1.map AF).length)],Ab⟩ (Yi ⟨Z6,Z3,Fh,Tv⟩ ?_)
   exact e0.trans (.of_eq (er hr).symm)
  |some q2 =>
   obtain⟨t2,r2⟩:=q2;have c2:=eF b p nq kg h2;obtain⟨g1,g2,g3⟩:=Vv nq h2;refine Ps aT Tryz.func161 rfl (Nz rfl) ?_;refine Xi (.gen [] 1) (Yi rfl (c1.imp ?_));intro v1 g1 q1;have vV:=q1.1;have kZ:=q1.2;subst vV;subst kZ;refine Yi (Nz rfl) ?_;refine Xi ⟨[(1,sl AF b),(2,vs p),(8,.ref 8 0),(9,.msl 11900 r1.length),(10,vb true)],[(8,.cells (AF t1)),(11900,.arr 3 (r1.map AF))],Ab⟩ (Yi ⟨Z5,Z2,Fh,Tv⟩ ?_)
   have z1:r1.length=(r1.map AF).length:=by rw[Lm]
   have z2:r2.length=(r2.map AF).length:=by rw[Lm]
   refine Yi z1 ?_;refine Xi (.gen [] 1) (Yi rfl (c2.imp ?_));intro v2 g2 q2;have v8:=q2.1;have wa:=q2.2;subst v8;subst wa;refine Yi (Nz rfl) ?_;refine Xi ⟨[(8,.ref 8 0),(9,.slice (.id 11900 3) (r1.map AF)),(10,vb true),(11,.ref 11 0),(12,.msl 12600 r2.length),(13,vb true)],[(8,.cells (AF t1)),(11,.cells (AF t2)),(11900,.tok 3 (r1.map AF).length),(12600,.arr 3 (r2.map AF))],Ab⟩ (Yi ⟨Z6,Z4,Fh,Tv⟩ ?_)
   refine Yi z2 ?_;refine Xi ⟨[(8,.ref 8 0),(9,.slice (.id 11900 3) (r1.map AF)),(11,.ref 11 0),(12,.slice (.id 12600 3) (r2.map AF))],[(8,.cells (AF t1)),(11,.cells (AF t2)),(11900,.tok 3 (r1.map AF).length),(12600,.tok 3 (r2.map AF).length)],Ab⟩ (Yi ⟨Z4,Z4,Fh,Tv⟩ ?_)
   have l1:=Vw h1;have l2:=Vw h2;have b1:Do 3 (r2.map AF)∧(r1.map AF).length=(r1.map AF).length∧((r1.map AF).length+(r2.map AF).length)*48≤140737488355328∧(r1.map AF).length+(r2.map AF).length≤9223372036854775807 :=
    ⟨Ez (enc:=AF) (n:=3) (fun _=>rfl) r2,rfl,by rw[Lm,Lm];omega,by rw[Lm,Lm];omega⟩
   refine Yi b1 ?_;refine Yi (Nz rfl) (Yi (Nz rfl) ?_);refine Xi _ (Yi (tR t1 t2 f1 g1) ?_);have b2:Do 3 [AF (Dh t1 t2)]∧(r1.map AF++r2.map AF).length=(r1.map AF).length+(r2.map AF).length∧((r1.map AF++r2.map AF).length+[AF (Dh t1 t2)].length)*48≤140737488355328∧(r1.map AF++r2.map AF).length+[AF (Dh t1 t2)].length≤9223372036854775807 :=
    ⟨⟨rfl,trivial⟩,by rw[Ad],by rw[Ad,Lm,Lm,AD];omega,by rw[Ad,Lm,Lm,AD];omega⟩
   refine Yi b2 ?_;have lK:=r8 (r1++r2++[Dh t1 t2]) (by unfold Cm;simp only[Ad,AD];omega) (fun u hu=>by
    rcases A7.1 hu with hu | hu
    ·rcases A7.1 hu with hu | hu
     ·exact f3 u hu
     ·exact g3 u hu
    ·rw[Am.1 hu];exact bX _ _)
   have e1:sl AF (r1++r2++[Dh t1 t2])=.slice .none (r1.map AF++r2.map AF++[AF (Dh t1 t2)]):=by simp
   have xw:PC 204 [.slice .none (r1.map AF++r2.map AF++[AF (Dh t1 t2)])] (GB (r1++r2++[Dh t1 t2])):=e1▸lK;cases oW:CP (r1++r2++[Dh t1 t2])with
   |none =>
    have hr:Bw a b p=([],8):=by unfold Bw;rw[h1,h2];dsimp only;rw[oW]
    have ec:GB (r1++r2++[Dh t1 t2])=.tup [sl AF [],vb false]:=by unfold GB PY;rw[oW];rfl
    have hc:PC 204 [.slice .none (r1.map AF++r2.map AF++[AF (Dh t1 t2)])] (.tup [sl AF [],vb false]):=ec▸xw;have e8:Hm (.tup [.v (.slice none 0 0),vi 8]) (.tup [.slice .none [],vi 8]):=Hm.tup ⟨.nil,.refl _,trivial⟩;refine Xi _ (Yi (hc) ?_);refine Yi (by kernel_rfl) ?_;refine Xi ⟨[(14,sl AF []),(15,vb false)],[],Ab⟩ (Yi ⟨Z2,Tv,Fh,Tv⟩ ?_)
    exact e8.trans (.of_eq (er hr).symm)
   |some o =>
    have hr:Bw a b p=(o,0):=by unfold Bw;rw[h1,h2];dsimp only;rw[oW]
    have ec:GB (r1++r2++[Dh t1 t2])=.tup [sl AF o,vb true]:=by unfold GB PY;rw[oW];rfl
    have hc:PC 204 [.slice .none (r1.map AF++r2.map AF++[AF (Dh t1 t2)])] (.tup [sl AF o,vb true]):=ec▸xw;refine Xi _ (Yi (hc) ?_);refine Yi (by kernel_rfl) ?_;refine Xi ⟨[(14,sl AF o),(15,vb true)],[],Ab⟩ (Yi ⟨Z2,Tv,Fh,Tv⟩ ?_)
    exact .of_eq (er hr).symm
def aj(h s:Nat→HO):Nat→Bool
 |0=>true
 |n+1=>(match h (1000+n)with |.free=>true |_=>(match s (1000+n)with |.free=>false |_=>true))&&aj h s n
theorem Sv{h s:Nat→HO}:∀{n:Nat},aj h s n=true→∀j,j<n→h (1000+j)≠.free→s (1000+j)≠.free
 |n+1,hd,j,hj,hn=>by
  simp only[aj,Ag]at hd;rcases ED j n with h1 | h1
  ·exact Sv hd.2 j h1 hn
  ·have:j=n:=by omega
   subst this
   have:=hd.1
   intro e;split at this
   ·rename_i q;exact hn q
   ·rw[e]at this;cases this
theorem Ay{h s:Nat→HO}(hd:aj h s 1000=true):∀j,1000≤j→j<2000→h j≠.free→s j≠.free:=fun j h1 h2=>by
 have:=Sv hd (j-1000) (by omega)
 rw[show 1000+(j-1000)=j by omega]at this;exact this
theorem kX(v:Ver):0≤plc v∧plc v<1000000:=by
 unfold plc;cases h:CN v with
 |true=>exact Js h
 |false=>simp
abbrev mr(t:List Tm):Prop:=t.length≤500000000∧∀u∈t,Cm u.set
theorem pH(s:ByteArray):PC 81 [vs s] (vb false):=by
 refine Ps F3 Tryz.func81 rfl (Nz rfl) ?_;refine Yi ?_ ?_
 ·intro h;exact absurd rfl (show s≠s from h)
 ·intro _;exact .refl _
theorem pK(z:Int):PC 134 [vi z] (vb false):=by
 refine Ps F3 Tryz.func134 rfl (Nz rfl) ?_;refine Yi ?_ ?_
 ·intro h;exact absurd rfl (show z≠z from h)
 ·intro _;exact .refl _
theorem jE(a b:ByteArray):PC 53 [vs a,vs b] (vi (Gq a b)):=by
 refine Ps F3 Tryz.func53 rfl (Nz rfl) ?_;refine Xi .pure (Xi _ (Yi (pH a) ?_));refine Xi .pure (Xi _ (Yi (pH b) ?_));refine Yi ?_ ?_
 ·intro h;have h:Op.bytesLess a.toList b.toList=true:=h;exact .of_eq (Ac vi (show(-1:Int)=Gq a b by unfold Gq;rw[Aw (by rw[HU];exact h)]))
 ·intro h;have h:¬Op.bytesLess a.toList b.toList=true:=h;refine Yi ?_ ?_
  ·intro h2;have h2:Op.bytesLess b.toList a.toList=true:=h2;exact .of_eq (Ac vi (show(1:Int)=Gq a b by unfold Gq;rw[Ah (by rw[HU];exact h),Aw (by rw[HU];exact h2)]))
  ·intro h2;have h2:¬Op.bytesLess b.toList a.toList=true:=h2;exact .of_eq (Ac vi (show(0:Int)=Gq a b by unfold Gq;rw[Ah (by rw[HU];exact h),Ah (by rw[HU];exact h2)]))
theorem mP(a b:Int):PC 109 [vi a,vi b] (vi (FN a b)):=by
 refine Ps F3 Tryz.func109 rfl (Nz rfl) ?_;refine Xi .pure (Xi _ (Yi (pK a) ?_));refine Xi .pure (Xi _ (Yi (pK b) ?_));refine Yi ?_ ?_
 ·intro h;have h:a<b:=h;exact .of_eq (Ac vi (show(-1:Int)=FN a b by unfold FN;rw[Aw h]))
 ·intro h;have h:¬a<b:=h;refine Yi ?_ ?_
  ·intro h2;have h2:b<a:=h2;exact .of_eq (Ac vi (show(1:Int)=FN a b by unfold FN;rw[Ah h,Aw h2]))
  ·intro h2;have h2:¬b<a:=h2;exact .of_eq (Ac vi (show(0:Int)=FN a b by unfold FN;rw[Ah h,Ah h2]))
theorem pD(a b:Int):PC 83 [.slice .none [[vi a],[vi b]]] (vi (if a≠0 then a else b)):=by
 refine Ps F3 Tryz.func83 rfl (Nz rfl) ?_;refine Xi {i:Nat // i≤2∧(0<i→a=0)∧(1<i→b=0)} (Xi (fun i=>⟨[(3,vi 0),(6,.slice .none [[vi a],[vi b]]),(7,vi 2),(8,vi i.1)],[],Ab⟩) (Xi (fun i=>2-i.1) (Yi (Xi ⟨0,by omega,by omega,by omega⟩ ?_) ?_)))
 ·exact⟨Z4,Tv,Fh,Tv⟩
 intro⟨i,h1,h2,h3⟩;refine Yi ?_ ?_
 ·intro h;have h:(i:Int)<2:=h
  match i,h1,h2,h3,h with
  |0,h1,h2,h3,h =>
   refine Xi [vi a] (Yi (Yi (AZ _) rfl) (Yi rfl ?_));refine Yi ?_ ?_
   ·intro h4;have h4:a≠0:=h4;exact .of_eq (Ac vi (Aw h4).symm)
   ·intro h4;have h4:¬a≠0:=h4;refine Yi (Ii 0 (by omega)) ?_;refine Xi ⟨1,by omega,fun _=>by omega,fun q=>absurd q (by decide)⟩ ?_;exact⟨by show 2-1<2-0;decide,Z4,Tv,Fh,Tv⟩
  |1,h1,h2,h3,h =>
   have ha:=h2 (by decide);refine Xi [vi b] (Yi (Yi (by show(0:Int)≤1;decide) rfl) (Yi rfl ?_));refine Yi ?_ ?_
   ·intro h4;exact .of_eq (Ac vi (Ah (by omega)).symm)
   ·intro h4;have h4:¬b≠0:=h4;refine Yi (Ii 1 (by omega)) ?_;refine Xi ⟨2,by omega,fun _=>ha,fun q=>by omega⟩ ?_;exact⟨by show 2-2<2-1;decide,Z4,Tv,Fh,Tv⟩
  |i+2,h1,h2,h3,h=>omega
 ·intro h;have h:¬(i:Int)<2:=h;have ha:=h2 (by omega);have hb:=h3 (by omega);exact .of_eq (Ac vi (show(0:Int)=if a≠0 then a else b by rw[Ah (by omega),hb]))
theorem Sn(a b:Ver)(i:Nat)(hi:i<3)(h:∀j,j<i→FN (part a j) (part b j)=0)(hn:FN (part a i) (part b i)≠0):LW a b=FN (part a i) (part b i):=by
 unfold LW
 match i,hi,h,hn with
 |0,_,_,hn=>exact Aw hn
 |1,_,h,hn =>
  have h0:FN a.a b.a=0:=h 0 (by decide);rw[Ah (by omega)];exact Aw hn
 |2,_,h,hn =>
  have h0:FN a.a b.a=0:=h 0 (by decide);have h1:FN a.b b.b=0:=h 1 (by decide);rw[Ah (by omega),Ah (by omega)];rfl
theorem eT(a b:Ver)(h:∀j,j<3→FN (part a j) (part b j)=0):LW a b=0:=by
 unfold LW;have h0:FN a.a b.a=0:=h 0 (by decide);have h1:FN a.b b.b=0:=h 1 (by decide);have h2:FN a.c b.c=0:=h 2 (by decide);rw[Ah (by omega),Ah (by omega),h2]
theorem pE(a b:Ver):PC 84 [.agg (L0 a),.agg (L0 b)] (vi (LW a b)):=by
 refine Ps F3 Tryz.func84 rfl (Nz rfl) ?_;refine Yi (Nz rfl) ?_;refine Xi _ (Yi (mN a) ?_);refine Yi (Nz rfl) ?_;refine Xi _ (Yi (mN b) ?_);refine Yi (Nz rfl) (Yi (Nz rfl) ?_);refine Yi (by kernel_rfl) ?_;refine Xi {i:Nat // i≤3∧∀j,j<i→FN (part a j) (part b j)=0} (Xi (fun i=>⟨[(5,.ref 5 0),(6,.ref 6 0),(13,vi i.1)],[(5,.cells (L0 a)),(6,.cells (L0 b))],Ab⟩) (Xi (fun i=>3-i.1) (Yi (Xi ⟨0,by omega,fun j h=>by omega⟩ ?_) ?_)))
 ·exact⟨Z3,Z2,Fh,Tv⟩
 intro⟨i,h1,h2⟩;refine Yi ?_ ?_
 ·intro h;have h:(i:Int)<3:=h;have next:FN (part a i) (part b i)=0→∀j,j<i+1→FN (part a j) (part b j)=0:=fun hz j hj=>by
   rcases ED j i with q | q
   ·exact h2 j q
   ·have:j=i:=by omega
    subst this;exact hz
  match i,h1,h2,h,next with
  |0,h1,h2,h,next =>
   refine Yi ⟨by show(0:Int)≤0;decide,by show(0:Int)<3;decide⟩ ?_;refine Yi ⟨by show(0:Int)≤0;decide,by show(0:Int)<3;decide⟩ ?_;refine Xi _ (Yi (mP (part a 0) (part b 0)) ?_);refine Yi (by kernel_rfl) ?_;refine Yi ?_ ?_
   ·intro h4;have h4:FN (part a 0) (part b 0)≠0:=h4;exact .of_eq (Ac vi (Sn a b 0 (by decide) h2 h4).symm)
   ·intro h4;have h4:¬FN (part a 0) (part b 0)≠0:=h4;refine Yi (Ii 0 (by omega)) ?_;refine Xi ⟨1,by omega,next (F4 h4)⟩ ?_
    exact⟨by show 3-1<3-0;decide,Z3,Z2,Fh,Tv⟩
  |1,h1,h2,h,next =>
   refine Yi ⟨by show(0:Int)≤1;decide,by show(1:Int)<3;decide⟩ ?_;refine Yi ⟨by show(0:Int)≤1;decide,by show(1:Int)<3;decide⟩ ?_;refine Xi _ (Yi (mP (part a 1) (part b 1)) ?_);refine Yi (by kernel_rfl) ?_;refine Yi ?_ ?_
   ·intro h4;have h4:FN (part a 1) (part b 1)≠0:=h4;exact .of_eq (Ac vi (Sn a b 1 (by decide) h2 h4).symm)
   ·intro h4;have h4:¬FN (part a 1) (part b 1)≠0:=h4;refine Yi (Ii 1 (by omega)) ?_;refine Xi ⟨2,by omega,next (F4 h4)⟩ ?_
    exact⟨by show 3-2<3-1;decide,Z3,Z2,Fh,Tv⟩
  |2,h1,h2,h,next =>
   refine Yi ⟨by show(0:Int)≤2;decide,by show(2:Int)<3;decide⟩ ?_;refine Yi ⟨by show(0:Int)≤2;decide,by show(2:Int)<3;decide⟩ ?_;refine Xi _ (Yi (mP (part a 2) (part b 2)) ?_);refine Yi (by kernel_rfl) ?_;refine Yi ?_ ?_
   ·intro h4;have h4:FN (part a 2) (part b 2)≠0:=h4;exact .of_eq (Ac vi (Sn a b 2 (by decide) h2 h4).symm)
   ·intro h4;have h4:¬FN (part a 2) (part b 2)≠0:=h4;refine Yi (Ii 2 (by omega)) ?_;refine Xi ⟨3,by omega,next (F4 h4)⟩ ?_
    exact⟨by show 3-3<3-2;decide,Z3,Z2,Fh,Tv⟩
  |i+3,h1,h2,h,next=>omega
 ·intro h;have h:¬(i:Int)<3:=h;exact .of_eq (Ac vi (eT a b fun j hj=>h2 j (by omega)).symm)
theorem tp(a b:Rl):PC 68 [.agg (Al a),.agg (Al b)] (vi (Sm a b)):=by
 refine Ps F3 Tryz.func68 rfl (Nz rfl) ?_;refine Xi _ (Yi (jE a.path b.path) ?_);refine Yi (Nz rfl) (Yi (Nz rfl) ?_);refine Xi _ (Yi (pE a.ver b.ver) ?_);refine Xi _ (Yi (pD (Gq a.path b.path) (LW a.ver b.ver)) ?_);refine Yi (by kernel_rfl) ?_;exact .refl _
abbrev Gk(s:ByteArray):Prop:=s.size≤1073741824
abbrev N6(q:Rq):Prop:=Cm q.set∧Gk q.path
abbrev IR(r:Rl):Prop:=Gk r.path∧∀q∈r.reqs,N6 q
abbrev Vf(nm:ByteArray→ByteArray)(p:ByteArray):AV:=match Cs p with
 |some m=>.tup [vs (nm p),vi m,vi 0]
 |none=>.tup [vs ⟨#[]⟩,vi 0,vi 4]
abbrev T7(nm:ByteArray→ByteArray):Prop:=∀p:ByteArray,Gk p→PC 91 [vs p] (Vf nm p)
theorem T7.none{nm:ByteArray→ByteArray}(h:T7 nm){p:ByteArray}(hp:Gk p)(e:Cs p=.none):PC 91 [vs p] (.tup [vs ⟨#[]⟩,vi 0,vi 4]):=by
 have:=h p hp;unfold Vf at this;rw[e]at this;exact this
theorem T7.some{nm:ByteArray→ByteArray}(h:T7 nm){p:ByteArray}{m:Int}(hp:Gk p)(e:Cs p=.some m):PC 91 [vs p] (.tup [vs (nm p),vi m,vi 0]):=by
 have:=h p hp;unfold Vf at this;rw[e]at this;exact this
theorem pB{nm:ByteArray→ByteArray}(hL:T7 nm)(q:Rq)(hq:Cm q.set)(hp:Gk q.path):PC 116 [.agg (AM q),.v (.pointer none)] (vi (GE none q)):=by
 cases T4:Cs q.path with
 |none =>
  have e:(4:Int)=GE none q:=by unfold GE;rw[T4];rfl
  have hl:=hL.none hp T4;refine Ps F3 Tryz.func116 rfl (Nz rfl) ?_;refine Xi .pure (Xi _ (Yi (hl) ?_));refine Yi ?_ ?_
  ·intro _;exact .of_eq (Ac vi e)
  ·intro h;exact absurd (show(4:Int)≠0 by decide) h
 |some m =>
  have er:GE none q=if(q.set.isEmpty||!decide (q.set=canon q.set)||false)=true then 1 else 0:=by unfold GE;rw[T4];rfl
  have hl:=hL.some hp T4;have hc:=W8 q.set hq;have he:=pF q.set (canon q.set) hq;have Uj:∀{n:Int},n=(q.set.map Ao).length→n=0→q.set.isEmpty=true:=fun h1 h2=>by
   rw[Lm]at h1;rw[GJ];exact AB (by omega)
  have fS:¬((q.set.map Ao).length:Int)=0→q.set.isEmpty=false:=fun h=>by
   cases hqs:q.set with
   |nil=>rw[hqs]at h;exact absurd rfl h
   |cons a l=>rfl
  rcases Bt (decide (q.set=canon q.set))with h2 | h2
  ·rw[h2]at he;refine Ps (KI [2,4]) Tryz.func116 rfl (Nz rfl) ?_;refine Xi .pure (Xi _ (Yi (hl) ?_));refine Xi ⟨[(1,.v (.pointer none)),(2,.ref 2 0),(7,vi 0)],[(2,.cells (AM q))],Ab⟩ (Yi ⟨Z3,Z1,Fh,Tv⟩ ?_)
   refine Yi ?_ ?_
   ·intro h;exact absurd rfl h
   intro _;refine Xi ⟨[(1,.v (.pointer none)),(2,.ref 2 0)],[(2,.cells (AM q))],Ab⟩ (Yi ⟨Z2,Z1,Fh,Tv⟩ ?_)
   refine Yi ?_ ?_
   ·intro h;have h:((q.set.map Ao).length:Int)=0:=h;have e:(1:Int)=GE none q:=by rw[er,Uj rfl h];rfl
    refine Yi (by kernel_rfl) ?_;exact .of_eq (Ac vi e)
   intro h;have h:¬((q.set.map Ao).length:Int)=0:=h;have hn:=fS h;refine Xi _ (Yi (hc) ?_);refine Xi _ (Yi (he) ?_);refine Yi (by kernel_rfl) ?_;have e:(0:Int)=GE none q:=by rw[er,hn,h2];rfl
   exact .of_eq (Ac vi e)
  ·rw[h2]at he;refine Ps (KI [2,4]) Tryz.func116 rfl (Nz rfl) ?_;refine Xi .pure (Xi _ (Yi (hl) ?_));refine Xi ⟨[(1,.v (.pointer none)),(2,.ref 2 0),(7,vi 0)],[(2,.cells (AM q))],Ab⟩ (Yi ⟨Z3,Z1,Fh,Tv⟩ ?_)
   refine Yi ?_ ?_
   ·intro h;exact absurd rfl h
   intro _;refine Xi ⟨[(1,.v (.pointer none)),(2,.ref 2 0)],[(2,.cells (AM q))],Ab⟩ (Yi ⟨Z2,Z1,Fh,Tv⟩ ?_)
   refine Yi ?_ ?_
   ·intro h;have h:((q.set.map Ao).length:Int)=0:=h;have e:(1:Int)=GE none q:=by rw[er,Uj rfl h];rfl
    refine Yi (by kernel_rfl) ?_;exact .of_eq (Ac vi e)
   intro h;have h:¬((q.set.map Ao).length:Int)=0:=h;have hn:=fS h;refine Xi _ (Yi (hc) ?_);refine Xi _ (Yi (he) ?_);refine Yi (by kernel_rfl) ?_;have e:(1:Int)=GE none q:=by rw[er,hn,h2];rfl
   exact .of_eq (Ac vi e)
theorem pC{nm:ByteArray→ByteArray}(hL:T7 nm)(q b:Rq)(hq:Cm q.set)(hp:Gk q.path):PC 116 [.agg (AM q),.cptr (AM b)] (vi (GE (some b.path) q)):=by
 cases T4:Cs q.path with
 |none =>
  have e:(4:Int)=GE (some b.path) q:=by unfold GE;rw[T4];rfl
  have hl:=hL.none hp T4;refine Ps F3 Tryz.func116 rfl (Nz rfl) ?_;refine Xi .pure (Xi _ (Yi (hl) ?_));refine Yi ?_ ?_
  ·intro _;exact .of_eq (Ac vi e)
  ·intro h;exact absurd (show(4:Int)≠0 by decide) h
 |some m =>
  have er:GE (some b.path) q=if(q.set.isEmpty||!decide (q.set=canon q.set)||!Fg b.path q.path)=true then 1 else 0:=by unfold GE;rw[T4];rfl
  have hl:=hL.some hp T4;have hc:=W8 q.set hq;have he:=pF q.set (canon q.set) hq;have Uj:∀{n:Int},n=(q.set.map Ao).length→n=0→q.set.isEmpty=true:=fun h1 h2=>by
   rw[Lm]at h1;rw[GJ];exact AB (by omega)
  have fS:¬((q.set.map Ao).length:Int)=0→q.set.isEmpty=false:=fun h=>by
   cases hqs:q.set with
   |nil=>rw[hqs]at h;exact absurd rfl h
   |cons a l=>rfl
  rcases Bt (decide (q.set=canon q.set))with h2 | h2
  ·rw[h2]at he;refine Ps (KI [2,4]) Tryz.func116 rfl (Nz rfl) ?_;refine Xi .pure (Xi _ (Yi (hl) ?_));refine Xi ⟨[(1,.cptr (AM b)),(2,.ref 2 0),(7,vi 0)],[(2,.cells (AM q))],Ab⟩ (Yi ⟨Z3,Z1,Fh,Tv⟩ ?_)
   refine Yi ?_ ?_
   ·intro h;exact absurd rfl h
   intro _;refine Xi ⟨[(1,.cptr (AM b)),(2,.ref 2 0)],[(2,.cells (AM q))],Ab⟩ (Yi ⟨Z2,Z1,Fh,Tv⟩ ?_)
   refine Yi ?_ ?_
   ·intro h;have h:((q.set.map Ao).length:Int)=0:=h;have e:(1:Int)=GE (some b.path) q:=by rw[er,Uj rfl h];rfl
    refine Yi (by kernel_rfl) ?_;exact .of_eq (Ac vi e)
   intro h;have h:¬((q.set.map Ao).length:Int)=0:=h;have hn:=fS h;refine Xi _ (Yi (hc) ?_);refine Xi _ (Yi (he) ?_);refine Yi ?_ ?_
   ·intro h3;have h3:Op.bytesLess b.path.toList q.path.toList=false:=h3;refine Yi (by kernel_rfl) ?_;have e:(1:Int)=GE (some b.path) q:=by rw[er,hn,h2,HU,h3];rfl
    exact .of_eq (Ac vi e)
   ·intro h3;have h3:¬Op.bytesLess b.path.toList q.path.toList=false:=h3;have h3:Op.bytesLess b.path.toList q.path.toList=true:=by simpa using h3
    refine Yi (by kernel_rfl) ?_;have e:(0:Int)=GE (some b.path) q:=by rw[er,hn,h2,HU,h3];rfl
    exact .of_eq (Ac vi e)
  ·rw[h2]at he;refine Ps (KI [2,4]) Tryz.func116 rfl (Nz rfl) ?_;refine Xi .pure (Xi _ (Yi (hl) ?_));refine Xi ⟨[(1,.cptr (AM b)),(2,.ref 2 0),(7,vi 0)],[(2,.cells (AM q))],Ab⟩ (Yi ⟨Z3,Z1,Fh,Tv⟩ ?_)
   refine Yi ?_ ?_
   ·intro h;exact absurd rfl h
   intro _;refine Xi ⟨[(1,.cptr (AM b)),(2,.ref 2 0)],[(2,.cells (AM q))],Ab⟩ (Yi ⟨Z2,Z1,Fh,Tv⟩ ?_)
   refine Yi ?_ ?_
   ·intro h;have h:((q.set.map Ao).length:Int)=0:=h;have e:(1:Int)=GE (some b.path) q:=by rw[er,Uj rfl h];rfl
    refine Yi (by kernel_rfl) ?_;exact .of_eq (Ac vi e)
   intro h;have h:¬((q.set.map Ao).length:Int)=0:=h;have hn:=fS h;refine Xi _ (Yi (hc) ?_);refine Xi _ (Yi (he) ?_);refine Yi (by kernel_rfl) ?_;have e:(1:Int)=GE (some b.path) q:=by rw[er,hn,h2];rfl
   exact .of_eq (Ac vi e)
abbrev MD(l:List Rq)(k:Nat):List AV:=((l.map AM)[k]?).getD []
abbrev pz(l:List Rq):Nat→AV
 |0=>.v (.pointer none)
 |k+1=>.cptr (MD l k)
abbrev Kp(l:List Rq):Nat→Option ByteArray
 |0=>none
 |k+1=>(l[k]?).map (·.path)
theorem NC{l:List Rq}{k:Nat}(h:k<l.length):MD l k=AM l[k]:=by
 unfold MD;rw[AG,Ge h];rfl
theorem Sa{l:List Rq}{k:Nat}(h:k<l.length):Kp l (k+1)=some l[k].path:=by
 show(l[k]?).map _=_;rw[Ge h];rfl
theorem w9{nm:ByteArray→ByteArray}(hL:T7 nm)(l:List Rq)(hs:∀q∈l,N6 q):PC 93 [sl AM l] (vi (BS l)):=by
 refine Ps (KI [8]) Tryz.func93 rfl (Nz rfl) ?_;refine Yi ?_ ?_
 ·intro h;have h:(16:Int)<(l.map AM).length:=h;exact .of_eq (Ac vi (show(7:Int)=BS l by unfold BS;rw[Aw (by rw[Lm]at h;omega)]))
 intro h;have h:¬(16:Int)<(l.map AM).length:=h;have hl:l.length≤16:=by rw[Lm]at h;omega
 have T3:BS l=FM none l:=by unfold BS;rw[Ah (by omega)]
 refine Xi {i:Nat // i≤l.length∧FM none l=FM (Kp l i) (l.drop i)} (Xi (fun i=>⟨[(0,sl AM l),(3,pz l i.1),(10,sl AM l),(11,vi (l.map AM).length),(12,vi i.1)],[],Ab⟩) (Xi (fun i=>l.length-i.1) (Yi (Xi ⟨0,AO _,rfl⟩ ?_) ?_)))
 ·exact⟨Z5,Tv,Fh,Tv⟩
 intro⟨i,h1,h2⟩;refine Yi ?_ ?_
 ·intro h;have h:(i:Int)<(l.map AM).length:=h;have h:i<l.length:=by simpa using h
  have hg:l[i]?=some l[i]:=Ge h;have hd:l.drop i=l[i]::l.drop (i+1):=Bs h;have hq:=hs l[i] (Ap h);have hc:PC 116 [.agg (AM l[i]),pz l i] (vi (GE (Kp l i) l[i])):=by
   cases i with
   |zero=>exact pB hL _ hq.1 hq.2
   |succ k =>
    rw[Sa (by omega:k<l.length)];show PC 116 [_,.cptr (MD l k)] _;rw[NC (by omega:k<l.length)];exact pC hL _ _ hq.1 hq.2
  have JZ:FM none l=if GE (Kp l i) l[i]=0 then FM (some l[i].path) (l.drop (i+1))else GE (Kp l i) l[i]:=by rw[h2,hd];rfl
  match i,h1,h2,h,hg,hd,hc,JZ with
  |0,h1,h2,h,hg,hd,hc,JZ =>
   refine Xi (AM l[0]) (Yi (Yi (by show(0:Int)≤((0:Nat):Int);omega) (by simp[hg])) (Yi rfl ?_));refine Yi (Nz rfl) (Yi (Nz rfl) (Yi (Nz rfl) ?_));refine Xi .pure (Xi _ (Yi (hc) ?_));refine Xi ⟨[(0,sl AM l),(4,vi ((0:Nat):Int)),(6,vi (GE (Kp l (0)) l[0])),(10,sl AM l),(11,vi (l.map AM).length),(12,vi ((0:Nat):Int))],[],Ab⟩ (Yi ⟨Z6,Tv,Fh,Tv⟩ ?_)
   refine Yi ?_ ?_
   ·intro h4;have h4:GE (Kp l (0)) l[0]≠0:=h4;exact .of_eq (Ac vi (show GE (Kp l (0)) l[0]=BS l by rw[T3,JZ,Ah h4]))
   ·intro h4;have h4:¬GE (Kp l (0)) l[0]≠0:=h4;refine Xi (AM l[0]) (Yi (Yi (by show(0:Int)≤((0:Nat):Int);omega) (by simp[hg])) (Yi rfl ?_));refine Yi (by show B2 (((0:Nat):Int)+1);unfold B2;omega) ?_;refine Xi ⟨0+1,by omega,by rw[JZ,Aw (F4 h4),Sa h]⟩ ?_;have e1:AV.cptr (AM l[0])=.cptr (MD l (0)):=by rw[NC h]
    exact⟨by show l.length-(0+1)<l.length-(0);omega,⟨Zr,⟨e1,rfl⟩,Zr,Zr,Zr,Tv⟩,Tv,Fh,Tv⟩
  |k+1,h1,h2,h,hg,hd,hc,JZ =>
   refine Xi (AM l[k+1]) (Yi (Yi (by show(0:Int)≤((k+1:Nat):Int);omega) (by simp[hg])) (Yi rfl ?_));refine Yi (Nz rfl) (Yi (Nz rfl) (Yi (Nz rfl) ?_));refine Xi .pure (Xi _ (Yi (hc) ?_));refine Xi ⟨[(0,sl AM l),(4,vi ((k+1:Nat):Int)),(6,vi (GE (Kp l (k+1)) l[k+1])),(10,sl AM l),(11,vi (l.map AM).length),(12,vi ((k+1:Nat):Int))],[],Ab⟩ (Yi ⟨Z6,Tv,Fh,Tv⟩ ?_)
   refine Yi ?_ ?_
   ·intro h4;have h4:GE (Kp l (k+1)) l[k+1]≠0:=h4;exact .of_eq (Ac vi (show GE (Kp l (k+1)) l[k+1]=BS l by rw[T3,JZ,Ah h4]))
   ·intro h4;have h4:¬GE (Kp l (k+1)) l[k+1]≠0:=h4;refine Xi (AM l[k+1]) (Yi (Yi (by show(0:Int)≤((k+1:Nat):Int);omega) (by simp[hg])) (Yi rfl ?_));refine Yi (by show B2 (((k+1:Nat):Int)+1);unfold B2;omega) ?_;refine Xi ⟨k+1+1,by omega,by rw[JZ,Aw (F4 h4),Sa h]⟩ ?_;have e1:AV.cptr (AM l[k+1])=.cptr (MD l (k+1)):=by rw[NC h]
    exact⟨by show l.length-(k+1+1)<l.length-(k+1);omega,⟨Zr,⟨e1,rfl⟩,Zr,Zr,Zr,Tv⟩,Tv,Fh,Tv⟩
 ·intro h;have h:¬(i:Int)<(l.map AM).length:=h;have h:¬i<l.length:=by simpa using h
  have e:(0:Int)=BS l:=by rw[T3,h2,T8 (by omega)];rfl
  exact .of_eq (Ac vi e)
abbrev fb(r:Rl):Nat→ByteArray
 |0=>r.arch
 |1=>r.ifc
 |_=>r.cert
theorem mY{r:Rl}(h:∀j,j<3→EQ (fb r j)=true):(EQ r.arch&&EQ r.ifc&&EQ r.cert)=true:=by
 have h0:EQ r.arch=true:=h 0 (by decide);have h1:EQ r.ifc=true:=h 1 (by decide);have h2:EQ r.cert=true:=h 2 (by decide);rw[h0,h1,h2];rfl
theorem Y1{r:Rl}{i:Nat}(hi:i<3)(h:EQ (fb r i)=false):(EQ r.arch&&EQ r.ifc&&EQ r.cert)=false:=by
 match i,hi,h with
 |0,_,h=>have h:EQ r.arch=false:=h;rw[h];rfl
 |1,_,h=>have h:EQ r.ifc=false:=h;rw[h,DH];rfl
 |2,_,h=>have h:EQ r.cert=false:=h;rw[h,DH]
theorem tn{nm:ByteArray→ByteArray}(hL:T7 nm)(r:Rl)(hr:IR r):PC 66 [.agg (Al r)] (vi (Dv r)):=by
 cases T4:Cs r.path with
 |none =>
  have e:(4:Int)=Dv r:=by unfold Dv;rw[T4]
  have hl:=hL.none hr.1 T4;refine Ps F3 Tryz.func66 rfl (Nz rfl) ?_;refine Xi .pure (Xi _ (Yi (hl) ?_));refine Yi ?_ ?_
  ·intro _;exact .of_eq (Ac vi e)
  ·intro h;exact absurd (show(4:Int)≠0 by decide) h
 |some m =>
  have er:Dv r=if(!CN r.ver||!decide (r.ver.a=m))=true then 2 else if BS r.reqs≠0 then BS r.reqs else if(EQ r.arch&&EQ r.ifc&&EQ r.cert)=true then 0 else 1:=by unfold Dv;rw[T4]
  have hl:=hL.some hr.1 T4;have hv:=jD r.ver;have hc:=w9 hL r.reqs hr.2;rcases Bt (CN r.ver)with h2 | h2
  ·rw[h2]at hv;refine Ps (KI [2,4,6,7,9]) Tryz.func66 rfl (Nz rfl) ?_;refine Xi .pure (Xi _ (Yi (hl) ?_));refine Xi ⟨[(1,.ref 1 0),(4,vi m),(5,vi 0)],[(1,.cells (Al r))],Ab⟩ (Yi ⟨Z3,Z1,Fh,Tv⟩ ?_)
   refine Yi ?_ ?_
   ·intro h;exact absurd rfl h
   intro _;refine Xi ⟨[(1,.ref 1 0),(4,vi m)],[(1,.cells (Al r))],Ab⟩ (Yi ⟨Z2,Z1,Fh,Tv⟩ ?_)
   refine Yi (Nz rfl) ?_;refine Xi .pure (Xi _ (Yi (hv) ?_));refine Yi ?_ ?_
   ·intro h;have h:r.ver.a≠m:=h;have e:(2:Int)=Dv r:=by rw[er,h2,Ar h];rfl
    exact .of_eq (Ac vi e)
   intro h;have h:¬r.ver.a≠m:=h;have h3:r.ver.a=m:=F4 h;have pW:Dv r=if BS r.reqs≠0 then BS r.reqs else if(EQ r.arch&&EQ r.ifc&&EQ r.cert)=true then 0 else 1:=by rw[er,h2,Ax h3];rfl
   refine Xi ⟨[(1,.ref 1 0)],[(1,.cells (Al r))],Ab⟩ (Yi ⟨Z1,Z1,Fh,Tv⟩ ?_)
   refine Xi .pure (Xi _ (Yi (hc) ?_));refine Xi ⟨[(1,.ref 1 0),(6,vi (BS r.reqs))],[(1,.cells (Al r))],Ab⟩ (Yi ⟨Z2,Z1,Fh,Tv⟩ ?_)
   refine Yi ?_ ?_
   ·intro h4;have h4:BS r.reqs≠0:=h4;exact .of_eq (Ac vi (show BS r.reqs=Dv r by rw[pW,Aw h4]))
   intro h4;have h4:¬BS r.reqs≠0:=h4;have sb:Dv r=if(EQ r.arch&&EQ r.ifc&&EQ r.cert)=true then 0 else 1:=by rw[pW,Ah h4]
   refine Xi ⟨[(1,.ref 1 0)],[(1,.cells (Al r))],Ab⟩ (Yi ⟨Z1,Z1,Fh,Tv⟩ ?_)
   refine Xi {i:Nat // i≤3∧∀j,j<i→EQ (fb r j)=true} (Xi (fun i=>⟨[(41,.slice (.id 41 1) [[vs r.arch],[vs r.ifc],[vs r.cert]]),(42,vi 3),(43,vi i.1)],[(41,.tok 1 3)],Ab⟩) (Xi (fun i=>3-i.1) (Yi (Xi ⟨0,by omega,fun j h=>by omega⟩ ?_) ?_)))
   ·exact⟨Z3,Z1,Fh,Tv⟩
   intro⟨i,i1,i2⟩;refine Yi ?_ ?_
   ·intro h;have h:(i:Int)<3:=h;have next:EQ (fb r i)=true→∀j,j<i+1→EQ (fb r j)=true:=fun hz j hj=>by
     rcases ED j i with q | q
     ·exact i2 j q
     ·have:j=i:=by omega
      subst this;exact hz
    match i,i1,i2,h,next with
    |0,i1,i2,h,next =>
     refine Xi [vs r.arch] (Yi (Yi (by show(0:Int)≤0;decide) rfl) (Yi rfl ?_));refine Yi ?_ ?_
     ·intro h5;have h5:((r.arch.size:Nat):Int)≠0:=h5;refine Yi ?_ ?_
      ·intro h6;have h6:((r.arch.size:Nat):Int)≠32:=h6;have e:(1:Int)=Dv r:=by rw[sb,Y1 (i:=0) (by decide) (show EQ r.arch=false by unfold EQ;rw[Ar (by omega),Ar (by omega)];rfl)];rfl
       exact .of_eq (Ac vi e)
      ·intro h6;have h6:¬((r.arch.size:Nat):Int)≠32:=h6;refine Yi (Ii 0 (by omega)) ?_;refine Xi ⟨1,by omega,next (show EQ r.arch=true by unfold EQ;rw[Ax (by omega:r.arch.size=32),Bool.or_true])⟩ ?_
       exact⟨by show 3-1<3-0;decide,Z3,Z1,Fh,Tv⟩
     ·intro h5;have h5:¬((r.arch.size:Nat):Int)≠0:=h5;refine Yi (Ii 0 (by omega)) ?_;refine Xi ⟨1,by omega,next (show EQ r.arch=true by unfold EQ;rw[Ax (by omega:r.arch.size=0)];rfl)⟩ ?_
      exact⟨by show 3-1<3-0;decide,Z3,Z1,Fh,Tv⟩
    |1,i1,i2,h,next =>
     refine Xi [vs r.ifc] (Yi (Yi (by show(0:Int)≤1;decide) rfl) (Yi rfl ?_));refine Yi ?_ ?_
     ·intro h5;have h5:((r.ifc.size:Nat):Int)≠0:=h5;refine Yi ?_ ?_
      ·intro h6;have h6:((r.ifc.size:Nat):Int)≠32:=h6;have e:(1:Int)=Dv r:=by rw[sb,Y1 (i:=1) (by decide) (show EQ r.ifc=false by unfold EQ;rw[Ar (by omega),Ar (by omega)];rfl)];rfl
       exact .of_eq (Ac vi e)
      ·intro h6;have h6:¬((r.ifc.size:Nat):Int)≠32:=h6;refine Yi (Ii 1 (by omega)) ?_;refine Xi ⟨2,by omega,next (show EQ r.ifc=true by unfold EQ;rw[Ax (by omega:r.ifc.size=32),Bool.or_true])⟩ ?_
       exact⟨by show 3-2<3-1;decide,Z3,Z1,Fh,Tv⟩
     ·intro h5;have h5:¬((r.ifc.size:Nat):Int)≠0:=h5;refine Yi (Ii 1 (by omega)) ?_;refine Xi ⟨2,by omega,next (show EQ r.ifc=true by unfold EQ;rw[Ax (by omega:r.ifc.size=0)];rfl)⟩ ?_
      exact⟨by show 3-2<3-1;decide,Z3,Z1,Fh,Tv⟩
    |2,i1,i2,h,next =>
     refine Xi [vs r.cert] (Yi (Yi (by show(0:Int)≤2;decide) rfl) (Yi rfl ?_));refine Yi ?_ ?_
     ·intro h5;have h5:((r.cert.size:Nat):Int)≠0:=h5;refine Yi ?_ ?_
      ·intro h6;have h6:((r.cert.size:Nat):Int)≠32:=h6;have e:(1:Int)=Dv r:=by rw[sb,Y1 (i:=2) (by decide) (show EQ r.cert=false by unfold EQ;rw[Ar (by omega),Ar (by omega)];rfl)];rfl
       exact .of_eq (Ac vi e)
      ·intro h6;have h6:¬((r.cert.size:Nat):Int)≠32:=h6;refine Yi (Ii 2 (by omega)) ?_;refine Xi ⟨3,by omega,next (show EQ r.cert=true by unfold EQ;rw[Ax (by omega:r.cert.size=32),Bool.or_true])⟩ ?_
       exact⟨by show 3-3<3-2;decide,Z3,Z1,Fh,Tv⟩
     ·intro h5;have h5:¬((r.cert.size:Nat):Int)≠0:=h5;refine Yi (Ii 2 (by omega)) ?_;refine Xi ⟨3,by omega,next (show EQ r.cert=true by unfold EQ;rw[Ax (by omega:r.cert.size=0)];rfl)⟩ ?_
      exact⟨by show 3-3<3-2;decide,Z3,Z1,Fh,Tv⟩
    |i+3,i1,i2,h,next=>omega
   ·intro h;have h:¬(i:Int)<3:=h;have e:(0:Int)=Dv r:=by rw[sb,Aw (mY fun j hj=>i2 j (by omega))]
    exact .of_eq (Ac vi e)
  ·rw[h2]at hv;have e:(2:Int)=Dv r:=by rw[er,h2];rfl
   refine Ps (KI [2,4]) Tryz.func66 rfl (Nz rfl) ?_;refine Xi .pure (Xi _ (Yi (hl) ?_));refine Xi ⟨[(1,.ref 1 0),(4,vi m),(5,vi 0)],[(1,.cells (Al r))],Ab⟩ (Yi ⟨Z3,Z1,Fh,Tv⟩ ?_)
   refine Yi ?_ ?_
   ·intro h;exact absurd rfl h
   intro _;refine Xi ⟨[(1,.ref 1 0),(4,vi m)],[(1,.cells (Al r))],Ab⟩ (Yi ⟨Z2,Z1,Fh,Tv⟩ ?_)
   refine Yi (Nz rfl) ?_;refine Xi .pure (Xi _ (Yi (hv) ?_));exact .of_eq (Ac vi e)
theorem nR{a b:Rl}(h:a.path=b.path∧a.ver.a=b.ver.a∧a.ver.b=b.ver.b∧a.ver.c=b.ver.c):GO a=GO b:=by
 unfold GO;obtain⟨h1,h2,h3,h4⟩:=h
 have:a.ver=b.ver:=by
  cases ha:a.ver;cases hb:b.ver;rw[ha,hb]at h2 h3 h4;simp_all
 rw[h1,this]
theorem cD{a b:Rl}(h:GO a=GO b):a.path=b.path∧a.ver.a=b.ver.a∧a.ver.b=b.ver.b∧a.ver.c=b.ver.c:=by
 unfold GO at h
 injection h with h1 h2
 exact⟨h1,by rw[h2],by rw[h2],by rw[h2]⟩
abbrev jx(x:List Rl):Nat→Option Rl
 |0=>none
 |k+1=>x[k]?
theorem jG{nm:ByteArray→ByteArray}(hL:T7 nm)(x:List Rl)(ifs:List (List AV))(hs:∀r∈x,IR r):PC 20 [.agg (Ic x ifs)] (vi (A4 x)):=by
 refine Ps (KI [7,9,11,13]) Tryz.func20 rfl (Nz rfl) ?_;refine Yi ?_ ?_
 ·intro h;have h:(256:Int)<(x.map Al).length:=h;exact .of_eq (Ac vi (show(7:Int)=A4 x by unfold A4;rw[Aw (by rw[Lm]at h;omega)]))
 intro h;have h:¬(256:Int)<(x.map Al).length:=h;have hl:x.length≤256:=by rw[Lm]at h;omega
 have T3:A4 x=Dw none x:=by unfold A4;rw[Ah (by omega)]
 refine Xi {i:Nat // i≤x.length∧Dw none x=Dw (jx x i) (x.drop i)} (Xi (fun i=>⟨[(1,.ref 1 0),(12,sl Al x),(13,vi (x.map Al).length),(14,vi i.1)],[(1,.cells (Ic x ifs))],Ab⟩) (Xi (fun i=>x.length-i.1) (Yi (Xi ⟨0,AO _,rfl⟩ ?_) ?_)))
 ·exact⟨Z4,Z1,Fh,Tv⟩
 intro⟨i,h1,h2⟩;refine Yi ?_ ?_
 ·intro h;have h:(i:Int)<(x.map Al).length:=h;have h:i<x.length:=by simpa using h
  have hg:x[i]?=some x[i]:=Ge h;have hd:x.drop i=x[i]::x.drop (i+1):=Bs h;have hc:=tn hL x[i] (hs x[i] (Ap h));have JZ:Dw none x=if Dv x[i]≠0 then Dv x[i]else match jx x i with
   |none=>Dw (some x[i]) (x.drop (i+1))
   |some b=>if GO b=GO x[i]then 5 else if 0<Sm b x[i]then 1 else Dw (some x[i]) (x.drop (i+1)):=by rw[h2,hd];rfl
  have lS:jx x (i+1)=some x[i]:=Ge h;refine Xi (Al x[i]) (Yi (Yi (Nn i) (by simp[hg])) (Yi rfl ?_));refine Yi (Nz rfl) (Yi (Nz rfl) (Yi (Nz rfl) ?_));refine Xi .pure (Xi _ (Yi (hc) ?_));refine Xi ⟨[(1,.ref 1 0),(3,vi i),(4,.ref 4 0),(5,vi (Dv x[i])),(12,sl Al x),(13,vi (x.map Al).length),(14,vi i)],[(1,.cells (Ic x ifs)),(4,.cells (Al x[i]))],Ab⟩ (Yi ⟨Z7,Z2,Fh,Tv⟩ ?_)
  refine Yi ?_ ?_
  ·intro h4;have h4:Dv x[i]≠0:=h4;exact .of_eq (Ac vi (show Dv x[i]=A4 x by rw[T3,JZ,Aw h4]))
  intro h4;have h4:¬Dv x[i]≠0:=h4;refine Xi ⟨[(1,.ref 1 0),(3,vi i),(4,.ref 4 0),(12,sl Al x),(13,vi (x.map Al).length),(14,vi i)],[(1,.cells (Ic x ifs)),(4,.cells (Al x[i]))],Ab⟩ (Yi ⟨Z6,Z2,Fh,Tv⟩ ?_)
  refine Yi ?_ ?_
  ·intro h5;have h5:(i:Int)=0:=h5;have h6:i=0:=by omega
   refine Yi (Ii i (by omega)) ?_;refine Xi ⟨i+1,by omega,by rw[JZ,Ah h4,lS];subst h6;rfl⟩ ?_;exact⟨Dl x.length i (by omega),Z4,Z1,Fh,Tv⟩
  intro h5;have h5:¬(i:Int)=0:=h5;have zN:i-1<x.length:=by omega
  have hb:jx x i=some x[i-1]:=by
   obtain⟨k,rfl⟩:∃k,i=k+1:=⟨i-1,by omega⟩;exact Ge (by omega)
  have nu:Dw none x=if GO x[i-1]=GO x[i]then 5 else if 0<Sm x[i-1] x[i]then 1 else Dw (some x[i]) (x.drop (i+1)):=by rw[JZ,Ah h4,hb]
  refine Yi (by show B2 ((i:Int)-1);unfold B2;omega) ?_;have SP:(x.map Al)[((i:Int)-1).toNat]?=some (Al x[i-1]):=by rw[show((i:Int)-1).toNat=i-1 by omega];exact Ch (Ge zN)
  refine Xi (Al x[i-1]) (Yi (Yi (by show(0:Int)≤(i:Int)-1;omega) SP) (Yi rfl ?_));refine Yi (Nz rfl) (Yi (Nz rfl) ?_);refine Xi ⟨[(1,.ref 1 0),(4,.ref 4 0),(6,.ref 6 0),(12,sl Al x),(13,vi (x.map Al).length),(14,vi i)],[(1,.cells (Ic x ifs)),(4,.cells (Al x[i])),(6,.cells (Al x[i-1]))],Ab⟩ (Yi ⟨Z6,Z3,Fh,Tv⟩ ?_)
  refine Yi (Nz rfl) ?_;refine Xi _ (Yi (mL x[i-1]) ?_);refine Yi (Nz rfl) ?_;refine Xi _ (Yi (mL x[i]) ?_);refine Yi ?_ ?_
  ·intro h6;refine Yi (by kernel_rfl) ?_;have e:(5:Int)=A4 x:=by rw[T3,nu,Aw (nR ⟨h6.1,h6.2.1,h6.2.2.1,h6.2.2.2.1⟩)]
   exact .of_eq (Ac vi e)
  intro h6;refine Yi (by kernel_rfl) ?_;have h7:¬GO x[i-1]=GO x[i]:=fun e=>by
   have e:=cD e;exact h6 ⟨e.1,e.2.1,e.2.2.1,e.2.2.2,trivial⟩
  refine Xi ⟨[(1,.ref 1 0),(4,.ref 4 0),(6,.ref 6 0),(12,sl Al x),(13,vi (x.map Al).length),(14,vi i)],[(1,.cells (Ic x ifs)),(4,.cells (Al x[i])),(6,.cells (Al x[i-1]))],Ab⟩ (Yi ⟨Z6,Z3,Fh,Tv⟩ ?_)
  refine Yi (Nz rfl) (Yi (Nz rfl) ?_);refine Xi .pure (Xi _ (Yi (tp x[i-1] x[i]) ?_));refine Yi ?_ ?_
  ·intro h8;have h8:(0:Int)<Sm x[i-1] x[i]:=h8;have e:(1:Int)=A4 x:=by rw[T3,nu,Ah h7,Aw h8]
   exact .of_eq (Ac vi e)
  ·intro h8;have h8:¬(0:Int)<Sm x[i-1] x[i]:=h8;refine Yi (Ii i (by omega)) ?_;refine Xi ⟨i+1,by omega,by rw[nu,Ah h7,Ah h8,lS]⟩ ?_;exact⟨Dl x.length i (by omega),Z4,Z1,Fh,Tv⟩
 ·intro h;have h:¬(i:Int)<(x.map Al).length:=h;have h:¬i<x.length:=by simpa using h
  have e:(0:Int)=A4 x:=by rw[T3,h2,T8 (by omega)];rfl
  exact .of_eq (Ac vi e)
end Go.Eng
