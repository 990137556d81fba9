/- Lemmas for the claims of this seat, without a condition: part 19 (C24, C25, C26, C27, C28, C29, C30, C31, C32, C33, C34, C35, C36, C37). -/
import Derived.Test.YtmcbkdbfaneofaaGreatDoorFA18
import Derived.Shelf.Slices.Delete
namespace Go.Eng
open Go.Proofs
theorem ng(l:List Tm)(hl:Ci l)(hs:∀t∈l,Ci t.set):PC 196 [sl AG l] (sl AG (PU l)):=by
 refine Ps F6 Tryz.func196 rfl (Nz rfl) ?_;refine Xi .pure (Xi _ (Yi (sy l hl hs) ?_));exact .refl _
theorem PI(s:Bj):Ci (Eg s):=by
 unfold Ci;have:=HY (G8 s);omega
theorem nx{α:Type}(x:α):Ci [x]:=by unfold Ci;simp
theorem uy{α:Type}(x y:α):Ci [x,y]:=by unfold Ci;simp
theorem ud(q:Rq)(hq:Ci q.set):PC 155 [.agg (AE q)] (sl AG (Ju q)):=by
 have hc:PC 196 [sl AG [DI q]] (sl AG (Ju q)):=ng [DI q] (nx _) fun t ht=>by rw[Am.1 ht];exact PI _
 refine Ps F6 Tryz.func155 rfl (Nz rfl) ?_;refine Yi (Nz rfl) ?_;refine Xi .pure (Xi _ (Yi (p7 q hq) ?_));refine Xi .pure (Xi _ (Yi (hc) ?_));exact .refl _
theorem ue(p:ByteArray)(pl:Int)(q:Rq)(hp:B3 (pl+1))(hq:Ci q.set):PC 156 [vs p,vi pl,.agg (AE q)] (sl AG (El p pl q)):=by
 have hc:PC 196 [sl AG [⟨p,false,[(pl,pl+1)]⟩,DI q]] (sl AG (El p pl q)):=ng [⟨p,false,[(pl,pl+1)]⟩,DI q] (uy _ _) fun t ht=>by
  rcases As.1 ht with rfl | ht
  ·exact nx _
  ·rw[Am.1 ht];exact PI _
 refine Ps F6 Tryz.func156 rfl (Nz rfl) ?_;refine Yi hp ?_;refine Yi (Nz rfl) ?_;refine Xi .pure (Xi _ (Yi (p7 q hq) ?_));refine Xi .pure (Xi _ (Yi (hc) ?_));exact .refl _
theorem pZ(p:ByteArray)(s:Bj)(hs:Ci s):PC 160 [vs p,sl Ao s] (sl AG (HT p s)):=by
 have hc:PC 196 [sl AG [⟨p,false,Eg s⟩]] (sl AG (HT p s)):=ng [⟨p,false,Eg s⟩] (nx _) fun t ht=>by rw[Am.1 ht];exact PI _
 refine Ps F6 Tryz.func160 rfl (Nz rfl) ?_;refine Xi .pure (Xi _ (Yi (mZ s hs) ?_));refine Xi .pure (Xi _ (Yi (hc) ?_));exact .refl _
end Go.Eng
namespace Go.Eng
open Go.Proofs Go.Shelf Go.RowKit Go.Lib Go.Sort
theorem ov(F:Array Value)(i n:Nat)(hF:F.size=n*3)(hi:i<n)(z:List Value)(hz:z.length=3):(lay (lay F (i*3) (F.toList.drop ((i+1)*3))) ((n-1)*3) z).toList=F.toList.take (i*3)++F.toList.drop ((i+1)*3)++z:=by
 have l1:(F.toList.take (i*3)).length=i*3:=by simp;omega
 have l2:(F.toList.drop ((i+1)*3)).length=(n-(i+1))*3:=by simp;omega
 apply CE
 intro t
 rw[A2,lay_get? _ _ _ _ (by rw[Lib.lay_size];omega),lay_get? _ _ _ _ (by rw[l2];omega)]
 rw[hz,l2]
 by_cases c1:t<i*3
 ·rw[Ai (by omega),Ai (by omega),AX (by rw[Ad];omega),AX (by omega),Jz,Aw c1,A2]
 ·by_cases c2:t<(n-1)*3
  ·rw[Ai (by omega),Aw (by omega),AX (by rw[Ad];omega),A4 (by omega),l1]
  ·rw[A4 (by rw[Ad];omega),Ad,l1,l2]
   by_cases c3:t<n*3
   ·rw[Aw (by omega)];congr 1;omega
   ·rw[Ai (by omega),Ai (by omega),T1 (by omega),A6 (by omega)]
abbrev jE:List Value:=[.string ⟨#[]⟩,.bool false,.slice none 0 0]
set_option maxHeartbeats 4000000 in
set_option maxRecDepth 1000000 in
theorem fj(w:World)(b cap i n:Nat)(F:Array Value)(hF:F.size=n*3)(hi:i<n)(OJ:n≤cap)(hH:Holds id w b 0 F)(h1:∀x∈F.toList,x.oneCell'=true) :
  Calls Tryz.prog 229 #[.slice (some ⟨b,0,none⟩) n cap,.int .i64 i,.int .i64 ((i:Int)+1)] w fun e w'=>e=.returned (.slice (some ⟨b,0,none⟩) (n-1) cap) ∧
   w'=putRow id (Sort.ahead w 1) b 0 (lay (lay F (i*3) (F.toList.drop ((i+1)*3))) ((n-1)*3) jE):=by
 obtain⟨i0,fX,oe⟩:∃i0,Tryz.prog.info? 207=some i0∧i0.size=3:=by
  obtain⟨i,z,h1,_,h2,_⟩:=Hr (P:=Tryz.prog) (T:=mH) CD (e:=207) (n:=2) (by kernel_rfl)
  exact⟨i,h1,h2.trans (by kernel_rfl)⟩
 obtain⟨news,IP⟩:∃news,news=F.toList.drop ((i+1)*3):=⟨_,rfl⟩
 have CJ:news.length=(n-(i+1))*3:=by rw[IP];simp;omega
 have Ff:∀t,t<(n-(i+1))*3→news[t]?=some F[(i+1)*3+t]!:=by
  intro t ht
  rw[IP,BT,A2,DD F ((i+1)*3+t) (by omega),BG (by omega)]
 obtain⟨A,hA,cC⟩:∃A:Addr,(if cap=i+1 then some (⟨b,0,none⟩:Addr)else some ⟨b,(i+1)*3,none⟩)=some A∧Hid (∀t u,news[t]?=some u→w.drew.cell? (A.add t)=some u):=by
  by_cases h:cap=i+1
  ·refine⟨⟨b,0,none⟩,by simp[h],fun t u hu=>?_⟩
   have h0:news.length=0:=by rw[CJ];omega
   rw[List.length_eq_zero_iff.1 h0]at hu
   simp at hu
  ·refine⟨⟨b,(i+1)*3,none⟩,by simp[h],fun t u hu=>?_⟩
   have ht:t<(n-(i+1))*3:=by
    have:=(At.1 hu).1
    rwa [CJ]at this
   rw[Ff t ht]at hu
   rw[Addr.add_lit]
   have:=(hH ((i+1)*3+t) (by omega)).1
   rw[Bi]at this
   exact this.trans hu
 have s1:Hid (news.length=(n-(i+1))*3):=CJ
 have s2:Hid (∀u∈news,u.oneCell'=true):=by
  intro u hu
  rw[IP]at hu
  exact h1 u (Im hu)
 have s3:Hid (∀t,t<news.length→(w.drew.cell? ⟨b,0+i*3+t,none⟩).isSome=true∧w.drew.frozen? ⟨b,0+i*3+t,none⟩=false):=by
  intro t ht
  rw[CJ]at ht
  have:=hH (i*3+t) (by omega)
  rw[Gs]
  exact⟨by show(w.cell? _).isSome=true;rw[this.1];rfl,this.2⟩
 obtain⟨W1,sK⟩:∃W1,W1=w.drew.setCells b (0+i*3) news:=⟨_,rfl⟩
 have nE : W1=putRow id (Sort.ahead w 1) b 0 (lay F (i*3) news):=by
  have:=putRow_setCells id (Sort.ahead w 1) b 0 news F (i*3) (by omega)
  rw[putRow_self id (Sort.ahead w 1) b 0 F (holds_ahead id w 1 b 0 F hH),JF]at this
  rw[sK,←this]
  rfl
 have uG:Holds id W1 b 0 (lay F (i*3) news):=by rw[nE];exact holds_putRow id _ b 0 F _ (holds_ahead id w 1 b 0 F hH) (Lib.lay_size _ _ _)
 have Jh:(storeCells ⟨b,0+(n-1)*3,none⟩ jE 0).run Tryz.prog W1=.ok () (W1.setCells b (0+(n-1)*3) jE):=by
  have:=run_storeCells_cells (P:=Tryz.prog) b (0+(n-1)*3) jE 0 W1 (fun j hj=>by
   have hj:j<3:=hj
   have:=uG ((n-1)*3+j) (by rw[Lib.lay_size];omega)
   rw[show 0+(n-1)*3+0+j=0+((n-1)*3+j) by omega,this.1];rfl) (fun j hj=>by
   have hj:j<3:=hj
   have:=uG ((n-1)*3+j) (by rw[Lib.lay_size];omega)
   rw[show 0+(n-1)*3+0+j=0+((n-1)*3+j) by omega];exact this.2) (fun v hv=>by
   simp only[As,LD,or_false]at hv
   rcases hv with rfl | rfl | rfl<;>rfl)
  exact this
 have hcl:∀ty c,(Builtin.clear_ #[179] ty #[.slice (some ⟨b,(n-1)*3,none⟩) 1 c]).run Tryz.prog W1=.ok (.tuple #[]) (W1.setCells b (0+(n-1)*3) jE):=fun ty c=>by
  have hv:=Tryz.zeroValue207
  rw[Bi]at Jh⊢
  have hz:(Builtin.zeroCells (Value.agg #[Value.string { data:=#[] },Value.bool false,Value.slice none 0 0]).cells 1).toList=jE:=by kernel_rfl
  simp[Builtin.clear_,run_underlying Tryz.underlying179,hv,hz,Jh]
 have Aa4:∀ty,(Builtin.clear_ #[179] ty #[.slice (some ⟨b,(i+(n-(i+1)))*3,none⟩) (n-(i+(n-(i+1)))) (cap-(i+(n-(i+1))))]).run Tryz.prog W1=.ok (.tuple #[]) (W1.setCells b (0+(n-1)*3) jE):=fun ty=>by
  have e1:i+(n-(i+1))=n-1:=by omega
  have e2:n-(n-1)=1:=by omega
  rw[e1,e2];exact hcl ty _
 have X:Aside (W1=putRow id (Sort.ahead w 1) b 0 (lay F (i*3) news)):=nE
 have hW:Hid (W1=w.drew.setCells b (0+i*3) news):=sK
 have Y:Aside (news=F.toList.drop ((i+1)*3)):=IP
 have Z:Aside (news.length=(n-(i+1))*3):=CJ
 have qQ:i≤cap:=by omega
 have hjc:i+1≤cap:=by omega
 have mixed:=Go.Eng.hm
 have hb1:(0:Int)≤(i:Int)+1:=by omega
 have Uf:(i:Int)+1≤(n:Int):=by omega
 clear sK nE uG hH Ff IP CJ Jh hcl
 go_enter Tryz.func229,Tryz.ntmps229
 go_wp2_with fail
 go_region_law_o (refine step_append_room rfl (.tmp 22) (.tmp 25) 179 rfl 207 i0 3 Tryz.underlying179 fX oe b 0 i cap (by simp[Act.eval,Act.put]) A (n-(i+1)) (cap-(i+1)) news (by simp[Act.eval,Act.put]) s1.out cC.out s2.out (by omega) s3.out ?_;rw[←hW.out])
 go_wp2
 go_ret
 refine⟨by rw[show i+(n-(i+1))=n-1 by omega];rfl,?_⟩
 rw[X.out]
 have e1:=Y.out
 have e2:=Z.out
 rw[←e1]
 have:=putRow_setCells id (Sort.ahead w 1) b 0 jE (lay F (i*3) news) ((n-1)*3) (by rw[Lib.lay_size];show _+3≤_;omega)
 rw[JF,Bi]at this
 exact this
abbrev Ut:List AV:=[Go.Eng.vs ⟨#[]⟩,vb false,.v (.slice none 0 0)]
theorem uo(l:List Tm)(i:Nat)(hi:i<l.length) :
  Be Tryz.prog 229 [.msl 1000 l.length,vi i,vi ((i:Int)+1)] (Aj [(1000,.arr 3 (l.map AG))] Aa) fun r h'=>r=.msl 2000 (l.length-1)∧h'=Aj [(1000,.dead),(2000,.arr 3 ((l.eraseIdx i).map AG))] Aa:=by
 have hE:F2 Tryz.prog 229:=dP 229 Tryz.func229 (by kernel_rfl) rfl
 have CJ:(l.eraseIdx i).length=l.length-1:=List.length_eraseIdx_of_lt hi
 have Hb:=Ux (P:=Tryz.prog) (f:=229) (es:=l.map AG) (sz:=3) (rest:=[.int .i64 i,.int .i64 ((i:Int)+1)]) (n':=l.length-1) (Q:=fun FD=>FD=(l.eraseIdx i).map AG++[Ut]) hE (fun e=>by
  rw[Dr]at e;subst e;simp at hi) (by rw[Bb];omega) ?_
 ·rw[Bb]at Hb
  refine⟨hE,fun g w vals q1 q2 q3=>(Hb.2 g w vals q1 q2 q3).mono fun _ _ ⟨v,r,h',g',e1,⟨e2,FD,p1,p2⟩,rest⟩=>⟨v,r,h',g',e1,⟨e2,by rw[p2,p1,D7 (by rw[Bb,CJ];exact Ak _),AS (by rw[Bb,CJ];exact Ak _)]⟩,rest⟩⟩
 ·intro g w b cap F hr hF hH hb hc
  rw[Bb]at hF hc⊢
  have hu:∀e∈l.map AG,e.length=3:=fun e he=>by
   obtain⟨t,_,rfl⟩:=Al.1 he;rfl
  refine(fj w b cap i l.length F hF hi hc hH hr.2.1).mono ?_
  rintro e w' ⟨rfl,rfl⟩
  refine⟨rfl,_,_,1,#[],?_,rfl,?_,fun cs hcs=>?_,fun g w hr=>?_,rfl⟩
  ·rw[Lib.lay_size,Lib.lay_size]
  ·rw[Ad,Bb,CJ,AB];omega
  ·rcases A8.1 hcs with h | h
   ·obtain⟨t,_,rfl⟩:=Al.1 h;rfl
   ·rw[Am.1 h];rfl
  ·rw[ov F i l.length hF hi jE rfl,List.eraseIdx_eq_take_drop_succ,CL,AH,CL,Re,List.map_drop,←K6 _ i hu,←OA _ (i+1) hu]
   refine CH.append (CH.append (hr.take _) (hr.drop _)) ?_
   exact MS g w Fm jE fun x hx=>by
    simp only[As,LD,or_false]at hx
    rcases hx with rfl | rfl | rfl<;>rfl
end Go.Eng
namespace Go.Eng
open Go.Proofs
theorem p8(l:List Tm)(hl:Ci l)(DE:l≠[]):Be Tryz.prog 230 [sl AG l] (Aj [] Aa) fun r h'=>r=.msl 2000 l.length∧h'=Aj [(2000,.arr 3 (l.map AG))] Aa:=by
 refine Co (MA (yS [(5,3)] [])) [(5,2000)] rfl CD hm rfl Tryz.func230 (by kernel_rfl) rfl (Nz rfl) (by kernel_rfl) rfl ?_;have Ga:Dn 3 (l.map AG)∧([]:List (List AV)).length=0∧(([]:List (List AV)).length+(l.map AG).length)*48≤140737488355328∧([]:List (List AV)).length+(l.map AG).length≤9223372036854775807:=by
  refine⟨EE (enc:=AG) (n:=3) (fun _=>rfl) l,rfl,?_,?_⟩<;>simp only[AD,Lm]<;>unfold Ci at hl<;>omega
 refine Yi ?_ ?_
 ·intro _;refine Yi Ga ?_;have e1:AV.msl 2000 (([]:List (List AV)).length+(l.map AG).length)=.msl 2000 l.length:=by simp
  refine Xi (.msl 2000 (([]:List (List AV)).length+(l.map AG).length)) (Yi (.refl _) (Yi e1 ?_))
  rfl
 ·intro h;have h:l.map AG=[]:=h;exact absurd (Dr.1 h) DE
theorem nh(x:Tm)(p:ByteArray):PC 228 [.agg (AG x),.cptr [vs p]] (vb (decide (x.path=p))):=by
 refine Ps F6 Tryz.func228 rfl (Nz rfl) ?_;refine Yi ?_ ?_
 ·intro h;have h:x.path=p:=h;rw[Ax h];exact .refl _
 ·intro h;have h:¬x.path=p:=h;rw[Aq h];exact .refl _
theorem M7{p:ByteArray}:∀{c:List Tm} {i:Nat},(Ez c).Nodup→∀(hi:i<c.length),c[i].path=p→c.eraseIdx i=FL c p
 |t::c,0,hn,_,h=>by
  have h:t.path=p:=h;unfold Ez at hn;rw[AN,CA]at hn;unfold FL;rw[DN,Ai (by simp[h])];show c=_;rw[List.filter_eq_self.2 fun u hu=>by
   have:u.path≠p:=fun e=>hn.1 (h▸e▸Al.2 ⟨u,hu,rfl⟩)
   simp[this]]
 |t::c,i+1,hn,hi,h=>by
  have hi:i<c.length:=by simpa using hi
  have h:c[i].path=p:=h;unfold Ez at hn;rw[AN,CA]at hn
  have:t.path≠p:=fun e=>hn.1 (by rw[e,←h];exact Al.2 ⟨_,Ap hi,rfl⟩)
  have ih:=M7 hn.2 hi h;unfold FL at ih⊢;rw[List.eraseIdx_cons_succ,DN,Aw (by simp[this]),ih]
theorem PH{l c:List Tm}(hl:Ci l)(h:CR l=some c):Ci c:=by
 have h1:=NN l l.length (Ak _);rw[Dv]at h1;have h2:c=(EY l).filter fun t=>!Gu t:=by
  unfold CR at h;split at h
  ·cases h
  ·exact(BP h).symm
 have h3:c.length≤(EY l).length:=by rw[h2];exact BF _ _
 have h4:(EY l).length=(CZ l).length:=by
  have:=(List.perm_ext_iff_of_nodup (HF (HD l)) (HF (HN (Es l)))).2 (I5 l)
  exact this.length_eq.symm
 unfold Ci at hl⊢;omega
abbrev la:AV:=.tup [.agg Ut,.v (.slice none 0 0),vb false]
abbrev mE:RS:=⟨[3],[],[],[],[],[],[],[],[(30,0),(34,1)],[],[3]⟩
theorem eQ(l:List Tm)(p:ByteArray)(hl:Ci l)(hs:∀t∈l,Ci t.set)(hn:Fq l p=none):PC 203 [sl AG l,vs p] la:=by
 have hc:=sy l hl hs;unfold Fq at hn;cases e:CR l with
 |none =>
  have e1:GG l=.tup [sl AG [],vb false]:=by unfold GG PU;rw[e];rfl
  rw[e1]at hc;have hi:=jV (EM.ptr [vs p]) [] (fun x=>decide (x.path=p)) (fun x _=>nh x p) (by simp);refine Ps mE Tryz.func203 rfl (Nz rfl) ?_;refine Xi .pure (Xi _ (Yi (hc) ?_));refine Xi .pure (Xi _ (Yi (hi) ?_));refine Xi ⟨[(4,.ref 4 0),(7,sl AG []),(8,vb false),(9,vi (-1))],[(4,.cells Ut)],Aa⟩ (Yi ⟨Z4,Z1,Fh,Tv⟩ ?_)
  refine Yi (Nz rfl) (Yi (Nz rfl) ?_);exact .refl _
 |some c =>
  rw[e]at hn;have hn:(match Dm c p with | none=>none | some t=>some (t,FL c p))=none:=hn;have qN:Dm c p=none:=by
   cases h:Dm c p with
   |none=>rfl
   |some t=>rw[h]at hn;cases hn
  have e1:GG l=.tup [sl AG c,vb true]:=by unfold GG PU;rw[e];rfl
  rw[e1]at hc;have qL:=PH hl e;have hi:=jV (EM.ptr [vs p]) c (fun x=>decide (x.path=p)) (fun x _=>nh x p) (by unfold Ci at qL;omega);have hid:H3 (fun x:Tm=>decide (x.path=p)) c 0=-1:=by
   rcases OM (p:=fun x:Tm=>decide (x.path=p)) c 0 with ⟨h1,_⟩ | ⟨i,x,_,_,h3⟩
   ·exact h1
   ·unfold Dm at qN;rw[h3]at qN;cases qN
  rw[hid]at hi;refine Ps mE Tryz.func203 rfl (Nz rfl) ?_;refine Xi .pure (Xi _ (Yi (hc) ?_));refine Xi .pure (Xi _ (Yi (hi) ?_));refine Xi ⟨[(4,.ref 4 0),(7,sl AG c),(8,vb true),(9,vi (-1))],[(4,.cells Ut)],Aa⟩ (Yi ⟨Z4,Z1,Fh,Tv⟩ ?_)
  refine Yi ?_ ?_
  ·intro _;refine Yi (Nz rfl) (Yi (Nz rfl) ?_);exact .refl _
  ·intro h;exact absurd (show(-1:Int)<0 by decide) h
abbrev oE:RS:=⟨[3],[],[],[],[],[],[],[],[(30,0),(34,2)],[],[]⟩
theorem eS(l:List Tm)(p:ByteArray)(hl:Ci l)(hs:∀t∈l,Ci t.set){t:Tm}{r:List Tm}(hn:Fq l p=some (t,r)) :
  Be Tryz.prog 203 [sl AG l,vs p] (Aj [] Aa) fun v h'=>v=.tup [.agg (AG t),.msl 2000 r.length,vb true]∧h'=Aj [(2000,.arr 3 (r.map AG))] Aa:=by
 have hc:=sy l hl hs;unfold Fq at hn;cases e:CR l with
 |none=>rw[e]at hn;cases hn
 |some c =>
  rw[e]at hn;have hn:(match Dm c p with | none=>none | some t=>some (t,FL c p))=some (t,r):=hn;have fU:Dm c p=some t∧FL c p=r:=by
   cases h:Dm c p with
   |none=>rw[h]at hn;cases hn
   |some t=>rw[h]at hn;cases hn;exact Zr
  have e1:GG l=.tup [sl AG c,vb true]:=by unfold GG PU;rw[e];rfl
  rw[e1]at hc;have qL:=PH hl e;have hi:=jV (EM.ptr [vs p]) c (fun x=>decide (x.path=p)) (fun x _=>nh x p) (by unfold Ci at qL;omega);rcases OM (p:=fun x:Tm=>decide (x.path=p)) c 0 with ⟨_,h2⟩ | ⟨i,x,h1,h2,h3⟩
  ·unfold Dm at fU;rw[h2]at fU;cases fU.1
  have hx:x=t:=by
   have:=fU.1
   unfold Dm at this;rw[h3]at this;exact BP this
  subst hx;rw[h1,E4]at hi;obtain⟨qQ,hie⟩:=At.1 h2;have x8:c.eraseIdx i=r:=by
   rw[←fU.2];exact M7 (HN (EO e)) qQ (by rw[hie];exact G0 fU.1)
  have sU:c.length-1=r.length:=by rw[←x8,List.length_eraseIdx_of_lt qQ]
  have DE:c≠[]:=fun h=>by subst h;simp at qQ
  have Aa9:c.length≤1073741824:=qL;refine Co (MA oE) [(13400,2000)] rfl CD hm rfl Tryz.func203 (by kernel_rfl) rfl (Nz rfl) (by kernel_rfl) rfl ?_;refine Xi .pure (Xi _ (Yi (hc) ?_));refine Xi .pure (Xi _ (Yi (hi) ?_));refine Yi ?_ ?_
  ·intro h;have h:(i:Int)<0:=h;omega
  intro _;have hg:(c.map AG)[((i:Nat):Int).toNat]?=some (AG x):=by rw[Cj,AI,h2];rfl
  refine Xi (AG x) (Yi (Yi (Nn i) hg) (Yi rfl (Yi (Nz rfl) ?_)));refine Xi c.length (Xi 3 (Xi (c.map AG) (Yi rfl (Yi (p8 c qL DE) ?_))));refine Yi (Ii i (by omega)) ?_;refine Xi (c.length-1) (Xi ((c.eraseIdx i).map AG) (Yi rfl (Yi (uo c i qQ) ?_)));refine Yi (Nz rfl) ?_;refine Yi (by kernel_rfl) ?_;refine Yi (Nz rfl) ?_;have e2:AV.tup [.agg (AG x),.msl 2000 (c.length-1),vb true]=.tup [.agg (AG x),.msl 2000 r.length,vb true]:=by rw[sU]
  have e3:Aj [(2000,HO.arr 3 ((c.eraseIdx i).map AG))] Aa=Aj [(2000,.arr 3 (r.map AG))] Aa:=by rw[x8]
  exact Xi _ (Yi (.refl _) (Yi e2 e3))
abbrev aZ:RS:=⟨[],[],[],[],[],[],[],[],[],[(24,9),(30,12)],[2,3,5,6]⟩
abbrev oM(a b:List Tm)(p:ByteArray):AV:=.tup [sl AG (Bx a b p).1,vi (Bx a b p).2]
theorem Vr{l r:List Tm}{p:ByteArray}{t:Tm}(h:Fq l p=some (t,r)):∃c,CR l=some c∧t∈c∧r=FL c p:=by
 unfold Fq at h;cases e:CR l with
 |none=>rw[e]at h;cases h
 |some c =>
  rw[e]at h;have h:(match Dm c p with | none=>none | some t=>some (t,FL c p))=some (t,r):=h;cases e2:Dm c p with
  |none=>rw[e2]at h;cases h
  |some u=>rw[e2]at h;cases h;exact⟨c,rfl,E9 e2,rfl⟩
theorem Vs{l r:List Tm}{p:ByteArray}{t:Tm}(hl:Ci l)(h:Fq l p=some (t,r)):Ci t.set∧Ci r∧∀u∈r,Ci u.set:=by
 obtain⟨c,h1,h2,rfl⟩:=Vr h;have hs:=EO h1;refine⟨Ov (hs.canon t h2),?_,fun u hu=>Ov (hs.canon u (By.1 hu).1)⟩
 have:=PH hl h1
 have h3:(FL c p).length≤c.length:=BF _ _;unfold Ci at *;omega
theorem eY{l c:List Tm}(h:CR l=some c):c.length≤l.length:=by
 have h1:=NN l l.length (Ak _);rw[Dv]at h1;have h2:c=(EY l).filter fun t=>!Gu t:=by
  unfold CR at h;split at h
  ·cases h
  ·exact(BP h).symm
 have h3:c.length≤(EY l).length:=by rw[h2];exact BF _ _
 have h4:(EY l).length=(CZ l).length:=by
  have:=(List.perm_ext_iff_of_nodup (HF (HD l)) (HF (HN (Es l)))).2 (I5 l)
  exact this.length_eq.symm
 omega
theorem Vt{l r:List Tm}{p:ByteArray}{t:Tm}(h:Fq l p=some (t,r)):r.length≤l.length:=by
 obtain⟨c,h1,h2,rfl⟩:=Vr h;have h3:(FL c p).length≤c.length:=BF _ _
 have:=eY h1
 omega
theorem ce(a b:Bj):Ci (Pm a b):=by
 unfold Ci;have:=HY (Yr a b);omega
theorem ug(a b:List Tm)(p:ByteArray)(ha:a.length≤500000000)(hb:b.length≤500000000)(yw:∀t∈a,Ci t.set)(kD:∀t∈b,Ci t.set):PC 161 [sl AG a,sl AG b,vs p] (oM a b p):=by
 have qK:Ci a:=by unfold Ci;omega
 have nJ:Ci b:=by unfold Ci;omega
 have er:∀{l:List Tm} {e:Int},Bx a b p=(l,e)→oM a b p=.tup [sl AG l,vi e]:=fun h=>by unfold oM;rw[h]
 have e0:Hq (.tup [.v (.slice none 0 0),vi 1]) (.tup [.slice .none [],vi 1]):=Hq.tup ⟨.nil,.refl _,trivial⟩;cases h1:Fq a p with
 |none =>
  have hr:Bx a b p=([],1):=by unfold Bx;rw[h1]
  have c1:=eQ a p qK yw h1;cases h2:Fq b p with
  |none =>
   have c2:=eQ b p nJ kD h2;refine Ps aZ Tryz.func161 rfl (Nz rfl) ?_;refine Xi .pure (Xi _ (Yi (c1) ?_));refine Yi (Nz rfl) ?_;refine Xi ⟨[(1,sl AG b),(2,vs p),(8,.ref 8 0),(9,.v (.slice none 0 0)),(10,vb false)],[(8,.cells Ut)],Aa⟩ (Yi ⟨Z5,Z1,Fh,Tv⟩ ?_)
   refine Xi .pure (Xi _ (Yi (c2) ?_));refine Yi (Nz rfl) ?_;refine Xi ⟨[(8,.ref 8 0),(9,.v (.slice none 0 0)),(10,vb false),(11,.ref 11 0),(12,.v (.slice none 0 0)),(13,vb false)],[(8,.cells Ut),(11,.cells Ut)],Aa⟩ (Yi ⟨Z6,Z2,Fh,Tv⟩ ?_)
   exact e0.trans (.of_eq (er hr).symm)
  |some q2 =>
   obtain⟨t2,r2⟩:=q2;have c2:=eS b p nJ kD h2;refine Ps aZ Tryz.func161 rfl (Nz rfl) ?_;refine Xi .pure (Xi _ (Yi (c1) ?_));refine Yi (Nz rfl) ?_;refine Xi ⟨[(1,sl AG b),(2,vs p),(8,.ref 8 0),(9,.v (.slice none 0 0)),(10,vb false)],[(8,.cells Ut)],Aa⟩ (Yi ⟨Z5,Z1,Fh,Tv⟩ ?_)
   have z2:r2.length=(r2.map AG).length:=by rw[Lm]
   refine Xi (.gen [] 1) (Yi rfl (c2.imp ?_));intro v2 g2 q2;have wG:=q2.1;have wH:=q2.2;subst wG;subst wH;refine Yi (Nz rfl) ?_;refine Xi ⟨[(8,.ref 8 0),(9,.v (.slice none 0 0)),(10,vb false),(11,.ref 11 0),(12,.msl 12600 r2.length),(13,vb true)],[(8,.cells Ut),(11,.cells (AG t2)),(12600,.arr 3 (r2.map AG))],Aa⟩ (Yi ⟨Z6,Z3,Fh,Tv⟩ ?_)
   refine Yi z2 ?_;exact e0.trans (.of_eq (er hr).symm)
 |some q1 =>
  obtain⟨t1,r1⟩:=q1;have c1:=eS a p qK yw h1;obtain⟨f1,f2,f3⟩:=Vs qK h1;cases h2:Fq b p with
  |none =>
   have hr:Bx a b p=([],1):=by unfold Bx;rw[h1,h2]
   have c2:=eQ b p nJ kD h2;refine Ps aZ Tryz.func161 rfl (Nz rfl) ?_;refine Xi (.gen [] 1) (Yi rfl (c1.imp ?_));intro v1 g1 q1;have wB:=q1.1;have lx:=q1.2;subst wB;subst lx;refine Yi (Nz rfl) ?_;refine Xi ⟨[(1,sl AG b),(2,vs p),(8,.ref 8 0),(9,.msl 11900 r1.length),(10,vb true)],[(8,.cells (AG t1)),(11900,.arr 3 (r1.map AG))],Aa⟩ (Yi ⟨Z5,Z2,Fh,Tv⟩ ?_)
   have z1:r1.length=(r1.map AG).length:=by rw[Lm]
   refine Yi z1 ?_;refine Xi .pure (Xi _ (Yi (c2) ?_));refine Yi (Nz rfl) ?_;refine Xi ⟨[(8,.ref 8 0),(9,.slice (.id 11900 3) (r1.map AG)),(10,vb true),(11,.ref 11 0),(12,.v (.slice none 0 0)),(13,vb false)],[(8,.cells (AG t1)),(11,.cells Ut),(11900,.tok 3 (r1.map AG).length)],Aa⟩ (Yi ⟨Z6,Z3,Fh,Tv⟩ ?_)
   exact e0.trans (.of_eq (er hr).symm)
  |some q2 =>
   obtain⟨t2,r2⟩:=q2;have c2:=eS b p nJ kD h2;obtain⟨g1,g2,g3⟩:=Vs nJ h2;refine Ps aZ Tryz.func161 rfl (Nz rfl) ?_;refine Xi (.gen [] 1) (Yi rfl (c1.imp ?_));intro v1 g1 q1;have wB:=q1.1;have lx:=q1.2;subst wB;subst lx;refine Yi (Nz rfl) ?_;refine Xi ⟨[(1,sl AG b),(2,vs p),(8,.ref 8 0),(9,.msl 11900 r1.length),(10,vb true)],[(8,.cells (AG t1)),(11900,.arr 3 (r1.map AG))],Aa⟩ (Yi ⟨Z5,Z2,Fh,Tv⟩ ?_)
   have z1:r1.length=(r1.map AG).length:=by rw[Lm]
   have z2:r2.length=(r2.map AG).length:=by rw[Lm]
   refine Yi z1 ?_;refine Xi (.gen [] 1) (Yi rfl (c2.imp ?_));intro v2 g2 q2;have wG:=q2.1;have wH:=q2.2;subst wG;subst wH;refine Yi (Nz rfl) ?_;refine Xi ⟨[(8,.ref 8 0),(9,.slice (.id 11900 3) (r1.map AG)),(10,vb true),(11,.ref 11 0),(12,.msl 12600 r2.length),(13,vb true)],[(8,.cells (AG t1)),(11,.cells (AG t2)),(11900,.tok 3 (r1.map AG).length),(12600,.arr 3 (r2.map AG))],Aa⟩ (Yi ⟨Z6,Z4,Fh,Tv⟩ ?_)
   refine Yi z2 ?_;refine Xi ⟨[(8,.ref 8 0),(9,.slice (.id 11900 3) (r1.map AG)),(11,.ref 11 0),(12,.slice (.id 12600 3) (r2.map AG))],[(8,.cells (AG t1)),(11,.cells (AG t2)),(11900,.tok 3 (r1.map AG).length),(12600,.tok 3 (r2.map AG).length)],Aa⟩ (Yi ⟨Z4,Z4,Fh,Tv⟩ ?_)
   have l1:=Vt h1;have l2:=Vt h2;have b1:Dn 3 (r2.map AG)∧(r1.map AG).length=(r1.map AG).length∧((r1.map AG).length+(r2.map AG).length)*48≤140737488355328∧(r1.map AG).length+(r2.map AG).length≤9223372036854775807 :=
    ⟨EE (enc:=AG) (n:=3) (fun _=>rfl) r2,rfl,by rw[Lm,Lm];omega,by rw[Lm,Lm];omega⟩
   refine Yi b1 ?_;refine Yi (Nz rfl) (Yi (Nz rfl) ?_);refine Xi _ (Yi (uk t1 t2 f1 g1) ?_);have b2:Dn 3 [AG (Dj t1 t2)]∧(r1.map AG++r2.map AG).length=(r1.map AG).length+(r2.map AG).length∧((r1.map AG++r2.map AG).length+[AG (Dj t1 t2)].length)*48≤140737488355328∧(r1.map AG++r2.map AG).length+[AG (Dj t1 t2)].length≤9223372036854775807 :=
    ⟨⟨rfl,trivial⟩,by rw[Ad],by rw[Ad,Lm,Lm,AB];omega,by rw[Ad,Lm,Lm,AB];omega⟩
   refine Yi b2 ?_;have ma:=sy (r1++r2++[Dj t1 t2]) (by unfold Ci;simp only[Ad,AB];omega) (fun u hu=>by
    rcases A8.1 hu with hu | hu
    ·rcases A8.1 hu with hu | hu
     ·exact f3 u hu
     ·exact g3 u hu
    ·rw[Am.1 hu];exact ce _ _)
   have e1:sl AG (r1++r2++[Dj t1 t2])=.slice .none (r1.map AG++r2.map AG++[AG (Dj t1 t2)]):=by simp
   have xX:PC 204 [.slice .none (r1.map AG++r2.map AG++[AG (Dj t1 t2)])] (GG (r1++r2++[Dj t1 t2])):=e1▸ma;cases pj:CR (r1++r2++[Dj t1 t2])with
   |none =>
    have hr:Bx a b p=([],8):=by unfold Bx;rw[h1,h2];dsimp only;rw[pj]
    have ec:GG (r1++r2++[Dj t1 t2])=.tup [sl AG [],vb false]:=by unfold GG PU;rw[pj];rfl
    have hc:PC 204 [.slice .none (r1.map AG++r2.map AG++[AG (Dj t1 t2)])] (.tup [sl AG [],vb false]):=ec▸xX;have e8:Hq (.tup [.v (.slice none 0 0),vi 8]) (.tup [.slice .none [],vi 8]):=Hq.tup ⟨.nil,.refl _,trivial⟩;refine Xi _ (Yi (hc) ?_);refine Yi (by kernel_rfl) ?_;refine Xi ⟨[(14,sl AG []),(15,vb false)],[],Aa⟩ (Yi ⟨Z2,Tv,Fh,Tv⟩ ?_)
    exact e8.trans (.of_eq (er hr).symm)
   |some o =>
    have hr:Bx a b p=(o,0):=by unfold Bx;rw[h1,h2];dsimp only;rw[pj]
    have ec:GG (r1++r2++[Dj t1 t2])=.tup [sl AG o,vb true]:=by unfold GG PU;rw[pj];rfl
    have hc:PC 204 [.slice .none (r1.map AG++r2.map AG++[AG (Dj t1 t2)])] (.tup [sl AG o,vb true]):=ec▸xX;refine Xi _ (Yi (hc) ?_);refine Yi (by kernel_rfl) ?_;refine Xi ⟨[(14,sl AG o),(15,vb true)],[],Aa⟩ (Yi ⟨Z2,Tv,Fh,Tv⟩ ?_)
    exact .of_eq (er hr).symm
def aq(h s:Nat→HO):Nat→Bool
 |0=>true
 |n+1=>(match h (1000+n)with |.free=>true |_=>(match s (1000+n)with |.free=>false |_=>true))&&aq h s n
theorem Sv{h s:Nat→HO}:∀{n:Nat},aq h s n=true→∀j,j<n→h (1000+j)≠.free→s (1000+j)≠.free
 |n+1,hd,j,hj,hn=>by
  simp only[aq,Ag]at hd;rcases EI j n with h1 | h1
  ·exact Sv hd.2 j h1 hn
  ·have:j=n:=by omega
   subst this
   have:=hd.1
   intro e;split at this
   ·rename_i q;exact hn q
   ·rw[e]at this;cases this
theorem Az{h s:Nat→HO}(hd:aq h s 1000=true):∀j,1000≤j→j<2000→h j≠.free→s j≠.free:=fun j h1 h2=>by
 have:=Sv hd (j-1000) (by omega)
 rw[show 1000+(j-1000)=j by omega]at this;exact this
abbrev Yv:List AV:=[vs ⟨#[]⟩,vi 0,vi 0,vi 0,.v (.slice none 0 0),vs ⟨#[]⟩,vs ⟨#[]⟩,vs ⟨#[]⟩,vb false]
abbrev Vh:Option Rl→AV
 |some r=>.tup [.agg (Ah r),vb true]
 |none=>.tup [.agg Yv,vb false]
theorem lu(v:Ver):0≤plc v∧plc v<1000000:=by
 unfold plc;cases h:CO v with
 |true=>exact Js h
 |false=>simp
abbrev mL(t:List Tm):Prop:=t.length≤500000000∧∀u∈t,Ci u.set
theorem pY(s:ByteArray):PC 81 [vs s] (vb false):=by
 refine Ps F6 Tryz.func81 rfl (Nz rfl) ?_;refine Yi ?_ ?_
 ·intro h;exact absurd rfl (show s≠s from h)
 ·intro _;exact .refl _
theorem p6(z:Int):PC 134 [vi z] (vb false):=by
 refine Ps F6 Tryz.func134 rfl (Nz rfl) ?_;refine Yi ?_ ?_
 ·intro h;exact absurd rfl (show z≠z from h)
 ·intro _;exact .refl _
theorem jU(a b:ByteArray):PC 53 [vs a,vs b] (vi (Gv a b)):=by
 refine Ps F6 Tryz.func53 rfl (Nz rfl) ?_;refine Xi .pure (Xi _ (Yi (pY a) ?_));refine Xi .pure (Xi _ (Yi (pY b) ?_));refine Yi ?_ ?_
 ·intro h;have h:Op.bytesLess a.toList b.toList=true:=h;exact .of_eq (Ac vi (show(-1:Int)=Gv a b by unfold Gv;rw[Aw (by rw[HX];exact h)]))
 ·intro h;have h:¬Op.bytesLess a.toList b.toList=true:=h;refine Yi ?_ ?_
  ·intro h2;have h2:Op.bytesLess b.toList a.toList=true:=h2;exact .of_eq (Ac vi (show(1:Int)=Gv a b by unfold Gv;rw[Ai (by rw[HX];exact h),Aw (by rw[HX];exact h2)]))
  ·intro h2;have h2:¬Op.bytesLess b.toList a.toList=true:=h2;exact .of_eq (Ac vi (show(0:Int)=Gv a b by unfold Gv;rw[Ai (by rw[HX];exact h),Ai (by rw[HX];exact h2)]))
theorem m9(a b:Int):PC 109 [vi a,vi b] (vi (FS a b)):=by
 refine Ps F6 Tryz.func109 rfl (Nz rfl) ?_;refine Xi .pure (Xi _ (Yi (p6 a) ?_));refine Xi .pure (Xi _ (Yi (p6 b) ?_));refine Yi ?_ ?_
 ·intro h;have h:a<b:=h;exact .of_eq (Ac vi (show(-1:Int)=FS a b by unfold FS;rw[Aw h]))
 ·intro h;have h:¬a<b:=h;refine Yi ?_ ?_
  ·intro h2;have h2:b<a:=h2;exact .of_eq (Ac vi (show(1:Int)=FS a b by unfold FS;rw[Ai h,Aw h2]))
  ·intro h2;have h2:¬b<a:=h2;exact .of_eq (Ac vi (show(0:Int)=FS a b by unfold FS;rw[Ai h,Ai h2]))
theorem pU(a b:Int):PC 83 [.slice .none [[vi a],[vi b]]] (vi (if a≠0 then a else b)):=by
 refine Ps F6 Tryz.func83 rfl (Nz rfl) ?_;refine Xi {i:Nat // i≤2∧(0<i→a=0)∧(1<i→b=0)} (Xi (fun i=>⟨[(3,vi 0),(6,.slice .none [[vi a],[vi b]]),(7,vi 2),(8,vi i.1)],[],Aa⟩) (Xi (fun i=>2-i.1) (Yi (Xi ⟨0,by omega,by omega,by omega⟩ ?_) ?_)))
 ·exact⟨Z4,Tv,Fh,Tv⟩
 intro⟨i,h1,h2,h3⟩;refine Yi ?_ ?_
 ·intro h;have h:(i:Int)<2:=h
  match i,h1,h2,h3,h with
  |0,h1,h2,h3,h =>
   refine Xi [vi a] (Yi (Yi (AY _) rfl) (Yi rfl ?_));refine Yi ?_ ?_
   ·intro h4;have h4:a≠0:=h4;exact .of_eq (Ac vi (Aw h4).symm)
   ·intro h4;have h4:¬a≠0:=h4;refine Yi (Ii 0 (by omega)) ?_;refine Xi ⟨1,by omega,fun _=>by omega,fun q=>absurd q (by decide)⟩ ?_;exact⟨by show 2-1<2-0;decide,Z4,Tv,Fh,Tv⟩
  |1,h1,h2,h3,h =>
   have ha:=h2 (by decide);refine Xi [vi b] (Yi (Yi (by show(0:Int)≤1;decide) rfl) (Yi rfl ?_));refine Yi ?_ ?_
   ·intro h4;exact .of_eq (Ac vi (Ai (by omega)).symm)
   ·intro h4;have h4:¬b≠0:=h4;refine Yi (Ii 1 (by omega)) ?_;refine Xi ⟨2,by omega,fun _=>ha,fun q=>by omega⟩ ?_;exact⟨by show 2-2<2-1;decide,Z4,Tv,Fh,Tv⟩
  |i+2,h1,h2,h3,h=>omega
 ·intro h;have h:¬(i:Int)<2:=h;have ha:=h2 (by omega);have hb:=h3 (by omega);exact .of_eq (Ac vi (show(0:Int)=if a≠0 then a else b by rw[Ai (by omega),hb]))
theorem Sn(a b:Ver)(i:Nat)(hi:i<3)(h:∀j,j<i→FS (part a j) (part b j)=0)(hn:FS (part a i) (part b i)≠0):LV a b=FS (part a i) (part b i):=by
 unfold LV
 match i,hi,h,hn with
 |0,_,_,hn=>exact Aw hn
 |1,_,h,hn =>
  have h0:FS a.a b.a=0:=h 0 (by decide);rw[Ai (by omega)];exact Aw hn
 |2,_,h,hn =>
  have h0:FS a.a b.a=0:=h 0 (by decide);have h1:FS a.b b.b=0:=h 1 (by decide);rw[Ai (by omega),Ai (by omega)];rfl
theorem ff(a b:Ver)(h:∀j,j<3→FS (part a j) (part b j)=0):LV a b=0:=by
 unfold LV;have h0:FS a.a b.a=0:=h 0 (by decide);have h1:FS a.b b.b=0:=h 1 (by decide);have h2:FS a.c b.c=0:=h 2 (by decide);rw[Ai (by omega),Ai (by omega),h2]
theorem pV(a b:Ver):PC 84 [.agg (IG a),.agg (IG b)] (vi (LV a b)):=by
 refine Ps F6 Tryz.func84 rfl (Nz rfl) ?_;refine Yi (Nz rfl) ?_;refine Xi _ (Yi (m7 a) ?_);refine Yi (Nz rfl) ?_;refine Xi _ (Yi (m7 b) ?_);refine Yi (Nz rfl) (Yi (Nz rfl) ?_);refine Yi (by kernel_rfl) ?_;refine Xi {i:Nat // i≤3∧∀j,j<i→FS (part a j) (part b j)=0} (Xi (fun i=>⟨[(5,.ref 5 0),(6,.ref 6 0),(13,vi i.1)],[(5,.cells (IG a)),(6,.cells (IG b))],Aa⟩) (Xi (fun i=>3-i.1) (Yi (Xi ⟨0,by omega,fun j h=>by omega⟩ ?_) ?_)))
 ·exact⟨Z3,Z2,Fh,Tv⟩
 intro⟨i,h1,h2⟩;refine Yi ?_ ?_
 ·intro h;have h:(i:Int)<3:=h;have next:FS (part a i) (part b i)=0→∀j,j<i+1→FS (part a j) (part b j)=0:=fun hz j hj=>by
   rcases EI j i with q | q
   ·exact h2 j q
   ·have:j=i:=by omega
    subst this;exact hz
  match i,h1,h2,h,next with
  |0,h1,h2,h,next =>
   refine Yi ⟨by show(0:Int)≤0;decide,by show(0:Int)<3;decide⟩ ?_;refine Yi ⟨by show(0:Int)≤0;decide,by show(0:Int)<3;decide⟩ ?_;refine Xi _ (Yi (m9 (part a 0) (part b 0)) ?_);refine Yi (by kernel_rfl) ?_;refine Yi ?_ ?_
   ·intro h4;have h4:FS (part a 0) (part b 0)≠0:=h4;exact .of_eq (Ac vi (Sn a b 0 (by decide) h2 h4).symm)
   ·intro h4;have h4:¬FS (part a 0) (part b 0)≠0:=h4;refine Yi (Ii 0 (by omega)) ?_;refine Xi ⟨1,by omega,next (Gb h4)⟩ ?_
    exact⟨by show 3-1<3-0;decide,Z3,Z2,Fh,Tv⟩
  |1,h1,h2,h,next =>
   refine Yi ⟨by show(0:Int)≤1;decide,by show(1:Int)<3;decide⟩ ?_;refine Yi ⟨by show(0:Int)≤1;decide,by show(1:Int)<3;decide⟩ ?_;refine Xi _ (Yi (m9 (part a 1) (part b 1)) ?_);refine Yi (by kernel_rfl) ?_;refine Yi ?_ ?_
   ·intro h4;have h4:FS (part a 1) (part b 1)≠0:=h4;exact .of_eq (Ac vi (Sn a b 1 (by decide) h2 h4).symm)
   ·intro h4;have h4:¬FS (part a 1) (part b 1)≠0:=h4;refine Yi (Ii 1 (by omega)) ?_;refine Xi ⟨2,by omega,next (Gb h4)⟩ ?_
    exact⟨by show 3-2<3-1;decide,Z3,Z2,Fh,Tv⟩
  |2,h1,h2,h,next =>
   refine Yi ⟨by show(0:Int)≤2;decide,by show(2:Int)<3;decide⟩ ?_;refine Yi ⟨by show(0:Int)≤2;decide,by show(2:Int)<3;decide⟩ ?_;refine Xi _ (Yi (m9 (part a 2) (part b 2)) ?_);refine Yi (by kernel_rfl) ?_;refine Yi ?_ ?_
   ·intro h4;have h4:FS (part a 2) (part b 2)≠0:=h4;exact .of_eq (Ac vi (Sn a b 2 (by decide) h2 h4).symm)
   ·intro h4;have h4:¬FS (part a 2) (part b 2)≠0:=h4;refine Yi (Ii 2 (by omega)) ?_;refine Xi ⟨3,by omega,next (Gb h4)⟩ ?_
    exact⟨by show 3-3<3-2;decide,Z3,Z2,Fh,Tv⟩
  |i+3,h1,h2,h,next=>omega
 ·intro h;have h:¬(i:Int)<3:=h;exact .of_eq (Ac vi (ff a b fun j hj=>h2 j (by omega)).symm)
theorem tT(a b:Rl):PC 68 [.agg (Ah a),.agg (Ah b)] (vi (Sm a b)):=by
 refine Ps F6 Tryz.func68 rfl (Nz rfl) ?_;refine Xi _ (Yi (jU a.path b.path) ?_);refine Yi (Nz rfl) (Yi (Nz rfl) ?_);refine Xi _ (Yi (pV a.ver b.ver) ?_);refine Xi _ (Yi (pU (Gv a.path b.path) (LV a.ver b.ver)) ?_);refine Yi (by kernel_rfl) ?_;exact .refl _
abbrev Gr(s:ByteArray):Prop:=s.size≤1073741824
abbrev N5(q:Rq):Prop:=Ci q.set∧Gr q.path
abbrev IB(r:Rl):Prop:=Gr r.path∧∀q∈r.reqs,N5 q
abbrev U9(nm:ByteArray→ByteArray)(p:ByteArray):AV:=match Ct p with
 |some m=>.tup [vs (nm p),vi m,vi 0]
 |none=>.tup [vs ⟨#[]⟩,vi 0,vi 4]
abbrev T3(nm:ByteArray→ByteArray):Prop:=∀p:ByteArray,Gr p→PC 91 [vs p] (U9 nm p)
theorem T3.none{nm:ByteArray→ByteArray}(h:T3 nm){p:ByteArray}(hp:Gr p)(e:Ct p=.none):PC 91 [vs p] (.tup [vs ⟨#[]⟩,vi 0,vi 4]):=by
 have:=h p hp;unfold U9 at this;rw[e]at this;exact this
theorem T3.some{nm:ByteArray→ByteArray}(h:T3 nm){p:ByteArray}{m:Int}(hp:Gr p)(e:Ct p=.some m):PC 91 [vs p] (.tup [vs (nm p),vi m,vi 0]):=by
 have:=h p hp;unfold U9 at this;rw[e]at this;exact this
theorem pR{nm:ByteArray→ByteArray}(hL:T3 nm)(q:Rq)(hq:Ci q.set)(hp:Gr q.path):PC 116 [.agg (AE q),.v (.pointer none)] (vi (GJ none q)):=by
 cases TY:Ct q.path with
 |none =>
  have e:(4:Int)=GJ none q:=by unfold GJ;rw[TY];rfl
  have hl:=hL.none hp TY;refine Ps F6 Tryz.func116 rfl (Nz rfl) ?_;refine Xi .pure (Xi _ (Yi (hl) ?_));refine Yi ?_ ?_
  ·intro _;exact .of_eq (Ac vi e)
  ·intro h;exact absurd (show(4:Int)≠0 by decide) h
 |some m =>
  have er:GJ none q=if(q.set.isEmpty||!decide (q.set=canon q.set)||false)=true then 1 else 0:=by unfold GJ;rw[TY];rfl
  have hl:=hL.some hp TY;have hc:=W2 q.set hq;have he:=pW q.set (canon q.set) hq;have Ug:∀{n:Int},n=(q.set.map Ao).length→n=0→q.set.isEmpty=true:=fun h1 h2=>by
   rw[Lm]at h1;rw[GO];exact AC (by omega)
  have ge:¬((q.set.map Ao).length:Int)=0→q.set.isEmpty=false:=fun h=>by
   cases hqs:q.set with
   |nil=>rw[hqs]at h;exact absurd rfl h
   |cons a l=>rfl
  rcases Bt (decide (q.set=canon q.set))with h2 | h2
  ·rw[h2]at he;refine Ps (Jt [2,4]) Tryz.func116 rfl (Nz rfl) ?_;refine Xi .pure (Xi _ (Yi (hl) ?_));refine Xi ⟨[(1,.v (.pointer none)),(2,.ref 2 0),(7,vi 0)],[(2,.cells (AE q))],Aa⟩ (Yi ⟨Z3,Z1,Fh,Tv⟩ ?_)
   refine Yi ?_ ?_
   ·intro h;exact absurd rfl h
   intro _;refine Xi ⟨[(1,.v (.pointer none)),(2,.ref 2 0)],[(2,.cells (AE q))],Aa⟩ (Yi ⟨Z2,Z1,Fh,Tv⟩ ?_)
   refine Yi ?_ ?_
   ·intro h;have h:((q.set.map Ao).length:Int)=0:=h;have e:(1:Int)=GJ none q:=by rw[er,Ug rfl h];rfl
    refine Yi (by kernel_rfl) ?_;exact .of_eq (Ac vi e)
   intro h;have h:¬((q.set.map Ao).length:Int)=0:=h;have hn:=ge h;refine Xi _ (Yi (hc) ?_);refine Xi _ (Yi (he) ?_);refine Yi (by kernel_rfl) ?_;have e:(0:Int)=GJ none q:=by rw[er,hn,h2];rfl
   exact .of_eq (Ac vi e)
  ·rw[h2]at he;refine Ps (Jt [2,4]) Tryz.func116 rfl (Nz rfl) ?_;refine Xi .pure (Xi _ (Yi (hl) ?_));refine Xi ⟨[(1,.v (.pointer none)),(2,.ref 2 0),(7,vi 0)],[(2,.cells (AE q))],Aa⟩ (Yi ⟨Z3,Z1,Fh,Tv⟩ ?_)
   refine Yi ?_ ?_
   ·intro h;exact absurd rfl h
   intro _;refine Xi ⟨[(1,.v (.pointer none)),(2,.ref 2 0)],[(2,.cells (AE q))],Aa⟩ (Yi ⟨Z2,Z1,Fh,Tv⟩ ?_)
   refine Yi ?_ ?_
   ·intro h;have h:((q.set.map Ao).length:Int)=0:=h;have e:(1:Int)=GJ none q:=by rw[er,Ug rfl h];rfl
    refine Yi (by kernel_rfl) ?_;exact .of_eq (Ac vi e)
   intro h;have h:¬((q.set.map Ao).length:Int)=0:=h;have hn:=ge h;refine Xi _ (Yi (hc) ?_);refine Xi _ (Yi (he) ?_);refine Yi (by kernel_rfl) ?_;have e:(1:Int)=GJ none q:=by rw[er,hn,h2];rfl
   exact .of_eq (Ac vi e)
theorem pS{nm:ByteArray→ByteArray}(hL:T3 nm)(q b:Rq)(hq:Ci q.set)(hp:Gr q.path):PC 116 [.agg (AE q),.cptr (AE b)] (vi (GJ (some b.path) q)):=by
 cases TY:Ct q.path with
 |none =>
  have e:(4:Int)=GJ (some b.path) q:=by unfold GJ;rw[TY];rfl
  have hl:=hL.none hp TY;refine Ps F6 Tryz.func116 rfl (Nz rfl) ?_;refine Xi .pure (Xi _ (Yi (hl) ?_));refine Yi ?_ ?_
  ·intro _;exact .of_eq (Ac vi e)
  ·intro h;exact absurd (show(4:Int)≠0 by decide) h
 |some m =>
  have er:GJ (some b.path) q=if(q.set.isEmpty||!decide (q.set=canon q.set)||!Fl b.path q.path)=true then 1 else 0:=by unfold GJ;rw[TY];rfl
  have hl:=hL.some hp TY;have hc:=W2 q.set hq;have he:=pW q.set (canon q.set) hq;have Ug:∀{n:Int},n=(q.set.map Ao).length→n=0→q.set.isEmpty=true:=fun h1 h2=>by
   rw[Lm]at h1;rw[GO];exact AC (by omega)
  have ge:¬((q.set.map Ao).length:Int)=0→q.set.isEmpty=false:=fun h=>by
   cases hqs:q.set with
   |nil=>rw[hqs]at h;exact absurd rfl h
   |cons a l=>rfl
  rcases Bt (decide (q.set=canon q.set))with h2 | h2
  ·rw[h2]at he;refine Ps (Jt [2,4]) Tryz.func116 rfl (Nz rfl) ?_;refine Xi .pure (Xi _ (Yi (hl) ?_));refine Xi ⟨[(1,.cptr (AE b)),(2,.ref 2 0),(7,vi 0)],[(2,.cells (AE q))],Aa⟩ (Yi ⟨Z3,Z1,Fh,Tv⟩ ?_)
   refine Yi ?_ ?_
   ·intro h;exact absurd rfl h
   intro _;refine Xi ⟨[(1,.cptr (AE b)),(2,.ref 2 0)],[(2,.cells (AE q))],Aa⟩ (Yi ⟨Z2,Z1,Fh,Tv⟩ ?_)
   refine Yi ?_ ?_
   ·intro h;have h:((q.set.map Ao).length:Int)=0:=h;have e:(1:Int)=GJ (some b.path) q:=by rw[er,Ug rfl h];rfl
    refine Yi (by kernel_rfl) ?_;exact .of_eq (Ac vi e)
   intro h;have h:¬((q.set.map Ao).length:Int)=0:=h;have hn:=ge h;refine Xi _ (Yi (hc) ?_);refine Xi _ (Yi (he) ?_);refine Yi ?_ ?_
   ·intro h3;have h3:Op.bytesLess b.path.toList q.path.toList=false:=h3;refine Yi (by kernel_rfl) ?_;have e:(1:Int)=GJ (some b.path) q:=by rw[er,hn,h2,HX,h3];rfl
    exact .of_eq (Ac vi e)
   ·intro h3;have h3:¬Op.bytesLess b.path.toList q.path.toList=false:=h3;have h3:Op.bytesLess b.path.toList q.path.toList=true:=by simpa using h3
    refine Yi (by kernel_rfl) ?_;have e:(0:Int)=GJ (some b.path) q:=by rw[er,hn,h2,HX,h3];rfl
    exact .of_eq (Ac vi e)
  ·rw[h2]at he;refine Ps (Jt [2,4]) Tryz.func116 rfl (Nz rfl) ?_;refine Xi .pure (Xi _ (Yi (hl) ?_));refine Xi ⟨[(1,.cptr (AE b)),(2,.ref 2 0),(7,vi 0)],[(2,.cells (AE q))],Aa⟩ (Yi ⟨Z3,Z1,Fh,Tv⟩ ?_)
   refine Yi ?_ ?_
   ·intro h;exact absurd rfl h
   intro _;refine Xi ⟨[(1,.cptr (AE b)),(2,.ref 2 0)],[(2,.cells (AE q))],Aa⟩ (Yi ⟨Z2,Z1,Fh,Tv⟩ ?_)
   refine Yi ?_ ?_
   ·intro h;have h:((q.set.map Ao).length:Int)=0:=h;have e:(1:Int)=GJ (some b.path) q:=by rw[er,Ug rfl h];rfl
    refine Yi (by kernel_rfl) ?_;exact .of_eq (Ac vi e)
   intro h;have h:¬((q.set.map Ao).length:Int)=0:=h;have hn:=ge h;refine Xi _ (Yi (hc) ?_);refine Xi _ (Yi (he) ?_);refine Yi (by kernel_rfl) ?_;have e:(1:Int)=GJ (some b.path) q:=by rw[er,hn,h2];rfl
   exact .of_eq (Ac vi e)
abbrev My(l:List Rq)(k:Nat):List AV:=((l.map AE)[k]?).getD []
abbrev pP(l:List Rq):Nat→AV
 |0=>.v (.pointer none)
 |k+1=>.cptr (My l k)
abbrev Ks(l:List Rq):Nat→Option ByteArray
 |0=>none
 |k+1=>(l[k]?).map (·.path)
theorem Ny{l:List Rq}{k:Nat}(h:k<l.length):My l k=AE l[k]:=by
 unfold My;rw[AI,Ge h];rfl
theorem Sb{l:List Rq}{k:Nat}(h:k<l.length):Ks l (k+1)=some l[k].path:=by
 show(l[k]?).map _=_;rw[Ge h];rfl
theorem xB{nm:ByteArray→ByteArray}(hL:T3 nm)(l:List Rq)(hs:∀q∈l,N5 q):PC 93 [sl AE l] (vi (BU l)):=by
 refine Ps (Jt [8]) Tryz.func93 rfl (Nz rfl) ?_;refine Yi ?_ ?_
 ·intro h;have h:(16:Int)<(l.map AE).length:=h;exact .of_eq (Ac vi (show(7:Int)=BU l by unfold BU;rw[Aw (by rw[Lm]at h;omega)]))
 intro h;have h:¬(16:Int)<(l.map AE).length:=h;have hl:l.length≤16:=by rw[Lm]at h;omega
 have TX:BU l=FR none l:=by unfold BU;rw[Ai (by omega)]
 refine Xi {i:Nat // i≤l.length∧FR none l=FR (Ks l i) (l.drop i)} (Xi (fun i=>⟨[(0,sl AE l),(3,pP l i.1),(10,sl AE l),(11,vi (l.map AE).length),(12,vi i.1)],[],Aa⟩) (Xi (fun i=>l.length-i.1) (Yi (Xi ⟨0,AL _,rfl⟩ ?_) ?_)))
 ·exact⟨Z5,Tv,Fh,Tv⟩
 intro⟨i,h1,h2⟩;refine Yi ?_ ?_
 ·intro h;have h:(i:Int)<(l.map AE).length:=h;have h:i<l.length:=by simpa using h
  have hg:l[i]?=some l[i]:=Ge h;have hd:l.drop i=l[i]::l.drop (i+1):=Bv h;have hq:=hs l[i] (Ap h);have hc:PC 116 [.agg (AE l[i]),pP l i] (vi (GJ (Ks l i) l[i])):=by
   cases i with
   |zero=>exact pR hL _ hq.1 hq.2
   |succ k =>
    rw[Sb (by omega:k<l.length)];show PC 116 [_,.cptr (My l k)] _;rw[Ny (by omega:k<l.length)];exact pS hL _ _ hq.1 hq.2
  have J5:FR none l=if GJ (Ks l i) l[i]=0 then FR (some l[i].path) (l.drop (i+1))else GJ (Ks l i) l[i]:=by rw[h2,hd];rfl
  match i,h1,h2,h,hg,hd,hc,J5 with
  |0,h1,h2,h,hg,hd,hc,J5 =>
   refine Xi (AE l[0]) (Yi (Yi (by show(0:Int)≤((0:Nat):Int);omega) (by simp[hg])) (Yi rfl ?_));refine Yi (Nz rfl) (Yi (Nz rfl) (Yi (Nz rfl) ?_));refine Xi .pure (Xi _ (Yi (hc) ?_));refine Xi ⟨[(0,sl AE l),(4,vi ((0:Nat):Int)),(6,vi (GJ (Ks l (0)) l[0])),(10,sl AE l),(11,vi (l.map AE).length),(12,vi ((0:Nat):Int))],[],Aa⟩ (Yi ⟨Z6,Tv,Fh,Tv⟩ ?_)
   refine Yi ?_ ?_
   ·intro h4;have h4:GJ (Ks l (0)) l[0]≠0:=h4;exact .of_eq (Ac vi (show GJ (Ks l (0)) l[0]=BU l by rw[TX,J5,Ai h4]))
   ·intro h4;have h4:¬GJ (Ks l (0)) l[0]≠0:=h4;refine Xi (AE l[0]) (Yi (Yi (by show(0:Int)≤((0:Nat):Int);omega) (by simp[hg])) (Yi rfl ?_));refine Yi (by show B3 (((0:Nat):Int)+1);unfold B3;omega) ?_;refine Xi ⟨0+1,by omega,by rw[J5,Aw (Gb h4),Sb h]⟩ ?_;have e1:AV.cptr (AE l[0])=.cptr (My l (0)):=by rw[Ny h]
    exact⟨by show l.length-(0+1)<l.length-(0);omega,⟨Zr,⟨e1,rfl⟩,Zr,Zr,Zr,Tv⟩,Tv,Fh,Tv⟩
  |k+1,h1,h2,h,hg,hd,hc,J5 =>
   refine Xi (AE l[k+1]) (Yi (Yi (by show(0:Int)≤((k+1:Nat):Int);omega) (by simp[hg])) (Yi rfl ?_));refine Yi (Nz rfl) (Yi (Nz rfl) (Yi (Nz rfl) ?_));refine Xi .pure (Xi _ (Yi (hc) ?_));refine Xi ⟨[(0,sl AE l),(4,vi ((k+1:Nat):Int)),(6,vi (GJ (Ks l (k+1)) l[k+1])),(10,sl AE l),(11,vi (l.map AE).length),(12,vi ((k+1:Nat):Int))],[],Aa⟩ (Yi ⟨Z6,Tv,Fh,Tv⟩ ?_)
   refine Yi ?_ ?_
   ·intro h4;have h4:GJ (Ks l (k+1)) l[k+1]≠0:=h4;exact .of_eq (Ac vi (show GJ (Ks l (k+1)) l[k+1]=BU l by rw[TX,J5,Ai h4]))
   ·intro h4;have h4:¬GJ (Ks l (k+1)) l[k+1]≠0:=h4;refine Xi (AE l[k+1]) (Yi (Yi (by show(0:Int)≤((k+1:Nat):Int);omega) (by simp[hg])) (Yi rfl ?_));refine Yi (by show B3 (((k+1:Nat):Int)+1);unfold B3;omega) ?_;refine Xi ⟨k+1+1,by omega,by rw[J5,Aw (Gb h4),Sb h]⟩ ?_;have e1:AV.cptr (AE l[k+1])=.cptr (My l (k+1)):=by rw[Ny h]
    exact⟨by show l.length-(k+1+1)<l.length-(k+1);omega,⟨Zr,⟨e1,rfl⟩,Zr,Zr,Zr,Tv⟩,Tv,Fh,Tv⟩
 ·intro h;have h:¬(i:Int)<(l.map AE).length:=h;have h:¬i<l.length:=by simpa using h
  have e:(0:Int)=BU l:=by rw[TX,h2,T4 (by omega)];rfl
  exact .of_eq (Ac vi e)
abbrev fm(r:Rl):Nat→ByteArray
 |0=>r.arch
 |1=>r.ifc
 |_=>r.cert
theorem nt{r:Rl}(h:∀j,j<3→EV (fm r j)=true):(EV r.arch&&EV r.ifc&&EV r.cert)=true:=by
 have h0:EV r.arch=true:=h 0 (by decide);have h1:EV r.ifc=true:=h 1 (by decide);have h2:EV r.cert=true:=h 2 (by decide);rw[h0,h1,h2];rfl
theorem Y0{r:Rl}{i:Nat}(hi:i<3)(h:EV (fm r i)=false):(EV r.arch&&EV r.ifc&&EV r.cert)=false:=by
 match i,hi,h with
 |0,_,h=>have h:EV r.arch=false:=h;rw[h];rfl
 |1,_,h=>have h:EV r.ifc=false:=h;rw[h,DJ];rfl
 |2,_,h=>have h:EV r.cert=false:=h;rw[h,DJ]
theorem tR{nm:ByteArray→ByteArray}(hL:T3 nm)(r:Rl)(hr:IB r):PC 66 [.agg (Ah r)] (vi (Dw r)):=by
 cases TY:Ct r.path with
 |none =>
  have e:(4:Int)=Dw r:=by unfold Dw;rw[TY]
  have hl:=hL.none hr.1 TY;refine Ps F6 Tryz.func66 rfl (Nz rfl) ?_;refine Xi .pure (Xi _ (Yi (hl) ?_));refine Yi ?_ ?_
  ·intro _;exact .of_eq (Ac vi e)
  ·intro h;exact absurd (show(4:Int)≠0 by decide) h
 |some m =>
  have er:Dw r=if(!CO r.ver||!decide (r.ver.a=m))=true then 2 else if BU r.reqs≠0 then BU r.reqs else if(EV r.arch&&EV r.ifc&&EV r.cert)=true then 0 else 1:=by unfold Dw;rw[TY]
  have hl:=hL.some hr.1 TY;have hv:=jT r.ver;have hc:=xB hL r.reqs hr.2;rcases Bt (CO r.ver)with h2 | h2
  ·rw[h2]at hv;refine Ps (Jt [2,4,6,7,9]) Tryz.func66 rfl (Nz rfl) ?_;refine Xi .pure (Xi _ (Yi (hl) ?_));refine Xi ⟨[(1,.ref 1 0),(4,vi m),(5,vi 0)],[(1,.cells (Ah r))],Aa⟩ (Yi ⟨Z3,Z1,Fh,Tv⟩ ?_)
   refine Yi ?_ ?_
   ·intro h;exact absurd rfl h
   intro _;refine Xi ⟨[(1,.ref 1 0),(4,vi m)],[(1,.cells (Ah r))],Aa⟩ (Yi ⟨Z2,Z1,Fh,Tv⟩ ?_)
   refine Yi (Nz rfl) ?_;refine Xi .pure (Xi _ (Yi (hv) ?_));refine Yi ?_ ?_
   ·intro h;have h:r.ver.a≠m:=h;have e:(2:Int)=Dw r:=by rw[er,h2,Aq h];rfl
    exact .of_eq (Ac vi e)
   intro h;have h:¬r.ver.a≠m:=h;have h3:r.ver.a=m:=Gb h;have qk:Dw r=if BU r.reqs≠0 then BU r.reqs else if(EV r.arch&&EV r.ifc&&EV r.cert)=true then 0 else 1:=by rw[er,h2,Ax h3];rfl
   refine Xi ⟨[(1,.ref 1 0)],[(1,.cells (Ah r))],Aa⟩ (Yi ⟨Z1,Z1,Fh,Tv⟩ ?_)
   refine Xi .pure (Xi _ (Yi (hc) ?_));refine Xi ⟨[(1,.ref 1 0),(6,vi (BU r.reqs))],[(1,.cells (Ah r))],Aa⟩ (Yi ⟨Z2,Z1,Fh,Tv⟩ ?_)
   refine Yi ?_ ?_
   ·intro h4;have h4:BU r.reqs≠0:=h4;exact .of_eq (Ac vi (show BU r.reqs=Dw r by rw[qk,Aw h4]))
   intro h4;have h4:¬BU r.reqs≠0:=h4;have sD:Dw r=if(EV r.arch&&EV r.ifc&&EV r.cert)=true then 0 else 1:=by rw[qk,Ai h4]
   refine Xi ⟨[(1,.ref 1 0)],[(1,.cells (Ah r))],Aa⟩ (Yi ⟨Z1,Z1,Fh,Tv⟩ ?_)
   refine Xi {i:Nat // i≤3∧∀j,j<i→EV (fm r j)=true} (Xi (fun i=>⟨[(41,.slice (.id 41 1) [[vs r.arch],[vs r.ifc],[vs r.cert]]),(42,vi 3),(43,vi i.1)],[(41,.tok 1 3)],Aa⟩) (Xi (fun i=>3-i.1) (Yi (Xi ⟨0,by omega,fun j h=>by omega⟩ ?_) ?_)))
   ·exact⟨Z3,Z1,Fh,Tv⟩
   intro⟨i,i1,i2⟩;refine Yi ?_ ?_
   ·intro h;have h:(i:Int)<3:=h;have next:EV (fm r i)=true→∀j,j<i+1→EV (fm r j)=true:=fun hz j hj=>by
     rcases EI j i with q | q
     ·exact i2 j q
     ·have:j=i:=by omega
      subst this;exact hz
    match i,i1,i2,h,next with
    |0,i1,i2,h,next =>
     refine Xi [vs r.arch] (Yi (Yi (by show(0:Int)≤0;decide) rfl) (Yi rfl ?_));refine Yi ?_ ?_
     ·intro h5;have h5:((r.arch.size:Nat):Int)≠0:=h5;refine Yi ?_ ?_
      ·intro h6;have h6:((r.arch.size:Nat):Int)≠32:=h6;have e:(1:Int)=Dw r:=by rw[sD,Y0 (i:=0) (by decide) (show EV r.arch=false by unfold EV;rw[Aq (by omega),Aq (by omega)];rfl)];rfl
       exact .of_eq (Ac vi e)
      ·intro h6;have h6:¬((r.arch.size:Nat):Int)≠32:=h6;refine Yi (Ii 0 (by omega)) ?_;refine Xi ⟨1,by omega,next (show EV r.arch=true by unfold EV;rw[Ax (by omega:r.arch.size=32),Bool.or_true])⟩ ?_
       exact⟨by show 3-1<3-0;decide,Z3,Z1,Fh,Tv⟩
     ·intro h5;have h5:¬((r.arch.size:Nat):Int)≠0:=h5;refine Yi (Ii 0 (by omega)) ?_;refine Xi ⟨1,by omega,next (show EV r.arch=true by unfold EV;rw[Ax (by omega:r.arch.size=0)];rfl)⟩ ?_
      exact⟨by show 3-1<3-0;decide,Z3,Z1,Fh,Tv⟩
    |1,i1,i2,h,next =>
     refine Xi [vs r.ifc] (Yi (Yi (by show(0:Int)≤1;decide) rfl) (Yi rfl ?_));refine Yi ?_ ?_
     ·intro h5;have h5:((r.ifc.size:Nat):Int)≠0:=h5;refine Yi ?_ ?_
      ·intro h6;have h6:((r.ifc.size:Nat):Int)≠32:=h6;have e:(1:Int)=Dw r:=by rw[sD,Y0 (i:=1) (by decide) (show EV r.ifc=false by unfold EV;rw[Aq (by omega),Aq (by omega)];rfl)];rfl
       exact .of_eq (Ac vi e)
      ·intro h6;have h6:¬((r.ifc.size:Nat):Int)≠32:=h6;refine Yi (Ii 1 (by omega)) ?_;refine Xi ⟨2,by omega,next (show EV r.ifc=true by unfold EV;rw[Ax (by omega:r.ifc.size=32),Bool.or_true])⟩ ?_
       exact⟨by show 3-2<3-1;decide,Z3,Z1,Fh,Tv⟩
     ·intro h5;have h5:¬((r.ifc.size:Nat):Int)≠0:=h5;refine Yi (Ii 1 (by omega)) ?_;refine Xi ⟨2,by omega,next (show EV r.ifc=true by unfold EV;rw[Ax (by omega:r.ifc.size=0)];rfl)⟩ ?_
      exact⟨by show 3-2<3-1;decide,Z3,Z1,Fh,Tv⟩
    |2,i1,i2,h,next =>
     refine Xi [vs r.cert] (Yi (Yi (by show(0:Int)≤2;decide) rfl) (Yi rfl ?_));refine Yi ?_ ?_
     ·intro h5;have h5:((r.cert.size:Nat):Int)≠0:=h5;refine Yi ?_ ?_
      ·intro h6;have h6:((r.cert.size:Nat):Int)≠32:=h6;have e:(1:Int)=Dw r:=by rw[sD,Y0 (i:=2) (by decide) (show EV r.cert=false by unfold EV;rw[Aq (by omega),Aq (by omega)];rfl)];rfl
       exact .of_eq (Ac vi e)
      ·intro h6;have h6:¬((r.cert.size:Nat):Int)≠32:=h6;refine Yi (Ii 2 (by omega)) ?_;refine Xi ⟨3,by omega,next (show EV r.cert=true by unfold EV;rw[Ax (by omega:r.cert.size=32),Bool.or_true])⟩ ?_
       exact⟨by show 3-3<3-2;decide,Z3,Z1,Fh,Tv⟩
     ·intro h5;have h5:¬((r.cert.size:Nat):Int)≠0:=h5;refine Yi (Ii 2 (by omega)) ?_;refine Xi ⟨3,by omega,next (show EV r.cert=true by unfold EV;rw[Ax (by omega:r.cert.size=0)];rfl)⟩ ?_
      exact⟨by show 3-3<3-2;decide,Z3,Z1,Fh,Tv⟩
    |i+3,i1,i2,h,next=>omega
   ·intro h;have h:¬(i:Int)<3:=h;have e:(0:Int)=Dw r:=by rw[sD,Aw (nt fun j hj=>i2 j (by omega))]
    exact .of_eq (Ac vi e)
  ·rw[h2]at hv;have e:(2:Int)=Dw r:=by rw[er,h2];rfl
   refine Ps (Jt [2,4]) Tryz.func66 rfl (Nz rfl) ?_;refine Xi .pure (Xi _ (Yi (hl) ?_));refine Xi ⟨[(1,.ref 1 0),(4,vi m),(5,vi 0)],[(1,.cells (Ah r))],Aa⟩ (Yi ⟨Z3,Z1,Fh,Tv⟩ ?_)
   refine Yi ?_ ?_
   ·intro h;exact absurd rfl h
   intro _;refine Xi ⟨[(1,.ref 1 0),(4,vi m)],[(1,.cells (Ah r))],Aa⟩ (Yi ⟨Z2,Z1,Fh,Tv⟩ ?_)
   refine Yi (Nz rfl) ?_;refine Xi .pure (Xi _ (Yi (hv) ?_));exact .of_eq (Ac vi e)
theorem oq{a b:Rl}(h:a.path=b.path∧a.ver.a=b.ver.a∧a.ver.b=b.ver.b∧a.ver.c=b.ver.c):FM a=FM b:=by
 unfold FM;obtain⟨h1,h2,h3,h4⟩:=h
 have:a.ver=b.ver:=by
  cases ha:a.ver;cases hb:b.ver;rw[ha,hb]at h2 h3 h4;simp_all
 rw[h1,this]
theorem cL{a b:Rl}(h:FM a=FM b):a.path=b.path∧a.ver.a=b.ver.a∧a.ver.b=b.ver.b∧a.ver.c=b.ver.c:=by
 unfold FM at h
 injection h with h1 h2
 exact⟨h1,by rw[h2],by rw[h2],by rw[h2]⟩
abbrev jN(x:List Rl):Nat→Option Rl
 |0=>none
 |k+1=>x[k]?
theorem qb{nm:ByteArray→ByteArray}(hL:T3 nm)(x:List Rl)(ifs:List (List AV))(hs:∀r∈x,IB r):PC 20 [.agg (Ic x ifs)] (vi (A5 x)):=by
 refine Ps (Jt [7,9,11,13]) Tryz.func20 rfl (Nz rfl) ?_;refine Yi ?_ ?_
 ·intro h;have h:(256:Int)<(x.map Ah).length:=h;exact .of_eq (Ac vi (show(7:Int)=A5 x by unfold A5;rw[Aw (by rw[Lm]at h;omega)]))
 intro h;have h:¬(256:Int)<(x.map Ah).length:=h;have hl:x.length≤256:=by rw[Lm]at h;omega
 have TX:A5 x=Dx none x:=by unfold A5;rw[Ai (by omega)]
 refine Xi {i:Nat // i≤x.length∧Dx none x=Dx (jN x i) (x.drop i)} (Xi (fun i=>⟨[(1,.ref 1 0),(12,sl Ah x),(13,vi (x.map Ah).length),(14,vi i.1)],[(1,.cells (Ic x ifs))],Aa⟩) (Xi (fun i=>x.length-i.1) (Yi (Xi ⟨0,AL _,rfl⟩ ?_) ?_)))
 ·exact⟨Z4,Z1,Fh,Tv⟩
 intro⟨i,h1,h2⟩;refine Yi ?_ ?_
 ·intro h;have h:(i:Int)<(x.map Ah).length:=h;have h:i<x.length:=by simpa using h
  have hg:x[i]?=some x[i]:=Ge h;have hd:x.drop i=x[i]::x.drop (i+1):=Bv h;have hc:=tR hL x[i] (hs x[i] (Ap h));have J5:Dx none x=if Dw x[i]≠0 then Dw x[i]else match jN x i with
   |none=>Dx (some x[i]) (x.drop (i+1))
   |some b=>if FM b=FM x[i]then 5 else if 0<Sm b x[i]then 1 else Dx (some x[i]) (x.drop (i+1)):=by rw[h2,hd];rfl
  have mi:jN x (i+1)=some x[i]:=Ge h;refine Xi (Ah x[i]) (Yi (Yi (Nn i) (by simp[hg])) (Yi rfl ?_));refine Yi (Nz rfl) (Yi (Nz rfl) (Yi (Nz rfl) ?_));refine Xi .pure (Xi _ (Yi (hc) ?_));refine Xi ⟨[(1,.ref 1 0),(3,vi i),(4,.ref 4 0),(5,vi (Dw x[i])),(12,sl Ah x),(13,vi (x.map Ah).length),(14,vi i)],[(1,.cells (Ic x ifs)),(4,.cells (Ah x[i]))],Aa⟩ (Yi ⟨Z7,Z2,Fh,Tv⟩ ?_)
  refine Yi ?_ ?_
  ·intro h4;have h4:Dw x[i]≠0:=h4;exact .of_eq (Ac vi (show Dw x[i]=A5 x by rw[TX,J5,Aw h4]))
  intro h4;have h4:¬Dw x[i]≠0:=h4;refine Xi ⟨[(1,.ref 1 0),(3,vi i),(4,.ref 4 0),(12,sl Ah x),(13,vi (x.map Ah).length),(14,vi i)],[(1,.cells (Ic x ifs)),(4,.cells (Ah x[i]))],Aa⟩ (Yi ⟨Z6,Z2,Fh,Tv⟩ ?_)
  refine Yi ?_ ?_
  ·intro h5;have h5:(i:Int)=0:=h5;have h6:i=0:=by omega
   refine Yi (Ii i (by omega)) ?_;refine Xi ⟨i+1,by omega,by rw[J5,Ai h4,mi];subst h6;rfl⟩ ?_;exact⟨Dl x.length i (by omega),Z4,Z1,Fh,Tv⟩
  intro h5;have h5:¬(i:Int)=0:=h5;have hi1:i-1<x.length:=by omega
  have hb:jN x i=some x[i-1]:=by
   obtain⟨k,rfl⟩:∃k,i=k+1:=⟨i-1,by omega⟩;exact Ge (by omega)
  have nM:Dx none x=if FM x[i-1]=FM x[i]then 5 else if 0<Sm x[i-1] x[i]then 1 else Dx (some x[i]) (x.drop (i+1)):=by rw[J5,Ai h4,hb]
  refine Yi (by show B3 ((i:Int)-1);unfold B3;omega) ?_;have Uh:(x.map Ah)[((i:Int)-1).toNat]?=some (Ah x[i-1]):=by rw[show((i:Int)-1).toNat=i-1 by omega];exact Ch (Ge hi1)
  refine Xi (Ah x[i-1]) (Yi (Yi (by show(0:Int)≤(i:Int)-1;omega) Uh) (Yi rfl ?_));refine Yi (Nz rfl) (Yi (Nz rfl) ?_);refine Xi ⟨[(1,.ref 1 0),(4,.ref 4 0),(6,.ref 6 0),(12,sl Ah x),(13,vi (x.map Ah).length),(14,vi i)],[(1,.cells (Ic x ifs)),(4,.cells (Ah x[i])),(6,.cells (Ah x[i-1]))],Aa⟩ (Yi ⟨Z6,Z3,Fh,Tv⟩ ?_)
  refine Yi (Nz rfl) ?_;refine Xi _ (Yi (m5 x[i-1]) ?_);refine Yi (Nz rfl) ?_;refine Xi _ (Yi (m5 x[i]) ?_);refine Yi ?_ ?_
  ·intro h6;refine Yi (by kernel_rfl) ?_;have e:(5:Int)=A5 x:=by rw[TX,nM,Aw (oq ⟨h6.1,h6.2.1,h6.2.2.1,h6.2.2.2.1⟩)]
   exact .of_eq (Ac vi e)
  intro h6;refine Yi (by kernel_rfl) ?_;have h7:¬FM x[i-1]=FM x[i]:=fun e=>by
   have e:=cL e;exact h6 ⟨e.1,e.2.1,e.2.2.1,e.2.2.2,trivial⟩
  refine Xi ⟨[(1,.ref 1 0),(4,.ref 4 0),(6,.ref 6 0),(12,sl Ah x),(13,vi (x.map Ah).length),(14,vi i)],[(1,.cells (Ic x ifs)),(4,.cells (Ah x[i])),(6,.cells (Ah x[i-1]))],Aa⟩ (Yi ⟨Z6,Z3,Fh,Tv⟩ ?_)
  refine Yi (Nz rfl) (Yi (Nz rfl) ?_);refine Xi .pure (Xi _ (Yi (tT x[i-1] x[i]) ?_));refine Yi ?_ ?_
  ·intro h8;have h8:(0:Int)<Sm x[i-1] x[i]:=h8;have e:(1:Int)=A5 x:=by rw[TX,nM,Ai h7,Aw h8]
   exact .of_eq (Ac vi e)
  ·intro h8;have h8:¬(0:Int)<Sm x[i-1] x[i]:=h8;refine Yi (Ii i (by omega)) ?_;refine Xi ⟨i+1,by omega,by rw[nM,Ai h7,Ai h8,mi]⟩ ?_;exact⟨Dl x.length i (by omega),Z4,Z1,Fh,Tv⟩
 ·intro h;have h:¬(i:Int)<(x.map Ah).length:=h;have h:¬i<x.length:=by simpa using h
  have e:(0:Int)=A5 x:=by rw[TX,h2,T4 (by omega)];rfl
  exact .of_eq (Ac vi e)
end Go.Eng
