/- Lemmas for the claims of this seat, without a condition: part 20 (C24, C25, C26, C27, C28, C29, C30, C31, C32, C33, C34, C35, C36, C37, C38). -/
import Derived.Test.YtmcbkdbfaneofaaGreatDoorBA19
import Derived.Shelf.Slices.Delete
namespace Go.Eng
open Go.Proofs
theorem ox(l:List Tm)(hl:Ci l)(hs:∀t∈l,Ci t.set):PC 196 [sl AK l] (sl AK (QM l)):=by
 refine Ps EY Tryz.func196 rfl (Nz rfl) ?_;refine Xi .pure (Xi _ (Yi (tW l hl hs) ?_));exact .refl _
theorem Qs(s:Bc):Ci (En s):=by
 unfold Ci;have:=Is (Hu s);omega
theorem oJ{α:Type}(x:α):Ci [x]:=by unfold Ci;simp
theorem wb{α:Type}(x y:α):Ci [x,y]:=by unfold Ci;simp
theorem vA(q:Rq)(hq:Ci q.set):PC 155 [.agg (AM q)] (sl AK (JS q)):=by
 have hc:PC 196 [sl AK [DQ q]] (sl AK (JS q)):=ox [DQ q] (oJ _) fun t ht=>by rw[As.1 ht];exact Qs _
 refine Ps EY Tryz.func155 rfl (Nz rfl) ?_;refine Yi (Nz rfl) ?_;refine Xi .pure (Xi _ (Yi (ri q hq) ?_));refine Xi .pure (Xi _ (Yi (hc) ?_));exact .refl _
theorem vB(p:ByteArray)(pl:Int)(q:Rq)(hp:Bs (pl+1))(hq:Ci q.set):PC 156 [vs p,vi pl,.agg (AM q)] (sl AK (Ev p pl q)):=by
 have hc:PC 196 [sl AK [⟨p,false,[(pl,pl+1)]⟩,DQ q]] (sl AK (Ev p pl q)):=ox [⟨p,false,[(pl,pl+1)]⟩,DQ q] (wb _ _) fun t ht=>by
  rcases AC.1 ht with rfl | ht
  ·exact oJ _
  ·rw[As.1 ht];exact Qs _
 refine Ps EY Tryz.func156 rfl (Nz rfl) ?_;refine Yi hp ?_;refine Yi (Nz rfl) ?_;refine Xi .pure (Xi _ (Yi (ri q hq) ?_));refine Xi .pure (Xi _ (Yi (hc) ?_));exact .refl _
theorem re(p:ByteArray)(s:Bc)(hs:Ci s):PC 160 [vs p,sl Af s] (sl AK (Io p s)):=by
 have hc:PC 196 [sl AK [⟨p,false,En s⟩]] (sl AK (Io p s)):=ox [⟨p,false,En s⟩] (oJ _) fun t ht=>by rw[As.1 ht];exact Qs _
 refine Ps EY Tryz.func160 rfl (Nz rfl) ?_;refine Xi .pure (Xi _ (Yi (nZ s hs) ?_));refine Xi .pure (Xi _ (Yi (hc) ?_));exact .refl _
end Go.Eng
namespace Go.Eng
open Go.Proofs Go.Shelf Go.RowKit Go.Lib Go.Sort
theorem pD(F:Array Value)(i n:Nat)(hF:F.size=n*3)(hi:i<n)(z:List Value)(hz:z.length=3):(lay (lay F (i*3) (F.toList.drop ((i+1)*3))) ((n-1)*3) z).toList=F.toList.take (i*3)++F.toList.drop ((i+1)*3)++z:=by
 have l1:(F.toList.take (i*3)).length=i*3:=by simp;omega
 have l2:(F.toList.drop ((i+1)*3)).length=(n-(i+1))*3:=by simp;omega
 apply CN
 intro t
 rw[AR,lay_get? _ _ _ _ (by rw[Lib.lay_size];omega),lay_get? _ _ _ _ (by rw[l2];omega)]
 rw[hz,l2]
 by_cases c1:t<i*3
 ·rw[Al (by omega),Al (by omega),A3 (by rw[Ad];omega),A3 (by omega),JX,Au c1,AR]
 ·by_cases c2:t<(n-1)*3
  ·rw[Al (by omega),Au (by omega),A3 (by rw[Ad];omega),A1 (by omega),l1]
  ·rw[A1 (by rw[Ad];omega),Ad,l1,l2]
   by_cases c3:t<n*3
   ·rw[Au (by omega)];congr 1;omega
   ·rw[Al (by omega),Al (by omega),UF (by omega),A7 (by omega)]
abbrev ky:List Value:=[.string ⟨#[]⟩,.bool false,.slice none 0 0]
set_option maxHeartbeats 4000000 in
set_option maxRecDepth 1000000 in
theorem ge(w:World)(b cap i n:Nat)(F:Array Value)(hF:F.size=n*3)(hi:i<n)(Pv:n≤cap)(hH:Holds id w b 0 F)(h1:∀x∈F.toList,x.oneCell'=true) :
  Calls Tryz.prog 229 #[.slice (some ⟨b,0,none⟩) n cap,.int .i64 i,.int .i64 ((i:Int)+1)] w fun e w'=>e=.returned (.slice (some ⟨b,0,none⟩) (n-1) cap) ∧
   w'=putRow id (Sort.ahead w 1) b 0 (lay (lay F (i*3) (F.toList.drop ((i+1)*3))) ((n-1)*3) ky):=by
 obtain⟨i0,gV,po⟩:∃i0,Tryz.prog.info? 207=some i0∧i0.size=3:=by
  obtain⟨i,z,h1,_,h2,_⟩:=HN (P:=Tryz.prog) (T:=nH) CX (e:=207) (n:=2) (by kernel_rfl)
  exact⟨i,h1,h2.trans (by kernel_rfl)⟩
 obtain⟨news,Jc⟩:∃news,news=F.toList.drop ((i+1)*3):=⟨_,rfl⟩
 have CF:news.length=(n-(i+1))*3:=by rw[Jc];simp;omega
 have Fw:∀t,t<(n-(i+1))*3→news[t]?=some F[(i+1)*3+t]!:=by
  intro t ht
  rw[Jc,BY,AR,DL F ((i+1)*3+t) (by omega),BN (by omega)]
 obtain⟨A,hA,df⟩:∃A:Addr,(if cap=i+1 then some (⟨b,0,none⟩:Addr)else some ⟨b,(i+1)*3,none⟩)=some A∧Hid (∀t u,news[t]?=some u→w.drew.cell? (A.add t)=some u):=by
  by_cases h:cap=i+1
  ·refine⟨⟨b,0,none⟩,by simp[h],fun t u hu=>?_⟩
   have h0:news.length=0:=by rw[CF];omega
   rw[List.length_eq_zero_iff.1 h0]at hu
   simp at hu
  ·refine⟨⟨b,(i+1)*3,none⟩,by simp[h],fun t u hu=>?_⟩
   have ht:t<(n-(i+1))*3:=by
    have:=(Aw.1 hu).1
    rwa [CF]at this
   rw[Fw t ht]at hu
   rw[Addr.add_lit]
   have:=(hH ((i+1)*3+t) (by omega)).1
   rw[Bo]at this
   exact this.trans hu
 have s1:Hid (news.length=(n-(i+1))*3):=CF
 have s2:Hid (∀u∈news,u.oneCell'=true):=by
  intro u hu
  rw[Jc]at hu
  exact h1 u (IM hu)
 have s3:Hid (∀t,t<news.length→(w.drew.cell? ⟨b,0+i*3+t,none⟩).isSome=true∧w.drew.frozen? ⟨b,0+i*3+t,none⟩=false):=by
  intro t ht
  rw[CF]at ht
  have:=hH (i*3+t) (by omega)
  rw[GM]
  exact⟨by show(w.cell? _).isSome=true;rw[this.1];rfl,this.2⟩
 obtain⟨W1,rO⟩:∃W1,W1=w.drew.setCells b (0+i*3) news:=⟨_,rfl⟩
 have oR : W1=putRow id (Sort.ahead w 1) b 0 (lay F (i*3) news):=by
  have:=putRow_setCells id (Sort.ahead w 1) b 0 news F (i*3) (by omega)
  rw[putRow_self id (Sort.ahead w 1) b 0 F (holds_ahead id w 1 b 0 F hH),J4]at this
  rw[rO,←this]
  rfl
 have wo:Holds id W1 b 0 (lay F (i*3) news):=by rw[oR];exact holds_putRow id _ b 0 F _ (holds_ahead id w 1 b 0 F hH) (Lib.lay_size _ _ _)
 have JH:(storeCells ⟨b,0+(n-1)*3,none⟩ ky 0).run Tryz.prog W1=.ok () (W1.setCells b (0+(n-1)*3) ky):=by
  have:=run_storeCells_cells (P:=Tryz.prog) b (0+(n-1)*3) ky 0 W1 (fun j hj=>by
   have hj:j<3:=hj
   have:=wo ((n-1)*3+j) (by rw[Lib.lay_size];omega)
   rw[show 0+(n-1)*3+0+j=0+((n-1)*3+j) by omega,this.1];rfl) (fun j hj=>by
   have hj:j<3:=hj
   have:=wo ((n-1)*3+j) (by rw[Lib.lay_size];omega)
   rw[show 0+(n-1)*3+0+j=0+((n-1)*3+j) by omega];exact this.2) (fun v hv=>by
   simp only[AC,L1,or_false]at hv
   rcases hv with rfl | rfl | rfl<;>rfl)
  exact this
 have hcl:∀ty c,(Builtin.clear_ #[179] ty #[.slice (some ⟨b,(n-1)*3,none⟩) 1 c]).run Tryz.prog W1=.ok (.tuple #[]) (W1.setCells b (0+(n-1)*3) ky):=fun ty c=>by
  have hv:=Tryz.zeroValue207
  rw[Bo]at JH⊢
  have hz:(Builtin.zeroCells (Value.agg #[Value.string { data:=#[] },Value.bool false,Value.slice none 0 0]).cells 1).toList=ky:=by kernel_rfl
  simp[Builtin.clear_,run_underlying Tryz.underlying179,hv,hz,JH]
 have Abt:∀ty,(Builtin.clear_ #[179] ty #[.slice (some ⟨b,(i+(n-(i+1)))*3,none⟩) (n-(i+(n-(i+1)))) (cap-(i+(n-(i+1))))]).run Tryz.prog W1=.ok (.tuple #[]) (W1.setCells b (0+(n-1)*3) ky):=fun ty=>by
  have e1:i+(n-(i+1))=n-1:=by omega
  have e2:n-(n-1)=1:=by omega
  rw[e1,e2];exact hcl ty _
 have X:Aside (W1=putRow id (Sort.ahead w 1) b 0 (lay F (i*3) news)):=oR
 have hW:Hid (W1=w.drew.setCells b (0+i*3) news):=rO
 have Y:Aside (news=F.toList.drop ((i+1)*3)):=Jc
 have Z:Aside (news.length=(n-(i+1))*3):=CF
 have sa:i≤cap:=by omega
 have hjc:i+1≤cap:=by omega
 have mixed:=Go.Eng.hm
 have hb1:(0:Int)≤(i:Int)+1:=by omega
 have UR:(i:Int)+1≤(n:Int):=by omega
 clear rO oR wo hH Fw Jc CF JH hcl
 go_enter Tryz.func229,Tryz.ntmps229
 go_wp2_with fail
 go_region_law_o (refine step_append_room rfl (.tmp 22) (.tmp 25) 179 rfl 207 i0 3 Tryz.underlying179 gV po b 0 i cap (by simp[Act.eval,Act.put]) A (n-(i+1)) (cap-(i+1)) news (by simp[Act.eval,Act.put]) s1.out df.out s2.out (by omega) s3.out ?_;rw[←hW.out])
 go_wp2
 go_ret
 refine⟨by rw[show i+(n-(i+1))=n-1 by omega];rfl,?_⟩
 rw[X.out]
 have e1:=Y.out
 have e2:=Z.out
 rw[←e1]
 have:=putRow_setCells id (Sort.ahead w 1) b 0 ky (lay F (i*3) news) ((n-1)*3) (by rw[Lib.lay_size];show _+3≤_;omega)
 rw[J4,Bo]at this
 exact this
abbrev U6:List AV:=[Go.Eng.vs ⟨#[]⟩,vb false,.v (.slice none 0 0)]
theorem vP(l:List Tm)(i:Nat)(hi:i<l.length) :
  Bj Tryz.prog 229 [.msl 1000 l.length,vi i,vi ((i:Int)+1)] (Ap [(1000,.arr 3 (l.map AK))] Ab) fun r h'=>r=.msl 2000 (l.length-1)∧h'=Ap [(1000,.dead),(2000,.arr 3 ((l.eraseIdx i).map AK))] Ab:=by
 have hE:Gl Tryz.prog 229:=ff 229 Tryz.func229 (by kernel_rfl) rfl
 have CF:(l.eraseIdx i).length=l.length-1:=List.length_eraseIdx_of_lt hi
 have Hx:=Va (P:=Tryz.prog) (f:=229) (es:=l.map AK) (sz:=3) (rest:=[.int .i64 i,.int .i64 ((i:Int)+1)]) (n':=l.length-1) (Q:=fun FQ=>FQ=(l.eraseIdx i).map AK++[U6]) hE (fun e=>by
  rw[DD]at e;subst e;simp at hi) (by rw[Bg];omega) ?_
 ·rw[Bg]at Hx
  refine⟨hE,fun g w vals q1 q2 q3=>(Hx.2 g w vals q1 q2 q3).mono fun _ _ ⟨v,r,h',g',e1,⟨e2,FQ,p1,p2⟩,rest⟩=>⟨v,r,h',g',e1,⟨e2,by rw[p2,p1,Eg (by rw[Bg,CF];exact Am _),AL (by rw[Bg,CF];exact Am _)]⟩,rest⟩⟩
 ·intro g w b cap F hr hF hH hb hc
  rw[Bg]at hF hc⊢
  have hu:∀e∈l.map AK,e.length=3:=fun e he=>by
   obtain⟨t,_,rfl⟩:=Ao.1 he;rfl
  refine(ge w b cap i l.length F hF hi hc hH hr.2.1).mono ?_
  rintro e w' ⟨rfl,rfl⟩
  refine⟨rfl,_,_,1,#[],?_,rfl,?_,fun cs hcs=>?_,fun g w hr=>?_,rfl⟩
  ·rw[Lib.lay_size,Lib.lay_size]
  ·rw[Ad,Bg,CF,Aq];omega
  ·rcases Ba.1 hcs with h | h
   ·obtain⟨t,_,rfl⟩:=Ao.1 h;rfl
   ·rw[As.1 h];rfl
  ·rw[pD F i l.length hF hi ky rfl,List.eraseIdx_eq_take_drop_succ,CU,AG,CU,L8,List.map_drop,←Lt _ i hu,←Pl _ (i+1) hu]
   refine CR.append (CR.append (hr.take _) (hr.drop _)) ?_
   exact Ns g w FH ky fun x hx=>by
    simp only[AC,L1,or_false]at hx
    rcases hx with rfl | rfl | rfl<;>rfl
end Go.Eng
namespace Go.Eng
open Go.Proofs
theorem rj(l:List Tm)(hl:Ci l)(DM:l≠[]):Bj Tryz.prog 230 [sl AK l] (Ap [] Ab) fun r h'=>r=.msl 2000 l.length∧h'=Ap [(2000,.arr 3 (l.map AK))] Ab:=by
 refine Cq (M4 (pla [(5,3)] [])) [(5,2000)] rfl CX hm rfl Tryz.func230 (by kernel_rfl) rfl (Nz rfl) (by kernel_rfl) rfl ?_;have F3:Da 3 (l.map AK)∧([]:List (List AV)).length=0∧(([]:List (List AV)).length+(l.map AK).length)*48≤140737488355328∧([]:List (List AV)).length+(l.map AK).length≤9223372036854775807:=by
  refine⟨EN (enc:=AK) (n:=3) (fun _=>rfl) l,rfl,?_,?_⟩<;>simp only[AE,Lm]<;>unfold Ci at hl<;>omega
 refine Yi ?_ ?_
 ·intro _;refine Yi F3 ?_;have e1:AV.msl 2000 (([]:List (List AV)).length+(l.map AK).length)=.msl 2000 l.length:=by simp
  refine Xi (.msl 2000 (([]:List (List AV)).length+(l.map AK).length)) (Yi (.refl _) (Yi e1 ?_))
  rfl
 ·intro h;have h:l.map AK=[]:=h;exact absurd (DD.1 h) DM
theorem oy(x:Tm)(p:ByteArray):PC 228 [.agg (AK x),.cptr [vs p]] (vb (decide (x.path=p))):=by
 refine Ps EY Tryz.func228 rfl (Nz rfl) ?_;refine Yi ?_ ?_
 ·intro h;have h:x.path=p:=h;rw[At h];exact .refl _
 ·intro h;have h:¬x.path=p:=h;rw[Aj h];exact .refl _
theorem NI{p:ByteArray}:∀{c:List Tm} {i:Nat},(EG c).Nodup→∀(hi:i<c.length),c[i].path=p→c.eraseIdx i=F1 c p
 |t::c,0,hn,_,h=>by
  have h:t.path=p:=h;unfold EG at hn;rw[AQ,CI]at hn;unfold F1;rw[D8,Al (by simp[h])];show c=_;rw[List.filter_eq_self.2 fun u hu=>by
   have:u.path≠p:=fun e=>hn.1 (h▸e▸Ao.2 ⟨u,hu,rfl⟩)
   simp[this]]
 |t::c,i+1,hn,hi,h=>by
  have hi:i<c.length:=by simpa using hi
  have h:c[i].path=p:=h;unfold EG at hn;rw[AQ,CI]at hn
  have:t.path≠p:=fun e=>hn.1 (by rw[e,←h];exact Ao.2 ⟨_,Ak hi,rfl⟩)
  have ih:=NI hn.2 hi h;unfold F1 at ih⊢;rw[List.eraseIdx_cons_succ,D8,Au (by simp[this]),ih]
theorem Qr{l c:List Tm}(hl:Ci l)(h:CZ l=some c):Ci c:=by
 have h1:=On l l.length (Am _);rw[Dq]at h1;have h2:c=(Fb l).filter fun t=>!GO t:=by
  unfold CZ at h;split at h
  ·cases h
  ·exact(Bv h).symm
 have h3:c.length≤(Fb l).length:=by rw[h2];exact BE _ _
 have h4:(Fb l).length=(Dh l).length:=by
  have:=(List.perm_ext_iff_of_nodup (H4 (H2 l)) (H4 (Ib (EA l)))).2 (Jt l)
  exact this.length_eq.symm
 unfold Ci at hl⊢;omega
abbrev l8:AV:=.tup [.agg U6,.v (.slice none 0 0),vb false]
abbrev nF:Si:=⟨[3],[],[],[],[],[],[],[],[(30,0),(34,1)],[],[3]⟩
theorem fL(l:List Tm)(p:ByteArray)(hl:Ci l)(hs:∀t∈l,Ci t.set)(hn:FC l p=none):PC 203 [sl AK l,vs p] l8:=by
 have hc:=tW l hl hs;unfold FC at hn;cases e:CZ l with
 |none =>
  have e1:GX l=.tup [sl AK [],vb false]:=by unfold GX QM;rw[e];rfl
  rw[e1]at hc;have hi:=kS (EW.ptr [vs p]) [] (fun x=>decide (x.path=p)) (fun x _=>oy x p) (by simp);refine Ps nF Tryz.func203 rfl (Nz rfl) ?_;refine Xi .pure (Xi _ (Yi (hc) ?_));refine Xi .pure (Xi _ (Yi (hi) ?_));refine Xi ⟨[(4,.ref 4 0),(7,sl AK []),(8,vb false),(9,vi (-1))],[(4,.cells U6)],Ab⟩ (Yi ⟨Z4,Z1,Fh,Tv⟩ ?_)
  refine Yi (Nz rfl) (Yi (Nz rfl) ?_);exact .refl _
 |some c =>
  rw[e]at hn;have hn:(match Dz c p with | none=>none | some t=>some (t,F1 c p))=none:=hn;have r7:Dz c p=none:=by
   cases h:Dz c p with
   |none=>rfl
   |some t=>rw[h]at hn;cases hn
  have e1:GX l=.tup [sl AK c,vb true]:=by unfold GX QM;rw[e];rfl
  rw[e1]at hc;have r4:=Qr hl e;have hi:=kS (EW.ptr [vs p]) c (fun x=>decide (x.path=p)) (fun x _=>oy x p) (by unfold Ci at r4;omega);have hid:Iv (fun x:Tm=>decide (x.path=p)) c 0=-1:=by
   rcases Pw (p:=fun x:Tm=>decide (x.path=p)) c 0 with ⟨h1,_⟩ | ⟨i,x,_,_,h3⟩
   ·exact h1
   ·unfold Dz at r7;rw[h3]at r7;cases r7
  rw[hid]at hi;refine Ps nF Tryz.func203 rfl (Nz rfl) ?_;refine Xi .pure (Xi _ (Yi (hc) ?_));refine Xi .pure (Xi _ (Yi (hi) ?_));refine Xi ⟨[(4,.ref 4 0),(7,sl AK c),(8,vb true),(9,vi (-1))],[(4,.cells U6)],Ab⟩ (Yi ⟨Z4,Z1,Fh,Tv⟩ ?_)
  refine Yi ?_ ?_
  ·intro _;refine Yi (Nz rfl) (Yi (Nz rfl) ?_);exact .refl _
  ·intro h;exact absurd (show(-1:Int)<0 by decide) h
abbrev pJ:Si:=⟨[3],[],[],[],[],[],[],[],[(30,0),(34,2)],[],[]⟩
theorem fM(l:List Tm)(p:ByteArray)(hl:Ci l)(hs:∀t∈l,Ci t.set){t:Tm}{r:List Tm}(hn:FC l p=some (t,r)) :
  Bj Tryz.prog 203 [sl AK l,vs p] (Ap [] Ab) fun v h'=>v=.tup [.agg (AK t),.msl 2000 r.length,vb true]∧h'=Ap [(2000,.arr 3 (r.map AK))] Ab:=by
 have hc:=tW l hl hs;unfold FC at hn;cases e:CZ l with
 |none=>rw[e]at hn;cases hn
 |some c =>
  rw[e]at hn;have hn:(match Dz c p with | none=>none | some t=>some (t,F1 c p))=some (t,r):=hn;have gQ:Dz c p=some t∧F1 c p=r:=by
   cases h:Dz c p with
   |none=>rw[h]at hn;cases hn
   |some t=>rw[h]at hn;cases hn;exact Zr
  have e1:GX l=.tup [sl AK c,vb true]:=by unfold GX QM;rw[e];rfl
  rw[e1]at hc;have r4:=Qr hl e;have hi:=kS (EW.ptr [vs p]) c (fun x=>decide (x.path=p)) (fun x _=>oy x p) (by unfold Ci at r4;omega);rcases Pw (p:=fun x:Tm=>decide (x.path=p)) c 0 with ⟨_,h2⟩ | ⟨i,x,h1,h2,h3⟩
  ·unfold Dz at gQ;rw[h2]at gQ;cases gQ.1
  have hx:x=t:=by
   have:=gQ.1
   unfold Dz at this;rw[h3]at this;exact Bv this
  subst hx;rw[h1,Fj]at hi;obtain⟨sa,hie⟩:=Aw.1 h2;have zA:c.eraseIdx i=r:=by
   rw[←gQ.2];exact NI (Ib (E1 e)) sa (by rw[hie];exact Hl gQ.1)
  have ui:c.length-1=r.length:=by rw[←zA,List.length_eraseIdx_of_lt sa]
  have DM:c≠[]:=fun h=>by subst h;simp at sa
  have Aby:c.length≤1073741824:=r4;refine Cq (M4 pJ) [(13400,2000)] rfl CX hm rfl Tryz.func203 (by kernel_rfl) rfl (Nz rfl) (by kernel_rfl) rfl ?_;refine Xi .pure (Xi _ (Yi (hc) ?_));refine Xi .pure (Xi _ (Yi (hi) ?_));refine Yi ?_ ?_
  ·intro h;have h:(i:Int)<0:=h;omega
  intro _;have hg:(c.map AK)[((i:Nat):Int).toNat]?=some (AK x):=by rw[Bl,AJ,h2];rfl
  refine Xi (AK x) (Yi (Yi (Nn i) hg) (Yi rfl (Yi (Nz rfl) ?_)));refine Xi c.length (Xi 3 (Xi (c.map AK) (Yi rfl (Yi (rj c r4 DM) ?_))));refine Yi (Ii i (by omega)) ?_;refine Xi (c.length-1) (Xi ((c.eraseIdx i).map AK) (Yi rfl (Yi (vP c i sa) ?_)));refine Yi (Nz rfl) ?_;refine Yi (by kernel_rfl) ?_;refine Yi (Nz rfl) ?_;have e2:AV.tup [.agg (AK x),.msl 2000 (c.length-1),vb true]=.tup [.agg (AK x),.msl 2000 r.length,vb true]:=by rw[ui]
  have e3:Ap [(2000,HO.arr 3 ((c.eraseIdx i).map AK))] Ab=Ap [(2000,.arr 3 (r.map AK))] Ab:=by rw[zA]
  exact Xi _ (Yi (.refl _) (Yi e2 e3))
abbrev bM:Si:=⟨[],[],[],[],[],[],[],[],[],[(24,9),(30,12)],[2,3,5,6]⟩
abbrev pQ(a b:List Tm)(p:ByteArray):AV:=.tup [sl AK (BF a b p).1,vi (BF a b p).2]
theorem V3{l r:List Tm}{p:ByteArray}{t:Tm}(h:FC l p=some (t,r)):∃c,CZ l=some c∧t∈c∧r=F1 c p:=by
 unfold FC at h;cases e:CZ l with
 |none=>rw[e]at h;cases h
 |some c =>
  rw[e]at h;have h:(match Dz c p with | none=>none | some t=>some (t,F1 c p))=some (t,r):=h;cases e2:Dz c p with
  |none=>rw[e2]at h;cases h
  |some u=>rw[e2]at h;cases h;exact⟨c,rfl,Fq e2,rfl⟩
theorem V4{l r:List Tm}{p:ByteArray}{t:Tm}(hl:Ci l)(h:FC l p=some (t,r)):Ci t.set∧Ci r∧∀u∈r,Ci u.set:=by
 obtain⟨c,h1,h2,rfl⟩:=V3 h;have hs:=E1 h1;refine⟨Pg (hs.canon t h2),?_,fun u hu=>Pg (hs.canon u (Bu.1 hu).1)⟩
 have:=Qr hl h1
 have h3:(F1 c p).length≤c.length:=BE _ _;unfold Ci at *;omega
theorem fP{l c:List Tm}(h:CZ l=some c):c.length≤l.length:=by
 have h1:=On l l.length (Am _);rw[Dq]at h1;have h2:c=(Fb l).filter fun t=>!GO t:=by
  unfold CZ at h;split at h
  ·cases h
  ·exact(Bv h).symm
 have h3:c.length≤(Fb l).length:=by rw[h2];exact BE _ _
 have h4:(Fb l).length=(Dh l).length:=by
  have:=(List.perm_ext_iff_of_nodup (H4 (H2 l)) (H4 (Ib (EA l)))).2 (Jt l)
  exact this.length_eq.symm
 omega
theorem V5{l r:List Tm}{p:ByteArray}{t:Tm}(h:FC l p=some (t,r)):r.length≤l.length:=by
 obtain⟨c,h1,h2,rfl⟩:=V3 h;have h3:(F1 c p).length≤c.length:=BE _ _
 have:=fP h1
 omega
theorem cP(a b:Bc):Ci (PX a b):=by
 unfold Ci;have:=Is (Y6 a b);omega
theorem vD(a b:List Tm)(p:ByteArray)(ha:a.length≤500000000)(hb:b.length≤500000000)(zV:∀t∈a,Ci t.set)(lH:∀t∈b,Ci t.set):PC 161 [sl AK a,sl AK b,vs p] (pQ a b p):=by
 have rZ:Ci a:=by unfold Ci;omega
 have oX:Ci b:=by unfold Ci;omega
 have er:∀{l:List Tm} {e:Int},BF a b p=(l,e)→pQ a b p=.tup [sl AK l,vi e]:=fun h=>by unfold pQ;rw[h]
 have e0:Hi (.tup [.v (.slice none 0 0),vi 1]) (.tup [.slice .none [],vi 1]):=Hi.tup ⟨.nil,.refl _,trivial⟩;cases h1:FC a p with
 |none =>
  have hr:BF a b p=([],1):=by unfold BF;rw[h1]
  have c1:=fL a p rZ zV h1;cases h2:FC b p with
  |none =>
   have c2:=fL b p oX lH h2;refine Ps bM Tryz.func161 rfl (Nz rfl) ?_;refine Xi .pure (Xi _ (Yi (c1) ?_));refine Yi (Nz rfl) ?_;refine Xi ⟨[(1,sl AK b),(2,vs p),(8,.ref 8 0),(9,.v (.slice none 0 0)),(10,vb false)],[(8,.cells U6)],Ab⟩ (Yi ⟨Z5,Z1,Fh,Tv⟩ ?_)
   refine Xi .pure (Xi _ (Yi (c2) ?_));refine Yi (Nz rfl) ?_;refine Xi ⟨[(8,.ref 8 0),(9,.v (.slice none 0 0)),(10,vb false),(11,.ref 11 0),(12,.v (.slice none 0 0)),(13,vb false)],[(8,.cells U6),(11,.cells U6)],Ab⟩ (Yi ⟨Z6,Z2,Fh,Tv⟩ ?_)
   exact e0.trans (.of_eq (er hr).symm)
  |some q2 =>
   obtain⟨t2,r2⟩:=q2;have c2:=fM b p oX lH h2;refine Ps bM Tryz.func161 rfl (Nz rfl) ?_;refine Xi .pure (Xi _ (Yi (c1) ?_));refine Yi (Nz rfl) ?_;refine Xi ⟨[(1,sl AK b),(2,vs p),(8,.ref 8 0),(9,.v (.slice none 0 0)),(10,vb false)],[(8,.cells U6)],Ab⟩ (Yi ⟨Z5,Z1,Fh,Tv⟩ ?_)
   have z2:r2.length=(r2.map AK).length:=by rw[Lm]
   refine Xi (.gen [] 1) (Yi rfl (c2.imp ?_));intro v2 g2 q2;have x8:=q2.1;have x9:=q2.2;subst x8;subst x9;refine Yi (Nz rfl) ?_;refine Xi ⟨[(8,.ref 8 0),(9,.v (.slice none 0 0)),(10,vb false),(11,.ref 11 0),(12,.msl 12600 r2.length),(13,vb true)],[(8,.cells U6),(11,.cells (AK t2)),(12600,.arr 3 (r2.map AK))],Ab⟩ (Yi ⟨Z6,Z3,Fh,Tv⟩ ?_)
   refine Yi z2 ?_;exact e0.trans (.of_eq (er hr).symm)
 |some q1 =>
  obtain⟨t1,r1⟩:=q1;have c1:=fM a p rZ zV h1;obtain⟨f1,f2,f3⟩:=V4 rZ h1;cases h2:FC b p with
  |none =>
   have hr:BF a b p=([],1):=by unfold BF;rw[h1,h2]
   have c2:=fL b p oX lH h2;refine Ps bM Tryz.func161 rfl (Nz rfl) ?_;refine Xi (.gen [] 1) (Yi rfl (c1.imp ?_));intro v1 g1 q1;have xY:=q1.1;have mv:=q1.2;subst xY;subst mv;refine Yi (Nz rfl) ?_;refine Xi ⟨[(1,sl AK b),(2,vs p),(8,.ref 8 0),(9,.msl 11900 r1.length),(10,vb true)],[(8,.cells (AK t1)),(11900,.arr 3 (r1.map AK))],Ab⟩ (Yi ⟨Z5,Z2,Fh,Tv⟩ ?_)
   have z1:r1.length=(r1.map AK).length:=by rw[Lm]
   refine Yi z1 ?_;refine Xi .pure (Xi _ (Yi (c2) ?_));refine Yi (Nz rfl) ?_;refine Xi ⟨[(8,.ref 8 0),(9,.slice (.id 11900 3) (r1.map AK)),(10,vb true),(11,.ref 11 0),(12,.v (.slice none 0 0)),(13,vb false)],[(8,.cells (AK t1)),(11,.cells U6),(11900,.tok 3 (r1.map AK).length)],Ab⟩ (Yi ⟨Z6,Z3,Fh,Tv⟩ ?_)
   exact e0.trans (.of_eq (er hr).symm)
  |some q2 =>
   obtain⟨t2,r2⟩:=q2;have c2:=fM b p oX lH h2;obtain⟨g1,g2,g3⟩:=V4 oX h2;refine Ps bM Tryz.func161 rfl (Nz rfl) ?_;refine Xi (.gen [] 1) (Yi rfl (c1.imp ?_));intro v1 g1 q1;have xY:=q1.1;have mv:=q1.2;subst xY;subst mv;refine Yi (Nz rfl) ?_;refine Xi ⟨[(1,sl AK b),(2,vs p),(8,.ref 8 0),(9,.msl 11900 r1.length),(10,vb true)],[(8,.cells (AK t1)),(11900,.arr 3 (r1.map AK))],Ab⟩ (Yi ⟨Z5,Z2,Fh,Tv⟩ ?_)
   have z1:r1.length=(r1.map AK).length:=by rw[Lm]
   have z2:r2.length=(r2.map AK).length:=by rw[Lm]
   refine Yi z1 ?_;refine Xi (.gen [] 1) (Yi rfl (c2.imp ?_));intro v2 g2 q2;have x8:=q2.1;have x9:=q2.2;subst x8;subst x9;refine Yi (Nz rfl) ?_;refine Xi ⟨[(8,.ref 8 0),(9,.slice (.id 11900 3) (r1.map AK)),(10,vb true),(11,.ref 11 0),(12,.msl 12600 r2.length),(13,vb true)],[(8,.cells (AK t1)),(11,.cells (AK t2)),(11900,.tok 3 (r1.map AK).length),(12600,.arr 3 (r2.map AK))],Ab⟩ (Yi ⟨Z6,Z4,Fh,Tv⟩ ?_)
   refine Yi z2 ?_;refine Xi ⟨[(8,.ref 8 0),(9,.slice (.id 11900 3) (r1.map AK)),(11,.ref 11 0),(12,.slice (.id 12600 3) (r2.map AK))],[(8,.cells (AK t1)),(11,.cells (AK t2)),(11900,.tok 3 (r1.map AK).length),(12600,.tok 3 (r2.map AK).length)],Ab⟩ (Yi ⟨Z4,Z4,Fh,Tv⟩ ?_)
   have l1:=V5 h1;have l2:=V5 h2;have b1:Da 3 (r2.map AK)∧(r1.map AK).length=(r1.map AK).length∧((r1.map AK).length+(r2.map AK).length)*48≤140737488355328∧(r1.map AK).length+(r2.map AK).length≤9223372036854775807 :=
    ⟨EN (enc:=AK) (n:=3) (fun _=>rfl) r2,rfl,by rw[Lm,Lm];omega,by rw[Lm,Lm];omega⟩
   refine Yi b1 ?_;refine Yi (Nz rfl) (Yi (Nz rfl) ?_);refine Xi _ (Yi (vI t1 t2 f1 g1) ?_);have b2:Da 3 [AK (Dw t1 t2)]∧(r1.map AK++r2.map AK).length=(r1.map AK).length+(r2.map AK).length∧((r1.map AK++r2.map AK).length+[AK (Dw t1 t2)].length)*48≤140737488355328∧(r1.map AK++r2.map AK).length+[AK (Dw t1 t2)].length≤9223372036854775807 :=
    ⟨⟨rfl,trivial⟩,by rw[Ad],by rw[Ad,Lm,Lm,Aq];omega,by rw[Ad,Lm,Lm,Aq];omega⟩
   refine Yi b2 ?_;have wF:=tW (r1++r2++[Dw t1 t2]) (by unfold Ci;simp only[Ad,Aq];omega) (fun u hu=>by
    rcases Ba.1 hu with hu | hu
    ·rcases Ba.1 hu with hu | hu
     ·exact f3 u hu
     ·exact g3 u hu
    ·rw[As.1 hu];exact cP _ _)
   have e1:sl AK (r1++r2++[Dw t1 t2])=.slice .none (r1.map AK++r2.map AK++[AK (Dw t1 t2)]):=by simp
   have zv:PC 204 [.slice .none (r1.map AK++r2.map AK++[AK (Dw t1 t2)])] (GX (r1++r2++[Dw t1 t2])):=e1▸wF;cases qk:CZ (r1++r2++[Dw t1 t2])with
   |none =>
    have hr:BF a b p=([],8):=by unfold BF;rw[h1,h2];dsimp only;rw[qk]
    have ec:GX (r1++r2++[Dw t1 t2])=.tup [sl AK [],vb false]:=by unfold GX QM;rw[qk];rfl
    have hc:PC 204 [.slice .none (r1.map AK++r2.map AK++[AK (Dw t1 t2)])] (.tup [sl AK [],vb false]):=ec▸zv;have e8:Hi (.tup [.v (.slice none 0 0),vi 8]) (.tup [.slice .none [],vi 8]):=Hi.tup ⟨.nil,.refl _,trivial⟩;refine Xi _ (Yi (hc) ?_);refine Yi (by kernel_rfl) ?_;refine Xi ⟨[(14,sl AK []),(15,vb false)],[],Ab⟩ (Yi ⟨Z2,Tv,Fh,Tv⟩ ?_)
    exact e8.trans (.of_eq (er hr).symm)
   |some o =>
    have hr:BF a b p=(o,0):=by unfold BF;rw[h1,h2];dsimp only;rw[qk]
    have ec:GX (r1++r2++[Dw t1 t2])=.tup [sl AK o,vb true]:=by unfold GX QM;rw[qk];rfl
    have hc:PC 204 [.slice .none (r1.map AK++r2.map AK++[AK (Dw t1 t2)])] (.tup [sl AK o,vb true]):=ec▸zv;refine Xi _ (Yi (hc) ?_);refine Yi (by kernel_rfl) ?_;refine Xi ⟨[(14,sl AK o),(15,vb true)],[],Ab⟩ (Yi ⟨Z2,Tv,Fh,Tv⟩ ?_)
    exact .of_eq (er hr).symm
def aZ(h s:Nat→HO):Nat→Bool
 |0=>true
 |n+1=>(match h (1000+n)with |.free=>true |_=>(match s (1000+n)with |.free=>false |_=>true))&&aZ h s n
theorem Tl{h s:Nat→HO}:∀{n:Nat},aZ h s n=true→∀j,j<n→h (1000+j)≠.free→s (1000+j)≠.free
 |n+1,hd,j,hj,hn=>by
  simp only[aZ,Ai]at hd;rcases Cv j n with h1 | h1
  ·exact Tl hd.2 j h1 hn
  ·have:j=n:=by omega
   subst this
   have:=hd.1
   intro e;split at this
   ·rename_i q;exact hn q
   ·rw[e]at this;cases this
theorem Az{h s:Nat→HO}(hd:aZ h s 1000=true):∀j,1000≤j→j<2000→h j≠.free→s j≠.free:=fun j h1 h2=>by
 have:=Tl hd (j-1000) (by omega)
 rw[show 1000+(j-1000)=j by omega]at this;exact this
theorem mr(v:Ver):0≤plc v∧plc v<1000000:=by
 unfold plc;cases h:Cy v with
 |true=>exact JR h
 |false=>simp
abbrev nL(t:List Tm):Prop:=t.length≤500000000∧∀u∈t,Ci u.set
theorem rd(s:ByteArray):PC 81 [vs s] (vb false):=by
 refine Ps EY Tryz.func81 rfl (Nz rfl) ?_;refine Yi ?_ ?_
 ·intro h;exact absurd rfl (show s≠s from h)
 ·intro _;exact .refl _
theorem rh(z:Int):PC 134 [vi z] (vb false):=by
 refine Ps EY Tryz.func134 rfl (Nz rfl) ?_;refine Yi ?_ ?_
 ·intro h;exact absurd rfl (show z≠z from h)
 ·intro _;exact .refl _
theorem kR(a b:ByteArray):PC 53 [vs a,vs b] (vi (F8 a b)):=by
 refine Ps EY Tryz.func53 rfl (Nz rfl) ?_;refine Xi .pure (Xi _ (Yi (rd a) ?_));refine Xi .pure (Xi _ (Yi (rd b) ?_));refine Yi ?_ ?_
 ·intro h;have h:Op.bytesLess a.toList b.toList=true:=h;exact .of_eq (Aa vi (show(-1:Int)=F8 a b by unfold F8;rw[Au (by rw[EX];exact h)]))
 ·intro h;have h:¬Op.bytesLess a.toList b.toList=true:=h;refine Yi ?_ ?_
  ·intro h2;have h2:Op.bytesLess b.toList a.toList=true:=h2;exact .of_eq (Aa vi (show(1:Int)=F8 a b by unfold F8;rw[Al (by rw[EX];exact h),Au (by rw[EX];exact h2)]))
  ·intro h2;have h2:¬Op.bytesLess b.toList a.toList=true:=h2;exact .of_eq (Aa vi (show(0:Int)=F8 a b by unfold F8;rw[Al (by rw[EX];exact h),Al (by rw[EX];exact h2)]))
theorem om(a b:Int):PC 109 [vi a,vi b] (vi (E8 a b)):=by
 refine Ps EY Tryz.func109 rfl (Nz rfl) ?_;refine Xi .pure (Xi _ (Yi (rh a) ?_));refine Xi .pure (Xi _ (Yi (rh b) ?_));refine Yi ?_ ?_
 ·intro h;have h:a<b:=h;exact .of_eq (Aa vi (show(-1:Int)=E8 a b by unfold E8;rw[Au h]))
 ·intro h;have h:¬a<b:=h;refine Yi ?_ ?_
  ·intro h2;have h2:b<a:=h2;exact .of_eq (Aa vi (show(1:Int)=E8 a b by unfold E8;rw[Al h,Au h2]))
  ·intro h2;have h2:¬b<a:=h2;exact .of_eq (Aa vi (show(0:Int)=E8 a b by unfold E8;rw[Al h,Al h2]))
theorem qZ(a b:Int):PC 83 [.slice .none [[vi a],[vi b]]] (vi (if a≠0 then a else b)):=by
 refine Ps EY Tryz.func83 rfl (Nz rfl) ?_;refine Xi {i:Nat // i≤2∧(0<i→a=0)∧(1<i→b=0)} (Xi (fun i=>⟨[(3,vi 0),(6,.slice .none [[vi a],[vi b]]),(7,vi 2),(8,vi i.1)],[],Ab⟩) (Xi (fun i=>2-i.1) (Yi (Xi ⟨0,by omega,by omega,by omega⟩ ?_) ?_)))
 ·exact⟨Z4,Tv,Fh,Tv⟩
 intro⟨i,h1,h2,h3⟩;refine Yi ?_ ?_
 ·intro h;have h:(i:Int)<2:=h
  match i,h1,h2,h3,h with
  |0,h1,h2,h3,h =>
   refine Xi [vi a] (Yi (Yi (AZ _) rfl) (Yi rfl ?_));refine Yi ?_ ?_
   ·intro h4;have h4:a≠0:=h4;exact .of_eq (Aa vi (Au h4).symm)
   ·intro h4;have h4:¬a≠0:=h4;refine Yi (Ii 0 (by omega)) ?_;refine Xi ⟨1,by omega,fun _=>by omega,fun q=>absurd q (by decide)⟩ ?_;exact⟨by show 2-1<2-0;decide,Z4,Tv,Fh,Tv⟩
  |1,h1,h2,h3,h =>
   have ha:=h2 (by decide);refine Xi [vi b] (Yi (Yi (by show(0:Int)≤1;decide) rfl) (Yi rfl ?_));refine Yi ?_ ?_
   ·intro h4;exact .of_eq (Aa vi (Al (by omega)).symm)
   ·intro h4;have h4:¬b≠0:=h4;refine Yi (Ii 1 (by omega)) ?_;refine Xi ⟨2,by omega,fun _=>ha,fun q=>by omega⟩ ?_;exact⟨by show 2-2<2-1;decide,Z4,Tv,Fh,Tv⟩
  |i+2,h1,h2,h3,h=>omega
 ·intro h;have h:¬(i:Int)<2:=h;have ha:=h2 (by omega);have hb:=h3 (by omega);exact .of_eq (Aa vi (show(0:Int)=if a≠0 then a else b by rw[Al (by omega),hb]))
theorem Tc(a b:Ver)(i:Nat)(hi:i<3)(h:∀j,j<i→E8 (part a j) (part b j)=0)(hn:E8 (part a i) (part b i)≠0):GY a b=E8 (part a i) (part b i):=by
 unfold GY
 match i,hi,h,hn with
 |0,_,_,hn=>exact Au hn
 |1,_,h,hn =>
  have h0:E8 a.a b.a=0:=h 0 (by decide);rw[Al (by omega)];exact Au hn
 |2,_,h,hn =>
  have h0:E8 a.a b.a=0:=h 0 (by decide);have h1:E8 a.b b.b=0:=h 1 (by decide);rw[Al (by omega),Al (by omega)];rfl
theorem fY(a b:Ver)(h:∀j,j<3→E8 (part a j) (part b j)=0):GY a b=0:=by
 unfold GY;have h0:E8 a.a b.a=0:=h 0 (by decide);have h1:E8 a.b b.b=0:=h 1 (by decide);have h2:E8 a.c b.c=0:=h 2 (by decide);rw[Al (by omega),Al (by omega),h2]
theorem q8(a b:Ver):PC 84 [.agg (JC a),.agg (JC b)] (vi (GY a b)):=by
 refine Ps EY Tryz.func84 rfl (Nz rfl) ?_;refine Yi (Nz rfl) ?_;refine Xi _ (Yi (oe a) ?_);refine Yi (Nz rfl) ?_;refine Xi _ (Yi (oe b) ?_);refine Yi (Nz rfl) (Yi (Nz rfl) ?_);refine Yi (by kernel_rfl) ?_;refine Xi {i:Nat // i≤3∧∀j,j<i→E8 (part a j) (part b j)=0} (Xi (fun i=>⟨[(5,.ref 5 0),(6,.ref 6 0),(13,vi i.1)],[(5,.cells (JC a)),(6,.cells (JC b))],Ab⟩) (Xi (fun i=>3-i.1) (Yi (Xi ⟨0,by omega,fun j h=>by omega⟩ ?_) ?_)))
 ·exact⟨Z3,Z2,Fh,Tv⟩
 intro⟨i,h1,h2⟩;refine Yi ?_ ?_
 ·intro h;have h:(i:Int)<3:=h;have next:E8 (part a i) (part b i)=0→∀j,j<i+1→E8 (part a j) (part b j)=0:=fun hz j hj=>by
   rcases Cv j i with q | q
   ·exact h2 j q
   ·have:j=i:=by omega
    subst this;exact hz
  match i,h1,h2,h,next with
  |0,h1,h2,h,next =>
   refine Yi ⟨by show(0:Int)≤0;decide,by show(0:Int)<3;decide⟩ ?_;refine Yi ⟨by show(0:Int)≤0;decide,by show(0:Int)<3;decide⟩ ?_;refine Xi _ (Yi (om (part a 0) (part b 0)) ?_);refine Yi (by kernel_rfl) ?_;refine Yi ?_ ?_
   ·intro h4;have h4:E8 (part a 0) (part b 0)≠0:=h4;exact .of_eq (Aa vi (Tc a b 0 (by decide) h2 h4).symm)
   ·intro h4;have h4:¬E8 (part a 0) (part b 0)≠0:=h4;refine Yi (Ii 0 (by omega)) ?_;refine Xi ⟨1,by omega,next (Gw h4)⟩ ?_
    exact⟨by show 3-1<3-0;decide,Z3,Z2,Fh,Tv⟩
  |1,h1,h2,h,next =>
   refine Yi ⟨by show(0:Int)≤1;decide,by show(1:Int)<3;decide⟩ ?_;refine Yi ⟨by show(0:Int)≤1;decide,by show(1:Int)<3;decide⟩ ?_;refine Xi _ (Yi (om (part a 1) (part b 1)) ?_);refine Yi (by kernel_rfl) ?_;refine Yi ?_ ?_
   ·intro h4;have h4:E8 (part a 1) (part b 1)≠0:=h4;exact .of_eq (Aa vi (Tc a b 1 (by decide) h2 h4).symm)
   ·intro h4;have h4:¬E8 (part a 1) (part b 1)≠0:=h4;refine Yi (Ii 1 (by omega)) ?_;refine Xi ⟨2,by omega,next (Gw h4)⟩ ?_
    exact⟨by show 3-2<3-1;decide,Z3,Z2,Fh,Tv⟩
  |2,h1,h2,h,next =>
   refine Yi ⟨by show(0:Int)≤2;decide,by show(2:Int)<3;decide⟩ ?_;refine Yi ⟨by show(0:Int)≤2;decide,by show(2:Int)<3;decide⟩ ?_;refine Xi _ (Yi (om (part a 2) (part b 2)) ?_);refine Yi (by kernel_rfl) ?_;refine Yi ?_ ?_
   ·intro h4;have h4:E8 (part a 2) (part b 2)≠0:=h4;exact .of_eq (Aa vi (Tc a b 2 (by decide) h2 h4).symm)
   ·intro h4;have h4:¬E8 (part a 2) (part b 2)≠0:=h4;refine Yi (Ii 2 (by omega)) ?_;refine Xi ⟨3,by omega,next (Gw h4)⟩ ?_
    exact⟨by show 3-3<3-2;decide,Z3,Z2,Fh,Tv⟩
  |i+3,h1,h2,h,next=>omega
 ·intro h;have h:¬(i:Int)<3:=h;exact .of_eq (Aa vi (fY a b fun j hj=>h2 j (by omega)).symm)
theorem u5(a b:Rl):PC 68 [.agg (Ag a),.agg (Ag b)] (vi (IQ a b)):=by
 refine Ps EY Tryz.func68 rfl (Nz rfl) ?_;refine Xi _ (Yi (kR a.path b.path) ?_);refine Yi (Nz rfl) (Yi (Nz rfl) ?_);refine Xi _ (Yi (q8 a.ver b.ver) ?_);refine Xi _ (Yi (qZ (F8 a.path b.path) (GY a.ver b.ver)) ?_);refine Yi (by kernel_rfl) ?_;exact .refl _
abbrev E7(s:ByteArray):Prop:=s.size≤1073741824
abbrev N0(q:Rq):Prop:=Ci q.set∧E7 q.path
abbrev Jg(r:Rl):Prop:=E7 r.path∧∀q∈r.reqs,N0 q
abbrev MC(nm:ByteArray→ByteArray)(p:ByteArray):AV:=match Bh p with
 |some m=>.tup [vs (nm p),vi m,vi 0]
 |none=>.tup [vs ⟨#[]⟩,vi 0,vi 4]
abbrev UI(nm:ByteArray→ByteArray):Prop:=∀p:ByteArray,E7 p→PC 91 [vs p] (MC nm p)
theorem UI.none{nm:ByteArray→ByteArray}(h:UI nm){p:ByteArray}(hp:E7 p)(e:Bh p=.none):PC 91 [vs p] (.tup [vs ⟨#[]⟩,vi 0,vi 4]):=by
 have:=h p hp;unfold MC at this;rw[e]at this;exact this
theorem UI.some{nm:ByteArray→ByteArray}(h:UI nm){p:ByteArray}{m:Int}(hp:E7 p)(e:Bh p=.some m):PC 91 [vs p] (.tup [vs (nm p),vi m,vi 0]):=by
 have:=h p hp;unfold MC at this;rw[e]at this;exact this
theorem qX{nm:ByteArray→ByteArray}(hL:UI nm)(q:Rq)(hq:Ci q.set)(hp:E7 q.path):PC 116 [.agg (AM q),.v (.pointer none)] (vi (Gb none q)):=by
 cases UE:Bh q.path with
 |none =>
  have e:(4:Int)=Gb none q:=by unfold Gb;rw[UE];rfl
  have hl:=hL.none hp UE;refine Ps EY Tryz.func116 rfl (Nz rfl) ?_;refine Xi .pure (Xi _ (Yi (hl) ?_));refine Yi ?_ ?_
  ·intro _;exact .of_eq (Aa vi e)
  ·intro h;exact absurd (show(4:Int)≠0 by decide) h
 |some m =>
  have er:Gb none q=if(q.set.isEmpty||!decide (q.set=canon q.set)||false)=true then 1 else 0:=by unfold Gb;rw[UE];rfl
  have hl:=hL.some hp UE;have hc:=XI q.set hq;have he:=q9 q.set (canon q.set) hq;have Qx:∀{n:Int},n=(q.set.map Af).length→n=0→q.set.isEmpty=true:=fun h1 h2=>by
   rw[Lm]at h1;rw[F7];exact AA (by omega)
  have g8:¬((q.set.map Af).length:Int)=0→q.set.isEmpty=false:=fun h=>by
   cases hqs:q.set with
   |nil=>rw[hqs]at h;exact absurd rfl h
   |cons a l=>rfl
  rcases Bt (decide (q.set=canon q.set))with h2 | h2
  ·rw[h2]at he;refine Ps (Ip [2,4]) Tryz.func116 rfl (Nz rfl) ?_;refine Xi .pure (Xi _ (Yi (hl) ?_));refine Xi ⟨[(1,.v (.pointer none)),(2,.ref 2 0),(7,vi 0)],[(2,.cells (AM q))],Ab⟩ (Yi ⟨Z3,Z1,Fh,Tv⟩ ?_)
   refine Yi ?_ ?_
   ·intro h;exact absurd rfl h
   intro _;refine Xi ⟨[(1,.v (.pointer none)),(2,.ref 2 0)],[(2,.cells (AM q))],Ab⟩ (Yi ⟨Z2,Z1,Fh,Tv⟩ ?_)
   refine Yi ?_ ?_
   ·intro h;have h:((q.set.map Af).length:Int)=0:=h;have e:(1:Int)=Gb none q:=by rw[er,Qx rfl h];rfl
    refine Yi (by kernel_rfl) ?_;exact .of_eq (Aa vi e)
   intro h;have h:¬((q.set.map Af).length:Int)=0:=h;have hn:=g8 h;refine Xi _ (Yi (hc) ?_);refine Xi _ (Yi (he) ?_);refine Yi (by kernel_rfl) ?_;have e:(0:Int)=Gb none q:=by rw[er,hn,h2];rfl
   exact .of_eq (Aa vi e)
  ·rw[h2]at he;refine Ps (Ip [2,4]) Tryz.func116 rfl (Nz rfl) ?_;refine Xi .pure (Xi _ (Yi (hl) ?_));refine Xi ⟨[(1,.v (.pointer none)),(2,.ref 2 0),(7,vi 0)],[(2,.cells (AM q))],Ab⟩ (Yi ⟨Z3,Z1,Fh,Tv⟩ ?_)
   refine Yi ?_ ?_
   ·intro h;exact absurd rfl h
   intro _;refine Xi ⟨[(1,.v (.pointer none)),(2,.ref 2 0)],[(2,.cells (AM q))],Ab⟩ (Yi ⟨Z2,Z1,Fh,Tv⟩ ?_)
   refine Yi ?_ ?_
   ·intro h;have h:((q.set.map Af).length:Int)=0:=h;have e:(1:Int)=Gb none q:=by rw[er,Qx rfl h];rfl
    refine Yi (by kernel_rfl) ?_;exact .of_eq (Aa vi e)
   intro h;have h:¬((q.set.map Af).length:Int)=0:=h;have hn:=g8 h;refine Xi _ (Yi (hc) ?_);refine Xi _ (Yi (he) ?_);refine Yi (by kernel_rfl) ?_;have e:(1:Int)=Gb none q:=by rw[er,hn,h2];rfl
   exact .of_eq (Aa vi e)
theorem qY{nm:ByteArray→ByteArray}(hL:UI nm)(q b:Rq)(hq:Ci q.set)(hp:E7 q.path):PC 116 [.agg (AM q),.cptr (AM b)] (vi (Gb (some b.path) q)):=by
 cases UE:Bh q.path with
 |none =>
  have e:(4:Int)=Gb (some b.path) q:=by unfold Gb;rw[UE];rfl
  have hl:=hL.none hp UE;refine Ps EY Tryz.func116 rfl (Nz rfl) ?_;refine Xi .pure (Xi _ (Yi (hl) ?_));refine Yi ?_ ?_
  ·intro _;exact .of_eq (Aa vi e)
  ·intro h;exact absurd (show(4:Int)≠0 by decide) h
 |some m =>
  have er:Gb (some b.path) q=if(q.set.isEmpty||!decide (q.set=canon q.set)||!EJ b.path q.path)=true then 1 else 0:=by unfold Gb;rw[UE];rfl
  have hl:=hL.some hp UE;have hc:=XI q.set hq;have he:=q9 q.set (canon q.set) hq;have Qx:∀{n:Int},n=(q.set.map Af).length→n=0→q.set.isEmpty=true:=fun h1 h2=>by
   rw[Lm]at h1;rw[F7];exact AA (by omega)
  have g8:¬((q.set.map Af).length:Int)=0→q.set.isEmpty=false:=fun h=>by
   cases hqs:q.set with
   |nil=>rw[hqs]at h;exact absurd rfl h
   |cons a l=>rfl
  rcases Bt (decide (q.set=canon q.set))with h2 | h2
  ·rw[h2]at he;refine Ps (Ip [2,4]) Tryz.func116 rfl (Nz rfl) ?_;refine Xi .pure (Xi _ (Yi (hl) ?_));refine Xi ⟨[(1,.cptr (AM b)),(2,.ref 2 0),(7,vi 0)],[(2,.cells (AM q))],Ab⟩ (Yi ⟨Z3,Z1,Fh,Tv⟩ ?_)
   refine Yi ?_ ?_
   ·intro h;exact absurd rfl h
   intro _;refine Xi ⟨[(1,.cptr (AM b)),(2,.ref 2 0)],[(2,.cells (AM q))],Ab⟩ (Yi ⟨Z2,Z1,Fh,Tv⟩ ?_)
   refine Yi ?_ ?_
   ·intro h;have h:((q.set.map Af).length:Int)=0:=h;have e:(1:Int)=Gb (some b.path) q:=by rw[er,Qx rfl h];rfl
    refine Yi (by kernel_rfl) ?_;exact .of_eq (Aa vi e)
   intro h;have h:¬((q.set.map Af).length:Int)=0:=h;have hn:=g8 h;refine Xi _ (Yi (hc) ?_);refine Xi _ (Yi (he) ?_);refine Yi ?_ ?_
   ·intro h3;have h3:Op.bytesLess b.path.toList q.path.toList=false:=h3;refine Yi (by kernel_rfl) ?_;have e:(1:Int)=Gb (some b.path) q:=by rw[er,hn,h2,EX,h3];rfl
    exact .of_eq (Aa vi e)
   ·intro h3;have h3:¬Op.bytesLess b.path.toList q.path.toList=false:=h3;have h3:Op.bytesLess b.path.toList q.path.toList=true:=by simpa using h3
    refine Yi (by kernel_rfl) ?_;have e:(0:Int)=Gb (some b.path) q:=by rw[er,hn,h2,EX,h3];rfl
    exact .of_eq (Aa vi e)
  ·rw[h2]at he;refine Ps (Ip [2,4]) Tryz.func116 rfl (Nz rfl) ?_;refine Xi .pure (Xi _ (Yi (hl) ?_));refine Xi ⟨[(1,.cptr (AM b)),(2,.ref 2 0),(7,vi 0)],[(2,.cells (AM q))],Ab⟩ (Yi ⟨Z3,Z1,Fh,Tv⟩ ?_)
   refine Yi ?_ ?_
   ·intro h;exact absurd rfl h
   intro _;refine Xi ⟨[(1,.cptr (AM b)),(2,.ref 2 0)],[(2,.cells (AM q))],Ab⟩ (Yi ⟨Z2,Z1,Fh,Tv⟩ ?_)
   refine Yi ?_ ?_
   ·intro h;have h:((q.set.map Af).length:Int)=0:=h;have e:(1:Int)=Gb (some b.path) q:=by rw[er,Qx rfl h];rfl
    refine Yi (by kernel_rfl) ?_;exact .of_eq (Aa vi e)
   intro h;have h:¬((q.set.map Af).length:Int)=0:=h;have hn:=g8 h;refine Xi _ (Yi (hc) ?_);refine Xi _ (Yi (he) ?_);refine Yi (by kernel_rfl) ?_;have e:(1:Int)=Gb (some b.path) q:=by rw[er,hn,h2];rfl
   exact .of_eq (Aa vi e)
abbrev M1(l:List Rq)(k:Nat):List AV:=((l.map AM)[k]?).getD []
abbrev qU(l:List Rq):Nat→AV
 |0=>.v (.pointer none)
 |k+1=>.cptr (M1 l k)
abbrev G7(l:List Rq):Nat→Option ByteArray
 |0=>none
 |k+1=>(l[k]?).map (·.path)
theorem N5{l:List Rq}{k:Nat}(h:k<l.length):M1 l k=AM l[k]:=by
 unfold M1;rw[AJ,Ge h];rfl
theorem Mf{l:List Rq}{k:Nat}(h:k<l.length):G7 l (k+1)=some l[k].path:=by
 show(l[k]?).map _=_;rw[Ge h];rfl
theorem y6{nm:ByteArray→ByteArray}(hL:UI nm)(l:List Rq)(hs:∀q∈l,N0 q):PC 93 [sl AM l] (vi (Bx l)):=by
 refine Ps (Ip [8]) Tryz.func93 rfl (Nz rfl) ?_;refine Yi ?_ ?_
 ·intro h;have h:(16:Int)<(l.map AM).length:=h;exact .of_eq (Aa vi (show(7:Int)=Bx l by unfold Bx;rw[Au (by rw[Lm]at h;omega)]))
 intro h;have h:¬(16:Int)<(l.map AM).length:=h;have hl:l.length≤16:=by rw[Lm]at h;omega
 have OH:Bx l=Ed none l:=by unfold Bx;rw[Al (by omega)]
 refine Xi {i:Nat // i≤l.length∧Ed none l=Ed (G7 l i) (l.drop i)} (Xi (fun i=>⟨[(0,sl AM l),(3,qU l i.1),(10,sl AM l),(11,vi (l.map AM).length),(12,vi i.1)],[],Ab⟩) (Xi (fun i=>l.length-i.1) (Yi (Xi ⟨0,AF _,rfl⟩ ?_) ?_)))
 ·exact⟨Z5,Tv,Fh,Tv⟩
 intro⟨i,h1,h2⟩;refine Yi ?_ ?_
 ·intro h;have h:(i:Int)<(l.map AM).length:=h;have h:i<l.length:=by simpa using h
  have hg:l[i]?=some l[i]:=Ge h;have hd:l.drop i=l[i]::l.drop (i+1):=Bd h;have hq:=hs l[i] (Ak h);have hc:PC 116 [.agg (AM l[i]),qU l i] (vi (Gb (G7 l i) l[i])):=by
   cases i with
   |zero=>exact qX hL _ hq.1 hq.2
   |succ k =>
    rw[Mf (by omega:k<l.length)];show PC 116 [_,.cptr (M1 l k)] _;rw[N5 (by omega:k<l.length)];exact qY hL _ _ hq.1 hq.2
  have HH:Ed none l=if Gb (G7 l i) l[i]=0 then Ed (some l[i].path) (l.drop (i+1))else Gb (G7 l i) l[i]:=by rw[h2,hd];rfl
  match i,h1,h2,h,hg,hd,hc,HH with
  |0,h1,h2,h,hg,hd,hc,HH =>
   refine Xi (AM l[0]) (Yi (Yi (by show(0:Int)≤((0:Nat):Int);omega) (by simp[hg])) (Yi rfl ?_));refine Yi (Nz rfl) (Yi (Nz rfl) (Yi (Nz rfl) ?_));refine Xi .pure (Xi _ (Yi (hc) ?_));refine Xi ⟨[(0,sl AM l),(4,vi ((0:Nat):Int)),(6,vi (Gb (G7 l (0)) l[0])),(10,sl AM l),(11,vi (l.map AM).length),(12,vi ((0:Nat):Int))],[],Ab⟩ (Yi ⟨Z6,Tv,Fh,Tv⟩ ?_)
   refine Yi ?_ ?_
   ·intro h4;have h4:Gb (G7 l (0)) l[0]≠0:=h4;exact .of_eq (Aa vi (show Gb (G7 l (0)) l[0]=Bx l by rw[OH,HH,Al h4]))
   ·intro h4;have h4:¬Gb (G7 l (0)) l[0]≠0:=h4;refine Xi (AM l[0]) (Yi (Yi (by show(0:Int)≤((0:Nat):Int);omega) (by simp[hg])) (Yi rfl ?_));refine Yi (by show Bs (((0:Nat):Int)+1);unfold Bs;omega) ?_;refine Xi ⟨0+1,by omega,by rw[HH,Au (Gw h4),Mf h]⟩ ?_;have e1:AV.cptr (AM l[0])=.cptr (M1 l (0)):=by rw[N5 h]
    exact⟨by show l.length-(0+1)<l.length-(0);omega,⟨Zr,⟨e1,rfl⟩,Zr,Zr,Zr,Tv⟩,Tv,Fh,Tv⟩
  |k+1,h1,h2,h,hg,hd,hc,HH =>
   refine Xi (AM l[k+1]) (Yi (Yi (by show(0:Int)≤((k+1:Nat):Int);omega) (by simp[hg])) (Yi rfl ?_));refine Yi (Nz rfl) (Yi (Nz rfl) (Yi (Nz rfl) ?_));refine Xi .pure (Xi _ (Yi (hc) ?_));refine Xi ⟨[(0,sl AM l),(4,vi ((k+1:Nat):Int)),(6,vi (Gb (G7 l (k+1)) l[k+1])),(10,sl AM l),(11,vi (l.map AM).length),(12,vi ((k+1:Nat):Int))],[],Ab⟩ (Yi ⟨Z6,Tv,Fh,Tv⟩ ?_)
   refine Yi ?_ ?_
   ·intro h4;have h4:Gb (G7 l (k+1)) l[k+1]≠0:=h4;exact .of_eq (Aa vi (show Gb (G7 l (k+1)) l[k+1]=Bx l by rw[OH,HH,Al h4]))
   ·intro h4;have h4:¬Gb (G7 l (k+1)) l[k+1]≠0:=h4;refine Xi (AM l[k+1]) (Yi (Yi (by show(0:Int)≤((k+1:Nat):Int);omega) (by simp[hg])) (Yi rfl ?_));refine Yi (by show Bs (((k+1:Nat):Int)+1);unfold Bs;omega) ?_;refine Xi ⟨k+1+1,by omega,by rw[HH,Au (Gw h4),Mf h]⟩ ?_;have e1:AV.cptr (AM l[k+1])=.cptr (M1 l (k+1)):=by rw[N5 h]
    exact⟨by show l.length-(k+1+1)<l.length-(k+1);omega,⟨Zr,⟨e1,rfl⟩,Zr,Zr,Zr,Tv⟩,Tv,Fh,Tv⟩
 ·intro h;have h:¬(i:Int)<(l.map AM).length:=h;have h:¬i<l.length:=by simpa using h
  have e:(0:Int)=Bx l:=by rw[OH,h2,HD (by omega)];rfl
  exact .of_eq (Aa vi e)
abbrev gg(r:Rl):Nat→ByteArray
 |0=>r.arch
 |1=>r.ifc
 |_=>r.cert
theorem oE{r:Rl}(h:∀j,j<3→DW (gg r j)=true):(DW r.arch&&DW r.ifc&&DW r.cert)=true:=by
 have h0:DW r.arch=true:=h 0 (by decide);have h1:DW r.ifc=true:=h 1 (by decide);have h2:DW r.cert=true:=h 2 (by decide);rw[h0,h1,h2];rfl
theorem ZE{r:Rl}{i:Nat}(hi:i<3)(h:DW (gg r i)=false):(DW r.arch&&DW r.ifc&&DW r.cert)=false:=by
 match i,hi,h with
 |0,_,h=>have h:DW r.arch=false:=h;rw[h];rfl
 |1,_,h=>have h:DW r.ifc=false:=h;rw[h,Cz];rfl
 |2,_,h=>have h:DW r.cert=false:=h;rw[h,Cz]
theorem uZ{nm:ByteArray→ByteArray}(hL:UI nm)(r:Rl)(hr:Jg r):PC 66 [.agg (Ag r)] (vi (Dd r)):=by
 cases UE:Bh r.path with
 |none =>
  have e:(4:Int)=Dd r:=by unfold Dd;rw[UE]
  have hl:=hL.none hr.1 UE;refine Ps EY Tryz.func66 rfl (Nz rfl) ?_;refine Xi .pure (Xi _ (Yi (hl) ?_));refine Yi ?_ ?_
  ·intro _;exact .of_eq (Aa vi e)
  ·intro h;exact absurd (show(4:Int)≠0 by decide) h
 |some m =>
  have er:Dd r=if(!Cy r.ver||!decide (r.ver.a=m))=true then 2 else if Bx r.reqs≠0 then Bx r.reqs else if(DW r.arch&&DW r.ifc&&DW r.cert)=true then 0 else 1:=by unfold Dd;rw[UE]
  have hl:=hL.some hr.1 UE;have hv:=kQ r.ver;have hc:=y6 hL r.reqs hr.2;rcases Bt (Cy r.ver)with h2 | h2
  ·rw[h2]at hv;refine Ps (Ip [2,4,6,7,9]) Tryz.func66 rfl (Nz rfl) ?_;refine Xi .pure (Xi _ (Yi (hl) ?_));refine Xi ⟨[(1,.ref 1 0),(4,vi m),(5,vi 0)],[(1,.cells (Ag r))],Ab⟩ (Yi ⟨Z3,Z1,Fh,Tv⟩ ?_)
   refine Yi ?_ ?_
   ·intro h;exact absurd rfl h
   intro _;refine Xi ⟨[(1,.ref 1 0),(4,vi m)],[(1,.cells (Ag r))],Ab⟩ (Yi ⟨Z2,Z1,Fh,Tv⟩ ?_)
   refine Yi (Nz rfl) ?_;refine Xi .pure (Xi _ (Yi (hv) ?_));refine Yi ?_ ?_
   ·intro h;have h:r.ver.a≠m:=h;have e:(2:Int)=Dd r:=by rw[er,h2,Aj h];rfl
    exact .of_eq (Aa vi e)
   intro h;have h:¬r.ver.a≠m:=h;have h3:r.ver.a=m:=Gw h;have rz:Dd r=if Bx r.reqs≠0 then Bx r.reqs else if(DW r.arch&&DW r.ifc&&DW r.cert)=true then 0 else 1:=by rw[er,h2,At h3];rfl
   refine Xi ⟨[(1,.ref 1 0)],[(1,.cells (Ag r))],Ab⟩ (Yi ⟨Z1,Z1,Fh,Tv⟩ ?_)
   refine Xi .pure (Xi _ (Yi (hc) ?_));refine Xi ⟨[(1,.ref 1 0),(6,vi (Bx r.reqs))],[(1,.cells (Ag r))],Ab⟩ (Yi ⟨Z2,Z1,Fh,Tv⟩ ?_)
   refine Yi ?_ ?_
   ·intro h4;have h4:Bx r.reqs≠0:=h4;exact .of_eq (Aa vi (show Bx r.reqs=Dd r by rw[rz,Au h4]))
   intro h4;have h4:¬Bx r.reqs≠0:=h4;have tZ:Dd r=if(DW r.arch&&DW r.ifc&&DW r.cert)=true then 0 else 1:=by rw[rz,Al h4]
   refine Xi ⟨[(1,.ref 1 0)],[(1,.cells (Ag r))],Ab⟩ (Yi ⟨Z1,Z1,Fh,Tv⟩ ?_)
   refine Xi {i:Nat // i≤3∧∀j,j<i→DW (gg r j)=true} (Xi (fun i=>⟨[(41,.slice (.id 41 1) [[vs r.arch],[vs r.ifc],[vs r.cert]]),(42,vi 3),(43,vi i.1)],[(41,.tok 1 3)],Ab⟩) (Xi (fun i=>3-i.1) (Yi (Xi ⟨0,by omega,fun j h=>by omega⟩ ?_) ?_)))
   ·exact⟨Z3,Z1,Fh,Tv⟩
   intro⟨i,i1,i2⟩;refine Yi ?_ ?_
   ·intro h;have h:(i:Int)<3:=h;have next:DW (gg r i)=true→∀j,j<i+1→DW (gg r j)=true:=fun hz j hj=>by
     rcases Cv j i with q | q
     ·exact i2 j q
     ·have:j=i:=by omega
      subst this;exact hz
    match i,i1,i2,h,next with
    |0,i1,i2,h,next =>
     refine Xi [vs r.arch] (Yi (Yi (by show(0:Int)≤0;decide) rfl) (Yi rfl ?_));refine Yi ?_ ?_
     ·intro h5;have h5:((r.arch.size:Nat):Int)≠0:=h5;refine Yi ?_ ?_
      ·intro h6;have h6:((r.arch.size:Nat):Int)≠32:=h6;have e:(1:Int)=Dd r:=by rw[tZ,ZE (i:=0) (by decide) (show DW r.arch=false by unfold DW;rw[Aj (by omega),Aj (by omega)];rfl)];rfl
       exact .of_eq (Aa vi e)
      ·intro h6;have h6:¬((r.arch.size:Nat):Int)≠32:=h6;refine Yi (Ii 0 (by omega)) ?_;refine Xi ⟨1,by omega,next (show DW r.arch=true by unfold DW;rw[At (by omega:r.arch.size=32),UG])⟩ ?_
       exact⟨by show 3-1<3-0;decide,Z3,Z1,Fh,Tv⟩
     ·intro h5;have h5:¬((r.arch.size:Nat):Int)≠0:=h5;refine Yi (Ii 0 (by omega)) ?_;refine Xi ⟨1,by omega,next (show DW r.arch=true by unfold DW;rw[At (by omega:r.arch.size=0)];rfl)⟩ ?_
      exact⟨by show 3-1<3-0;decide,Z3,Z1,Fh,Tv⟩
    |1,i1,i2,h,next =>
     refine Xi [vs r.ifc] (Yi (Yi (by show(0:Int)≤1;decide) rfl) (Yi rfl ?_));refine Yi ?_ ?_
     ·intro h5;have h5:((r.ifc.size:Nat):Int)≠0:=h5;refine Yi ?_ ?_
      ·intro h6;have h6:((r.ifc.size:Nat):Int)≠32:=h6;have e:(1:Int)=Dd r:=by rw[tZ,ZE (i:=1) (by decide) (show DW r.ifc=false by unfold DW;rw[Aj (by omega),Aj (by omega)];rfl)];rfl
       exact .of_eq (Aa vi e)
      ·intro h6;have h6:¬((r.ifc.size:Nat):Int)≠32:=h6;refine Yi (Ii 1 (by omega)) ?_;refine Xi ⟨2,by omega,next (show DW r.ifc=true by unfold DW;rw[At (by omega:r.ifc.size=32),UG])⟩ ?_
       exact⟨by show 3-2<3-1;decide,Z3,Z1,Fh,Tv⟩
     ·intro h5;have h5:¬((r.ifc.size:Nat):Int)≠0:=h5;refine Yi (Ii 1 (by omega)) ?_;refine Xi ⟨2,by omega,next (show DW r.ifc=true by unfold DW;rw[At (by omega:r.ifc.size=0)];rfl)⟩ ?_
      exact⟨by show 3-2<3-1;decide,Z3,Z1,Fh,Tv⟩
    |2,i1,i2,h,next =>
     refine Xi [vs r.cert] (Yi (Yi (by show(0:Int)≤2;decide) rfl) (Yi rfl ?_));refine Yi ?_ ?_
     ·intro h5;have h5:((r.cert.size:Nat):Int)≠0:=h5;refine Yi ?_ ?_
      ·intro h6;have h6:((r.cert.size:Nat):Int)≠32:=h6;have e:(1:Int)=Dd r:=by rw[tZ,ZE (i:=2) (by decide) (show DW r.cert=false by unfold DW;rw[Aj (by omega),Aj (by omega)];rfl)];rfl
       exact .of_eq (Aa vi e)
      ·intro h6;have h6:¬((r.cert.size:Nat):Int)≠32:=h6;refine Yi (Ii 2 (by omega)) ?_;refine Xi ⟨3,by omega,next (show DW r.cert=true by unfold DW;rw[At (by omega:r.cert.size=32),UG])⟩ ?_
       exact⟨by show 3-3<3-2;decide,Z3,Z1,Fh,Tv⟩
     ·intro h5;have h5:¬((r.cert.size:Nat):Int)≠0:=h5;refine Yi (Ii 2 (by omega)) ?_;refine Xi ⟨3,by omega,next (show DW r.cert=true by unfold DW;rw[At (by omega:r.cert.size=0)];rfl)⟩ ?_
      exact⟨by show 3-3<3-2;decide,Z3,Z1,Fh,Tv⟩
    |i+3,i1,i2,h,next=>omega
   ·intro h;have h:¬(i:Int)<3:=h;have e:(0:Int)=Dd r:=by rw[tZ,Au (oE fun j hj=>i2 j (by omega))]
    exact .of_eq (Aa vi e)
  ·rw[h2]at hv;have e:(2:Int)=Dd r:=by rw[er,h2];rfl
   refine Ps (Ip [2,4]) Tryz.func66 rfl (Nz rfl) ?_;refine Xi .pure (Xi _ (Yi (hl) ?_));refine Xi ⟨[(1,.ref 1 0),(4,vi m),(5,vi 0)],[(1,.cells (Ag r))],Ab⟩ (Yi ⟨Z3,Z1,Fh,Tv⟩ ?_)
   refine Yi ?_ ?_
   ·intro h;exact absurd rfl h
   intro _;refine Xi ⟨[(1,.ref 1 0),(4,vi m)],[(1,.cells (Ag r))],Ab⟩ (Yi ⟨Z2,Z1,Fh,Tv⟩ ?_)
   refine Yi (Nz rfl) ?_;refine Xi .pure (Xi _ (Yi (hv) ?_));exact .of_eq (Aa vi e)
theorem py{a b:Rl}(h:a.path=b.path∧a.ver.a=b.ver.a∧a.ver.b=b.ver.b∧a.ver.c=b.ver.c):Gf a=Gf b:=by
 unfold Gf;obtain⟨h1,h2,h3,h4⟩:=h
 have:a.ver=b.ver:=by
  cases ha:a.ver;cases hb:b.ver;rw[ha,hb]at h2 h3 h4;simp_all
 rw[h1,this]
theorem VJ{a b:Rl}(h:Gf a=Gf b):a.path=b.path∧a.ver.a=b.ver.a∧a.ver.b=b.ver.b∧a.ver.c=b.ver.c:=by
 unfold Gf at h
 injection h with h1 h2
 exact⟨h1,by rw[h2],by rw[h2],by rw[h2]⟩
abbrev Wu(x:List Rl):Nat→Option Rl
 |0=>none
 |k+1=>x[k]?
theorem rm{nm:ByteArray→ByteArray}(hL:UI nm)(x:List Rl)(ifs:List (List AV))(hs:∀r∈x,Jg r):PC 20 [.agg (Ic x ifs)] (vi (A6 x)):=by
 refine Ps (Ip [7,9,11,13]) Tryz.func20 rfl (Nz rfl) ?_;refine Yi ?_ ?_
 ·intro h;have h:(256:Int)<(x.map Ag).length:=h;exact .of_eq (Aa vi (show(7:Int)=A6 x by unfold A6;rw[Au (by rw[Lm]at h;omega)]))
 intro h;have h:¬(256:Int)<(x.map Ag).length:=h;have hl:x.length≤256:=by rw[Lm]at h;omega
 have OH:A6 x=Dc none x:=by unfold A6;rw[Al (by omega)]
 refine Xi {i:Nat // i≤x.length∧Dc none x=Dc (Wu x i) (x.drop i)} (Xi (fun i=>⟨[(1,.ref 1 0),(12,sl Ag x),(13,vi (x.map Ag).length),(14,vi i.1)],[(1,.cells (Ic x ifs))],Ab⟩) (Xi (fun i=>x.length-i.1) (Yi (Xi ⟨0,AF _,rfl⟩ ?_) ?_)))
 ·exact⟨Z4,Z1,Fh,Tv⟩
 intro⟨i,h1,h2⟩;refine Yi ?_ ?_
 ·intro h;have h:(i:Int)<(x.map Ag).length:=h;have h:i<x.length:=by simpa using h
  have hg:x[i]?=some x[i]:=Ge h;have hd:x.drop i=x[i]::x.drop (i+1):=Bd h;have hc:=uZ hL x[i] (hs x[i] (Ak h));have HH:Dc none x=if Dd x[i]≠0 then Dd x[i]else match Wu x i with
   |none=>Dc (some x[i]) (x.drop (i+1))
   |some b=>if Gf b=Gf x[i]then 5 else if 0<IQ b x[i]then 1 else Dc (some x[i]) (x.drop (i+1)):=by rw[h2,hd];rfl
  have Yk:Wu x (i+1)=some x[i]:=Ge h;refine Xi (Ag x[i]) (Yi (Yi (Nn i) (by simp[hg])) (Yi rfl ?_));refine Yi (Nz rfl) (Yi (Nz rfl) (Yi (Nz rfl) ?_));refine Xi .pure (Xi _ (Yi (hc) ?_));refine Xi ⟨[(1,.ref 1 0),(3,vi i),(4,.ref 4 0),(5,vi (Dd x[i])),(12,sl Ag x),(13,vi (x.map Ag).length),(14,vi i)],[(1,.cells (Ic x ifs)),(4,.cells (Ag x[i]))],Ab⟩ (Yi ⟨Z7,Z2,Fh,Tv⟩ ?_)
  refine Yi ?_ ?_
  ·intro h4;have h4:Dd x[i]≠0:=h4;exact .of_eq (Aa vi (show Dd x[i]=A6 x by rw[OH,HH,Au h4]))
  intro h4;have h4:¬Dd x[i]≠0:=h4;refine Xi ⟨[(1,.ref 1 0),(3,vi i),(4,.ref 4 0),(12,sl Ag x),(13,vi (x.map Ag).length),(14,vi i)],[(1,.cells (Ic x ifs)),(4,.cells (Ag x[i]))],Ab⟩ (Yi ⟨Z6,Z2,Fh,Tv⟩ ?_)
  refine Yi ?_ ?_
  ·intro h5;have h5:(i:Int)=0:=h5;have h6:i=0:=by omega
   refine Yi (Ii i (by omega)) ?_;refine Xi ⟨i+1,by omega,by rw[HH,Al h4,Yk];subst h6;rfl⟩ ?_;exact⟨Dl x.length i (by omega),Z4,Z1,Fh,Tv⟩
  intro h5;have h5:¬(i:Int)=0:=h5;have ne:i-1<x.length:=by omega
  have hb:Wu x i=some x[i-1]:=by
   obtain⟨k,rfl⟩:∃k,i=k+1:=⟨i-1,by omega⟩;exact Ge (by omega)
  have o0:Dc none x=if Gf x[i-1]=Gf x[i]then 5 else if 0<IQ x[i-1] x[i]then 1 else Dc (some x[i]) (x.drop (i+1)):=by rw[HH,Al h4,hb]
  refine Yi (by show Bs ((i:Int)-1);unfold Bs;omega) ?_;have Sp:(x.map Ag)[((i:Int)-1).toNat]?=some (Ag x[i-1]):=by rw[show((i:Int)-1).toNat=i-1 by omega];exact B3 (Ge ne)
  refine Xi (Ag x[i-1]) (Yi (Yi (by show(0:Int)≤(i:Int)-1;omega) Sp) (Yi rfl ?_));refine Yi (Nz rfl) (Yi (Nz rfl) ?_);refine Xi ⟨[(1,.ref 1 0),(4,.ref 4 0),(6,.ref 6 0),(12,sl Ag x),(13,vi (x.map Ag).length),(14,vi i)],[(1,.cells (Ic x ifs)),(4,.cells (Ag x[i])),(6,.cells (Ag x[i-1]))],Ab⟩ (Yi ⟨Z6,Z3,Fh,Tv⟩ ?_)
  refine Yi (Nz rfl) ?_;refine Xi _ (Yi (oc x[i-1]) ?_);refine Yi (Nz rfl) ?_;refine Xi _ (Yi (oc x[i]) ?_);refine Yi ?_ ?_
  ·intro h6;refine Yi (by kernel_rfl) ?_;have e:(5:Int)=A6 x:=by rw[OH,o0,Au (py ⟨h6.1,h6.2.1,h6.2.2.1,h6.2.2.2.1⟩)]
   exact .of_eq (Aa vi e)
  intro h6;refine Yi (by kernel_rfl) ?_;have h7:¬Gf x[i-1]=Gf x[i]:=fun e=>by
   have e:=VJ e;exact h6 ⟨e.1,e.2.1,e.2.2.1,e.2.2.2,trivial⟩
  refine Xi ⟨[(1,.ref 1 0),(4,.ref 4 0),(6,.ref 6 0),(12,sl Ag x),(13,vi (x.map Ag).length),(14,vi i)],[(1,.cells (Ic x ifs)),(4,.cells (Ag x[i])),(6,.cells (Ag x[i-1]))],Ab⟩ (Yi ⟨Z6,Z3,Fh,Tv⟩ ?_)
  refine Yi (Nz rfl) (Yi (Nz rfl) ?_);refine Xi .pure (Xi _ (Yi (u5 x[i-1] x[i]) ?_));refine Yi ?_ ?_
  ·intro h8;have h8:(0:Int)<IQ x[i-1] x[i]:=h8;have e:(1:Int)=A6 x:=by rw[OH,o0,Al h7,Au h8]
   exact .of_eq (Aa vi e)
  ·intro h8;have h8:¬(0:Int)<IQ x[i-1] x[i]:=h8;refine Yi (Ii i (by omega)) ?_;refine Xi ⟨i+1,by omega,by rw[o0,Al h7,Al h8,Yk]⟩ ?_;exact⟨Dl x.length i (by omega),Z4,Z1,Fh,Tv⟩
 ·intro h;have h:¬(i:Int)<(x.map Ag).length:=h;have h:¬i<x.length:=by simpa using h
  have e:(0:Int)=A6 x:=by rw[OH,h2,HD (by omega)];rfl
  exact .of_eq (Aa vi e)
end Go.Eng
