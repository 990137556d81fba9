/- Lemmas for the claims of this seat, without a condition: part 20 (C24, C25, C26, C27, C28, C29, C30, C31, C32, C33, C34, C35, C36, C37, C38). -/
import Derived.Test.YtmcbkdbfaneofaaGreatDoorA19
import Derived.Shelf.Slices.Delete
namespace Go.Eng
open Go.Proofs
theorem oE(l:List Tm)(hl:Co l)(hs:∀t∈l,Co t.set):PC 196 [sl AL l] (sl AL (QJ l)):=by
 refine Ps E8 Tryz.func196 rfl (Nz rfl) ?_;refine Xi .pure (Xi _ (Yi (t7 l hl hs) ?_));exact .refl _
theorem Qq(s:Bg):Co (Ev s):=by
 unfold Co;have:=Iu (Hy s);omega
theorem oP{α:Type}(x:α):Co [x]:=by unfold Co;simp
theorem wl{α:Type}(x y:α):Co [x,y]:=by unfold Co;simp
theorem vJ(q:Rq)(hq:Co q.set):PC 155 [.agg (AN q)] (sl AL (JV q)):=by
 have hc:PC 196 [sl AL [DP q]] (sl AL (JV q)):=oE [DP q] (oP _) fun t ht=>by rw[As.1 ht];exact Qq _
 refine Ps E8 Tryz.func155 rfl (Nz rfl) ?_;refine Yi (Nz rfl) ?_;refine Xi .pure (Xi _ (Yi (rp q hq) ?_));refine Xi .pure (Xi _ (Yi (hc) ?_));exact .refl _
theorem vK(p:ByteArray)(pl:Int)(q:Rq)(hp:Bu (pl+1))(hq:Co q.set):PC 156 [vs p,vi pl,.agg (AN q)] (sl AL (Eu p pl q)):=by
 have hc:PC 196 [sl AL [⟨p,false,[(pl,pl+1)]⟩,DP q]] (sl AL (Eu p pl q)):=oE [⟨p,false,[(pl,pl+1)]⟩,DP q] (wl _ _) fun t ht=>by
  rcases Av.1 ht with rfl | ht
  ·exact oP _
  ·rw[As.1 ht];exact Qq _
 refine Ps E8 Tryz.func156 rfl (Nz rfl) ?_;refine Yi hp ?_;refine Yi (Nz rfl) ?_;refine Xi .pure (Xi _ (Yi (rp q hq) ?_));refine Xi .pure (Xi _ (Yi (hc) ?_));exact .refl _
theorem rj(p:ByteArray)(s:Bg)(hs:Co s):PC 160 [vs p,sl Ag s] (sl AL (Ip p s)):=by
 have hc:PC 196 [sl AL [⟨p,false,Ev s⟩]] (sl AL (Ip p s)):=oE [⟨p,false,Ev s⟩] (oP _) fun t ht=>by rw[As.1 ht];exact Qq _
 refine Ps E8 Tryz.func160 rfl (Nz rfl) ?_;refine Xi .pure (Xi _ (Yi (oh s hs) ?_));refine Xi .pure (Xi _ (Yi (hc) ?_));exact .refl _
end Go.Eng
namespace Go.Eng
open Go.Proofs Go.Shelf Go.RowKit Go.Lib Go.Sort
theorem pH(F:Array Value)(i n:Nat)(hF:F.size=n*3)(hi:i<n)(z:List Value)(hz:z.length=3):(lay (lay F (i*3) (F.toList.drop ((i+1)*3))) ((n-1)*3) z).toList=F.toList.take (i*3)++F.toList.drop ((i+1)*3)++z:=by
 have l1:(F.toList.take (i*3)).length=i*3:=by simp;omega
 have l2:(F.toList.drop ((i+1)*3)).length=(n-(i+1))*3:=by simp;omega
 apply CM
 intro t
 rw[AQ,lay_get? _ _ _ _ (by rw[Lib.lay_size];omega),lay_get? _ _ _ _ (by rw[l2];omega)]
 rw[hz,l2]
 by_cases c1:t<i*3
 ·rw[Ao (by omega),Ao (by omega),A4 (by rw[Ad];omega),A4 (by omega),J5,Ax c1,AQ]
 ·by_cases c2:t<(n-1)*3
  ·rw[Ao (by omega),Ax (by omega),A4 (by rw[Ad];omega),A1 (by omega),l1]
  ·rw[A1 (by rw[Ad];omega),Ad,l1,l2]
   by_cases c3:t<n*3
   ·rw[Ax (by omega)];congr 1;omega
   ·rw[Ao (by omega),Ao (by omega),UK (by omega),A8 (by omega)]
abbrev ky:List Value:=[.string ⟨#[]⟩,.bool false,.slice none 0 0]
set_option maxHeartbeats 4000000 in
set_option maxRecDepth 1000000 in
theorem gx(w:World)(b cap i n:Nat)(F:Array Value)(hF:F.size=n*3)(hi:i<n)(Pr:n≤cap)(hH:Holds id w b 0 F)(h1:∀x∈F.toList,x.oneCell'=true) :
  Calls Tryz.prog 229 #[.slice (some ⟨b,0,none⟩) n cap,.int .i64 i,.int .i64 ((i:Int)+1)] w fun e w'=>e=.returned (.slice (some ⟨b,0,none⟩) (n-1) cap) ∧
   w'=putRow id (Sort.ahead w 1) b 0 (lay (lay F (i*3) (F.toList.drop ((i+1)*3))) ((n-1)*3) ky):=by
 obtain⟨i0,ig,pv⟩:∃i0,Tryz.prog.info? 207=some i0∧i0.size=3:=by
  obtain⟨i,z,h1,_,h2,_⟩:=HS (P:=Tryz.prog) (T:=nO) CY (e:=207) (n:=2) (by kernel_rfl)
  exact⟨i,h1,h2.trans (by kernel_rfl)⟩
 obtain⟨news,Jd⟩:∃news,news=F.toList.drop ((i+1)*3):=⟨_,rfl⟩
 have CJ:news.length=(n-(i+1))*3:=by rw[Jd];simp;omega
 have Fy:∀t,t<(n-(i+1))*3→news[t]?=some F[(i+1)*3+t]!:=by
  intro t ht
  rw[Jd,BZ,AQ,DK F ((i+1)*3+t) (by omega),BO (by omega)]
 obtain⟨A,hA,dq⟩:∃A:Addr,(if cap=i+1 then some (⟨b,0,none⟩:Addr)else some ⟨b,(i+1)*3,none⟩)=some A∧Hid (∀t u,news[t]?=some u→w.drew.cell? (A.add t)=some u):=by
  by_cases h:cap=i+1
  ·refine⟨⟨b,0,none⟩,by simp[h],fun t u hu=>?_⟩
   have h0:news.length=0:=by rw[CJ];omega
   rw[List.length_eq_zero_iff.1 h0]at hu
   simp at hu
  ·refine⟨⟨b,(i+1)*3,none⟩,by simp[h],fun t u hu=>?_⟩
   have ht:t<(n-(i+1))*3:=by
    have:=(Aw.1 hu).1
    rwa [CJ]at this
   rw[Fy t ht]at hu
   rw[Addr.add_lit]
   have:=(hH ((i+1)*3+t) (by omega)).1
   rw[Bk]at this
   exact this.trans hu
 have s1:Hid (news.length=(n-(i+1))*3):=CJ
 have s2:Hid (∀u∈news,u.oneCell'=true):=by
  intro u hu
  rw[Jd]at hu
  exact h1 u (IM hu)
 have s3:Hid (∀t,t<news.length→(w.drew.cell? ⟨b,0+i*3+t,none⟩).isSome=true∧w.drew.frozen? ⟨b,0+i*3+t,none⟩=false):=by
  intro t ht
  rw[CJ]at ht
  have:=hH (i*3+t) (by omega)
  rw[GR]
  exact⟨by show(w.cell? _).isSome=true;rw[this.1];rfl,this.2⟩
 obtain⟨W1,rT⟩:∃W1,W1=w.drew.setCells b (0+i*3) news:=⟨_,rfl⟩
 have oX : W1=putRow id (Sort.ahead w 1) b 0 (lay F (i*3) news):=by
  have:=putRow_setCells id (Sort.ahead w 1) b 0 news F (i*3) (by omega)
  rw[putRow_self id (Sort.ahead w 1) b 0 F (holds_ahead id w 1 b 0 F hH),J9]at this
  rw[rT,←this]
  rfl
 have wB:Holds id W1 b 0 (lay F (i*3) news):=by rw[oX];exact holds_putRow id _ b 0 F _ (holds_ahead id w 1 b 0 F hH) (Lib.lay_size _ _ _)
 have JM:(storeCells ⟨b,0+(n-1)*3,none⟩ ky 0).run Tryz.prog W1=.ok () (W1.setCells b (0+(n-1)*3) ky):=by
  have:=run_storeCells_cells (P:=Tryz.prog) b (0+(n-1)*3) ky 0 W1 (fun j hj=>by
   have hj:j<3:=hj
   have:=wB ((n-1)*3+j) (by rw[Lib.lay_size];omega)
   rw[show 0+(n-1)*3+0+j=0+((n-1)*3+j) by omega,this.1];rfl) (fun j hj=>by
   have hj:j<3:=hj
   have:=wB ((n-1)*3+j) (by rw[Lib.lay_size];omega)
   rw[show 0+(n-1)*3+0+j=0+((n-1)*3+j) by omega];exact this.2) (fun v hv=>by
   simp only[Av,LZ,or_false]at hv
   rcases hv with rfl | rfl | rfl<;>rfl)
  exact this
 have hcl:∀ty c,(Builtin.clear_ #[179] ty #[.slice (some ⟨b,(n-1)*3,none⟩) 1 c]).run Tryz.prog W1=.ok (.tuple #[]) (W1.setCells b (0+(n-1)*3) ky):=fun ty c=>by
  have hv:=Tryz.zeroValue207
  rw[Bk]at JM⊢
  have hz:(Builtin.zeroCells (Value.agg #[Value.string { data:=#[] },Value.bool false,Value.slice none 0 0]).cells 1).toList=ky:=by kernel_rfl
  simp[Builtin.clear_,run_underlying Tryz.underlying179,hv,hz,JM]
 have Abx:∀ty,(Builtin.clear_ #[179] ty #[.slice (some ⟨b,(i+(n-(i+1)))*3,none⟩) (n-(i+(n-(i+1)))) (cap-(i+(n-(i+1))))]).run Tryz.prog W1=.ok (.tuple #[]) (W1.setCells b (0+(n-1)*3) ky):=fun ty=>by
  have e1:i+(n-(i+1))=n-1:=by omega
  have e2:n-(n-1)=1:=by omega
  rw[e1,e2];exact hcl ty _
 have X:Aside (W1=putRow id (Sort.ahead w 1) b 0 (lay F (i*3) news)):=oX
 have hW:Hid (W1=w.drew.setCells b (0+i*3) news):=rT
 have Y:Aside (news=F.toList.drop ((i+1)*3)):=Jd
 have Z:Aside (news.length=(n-(i+1))*3):=CJ
 have sf:i≤cap:=by omega
 have hjc:i+1≤cap:=by omega
 have mixed:=Go.Eng.hm
 have hb1:(0:Int)≤(i:Int)+1:=by omega
 have UW:(i:Int)+1≤(n:Int):=by omega
 clear rT oX wB hH Fy Jd CJ JM hcl
 go_enter Tryz.func229,Tryz.ntmps229
 go_wp2_with fail
 go_region_law_o (refine step_append_room rfl (.tmp 22) (.tmp 25) 179 rfl 207 i0 3 Tryz.underlying179 ig pv b 0 i cap (by simp[Act.eval,Act.put]) A (n-(i+1)) (cap-(i+1)) news (by simp[Act.eval,Act.put]) s1.out dq.out s2.out (by omega) s3.out ?_;rw[←hW.out])
 go_wp2
 go_ret
 refine⟨by rw[show i+(n-(i+1))=n-1 by omega];rfl,?_⟩
 rw[X.out]
 have e1:=Y.out
 have e2:=Z.out
 rw[←e1]
 have:=putRow_setCells id (Sort.ahead w 1) b 0 ky (lay F (i*3) news) ((n-1)*3) (by rw[Lib.lay_size];show _+3≤_;omega)
 rw[J9,Bk]at this
 exact this
abbrev Va:List AV:=[Go.Eng.vs ⟨#[]⟩,vb false,.v (.slice none 0 0)]
theorem vY(l:List Tm)(i:Nat)(hi:i<l.length) :
  Bm Tryz.prog 229 [.msl 1000 l.length,vi i,vi ((i:Int)+1)] (Aq [(1000,.arr 3 (l.map AL))] Aa) fun r h'=>r=.msl 2000 (l.length-1)∧h'=Aq [(1000,.dead),(2000,.arr 3 ((l.eraseIdx i).map AL))] Aa:=by
 have hE:Gs Tryz.prog 229:=fp 229 Tryz.func229 (by kernel_rfl) rfl
 have CJ:(l.eraseIdx i).length=l.length-1:=List.length_eraseIdx_of_lt hi
 have HB:=Ve (P:=Tryz.prog) (f:=229) (es:=l.map AL) (sz:=3) (rest:=[.int .i64 i,.int .i64 ((i:Int)+1)]) (n':=l.length-1) (Q:=fun FW=>FW=(l.eraseIdx i).map AL++[Va]) hE (fun e=>by
  rw[DC]at e;subst e;simp at hi) (by rw[Bh];omega) ?_
 ·rw[Bh]at HB
  refine⟨hE,fun g w vals q1 q2 q3=>(HB.2 g w vals q1 q2 q3).mono fun _ _ ⟨v,r,h',g',e1,⟨e2,FW,p1,p2⟩,rest⟩=>⟨v,r,h',g',e1,⟨e2,by rw[p2,p1,Ef (by rw[Bh,CJ];exact Al _),AJ (by rw[Bh,CJ];exact Al _)]⟩,rest⟩⟩
 ·intro g w b cap F hr hF hH hb hc
  rw[Bh]at hF hc⊢
  have hu:∀e∈l.map AL,e.length=3:=fun e he=>by
   obtain⟨t,_,rfl⟩:=Ar.1 he;rfl
  refine(gx w b cap i l.length F hF hi hc hH hr.2.1).mono ?_
  rintro e w' ⟨rfl,rfl⟩
  refine⟨rfl,_,_,1,#[],?_,rfl,?_,fun cs hcs=>?_,fun g w hr=>?_,rfl⟩
  ·rw[Lib.lay_size,Lib.lay_size]
  ·rw[Ad,Bh,CJ,Am];omega
  ·rcases A6.1 hcs with h | h
   ·obtain⟨t,_,rfl⟩:=Ar.1 h;rfl
   ·rw[As.1 h];rfl
  ·rw[pH F i l.length hF hi ky rfl,List.eraseIdx_eq_take_drop_succ,CU,AH,CU,JE,List.map_drop,←Lv _ i hu,←Pi _ (i+1) hu]
   refine CP.append (CP.append (hr.take _) (hr.drop _)) ?_
   exact Nk g w FL ky fun x hx=>by
    simp only[Av,LZ,or_false]at hx
    rcases hx with rfl | rfl | rfl<;>rfl
end Go.Eng
namespace Go.Eng
open Go.Proofs
theorem rr(l:List Tm)(hl:Co l)(DL:l≠[]):Bm Tryz.prog 230 [sl AL l] (Aq [] Aa) fun r h'=>r=.msl 2000 l.length∧h'=Aq [(2000,.arr 3 (l.map AL))] Aa:=by
 refine Ct (MZ (pla [(5,3)] [])) [(5,2000)] rfl CY hm rfl Tryz.func230 (by kernel_rfl) rfl (Nz rfl) (by kernel_rfl) rfl ?_;have F8:CT 3 (l.map AL)∧([]:List (List AV)).length=0∧(([]:List (List AV)).length+(l.map AL).length)*48≤140737488355328∧([]:List (List AV)).length+(l.map AL).length≤9223372036854775807:=by
  refine⟨Ea (enc:=AL) (n:=3) (fun _=>rfl) l,rfl,?_,?_⟩<;>simp only[Ay,Lm]<;>unfold Co at hl<;>omega
 refine Yi ?_ ?_
 ·intro _;refine Yi F8 ?_;have e1:AV.msl 2000 (([]:List (List AV)).length+(l.map AL).length)=.msl 2000 l.length:=by simp
  refine Xi (.msl 2000 (([]:List (List AV)).length+(l.map AL).length)) (Yi (.refl _) (Yi e1 ?_))
  rfl
 ·intro h;have h:l.map AL=[]:=h;exact absurd (DC.1 h) DL
theorem oF(x:Tm)(p:ByteArray):PC 228 [.agg (AL x),.cptr [vs p]] (vb (decide (x.path=p))):=by
 refine Ps E8 Tryz.func228 rfl (Nz rfl) ?_;refine Yi ?_ ?_
 ·intro h;have h:x.path=p:=h;rw[At h];exact .refl _
 ·intro h;have h:¬x.path=p:=h;rw[Aj h];exact .refl _
theorem ND{p:ByteArray}:∀{c:List Tm} {i:Nat},(EJ c).Nodup→∀(hi:i<c.length),c[i].path=p→c.eraseIdx i=F6 c p
 |t::c,0,hn,_,h=>by
  have h:t.path=p:=h;unfold EJ at hn;rw[AS,Db]at hn;unfold F6;rw[ED,Ao (by simp[h])];show c=_;rw[List.filter_eq_self.2 fun u hu=>by
   have:u.path≠p:=fun e=>hn.1 (h▸e▸Ar.2 ⟨u,hu,rfl⟩)
   simp[this]]
 |t::c,i+1,hn,hi,h=>by
  have hi:i<c.length:=by simpa using hi
  have h:c[i].path=p:=h;unfold EJ at hn;rw[AS,Db]at hn
  have:t.path≠p:=fun e=>hn.1 (by rw[e,←h];exact Ar.2 ⟨_,Ak hi,rfl⟩)
  have ih:=ND hn.2 hi h;unfold F6 at ih⊢;rw[List.eraseIdx_cons_succ,ED,Ax (by simp[this]),ih]
theorem Qp{l c:List Tm}(hl:Co l)(h:C3 l=some c):Co c:=by
 have h1:=Oj l l.length (Al _);rw[Dp]at h1;have h2:c=(Fd l).filter fun t=>!GT t:=by
  unfold C3 at h;split at h
  ·cases h
  ·exact(BA h).symm
 have h3:c.length≤(Fd l).length:=by rw[h2];exact BB _ _
 have h4:(Fd l).length=(Dh l).length:=by
  have:=(List.perm_ext_iff_of_nodup (H9 (H7 l)) (H9 (Ih (EB l)))).2 (Jy l)
  exact this.length_eq.symm
 unfold Co at hl⊢;omega
abbrev ma:AV:=.tup [.agg Va,.v (.slice none 0 0),vb false]
abbrev nM:Sj:=⟨[3],[],[],[],[],[],[],[],[(30,0),(34,1)],[],[3]⟩
theorem fX(l:List Tm)(p:ByteArray)(hl:Co l)(hs:∀t∈l,Co t.set)(hn:FF l p=none):PC 203 [sl AL l,vs p] ma:=by
 have hc:=t7 l hl hs;unfold FF at hn;cases e:C3 l with
 |none =>
  have e1:G2 l=.tup [sl AL [],vb false]:=by unfold G2 QJ;rw[e];rfl
  rw[e1]at hc;have hi:=kQ (EZ.ptr [vs p]) [] (fun x=>decide (x.path=p)) (fun x _=>oF x p) (by simp);refine Ps nM Tryz.func203 rfl (Nz rfl) ?_;refine Xi .pure (Xi _ (Yi (hc) ?_));refine Xi .pure (Xi _ (Yi (hi) ?_));refine Xi ⟨[(4,.ref 4 0),(7,sl AL []),(8,vb false),(9,vi (-1))],[(4,.cells Va)],Aa⟩ (Yi ⟨Z4,Z1,Fh,Tv⟩ ?_)
  refine Yi (Nz rfl) (Yi (Nz rfl) ?_);exact .refl _
 |some c =>
  rw[e]at hn;have hn:(match Dy c p with | none=>none | some t=>some (t,F6 c p))=none:=hn;have sc:Dy c p=none:=by
   cases h:Dy c p with
   |none=>rfl
   |some t=>rw[h]at hn;cases hn
  have e1:G2 l=.tup [sl AL c,vb true]:=by unfold G2 QJ;rw[e];rfl
  rw[e1]at hc;have r9:=Qp hl e;have hi:=kQ (EZ.ptr [vs p]) c (fun x=>decide (x.path=p)) (fun x _=>oF x p) (by unfold Co at r9;omega);have hid:Iw (fun x:Tm=>decide (x.path=p)) c 0=-1:=by
   rcases Pt (p:=fun x:Tm=>decide (x.path=p)) c 0 with ⟨h1,_⟩ | ⟨i,x,_,_,h3⟩
   ·exact h1
   ·unfold Dy at sc;rw[h3]at sc;cases sc
  rw[hid]at hi;refine Ps nM Tryz.func203 rfl (Nz rfl) ?_;refine Xi .pure (Xi _ (Yi (hc) ?_));refine Xi .pure (Xi _ (Yi (hi) ?_));refine Xi ⟨[(4,.ref 4 0),(7,sl AL c),(8,vb true),(9,vi (-1))],[(4,.cells Va)],Aa⟩ (Yi ⟨Z4,Z1,Fh,Tv⟩ ?_)
  refine Yi ?_ ?_
  ·intro _;refine Yi (Nz rfl) (Yi (Nz rfl) ?_);exact .refl _
  ·intro h;exact absurd (show(-1:Int)<0 by decide) h
abbrev pN:Sj:=⟨[3],[],[],[],[],[],[],[],[(30,0),(34,2)],[],[]⟩
theorem fY(l:List Tm)(p:ByteArray)(hl:Co l)(hs:∀t∈l,Co t.set){t:Tm}{r:List Tm}(hn:FF l p=some (t,r)) :
  Bm Tryz.prog 203 [sl AL l,vs p] (Aq [] Aa) fun v h'=>v=.tup [.agg (AL t),.msl 2000 r.length,vb true]∧h'=Aq [(2000,.arr 3 (r.map AL))] Aa:=by
 have hc:=t7 l hl hs;unfold FF at hn;cases e:C3 l with
 |none=>rw[e]at hn;cases hn
 |some c =>
  rw[e]at hn;have hn:(match Dy c p with | none=>none | some t=>some (t,F6 c p))=some (t,r):=hn;have hJ:Dy c p=some t∧F6 c p=r:=by
   cases h:Dy c p with
   |none=>rw[h]at hn;cases hn
   |some t=>rw[h]at hn;cases hn;exact Zr
  have e1:G2 l=.tup [sl AL c,vb true]:=by unfold G2 QJ;rw[e];rfl
  rw[e1]at hc;have r9:=Qp hl e;have hi:=kQ (EZ.ptr [vs p]) c (fun x=>decide (x.path=p)) (fun x _=>oF x p) (by unfold Co at r9;omega);rcases Pt (p:=fun x:Tm=>decide (x.path=p)) c 0 with ⟨_,h2⟩ | ⟨i,x,h1,h2,h3⟩
  ·unfold Dy at hJ;rw[h2]at hJ;cases hJ.1
  have hx:x=t:=by
   have:=hJ.1
   unfold Dy at this;rw[h3]at this;exact BA this
  subst hx;rw[h1,Fl]at hi;obtain⟨sf,hie⟩:=Aw.1 h2;have zD:c.eraseIdx i=r:=by
   rw[←hJ.2];exact ND (Ih (E2 e)) sf (by rw[hie];exact Hq hJ.1)
  have un:c.length-1=r.length:=by rw[←zD,List.length_eraseIdx_of_lt sf]
  have DL:c≠[]:=fun h=>by subst h;simp at sf
  have AbC:c.length≤1073741824:=r9;refine Ct (MZ pN) [(13400,2000)] rfl CY hm rfl Tryz.func203 (by kernel_rfl) rfl (Nz rfl) (by kernel_rfl) rfl ?_;refine Xi .pure (Xi _ (Yi (hc) ?_));refine Xi .pure (Xi _ (Yi (hi) ?_));refine Yi ?_ ?_
  ·intro h;have h:(i:Int)<0:=h;omega
  intro _;have hg:(c.map AL)[((i:Nat):Int).toNat]?=some (AL x):=by rw[Ba,AK,h2];rfl
  refine Xi (AL x) (Yi (Yi (Nn i) hg) (Yi rfl (Yi (Nz rfl) ?_)));refine Xi c.length (Xi 3 (Xi (c.map AL) (Yi rfl (Yi (rr c r9 DL) ?_))));refine Yi (Ii i (by omega)) ?_;refine Xi (c.length-1) (Xi ((c.eraseIdx i).map AL) (Yi rfl (Yi (vY c i sf) ?_)));refine Yi (Nz rfl) ?_;refine Yi (by kernel_rfl) ?_;refine Yi (Nz rfl) ?_;have e2:AV.tup [.agg (AL x),.msl 2000 (c.length-1),vb true]=.tup [.agg (AL x),.msl 2000 r.length,vb true]:=by rw[un]
  have e3:Aq [(2000,HO.arr 3 ((c.eraseIdx i).map AL))] Aa=Aq [(2000,.arr 3 (r.map AL))] Aa:=by rw[zD]
  exact Xi _ (Yi (.refl _) (Yi e2 e3))
abbrev bW:Sj:=⟨[],[],[],[],[],[],[],[],[],[(24,9),(30,12)],[2,3,5,6]⟩
abbrev pU(a b:List Tm)(p:ByteArray):AV:=.tup [sl AL (BH a b p).1,vi (BH a b p).2]
theorem Wb{l r:List Tm}{p:ByteArray}{t:Tm}(h:FF l p=some (t,r)):∃c,C3 l=some c∧t∈c∧r=F6 c p:=by
 unfold FF at h;cases e:C3 l with
 |none=>rw[e]at h;cases h
 |some c =>
  rw[e]at h;have h:(match Dy c p with | none=>none | some t=>some (t,F6 c p))=some (t,r):=h;cases e2:Dy c p with
  |none=>rw[e2]at h;cases h
  |some u=>rw[e2]at h;cases h;exact⟨c,rfl,Fs e2,rfl⟩
theorem Wc{l r:List Tm}{p:ByteArray}{t:Tm}(hl:Co l)(h:FF l p=some (t,r)):Co t.set∧Co r∧∀u∈r,Co u.set:=by
 obtain⟨c,h1,h2,rfl⟩:=Wb h;have hs:=E2 h1;refine⟨Pd (hs.canon t h2),?_,fun u hu=>Pd (hs.canon u (Bo.1 hu).1)⟩
 have:=Qp hl h1
 have h3:(F6 c p).length≤c.length:=BB _ _;unfold Co at *;omega
theorem gc{l c:List Tm}(h:C3 l=some c):c.length≤l.length:=by
 have h1:=Oj l l.length (Al _);rw[Dp]at h1;have h2:c=(Fd l).filter fun t=>!GT t:=by
  unfold C3 at h;split at h
  ·cases h
  ·exact(BA h).symm
 have h3:c.length≤(Fd l).length:=by rw[h2];exact BB _ _
 have h4:(Fd l).length=(Dh l).length:=by
  have:=(List.perm_ext_iff_of_nodup (H9 (H7 l)) (H9 (Ih (EB l)))).2 (Jy l)
  exact this.length_eq.symm
 omega
theorem Wd{l r:List Tm}{p:ByteArray}{t:Tm}(h:FF l p=some (t,r)):r.length≤l.length:=by
 obtain⟨c,h1,h2,rfl⟩:=Wb h;have h3:(F6 c p).length≤c.length:=BB _ _
 have:=gc h1
 omega
theorem cY(a b:Bg):Co (PU a b):=by
 unfold Co;have:=Iu (Zi a b);omega
theorem vM(a b:List Tm)(p:ByteArray)(ha:a.length≤500000000)(hb:b.length≤500000000)(zY:∀t∈a,Co t.set)(lH:∀t∈b,Co t.set):PC 161 [sl AL a,sl AL b,vs p] (pU a b p):=by
 have r8:Co a:=by unfold Co;omega
 have o6:Co b:=by unfold Co;omega
 have er:∀{l:List Tm} {e:Int},BH a b p=(l,e)→pU a b p=.tup [sl AL l,vi e]:=fun h=>by unfold pU;rw[h]
 have e0:Hm (.tup [.v (.slice none 0 0),vi 1]) (.tup [.slice .none [],vi 1]):=Hm.tup ⟨.nil,.refl _,trivial⟩;cases h1:FF a p with
 |none =>
  have hr:BH a b p=([],1):=by unfold BH;rw[h1]
  have c1:=fX a p r8 zY h1;cases h2:FF b p with
  |none =>
   have c2:=fX b p o6 lH h2;refine Ps bW Tryz.func161 rfl (Nz rfl) ?_;refine Xi .pure (Xi _ (Yi (c1) ?_));refine Yi (Nz rfl) ?_;refine Xi ⟨[(1,sl AL b),(2,vs p),(8,.ref 8 0),(9,.v (.slice none 0 0)),(10,vb false)],[(8,.cells Va)],Aa⟩ (Yi ⟨Z5,Z1,Fh,Tv⟩ ?_)
   refine Xi .pure (Xi _ (Yi (c2) ?_));refine Yi (Nz rfl) ?_;refine Xi ⟨[(8,.ref 8 0),(9,.v (.slice none 0 0)),(10,vb false),(11,.ref 11 0),(12,.v (.slice none 0 0)),(13,vb false)],[(8,.cells Va),(11,.cells Va)],Aa⟩ (Yi ⟨Z6,Z2,Fh,Tv⟩ ?_)
   exact e0.trans (.of_eq (er hr).symm)
  |some q2 =>
   obtain⟨t2,r2⟩:=q2;have c2:=fY b p o6 lH h2;refine Ps bW Tryz.func161 rfl (Nz rfl) ?_;refine Xi .pure (Xi _ (Yi (c1) ?_));refine Yi (Nz rfl) ?_;refine Xi ⟨[(1,sl AL b),(2,vs p),(8,.ref 8 0),(9,.v (.slice none 0 0)),(10,vb false)],[(8,.cells Va)],Aa⟩ (Yi ⟨Z5,Z1,Fh,Tv⟩ ?_)
   have z2:r2.length=(r2.map AL).length:=by rw[Lm]
   refine Xi (.gen [] 1) (Yi rfl (c2.imp ?_));intro v2 g2 q2;have yc:=q2.1;have yd:=q2.2;subst yc;subst yd;refine Yi (Nz rfl) ?_;refine Xi ⟨[(8,.ref 8 0),(9,.v (.slice none 0 0)),(10,vb false),(11,.ref 11 0),(12,.msl 12600 r2.length),(13,vb true)],[(8,.cells Va),(11,.cells (AL t2)),(12600,.arr 3 (r2.map AL))],Aa⟩ (Yi ⟨Z6,Z3,Fh,Tv⟩ ?_)
   refine Yi z2 ?_;exact e0.trans (.of_eq (er hr).symm)
 |some q1 =>
  obtain⟨t1,r1⟩:=q1;have c1:=fY a p r8 zY h1;obtain⟨f1,f2,f3⟩:=Wc r8 h1;cases h2:FF b p with
  |none =>
   have hr:BH a b p=([],1):=by unfold BH;rw[h1,h2]
   have c2:=fX b p o6 lH h2;refine Ps bW Tryz.func161 rfl (Nz rfl) ?_;refine Xi (.gen [] 1) (Yi rfl (c1.imp ?_));intro v1 g1 q1;have x7:=q1.1;have mz:=q1.2;subst x7;subst mz;refine Yi (Nz rfl) ?_;refine Xi ⟨[(1,sl AL b),(2,vs p),(8,.ref 8 0),(9,.msl 11900 r1.length),(10,vb true)],[(8,.cells (AL t1)),(11900,.arr 3 (r1.map AL))],Aa⟩ (Yi ⟨Z5,Z2,Fh,Tv⟩ ?_)
   have z1:r1.length=(r1.map AL).length:=by rw[Lm]
   refine Yi z1 ?_;refine Xi .pure (Xi _ (Yi (c2) ?_));refine Yi (Nz rfl) ?_;refine Xi ⟨[(8,.ref 8 0),(9,.slice (.id 11900 3) (r1.map AL)),(10,vb true),(11,.ref 11 0),(12,.v (.slice none 0 0)),(13,vb false)],[(8,.cells (AL t1)),(11,.cells Va),(11900,.tok 3 (r1.map AL).length)],Aa⟩ (Yi ⟨Z6,Z3,Fh,Tv⟩ ?_)
   exact e0.trans (.of_eq (er hr).symm)
  |some q2 =>
   obtain⟨t2,r2⟩:=q2;have c2:=fY b p o6 lH h2;obtain⟨g1,g2,g3⟩:=Wc o6 h2;refine Ps bW Tryz.func161 rfl (Nz rfl) ?_;refine Xi (.gen [] 1) (Yi rfl (c1.imp ?_));intro v1 g1 q1;have x7:=q1.1;have mz:=q1.2;subst x7;subst mz;refine Yi (Nz rfl) ?_;refine Xi ⟨[(1,sl AL b),(2,vs p),(8,.ref 8 0),(9,.msl 11900 r1.length),(10,vb true)],[(8,.cells (AL t1)),(11900,.arr 3 (r1.map AL))],Aa⟩ (Yi ⟨Z5,Z2,Fh,Tv⟩ ?_)
   have z1:r1.length=(r1.map AL).length:=by rw[Lm]
   have z2:r2.length=(r2.map AL).length:=by rw[Lm]
   refine Yi z1 ?_;refine Xi (.gen [] 1) (Yi rfl (c2.imp ?_));intro v2 g2 q2;have yc:=q2.1;have yd:=q2.2;subst yc;subst yd;refine Yi (Nz rfl) ?_;refine Xi ⟨[(8,.ref 8 0),(9,.slice (.id 11900 3) (r1.map AL)),(10,vb true),(11,.ref 11 0),(12,.msl 12600 r2.length),(13,vb true)],[(8,.cells (AL t1)),(11,.cells (AL t2)),(11900,.tok 3 (r1.map AL).length),(12600,.arr 3 (r2.map AL))],Aa⟩ (Yi ⟨Z6,Z4,Fh,Tv⟩ ?_)
   refine Yi z2 ?_;refine Xi ⟨[(8,.ref 8 0),(9,.slice (.id 11900 3) (r1.map AL)),(11,.ref 11 0),(12,.slice (.id 12600 3) (r2.map AL))],[(8,.cells (AL t1)),(11,.cells (AL t2)),(11900,.tok 3 (r1.map AL).length),(12600,.tok 3 (r2.map AL).length)],Aa⟩ (Yi ⟨Z4,Z4,Fh,Tv⟩ ?_)
   have l1:=Wd h1;have l2:=Wd h2;have b1:CT 3 (r2.map AL)∧(r1.map AL).length=(r1.map AL).length∧((r1.map AL).length+(r2.map AL).length)*48≤140737488355328∧(r1.map AL).length+(r2.map AL).length≤9223372036854775807 :=
    ⟨Ea (enc:=AL) (n:=3) (fun _=>rfl) r2,rfl,by rw[Lm,Lm];omega,by rw[Lm,Lm];omega⟩
   refine Yi b1 ?_;refine Yi (Nz rfl) (Yi (Nz rfl) ?_);refine Xi _ (Yi (vR t1 t2 f1 g1) ?_);have b2:CT 3 [AL (Dv t1 t2)]∧(r1.map AL++r2.map AL).length=(r1.map AL).length+(r2.map AL).length∧((r1.map AL++r2.map AL).length+[AL (Dv t1 t2)].length)*48≤140737488355328∧(r1.map AL++r2.map AL).length+[AL (Dv t1 t2)].length≤9223372036854775807 :=
    ⟨⟨rfl,trivial⟩,by rw[Ad],by rw[Ad,Lm,Lm,Am];omega,by rw[Ad,Lm,Lm,Am];omega⟩
   refine Yi b2 ?_;have wO:=t7 (r1++r2++[Dv t1 t2]) (by unfold Co;simp only[Ad,Am];omega) (fun u hu=>by
    rcases A6.1 hu with hu | hu
    ·rcases A6.1 hu with hu | hu
     ·exact f3 u hu
     ·exact g3 u hu
    ·rw[As.1 hu];exact cY _ _)
   have e1:sl AL (r1++r2++[Dv t1 t2])=.slice .none (r1.map AL++r2.map AL++[AL (Dv t1 t2)]):=by simp
   have zy:PC 204 [.slice .none (r1.map AL++r2.map AL++[AL (Dv t1 t2)])] (G2 (r1++r2++[Dv t1 t2])):=e1▸wO;cases qo:C3 (r1++r2++[Dv t1 t2])with
   |none =>
    have hr:BH a b p=([],8):=by unfold BH;rw[h1,h2];dsimp only;rw[qo]
    have ec:G2 (r1++r2++[Dv t1 t2])=.tup [sl AL [],vb false]:=by unfold G2 QJ;rw[qo];rfl
    have hc:PC 204 [.slice .none (r1.map AL++r2.map AL++[AL (Dv t1 t2)])] (.tup [sl AL [],vb false]):=ec▸zy;have e8:Hm (.tup [.v (.slice none 0 0),vi 8]) (.tup [.slice .none [],vi 8]):=Hm.tup ⟨.nil,.refl _,trivial⟩;refine Xi _ (Yi (hc) ?_);refine Yi (by kernel_rfl) ?_;refine Xi ⟨[(14,sl AL []),(15,vb false)],[],Aa⟩ (Yi ⟨Z2,Tv,Fh,Tv⟩ ?_)
    exact e8.trans (.of_eq (er hr).symm)
   |some o =>
    have hr:BH a b p=(o,0):=by unfold BH;rw[h1,h2];dsimp only;rw[qo]
    have ec:G2 (r1++r2++[Dv t1 t2])=.tup [sl AL o,vb true]:=by unfold G2 QJ;rw[qo];rfl
    have hc:PC 204 [.slice .none (r1.map AL++r2.map AL++[AL (Dv t1 t2)])] (.tup [sl AL o,vb true]):=ec▸zy;refine Xi _ (Yi (hc) ?_);refine Yi (by kernel_rfl) ?_;refine Xi ⟨[(14,sl AL o),(15,vb true)],[],Aa⟩ (Yi ⟨Z2,Tv,Fh,Tv⟩ ?_)
    exact .of_eq (er hr).symm
def bn(h s:Nat→HO):Nat→Bool
 |0=>true
 |n+1=>(match h (1000+n)with |.free=>true |_=>(match s (1000+n)with |.free=>false |_=>true))&&bn h s n
theorem To{h s:Nat→HO}:∀{n:Nat},bn h s n=true→∀j,j<n→h (1000+j)≠.free→s (1000+j)≠.free
 |n+1,hd,j,hj,hn=>by
  simp only[bn,Ah]at hd;rcases Ch j n with h1 | h1
  ·exact To hd.2 j h1 hn
  ·have:j=n:=by omega
   subst this
   have:=hd.1
   intro e;split at this
   ·rename_i q;exact hn q
   ·rw[e]at this;cases this
theorem AD{h s:Nat→HO}(hd:bn h s 1000=true):∀j,1000≤j→j<2000→h j≠.free→s j≠.free:=fun j h1 h2=>by
 have:=To hd (j-1000) (by omega)
 rw[show 1000+(j-1000)=j by omega]at this;exact this
theorem mw(v:Ver):0≤plc v∧plc v<1000000:=by
 unfold plc;cases h:Cy v with
 |true=>exact JU h
 |false=>simp
abbrev nS(t:List Tm):Prop:=t.length≤500000000∧∀u∈t,Co u.set
theorem ri(s:ByteArray):PC 81 [vs s] (vb false):=by
 refine Ps E8 Tryz.func81 rfl (Nz rfl) ?_;refine Yi ?_ ?_
 ·intro h;exact absurd rfl (show s≠s from h)
 ·intro _;exact .refl _
theorem rn(z:Int):PC 134 [vi z] (vb false):=by
 refine Ps E8 Tryz.func134 rfl (Nz rfl) ?_;refine Yi ?_ ?_
 ·intro h;exact absurd rfl (show z≠z from h)
 ·intro _;exact .refl _
theorem kP(a b:ByteArray):PC 53 [vs a,vs b] (vi (Gd a b)):=by
 refine Ps E8 Tryz.func53 rfl (Nz rfl) ?_;refine Xi .pure (Xi _ (Yi (ri a) ?_));refine Xi .pure (Xi _ (Yi (ri b) ?_));refine Yi ?_ ?_
 ·intro h;have h:Op.bytesLess a.toList b.toList=true:=h;exact .of_eq (Ab vi (show(-1:Int)=Gd a b by unfold Gd;rw[Ax (by rw[E0];exact h)]))
 ·intro h;have h:¬Op.bytesLess a.toList b.toList=true:=h;refine Yi ?_ ?_
  ·intro h2;have h2:Op.bytesLess b.toList a.toList=true:=h2;exact .of_eq (Ab vi (show(1:Int)=Gd a b by unfold Gd;rw[Ao (by rw[E0];exact h),Ax (by rw[E0];exact h2)]))
  ·intro h2;have h2:¬Op.bytesLess b.toList a.toList=true:=h2;exact .of_eq (Ab vi (show(0:Int)=Gd a b by unfold Gd;rw[Ao (by rw[E0];exact h),Ao (by rw[E0];exact h2)]))
theorem oy(a b:Int):PC 109 [vi a,vi b] (vi (Fa a b)):=by
 refine Ps E8 Tryz.func109 rfl (Nz rfl) ?_;refine Xi .pure (Xi _ (Yi (rn a) ?_));refine Xi .pure (Xi _ (Yi (rn b) ?_));refine Yi ?_ ?_
 ·intro h;have h:a<b:=h;exact .of_eq (Ab vi (show(-1:Int)=Fa a b by unfold Fa;rw[Ax h]))
 ·intro h;have h:¬a<b:=h;refine Yi ?_ ?_
  ·intro h2;have h2:b<a:=h2;exact .of_eq (Ab vi (show(1:Int)=Fa a b by unfold Fa;rw[Ao h,Ax h2]))
  ·intro h2;have h2:¬b<a:=h2;exact .of_eq (Ab vi (show(0:Int)=Fa a b by unfold Fa;rw[Ao h,Ao h2]))
theorem rc(a b:Int):PC 83 [.slice .none [[vi a],[vi b]]] (vi (if a≠0 then a else b)):=by
 refine Ps E8 Tryz.func83 rfl (Nz rfl) ?_;refine Xi {i:Nat // i≤2∧(0<i→a=0)∧(1<i→b=0)} (Xi (fun i=>⟨[(3,vi 0),(6,.slice .none [[vi a],[vi b]]),(7,vi 2),(8,vi i.1)],[],Aa⟩) (Xi (fun i=>2-i.1) (Yi (Xi ⟨0,by omega,by omega,by omega⟩ ?_) ?_)))
 ·exact⟨Z4,Tv,Fh,Tv⟩
 intro⟨i,h1,h2,h3⟩;refine Yi ?_ ?_
 ·intro h;have h:(i:Int)<2:=h
  match i,h1,h2,h3,h with
  |0,h1,h2,h3,h =>
   refine Xi [vi a] (Yi (Yi (AZ _) rfl) (Yi rfl ?_));refine Yi ?_ ?_
   ·intro h4;have h4:a≠0:=h4;exact .of_eq (Ab vi (Ax h4).symm)
   ·intro h4;have h4:¬a≠0:=h4;refine Yi (Ii 0 (by omega)) ?_;refine Xi ⟨1,by omega,fun _=>by omega,fun q=>absurd q (by decide)⟩ ?_;exact⟨by show 2-1<2-0;decide,Z4,Tv,Fh,Tv⟩
  |1,h1,h2,h3,h =>
   have ha:=h2 (by decide);refine Xi [vi b] (Yi (Yi (by show(0:Int)≤1;decide) rfl) (Yi rfl ?_));refine Yi ?_ ?_
   ·intro h4;exact .of_eq (Ab vi (Ao (by omega)).symm)
   ·intro h4;have h4:¬b≠0:=h4;refine Yi (Ii 1 (by omega)) ?_;refine Xi ⟨2,by omega,fun _=>ha,fun q=>by omega⟩ ?_;exact⟨by show 2-2<2-1;decide,Z4,Tv,Fh,Tv⟩
  |i+2,h1,h2,h3,h=>omega
 ·intro h;have h:¬(i:Int)<2:=h;have ha:=h2 (by omega);have hb:=h3 (by omega);exact .of_eq (Ab vi (show(0:Int)=if a≠0 then a else b by rw[Ao (by omega),hb]))
theorem Te(a b:Ver)(i:Nat)(hi:i<3)(h:∀j,j<i→Fa (part a j) (part b j)=0)(hn:Fa (part a i) (part b i)≠0):G3 a b=Fa (part a i) (part b i):=by
 unfold G3
 match i,hi,h,hn with
 |0,_,_,hn=>exact Ax hn
 |1,_,h,hn =>
  have h0:Fa a.a b.a=0:=h 0 (by decide);rw[Ao (by omega)];exact Ax hn
 |2,_,h,hn =>
  have h0:Fa a.a b.a=0:=h 0 (by decide);have h1:Fa a.b b.b=0:=h 1 (by decide);rw[Ao (by omega),Ao (by omega)];rfl
theorem gu(a b:Ver)(h:∀j,j<3→Fa (part a j) (part b j)=0):G3 a b=0:=by
 unfold G3;have h0:Fa a.a b.a=0:=h 0 (by decide);have h1:Fa a.b b.b=0:=h 1 (by decide);have h2:Fa a.c b.c=0:=h 2 (by decide);rw[Ao (by omega),Ao (by omega),h2]
theorem rd(a b:Ver):PC 84 [.agg (JH a),.agg (JH b)] (vi (G3 a b)):=by
 refine Ps E8 Tryz.func84 rfl (Nz rfl) ?_;refine Yi (Nz rfl) ?_;refine Xi _ (Yi (oq a) ?_);refine Yi (Nz rfl) ?_;refine Xi _ (Yi (oq b) ?_);refine Yi (Nz rfl) (Yi (Nz rfl) ?_);refine Yi (by kernel_rfl) ?_;refine Xi {i:Nat // i≤3∧∀j,j<i→Fa (part a j) (part b j)=0} (Xi (fun i=>⟨[(5,.ref 5 0),(6,.ref 6 0),(13,vi i.1)],[(5,.cells (JH a)),(6,.cells (JH b))],Aa⟩) (Xi (fun i=>3-i.1) (Yi (Xi ⟨0,by omega,fun j h=>by omega⟩ ?_) ?_)))
 ·exact⟨Z3,Z2,Fh,Tv⟩
 intro⟨i,h1,h2⟩;refine Yi ?_ ?_
 ·intro h;have h:(i:Int)<3:=h;have next:Fa (part a i) (part b i)=0→∀j,j<i+1→Fa (part a j) (part b j)=0:=fun hz j hj=>by
   rcases Ch j i with q | q
   ·exact h2 j q
   ·have:j=i:=by omega
    subst this;exact hz
  match i,h1,h2,h,next with
  |0,h1,h2,h,next =>
   refine Yi ⟨by show(0:Int)≤0;decide,by show(0:Int)<3;decide⟩ ?_;refine Yi ⟨by show(0:Int)≤0;decide,by show(0:Int)<3;decide⟩ ?_;refine Xi _ (Yi (oy (part a 0) (part b 0)) ?_);refine Yi (by kernel_rfl) ?_;refine Yi ?_ ?_
   ·intro h4;have h4:Fa (part a 0) (part b 0)≠0:=h4;exact .of_eq (Ab vi (Te a b 0 (by decide) h2 h4).symm)
   ·intro h4;have h4:¬Fa (part a 0) (part b 0)≠0:=h4;refine Yi (Ii 0 (by omega)) ?_;refine Xi ⟨1,by omega,next (GC h4)⟩ ?_
    exact⟨by show 3-1<3-0;decide,Z3,Z2,Fh,Tv⟩
  |1,h1,h2,h,next =>
   refine Yi ⟨by show(0:Int)≤1;decide,by show(1:Int)<3;decide⟩ ?_;refine Yi ⟨by show(0:Int)≤1;decide,by show(1:Int)<3;decide⟩ ?_;refine Xi _ (Yi (oy (part a 1) (part b 1)) ?_);refine Yi (by kernel_rfl) ?_;refine Yi ?_ ?_
   ·intro h4;have h4:Fa (part a 1) (part b 1)≠0:=h4;exact .of_eq (Ab vi (Te a b 1 (by decide) h2 h4).symm)
   ·intro h4;have h4:¬Fa (part a 1) (part b 1)≠0:=h4;refine Yi (Ii 1 (by omega)) ?_;refine Xi ⟨2,by omega,next (GC h4)⟩ ?_
    exact⟨by show 3-2<3-1;decide,Z3,Z2,Fh,Tv⟩
  |2,h1,h2,h,next =>
   refine Yi ⟨by show(0:Int)≤2;decide,by show(2:Int)<3;decide⟩ ?_;refine Yi ⟨by show(0:Int)≤2;decide,by show(2:Int)<3;decide⟩ ?_;refine Xi _ (Yi (oy (part a 2) (part b 2)) ?_);refine Yi (by kernel_rfl) ?_;refine Yi ?_ ?_
   ·intro h4;have h4:Fa (part a 2) (part b 2)≠0:=h4;exact .of_eq (Ab vi (Te a b 2 (by decide) h2 h4).symm)
   ·intro h4;have h4:¬Fa (part a 2) (part b 2)≠0:=h4;refine Yi (Ii 2 (by omega)) ?_;refine Xi ⟨3,by omega,next (GC h4)⟩ ?_
    exact⟨by show 3-3<3-2;decide,Z3,Z2,Fh,Tv⟩
  |i+3,h1,h2,h,next=>omega
 ·intro h;have h:¬(i:Int)<3:=h;exact .of_eq (Ab vi (gu a b fun j hj=>h2 j (by omega)).symm)
theorem vl(a b:Rl):PC 68 [.agg (Ai a),.agg (Ai b)] (vi (IQ a b)):=by
 refine Ps E8 Tryz.func68 rfl (Nz rfl) ?_;refine Xi _ (Yi (kP a.path b.path) ?_);refine Yi (Nz rfl) (Yi (Nz rfl) ?_);refine Xi _ (Yi (rd a.ver b.ver) ?_);refine Xi _ (Yi (rc (Gd a.path b.path) (G3 a.ver b.ver)) ?_);refine Yi (by kernel_rfl) ?_;exact .refl _
abbrev E9(s:ByteArray):Prop:=s.size≤1073741824
abbrev NU(q:Rq):Prop:=Co q.set∧E9 q.path
abbrev J4(r:Rl):Prop:=E9 r.path∧∀q∈r.reqs,NU q
abbrev Mz(nm:ByteArray→ByteArray)(p:ByteArray):AV:=match Bi p with
 |some m=>.tup [vs (nm p),vi m,vi 0]
 |none=>.tup [vs ⟨#[]⟩,vi 0,vi 4]
abbrev UN(nm:ByteArray→ByteArray):Prop:=∀p:ByteArray,E9 p→PC 91 [vs p] (Mz nm p)
theorem UN.none{nm:ByteArray→ByteArray}(h:UN nm){p:ByteArray}(hp:E9 p)(e:Bi p=.none):PC 91 [vs p] (.tup [vs ⟨#[]⟩,vi 0,vi 4]):=by
 have:=h p hp;unfold Mz at this;rw[e]at this;exact this
theorem UN.some{nm:ByteArray→ByteArray}(h:UN nm){p:ByteArray}{m:Int}(hp:E9 p)(e:Bi p=.some m):PC 91 [vs p] (.tup [vs (nm p),vi m,vi 0]):=by
 have:=h p hp;unfold Mz at this;rw[e]at this;exact this
theorem ra{nm:ByteArray→ByteArray}(hL:UN nm)(q:Rq)(hq:Co q.set)(hp:E9 q.path):PC 116 [.agg (AN q),.v (.pointer none)] (vi (Gi none q)):=by
 cases UJ:Bi q.path with
 |none =>
  have e:(4:Int)=Gi none q:=by unfold Gi;rw[UJ];rfl
  have hl:=hL.none hp UJ;refine Ps E8 Tryz.func116 rfl (Nz rfl) ?_;refine Xi .pure (Xi _ (Yi (hl) ?_));refine Yi ?_ ?_
  ·intro _;exact .of_eq (Ab vi e)
  ·intro h;exact absurd (show(4:Int)≠0 by decide) h
 |some m =>
  have er:Gi none q=if(q.set.isEmpty||!decide (q.set=canon q.set)||false)=true then 1 else 0:=by unfold Gi;rw[UJ];rfl
  have hl:=hL.some hp UJ;have hc:=XN q.set hq;have he:=re q.set (canon q.set) hq;have Qt:∀{n:Int},n=(q.set.map Ag).length→n=0→q.set.isEmpty=true:=fun h1 h2=>by
   rw[Lm]at h1;rw[Gc];exact Az (by omega)
  have im:¬((q.set.map Ag).length:Int)=0→q.set.isEmpty=false:=fun h=>by
   cases hqs:q.set with
   |nil=>rw[hqs]at h;exact absurd rfl h
   |cons a l=>rfl
  rcases Bt (decide (q.set=canon q.set))with h2 | h2
  ·rw[h2]at he;refine Ps (Iq [2,4]) Tryz.func116 rfl (Nz rfl) ?_;refine Xi .pure (Xi _ (Yi (hl) ?_));refine Xi ⟨[(1,.v (.pointer none)),(2,.ref 2 0),(7,vi 0)],[(2,.cells (AN q))],Aa⟩ (Yi ⟨Z3,Z1,Fh,Tv⟩ ?_)
   refine Yi ?_ ?_
   ·intro h;exact absurd rfl h
   intro _;refine Xi ⟨[(1,.v (.pointer none)),(2,.ref 2 0)],[(2,.cells (AN q))],Aa⟩ (Yi ⟨Z2,Z1,Fh,Tv⟩ ?_)
   refine Yi ?_ ?_
   ·intro h;have h:((q.set.map Ag).length:Int)=0:=h;have e:(1:Int)=Gi none q:=by rw[er,Qt rfl h];rfl
    refine Yi (by kernel_rfl) ?_;exact .of_eq (Ab vi e)
   intro h;have h:¬((q.set.map Ag).length:Int)=0:=h;have hn:=im h;refine Xi _ (Yi (hc) ?_);refine Xi _ (Yi (he) ?_);refine Yi (by kernel_rfl) ?_;have e:(0:Int)=Gi none q:=by rw[er,hn,h2];rfl
   exact .of_eq (Ab vi e)
  ·rw[h2]at he;refine Ps (Iq [2,4]) Tryz.func116 rfl (Nz rfl) ?_;refine Xi .pure (Xi _ (Yi (hl) ?_));refine Xi ⟨[(1,.v (.pointer none)),(2,.ref 2 0),(7,vi 0)],[(2,.cells (AN q))],Aa⟩ (Yi ⟨Z3,Z1,Fh,Tv⟩ ?_)
   refine Yi ?_ ?_
   ·intro h;exact absurd rfl h
   intro _;refine Xi ⟨[(1,.v (.pointer none)),(2,.ref 2 0)],[(2,.cells (AN q))],Aa⟩ (Yi ⟨Z2,Z1,Fh,Tv⟩ ?_)
   refine Yi ?_ ?_
   ·intro h;have h:((q.set.map Ag).length:Int)=0:=h;have e:(1:Int)=Gi none q:=by rw[er,Qt rfl h];rfl
    refine Yi (by kernel_rfl) ?_;exact .of_eq (Ab vi e)
   intro h;have h:¬((q.set.map Ag).length:Int)=0:=h;have hn:=im h;refine Xi _ (Yi (hc) ?_);refine Xi _ (Yi (he) ?_);refine Yi (by kernel_rfl) ?_;have e:(1:Int)=Gi none q:=by rw[er,hn,h2];rfl
   exact .of_eq (Ab vi e)
theorem rb{nm:ByteArray→ByteArray}(hL:UN nm)(q b:Rq)(hq:Co q.set)(hp:E9 q.path):PC 116 [.agg (AN q),.cptr (AN b)] (vi (Gi (some b.path) q)):=by
 cases UJ:Bi q.path with
 |none =>
  have e:(4:Int)=Gi (some b.path) q:=by unfold Gi;rw[UJ];rfl
  have hl:=hL.none hp UJ;refine Ps E8 Tryz.func116 rfl (Nz rfl) ?_;refine Xi .pure (Xi _ (Yi (hl) ?_));refine Yi ?_ ?_
  ·intro _;exact .of_eq (Ab vi e)
  ·intro h;exact absurd (show(4:Int)≠0 by decide) h
 |some m =>
  have er:Gi (some b.path) q=if(q.set.isEmpty||!decide (q.set=canon q.set)||!EM b.path q.path)=true then 1 else 0:=by unfold Gi;rw[UJ];rfl
  have hl:=hL.some hp UJ;have hc:=XN q.set hq;have he:=re q.set (canon q.set) hq;have Qt:∀{n:Int},n=(q.set.map Ag).length→n=0→q.set.isEmpty=true:=fun h1 h2=>by
   rw[Lm]at h1;rw[Gc];exact Az (by omega)
  have im:¬((q.set.map Ag).length:Int)=0→q.set.isEmpty=false:=fun h=>by
   cases hqs:q.set with
   |nil=>rw[hqs]at h;exact absurd rfl h
   |cons a l=>rfl
  rcases Bt (decide (q.set=canon q.set))with h2 | h2
  ·rw[h2]at he;refine Ps (Iq [2,4]) Tryz.func116 rfl (Nz rfl) ?_;refine Xi .pure (Xi _ (Yi (hl) ?_));refine Xi ⟨[(1,.cptr (AN b)),(2,.ref 2 0),(7,vi 0)],[(2,.cells (AN q))],Aa⟩ (Yi ⟨Z3,Z1,Fh,Tv⟩ ?_)
   refine Yi ?_ ?_
   ·intro h;exact absurd rfl h
   intro _;refine Xi ⟨[(1,.cptr (AN b)),(2,.ref 2 0)],[(2,.cells (AN q))],Aa⟩ (Yi ⟨Z2,Z1,Fh,Tv⟩ ?_)
   refine Yi ?_ ?_
   ·intro h;have h:((q.set.map Ag).length:Int)=0:=h;have e:(1:Int)=Gi (some b.path) q:=by rw[er,Qt rfl h];rfl
    refine Yi (by kernel_rfl) ?_;exact .of_eq (Ab vi e)
   intro h;have h:¬((q.set.map Ag).length:Int)=0:=h;have hn:=im h;refine Xi _ (Yi (hc) ?_);refine Xi _ (Yi (he) ?_);refine Yi ?_ ?_
   ·intro h3;have h3:Op.bytesLess b.path.toList q.path.toList=false:=h3;refine Yi (by kernel_rfl) ?_;have e:(1:Int)=Gi (some b.path) q:=by rw[er,hn,h2,E0,h3];rfl
    exact .of_eq (Ab vi e)
   ·intro h3;have h3:¬Op.bytesLess b.path.toList q.path.toList=false:=h3;have h3:Op.bytesLess b.path.toList q.path.toList=true:=by simpa using h3
    refine Yi (by kernel_rfl) ?_;have e:(0:Int)=Gi (some b.path) q:=by rw[er,hn,h2,E0,h3];rfl
    exact .of_eq (Ab vi e)
  ·rw[h2]at he;refine Ps (Iq [2,4]) Tryz.func116 rfl (Nz rfl) ?_;refine Xi .pure (Xi _ (Yi (hl) ?_));refine Xi ⟨[(1,.cptr (AN b)),(2,.ref 2 0),(7,vi 0)],[(2,.cells (AN q))],Aa⟩ (Yi ⟨Z3,Z1,Fh,Tv⟩ ?_)
   refine Yi ?_ ?_
   ·intro h;exact absurd rfl h
   intro _;refine Xi ⟨[(1,.cptr (AN b)),(2,.ref 2 0)],[(2,.cells (AN q))],Aa⟩ (Yi ⟨Z2,Z1,Fh,Tv⟩ ?_)
   refine Yi ?_ ?_
   ·intro h;have h:((q.set.map Ag).length:Int)=0:=h;have e:(1:Int)=Gi (some b.path) q:=by rw[er,Qt rfl h];rfl
    refine Yi (by kernel_rfl) ?_;exact .of_eq (Ab vi e)
   intro h;have h:¬((q.set.map Ag).length:Int)=0:=h;have hn:=im h;refine Xi _ (Yi (hc) ?_);refine Xi _ (Yi (he) ?_);refine Yi (by kernel_rfl) ?_;have e:(1:Int)=Gi (some b.path) q:=by rw[er,hn,h2];rfl
   exact .of_eq (Ab vi e)
abbrev MX(l:List Rq)(k:Nat):List AV:=((l.map AN)[k]?).getD []
abbrev qZ(l:List Rq):Nat→AV
 |0=>.v (.pointer none)
 |k+1=>.cptr (MX l k)
abbrev Hb(l:List Rq):Nat→Option ByteArray
 |0=>none
 |k+1=>(l[k]?).map (·.path)
theorem NZ{l:List Rq}{k:Nat}(h:k<l.length):MX l k=AN l[k]:=by
 unfold MX;rw[AK,Ge h];rfl
theorem Mc{l:List Rq}{k:Nat}(h:k<l.length):Hb l (k+1)=some l[k].path:=by
 show(l[k]?).map _=_;rw[Ge h];rfl
theorem za{nm:ByteArray→ByteArray}(hL:UN nm)(l:List Rq)(hs:∀q∈l,NU q):PC 93 [sl AN l] (vi (By l)):=by
 refine Ps (Iq [8]) Tryz.func93 rfl (Nz rfl) ?_;refine Yi ?_ ?_
 ·intro h;have h:(16:Int)<(l.map AN).length:=h;exact .of_eq (Ab vi (show(7:Int)=By l by unfold By;rw[Ax (by rw[Lm]at h;omega)]))
 intro h;have h:¬(16:Int)<(l.map AN).length:=h;have hl:l.length≤16:=by rw[Lm]at h;omega
 have OD:By l=Ec none l:=by unfold By;rw[Ao (by omega)]
 refine Xi {i:Nat // i≤l.length∧Ec none l=Ec (Hb l i) (l.drop i)} (Xi (fun i=>⟨[(0,sl AN l),(3,qZ l i.1),(10,sl AN l),(11,vi (l.map AN).length),(12,vi i.1)],[],Aa⟩) (Xi (fun i=>l.length-i.1) (Yi (Xi ⟨0,AG _,rfl⟩ ?_) ?_)))
 ·exact⟨Z5,Tv,Fh,Tv⟩
 intro⟨i,h1,h2⟩;refine Yi ?_ ?_
 ·intro h;have h:(i:Int)<(l.map AN).length:=h;have h:i<l.length:=by simpa using h
  have hg:l[i]?=some l[i]:=Ge h;have hd:l.drop i=l[i]::l.drop (i+1):=Be h;have hq:=hs l[i] (Ak h);have hc:PC 116 [.agg (AN l[i]),qZ l i] (vi (Gi (Hb l i) l[i])):=by
   cases i with
   |zero=>exact ra hL _ hq.1 hq.2
   |succ k =>
    rw[Mc (by omega:k<l.length)];show PC 116 [_,.cptr (MX l k)] _;rw[NZ (by omega:k<l.length)];exact rb hL _ _ hq.1 hq.2
  have HM:Ec none l=if Gi (Hb l i) l[i]=0 then Ec (some l[i].path) (l.drop (i+1))else Gi (Hb l i) l[i]:=by rw[h2,hd];rfl
  match i,h1,h2,h,hg,hd,hc,HM with
  |0,h1,h2,h,hg,hd,hc,HM =>
   refine Xi (AN l[0]) (Yi (Yi (by show(0:Int)≤((0:Nat):Int);omega) (by simp[hg])) (Yi rfl ?_));refine Yi (Nz rfl) (Yi (Nz rfl) (Yi (Nz rfl) ?_));refine Xi .pure (Xi _ (Yi (hc) ?_));refine Xi ⟨[(0,sl AN l),(4,vi ((0:Nat):Int)),(6,vi (Gi (Hb l (0)) l[0])),(10,sl AN l),(11,vi (l.map AN).length),(12,vi ((0:Nat):Int))],[],Aa⟩ (Yi ⟨Z6,Tv,Fh,Tv⟩ ?_)
   refine Yi ?_ ?_
   ·intro h4;have h4:Gi (Hb l (0)) l[0]≠0:=h4;exact .of_eq (Ab vi (show Gi (Hb l (0)) l[0]=By l by rw[OD,HM,Ao h4]))
   ·intro h4;have h4:¬Gi (Hb l (0)) l[0]≠0:=h4;refine Xi (AN l[0]) (Yi (Yi (by show(0:Int)≤((0:Nat):Int);omega) (by simp[hg])) (Yi rfl ?_));refine Yi (by show Bu (((0:Nat):Int)+1);unfold Bu;omega) ?_;refine Xi ⟨0+1,by omega,by rw[HM,Ax (GC h4),Mc h]⟩ ?_;have e1:AV.cptr (AN l[0])=.cptr (MX l (0)):=by rw[NZ h]
    exact⟨by show l.length-(0+1)<l.length-(0);omega,⟨Zr,⟨e1,rfl⟩,Zr,Zr,Zr,Tv⟩,Tv,Fh,Tv⟩
  |k+1,h1,h2,h,hg,hd,hc,HM =>
   refine Xi (AN l[k+1]) (Yi (Yi (by show(0:Int)≤((k+1:Nat):Int);omega) (by simp[hg])) (Yi rfl ?_));refine Yi (Nz rfl) (Yi (Nz rfl) (Yi (Nz rfl) ?_));refine Xi .pure (Xi _ (Yi (hc) ?_));refine Xi ⟨[(0,sl AN l),(4,vi ((k+1:Nat):Int)),(6,vi (Gi (Hb l (k+1)) l[k+1])),(10,sl AN l),(11,vi (l.map AN).length),(12,vi ((k+1:Nat):Int))],[],Aa⟩ (Yi ⟨Z6,Tv,Fh,Tv⟩ ?_)
   refine Yi ?_ ?_
   ·intro h4;have h4:Gi (Hb l (k+1)) l[k+1]≠0:=h4;exact .of_eq (Ab vi (show Gi (Hb l (k+1)) l[k+1]=By l by rw[OD,HM,Ao h4]))
   ·intro h4;have h4:¬Gi (Hb l (k+1)) l[k+1]≠0:=h4;refine Xi (AN l[k+1]) (Yi (Yi (by show(0:Int)≤((k+1:Nat):Int);omega) (by simp[hg])) (Yi rfl ?_));refine Yi (by show Bu (((k+1:Nat):Int)+1);unfold Bu;omega) ?_;refine Xi ⟨k+1+1,by omega,by rw[HM,Ax (GC h4),Mc h]⟩ ?_;have e1:AV.cptr (AN l[k+1])=.cptr (MX l (k+1)):=by rw[NZ h]
    exact⟨by show l.length-(k+1+1)<l.length-(k+1);omega,⟨Zr,⟨e1,rfl⟩,Zr,Zr,Zr,Tv⟩,Tv,Fh,Tv⟩
 ·intro h;have h:¬(i:Int)<(l.map AN).length:=h;have h:¬i<l.length:=by simpa using h
  have e:(0:Int)=By l:=by rw[OD,h2,HH (by omega)];rfl
  exact .of_eq (Ab vi e)
abbrev gy(r:Rl):Nat→ByteArray
 |0=>r.arch
 |1=>r.ifc
 |_=>r.cert
theorem oL{r:Rl}(h:∀j,j<3→DU (gy r j)=true):(DU r.arch&&DU r.ifc&&DU r.cert)=true:=by
 have h0:DU r.arch=true:=h 0 (by decide);have h1:DU r.ifc=true:=h 1 (by decide);have h2:DU r.cert=true:=h 2 (by decide);rw[h0,h1,h2];rfl
theorem ZO{r:Rl}{i:Nat}(hi:i<3)(h:DU (gy r i)=false):(DU r.arch&&DU r.ifc&&DU r.cert)=false:=by
 match i,hi,h with
 |0,_,h=>have h:DU r.arch=false:=h;rw[h];rfl
 |1,_,h=>have h:DU r.ifc=false:=h;rw[h,Cz];rfl
 |2,_,h=>have h:DU r.cert=false:=h;rw[h,Cz]
theorem vh{nm:ByteArray→ByteArray}(hL:UN nm)(r:Rl)(hr:J4 r):PC 66 [.agg (Ai r)] (vi (De r)):=by
 cases UJ:Bi r.path with
 |none =>
  have e:(4:Int)=De r:=by unfold De;rw[UJ]
  have hl:=hL.none hr.1 UJ;refine Ps E8 Tryz.func66 rfl (Nz rfl) ?_;refine Xi .pure (Xi _ (Yi (hl) ?_));refine Yi ?_ ?_
  ·intro _;exact .of_eq (Ab vi e)
  ·intro h;exact absurd (show(4:Int)≠0 by decide) h
 |some m =>
  have er:De r=if(!Cy r.ver||!decide (r.ver.a=m))=true then 2 else if By r.reqs≠0 then By r.reqs else if(DU r.arch&&DU r.ifc&&DU r.cert)=true then 0 else 1:=by unfold De;rw[UJ]
  have hl:=hL.some hr.1 UJ;have hv:=kO r.ver;have hc:=za hL r.reqs hr.2;rcases Bt (Cy r.ver)with h2 | h2
  ·rw[h2]at hv;refine Ps (Iq [2,4,6,7,9]) Tryz.func66 rfl (Nz rfl) ?_;refine Xi .pure (Xi _ (Yi (hl) ?_));refine Xi ⟨[(1,.ref 1 0),(4,vi m),(5,vi 0)],[(1,.cells (Ai r))],Aa⟩ (Yi ⟨Z3,Z1,Fh,Tv⟩ ?_)
   refine Yi ?_ ?_
   ·intro h;exact absurd rfl h
   intro _;refine Xi ⟨[(1,.ref 1 0),(4,vi m)],[(1,.cells (Ai r))],Aa⟩ (Yi ⟨Z2,Z1,Fh,Tv⟩ ?_)
   refine Yi (Nz rfl) ?_;refine Xi .pure (Xi _ (Yi (hv) ?_));refine Yi ?_ ?_
   ·intro h;have h:r.ver.a≠m:=h;have e:(2:Int)=De r:=by rw[er,h2,Aj h];rfl
    exact .of_eq (Ab vi e)
   intro h;have h:¬r.ver.a≠m:=h;have h3:r.ver.a=m:=GC h;have rF:De r=if By r.reqs≠0 then By r.reqs else if(DU r.arch&&DU r.ifc&&DU r.cert)=true then 0 else 1:=by rw[er,h2,At h3];rfl
   refine Xi ⟨[(1,.ref 1 0)],[(1,.cells (Ai r))],Aa⟩ (Yi ⟨Z1,Z1,Fh,Tv⟩ ?_)
   refine Xi .pure (Xi _ (Yi (hc) ?_));refine Xi ⟨[(1,.ref 1 0),(6,vi (By r.reqs))],[(1,.cells (Ai r))],Aa⟩ (Yi ⟨Z2,Z1,Fh,Tv⟩ ?_)
   refine Yi ?_ ?_
   ·intro h4;have h4:By r.reqs≠0:=h4;exact .of_eq (Ab vi (show By r.reqs=De r by rw[rF,Ax h4]))
   intro h4;have h4:¬By r.reqs≠0:=h4;have ub:De r=if(DU r.arch&&DU r.ifc&&DU r.cert)=true then 0 else 1:=by rw[rF,Ao h4]
   refine Xi ⟨[(1,.ref 1 0)],[(1,.cells (Ai r))],Aa⟩ (Yi ⟨Z1,Z1,Fh,Tv⟩ ?_)
   refine Xi {i:Nat // i≤3∧∀j,j<i→DU (gy r j)=true} (Xi (fun i=>⟨[(41,.slice (.id 41 1) [[vs r.arch],[vs r.ifc],[vs r.cert]]),(42,vi 3),(43,vi i.1)],[(41,.tok 1 3)],Aa⟩) (Xi (fun i=>3-i.1) (Yi (Xi ⟨0,by omega,fun j h=>by omega⟩ ?_) ?_)))
   ·exact⟨Z3,Z1,Fh,Tv⟩
   intro⟨i,i1,i2⟩;refine Yi ?_ ?_
   ·intro h;have h:(i:Int)<3:=h;have next:DU (gy r i)=true→∀j,j<i+1→DU (gy r j)=true:=fun hz j hj=>by
     rcases Ch j i with q | q
     ·exact i2 j q
     ·have:j=i:=by omega
      subst this;exact hz
    match i,i1,i2,h,next with
    |0,i1,i2,h,next =>
     refine Xi [vs r.arch] (Yi (Yi (by show(0:Int)≤0;decide) rfl) (Yi rfl ?_));refine Yi ?_ ?_
     ·intro h5;have h5:((r.arch.size:Nat):Int)≠0:=h5;refine Yi ?_ ?_
      ·intro h6;have h6:((r.arch.size:Nat):Int)≠32:=h6;have e:(1:Int)=De r:=by rw[ub,ZO (i:=0) (by decide) (show DU r.arch=false by unfold DU;rw[Aj (by omega),Aj (by omega)];rfl)];rfl
       exact .of_eq (Ab vi e)
      ·intro h6;have h6:¬((r.arch.size:Nat):Int)≠32:=h6;refine Yi (Ii 0 (by omega)) ?_;refine Xi ⟨1,by omega,next (show DU r.arch=true by unfold DU;rw[At (by omega:r.arch.size=32),UL])⟩ ?_
       exact⟨by show 3-1<3-0;decide,Z3,Z1,Fh,Tv⟩
     ·intro h5;have h5:¬((r.arch.size:Nat):Int)≠0:=h5;refine Yi (Ii 0 (by omega)) ?_;refine Xi ⟨1,by omega,next (show DU r.arch=true by unfold DU;rw[At (by omega:r.arch.size=0)];rfl)⟩ ?_
      exact⟨by show 3-1<3-0;decide,Z3,Z1,Fh,Tv⟩
    |1,i1,i2,h,next =>
     refine Xi [vs r.ifc] (Yi (Yi (by show(0:Int)≤1;decide) rfl) (Yi rfl ?_));refine Yi ?_ ?_
     ·intro h5;have h5:((r.ifc.size:Nat):Int)≠0:=h5;refine Yi ?_ ?_
      ·intro h6;have h6:((r.ifc.size:Nat):Int)≠32:=h6;have e:(1:Int)=De r:=by rw[ub,ZO (i:=1) (by decide) (show DU r.ifc=false by unfold DU;rw[Aj (by omega),Aj (by omega)];rfl)];rfl
       exact .of_eq (Ab vi e)
      ·intro h6;have h6:¬((r.ifc.size:Nat):Int)≠32:=h6;refine Yi (Ii 1 (by omega)) ?_;refine Xi ⟨2,by omega,next (show DU r.ifc=true by unfold DU;rw[At (by omega:r.ifc.size=32),UL])⟩ ?_
       exact⟨by show 3-2<3-1;decide,Z3,Z1,Fh,Tv⟩
     ·intro h5;have h5:¬((r.ifc.size:Nat):Int)≠0:=h5;refine Yi (Ii 1 (by omega)) ?_;refine Xi ⟨2,by omega,next (show DU r.ifc=true by unfold DU;rw[At (by omega:r.ifc.size=0)];rfl)⟩ ?_
      exact⟨by show 3-2<3-1;decide,Z3,Z1,Fh,Tv⟩
    |2,i1,i2,h,next =>
     refine Xi [vs r.cert] (Yi (Yi (by show(0:Int)≤2;decide) rfl) (Yi rfl ?_));refine Yi ?_ ?_
     ·intro h5;have h5:((r.cert.size:Nat):Int)≠0:=h5;refine Yi ?_ ?_
      ·intro h6;have h6:((r.cert.size:Nat):Int)≠32:=h6;have e:(1:Int)=De r:=by rw[ub,ZO (i:=2) (by decide) (show DU r.cert=false by unfold DU;rw[Aj (by omega),Aj (by omega)];rfl)];rfl
       exact .of_eq (Ab vi e)
      ·intro h6;have h6:¬((r.cert.size:Nat):Int)≠32:=h6;refine Yi (Ii 2 (by omega)) ?_;refine Xi ⟨3,by omega,next (show DU r.cert=true by unfold DU;rw[At (by omega:r.cert.size=32),UL])⟩ ?_
       exact⟨by show 3-3<3-2;decide,Z3,Z1,Fh,Tv⟩
     ·intro h5;have h5:¬((r.cert.size:Nat):Int)≠0:=h5;refine Yi (Ii 2 (by omega)) ?_;refine Xi ⟨3,by omega,next (show DU r.cert=true by unfold DU;rw[At (by omega:r.cert.size=0)];rfl)⟩ ?_
      exact⟨by show 3-3<3-2;decide,Z3,Z1,Fh,Tv⟩
    |i+3,i1,i2,h,next=>omega
   ·intro h;have h:¬(i:Int)<3:=h;have e:(0:Int)=De r:=by rw[ub,Ax (oL fun j hj=>i2 j (by omega))]
    exact .of_eq (Ab vi e)
  ·rw[h2]at hv;have e:(2:Int)=De r:=by rw[er,h2];rfl
   refine Ps (Iq [2,4]) Tryz.func66 rfl (Nz rfl) ?_;refine Xi .pure (Xi _ (Yi (hl) ?_));refine Xi ⟨[(1,.ref 1 0),(4,vi m),(5,vi 0)],[(1,.cells (Ai r))],Aa⟩ (Yi ⟨Z3,Z1,Fh,Tv⟩ ?_)
   refine Yi ?_ ?_
   ·intro h;exact absurd rfl h
   intro _;refine Xi ⟨[(1,.ref 1 0),(4,vi m)],[(1,.cells (Ai r))],Aa⟩ (Yi ⟨Z2,Z1,Fh,Tv⟩ ?_)
   refine Yi (Nz rfl) ?_;refine Xi .pure (Xi _ (Yi (hv) ?_));exact .of_eq (Ab vi e)
theorem pC{a b:Rl}(h:a.path=b.path∧a.ver.a=b.ver.a∧a.ver.b=b.ver.b∧a.ver.c=b.ver.c):Gl a=Gl b:=by
 unfold Gl;obtain⟨h1,h2,h3,h4⟩:=h
 have:a.ver=b.ver:=by
  cases ha:a.ver;cases hb:b.ver;rw[ha,hb]at h2 h3 h4;simp_all
 rw[h1,this]
theorem VQ{a b:Rl}(h:Gl a=Gl b):a.path=b.path∧a.ver.a=b.ver.a∧a.ver.b=b.ver.b∧a.ver.c=b.ver.c:=by
 unfold Gl at h
 injection h with h1 h2
 exact⟨h1,by rw[h2],by rw[h2],by rw[h2]⟩
abbrev WC(x:List Rl):Nat→Option Rl
 |0=>none
 |k+1=>x[k]?
theorem ru{nm:ByteArray→ByteArray}(hL:UN nm)(x:List Rl)(ifs:List (List AV))(hs:∀r∈x,J4 r):PC 20 [.agg (Ic x ifs)] (vi (A9 x)):=by
 refine Ps (Iq [7,9,11,13]) Tryz.func20 rfl (Nz rfl) ?_;refine Yi ?_ ?_
 ·intro h;have h:(256:Int)<(x.map Ai).length:=h;exact .of_eq (Ab vi (show(7:Int)=A9 x by unfold A9;rw[Ax (by rw[Lm]at h;omega)]))
 intro h;have h:¬(256:Int)<(x.map Ai).length:=h;have hl:x.length≤256:=by rw[Lm]at h;omega
 have OD:A9 x=Dd none x:=by unfold A9;rw[Ao (by omega)]
 refine Xi {i:Nat // i≤x.length∧Dd none x=Dd (WC x i) (x.drop i)} (Xi (fun i=>⟨[(1,.ref 1 0),(12,sl Ai x),(13,vi (x.map Ai).length),(14,vi i.1)],[(1,.cells (Ic x ifs))],Aa⟩) (Xi (fun i=>x.length-i.1) (Yi (Xi ⟨0,AG _,rfl⟩ ?_) ?_)))
 ·exact⟨Z4,Z1,Fh,Tv⟩
 intro⟨i,h1,h2⟩;refine Yi ?_ ?_
 ·intro h;have h:(i:Int)<(x.map Ai).length:=h;have h:i<x.length:=by simpa using h
  have hg:x[i]?=some x[i]:=Ge h;have hd:x.drop i=x[i]::x.drop (i+1):=Be h;have hc:=vh hL x[i] (hs x[i] (Ak h));have HM:Dd none x=if De x[i]≠0 then De x[i]else match WC x i with
   |none=>Dd (some x[i]) (x.drop (i+1))
   |some b=>if Gl b=Gl x[i]then 5 else if 0<IQ b x[i]then 1 else Dd (some x[i]) (x.drop (i+1)):=by rw[h2,hd];rfl
  have Yp:WC x (i+1)=some x[i]:=Ge h;refine Xi (Ai x[i]) (Yi (Yi (Nn i) (by simp[hg])) (Yi rfl ?_));refine Yi (Nz rfl) (Yi (Nz rfl) (Yi (Nz rfl) ?_));refine Xi .pure (Xi _ (Yi (hc) ?_));refine Xi ⟨[(1,.ref 1 0),(3,vi i),(4,.ref 4 0),(5,vi (De x[i])),(12,sl Ai x),(13,vi (x.map Ai).length),(14,vi i)],[(1,.cells (Ic x ifs)),(4,.cells (Ai x[i]))],Aa⟩ (Yi ⟨Z7,Z2,Fh,Tv⟩ ?_)
  refine Yi ?_ ?_
  ·intro h4;have h4:De x[i]≠0:=h4;exact .of_eq (Ab vi (show De x[i]=A9 x by rw[OD,HM,Ax h4]))
  intro h4;have h4:¬De x[i]≠0:=h4;refine Xi ⟨[(1,.ref 1 0),(3,vi i),(4,.ref 4 0),(12,sl Ai x),(13,vi (x.map Ai).length),(14,vi i)],[(1,.cells (Ic x ifs)),(4,.cells (Ai x[i]))],Aa⟩ (Yi ⟨Z6,Z2,Fh,Tv⟩ ?_)
  refine Yi ?_ ?_
  ·intro h5;have h5:(i:Int)=0:=h5;have h6:i=0:=by omega
   refine Yi (Ii i (by omega)) ?_;refine Xi ⟨i+1,by omega,by rw[HM,Ao h4,Yp];subst h6;rfl⟩ ?_;exact⟨Dl x.length i (by omega),Z4,Z1,Fh,Tv⟩
  intro h5;have h5:¬(i:Int)=0:=h5;have np:i-1<x.length:=by omega
  have hb:WC x i=some x[i-1]:=by
   obtain⟨k,rfl⟩:∃k,i=k+1:=⟨i-1,by omega⟩;exact Ge (by omega)
  have pc:Dd none x=if Gl x[i-1]=Gl x[i]then 5 else if 0<IQ x[i-1] x[i]then 1 else Dd (some x[i]) (x.drop (i+1)):=by rw[HM,Ao h4,hb]
  refine Yi (by show Bu ((i:Int)-1);unfold Bu;omega) ?_;have Sq:(x.map Ai)[((i:Int)-1).toNat]?=some (Ai x[i-1]):=by rw[show((i:Int)-1).toNat=i-1 by omega];exact B4 (Ge np)
  refine Xi (Ai x[i-1]) (Yi (Yi (by show(0:Int)≤(i:Int)-1;omega) Sq) (Yi rfl ?_));refine Yi (Nz rfl) (Yi (Nz rfl) ?_);refine Xi ⟨[(1,.ref 1 0),(4,.ref 4 0),(6,.ref 6 0),(12,sl Ai x),(13,vi (x.map Ai).length),(14,vi i)],[(1,.cells (Ic x ifs)),(4,.cells (Ai x[i])),(6,.cells (Ai x[i-1]))],Aa⟩ (Yi ⟨Z6,Z3,Fh,Tv⟩ ?_)
  refine Yi (Nz rfl) ?_;refine Xi _ (Yi (om x[i-1]) ?_);refine Yi (Nz rfl) ?_;refine Xi _ (Yi (om x[i]) ?_);refine Yi ?_ ?_
  ·intro h6;refine Yi (by kernel_rfl) ?_;have e:(5:Int)=A9 x:=by rw[OD,pc,Ax (pC ⟨h6.1,h6.2.1,h6.2.2.1,h6.2.2.2.1⟩)]
   exact .of_eq (Ab vi e)
  intro h6;refine Yi (by kernel_rfl) ?_;have h7:¬Gl x[i-1]=Gl x[i]:=fun e=>by
   have e:=VQ e;exact h6 ⟨e.1,e.2.1,e.2.2.1,e.2.2.2,trivial⟩
  refine Xi ⟨[(1,.ref 1 0),(4,.ref 4 0),(6,.ref 6 0),(12,sl Ai x),(13,vi (x.map Ai).length),(14,vi i)],[(1,.cells (Ic x ifs)),(4,.cells (Ai x[i])),(6,.cells (Ai x[i-1]))],Aa⟩ (Yi ⟨Z6,Z3,Fh,Tv⟩ ?_)
  refine Yi (Nz rfl) (Yi (Nz rfl) ?_);refine Xi .pure (Xi _ (Yi (vl x[i-1] x[i]) ?_));refine Yi ?_ ?_
  ·intro h8;have h8:(0:Int)<IQ x[i-1] x[i]:=h8;have e:(1:Int)=A9 x:=by rw[OD,pc,Ao h7,Ax h8]
   exact .of_eq (Ab vi e)
  ·intro h8;have h8:¬(0:Int)<IQ x[i-1] x[i]:=h8;refine Yi (Ii i (by omega)) ?_;refine Xi ⟨i+1,by omega,by rw[pc,Ao h7,Ao h8,Yp]⟩ ?_;exact⟨Dl x.length i (by omega),Z4,Z1,Fh,Tv⟩
 ·intro h;have h:¬(i:Int)<(x.map Ai).length:=h;have h:¬i<x.length:=by simpa using h
  have e:(0:Int)=A9 x:=by rw[OD,h2,HH (by omega)];rfl
  exact .of_eq (Ab vi e)
end Go.Eng
