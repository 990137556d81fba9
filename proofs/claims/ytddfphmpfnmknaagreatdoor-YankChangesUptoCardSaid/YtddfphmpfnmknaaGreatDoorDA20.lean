/- Lemmas for the claims of this seat, without a condition: part 20 (C24, C25, C26, C27, C28, C29, C30, C31, C32, C33, C34, C35, C36, C37). -/
import Derived.Test.YtddfphmpfnmknaaGreatDoorDA19
import Derived.Shelf.Slices.Delete
namespace Go.Eng
open Go.Proofs
theorem nK(l:List Tm)(hl:Cp l)(hs:∀t∈l,Cp t.set):PC 174 [sl AH l] (sl AH (Qo l)):=by
 refine Ps E4 Tryz.func174 rfl (Nz rfl) ?_;refine Xi .pure (Xi _ (Yi (tW l hl hs) ?_));exact .refl _
theorem PY(s:Ba):Cp (Et s):=by
 unfold Cp;have:=Il (Hm s);omega
theorem nU{α:Type}(x:α):Cp [x]:=by unfold Cp;simp
theorem wb{α:Type}(x y:α):Cp [x,y]:=by unfold Cp;simp
theorem vw(q:Rq)(hq:Cp q.set):PC 122 [.agg (AF q)] (sl AH (JH q)):=by
 have hc:PC 174 [sl AH [DJ q]] (sl AH (JH q)):=nK [DJ q] (nU _) fun t ht=>by rw[Aq.1 ht];exact PY _
 refine Ps E4 Tryz.func122 rfl (Nz rfl) ?_;refine Yi (Nz rfl) ?_;refine Xi .pure (Xi _ (Yi (qJ q hq) ?_));refine Xi .pure (Xi _ (Yi (hc) ?_));exact .refl _
theorem vz(p:ByteArray)(pl:Int)(q:Rq)(hp:Bi (pl+1))(hq:Cp q.set):PC 123 [vs p,vi pl,.agg (AF q)] (sl AH (Es p pl q)):=by
 have hc:PC 174 [sl AH [⟨p,false,[(pl,pl+1)]⟩,DJ q]] (sl AH (Es p pl q)):=nK [⟨p,false,[(pl,pl+1)]⟩,DJ q] (wb _ _) fun t ht=>by
  rcases AA.1 ht with rfl | ht
  ·exact nU _
  ·rw[Aq.1 ht];exact PY _
 refine Ps E4 Tryz.func123 rfl (Nz rfl) ?_;refine Yi hp ?_;refine Yi (Nz rfl) ?_;refine Xi .pure (Xi _ (Yi (qJ q hq) ?_));refine Xi .pure (Xi _ (Yi (hc) ?_));exact .refl _
theorem qF(p:ByteArray)(s:Ba)(hs:Cp s):PC 127 [vs p,sl Af s] (sl AH (Ig p s)):=by
 have hc:PC 174 [sl AH [⟨p,false,Et s⟩]] (sl AH (Ig p s)):=nK [⟨p,false,Et s⟩] (nU _) fun t ht=>by rw[Aq.1 ht];exact PY _
 refine Ps E4 Tryz.func127 rfl (Nz rfl) ?_;refine Xi .pure (Xi _ (Yi (nv s hs) ?_));refine Xi .pure (Xi _ (Yi (hc) ?_));exact .refl _
end Go.Eng
namespace Go.Eng
open Go.Proofs Go.Shelf Go.RowKit Go.Lib Go.Sort
theorem oY(F:Array Value)(i n:Nat)(hF:F.size=n*3)(hi:i<n)(z:List Value)(hz:z.length=3):(lay (lay F (i*3) (F.toList.drop ((i+1)*3))) ((n-1)*3) z).toList=F.toList.take (i*3)++F.toList.drop ((i+1)*3)++z:=by
 have l1:(F.toList.take (i*3)).length=i*3:=by simp;omega
 have l2:(F.toList.drop ((i+1)*3)).length=(n-(i+1))*3:=by simp;omega
 apply Dj
 intro t
 rw[AR,lay_get? _ _ _ _ (by rw[Lib.lay_size];omega),lay_get? _ _ _ _ (by rw[l2];omega)]
 rw[hz,l2]
 by_cases c1:t<i*3
 ·rw[Aj (by omega),Aj (by omega),A2 (by rw[Ae];omega),A2 (by omega),JN,Ap c1,AR]
 ·by_cases c2:t<(n-1)*3
  ·rw[Aj (by omega),Ap (by omega),A2 (by rw[Ae];omega),AW (by omega),l1]
  ·rw[AW (by rw[Ae];omega),Ae,l1,l2]
   by_cases c3:t<n*3
   ·rw[Ap (by omega)];congr 1;omega
   ·rw[Aj (by omega),Aj (by omega),Uu (by omega),A4 (by omega)]
abbrev jR:List Value:=[.string ⟨#[]⟩,.bool false,.slice none 0 0]
set_option maxHeartbeats 4000000 in
set_option maxRecDepth 1000000 in
theorem fE(w:World)(b cap i n:Nat)(F:Array Value)(hF:F.size=n*3)(hi:i<n)(O0:n≤cap)(hH:Holds id w b 0 F)(h1:∀x∈F.toList,x.oneCell'=true) :
  Calls Tryz.prog 212 #[.slice (some ⟨b,0,none⟩) n cap,.int .i64 i,.int .i64 ((i:Int)+1)] w fun e w'=>e=.returned (.slice (some ⟨b,0,none⟩) (n-1) cap) ∧
   w'=putRow id (Sort.ahead w 1) b 0 (lay (lay F (i*3) (F.toList.drop ((i+1)*3))) ((n-1)*3) jR):=by
 obtain⟨i0,wU,oO⟩:∃i0,Tryz.prog.info? 198=some i0∧i0.size=3:=by
  obtain⟨i,z,h1,_,h2,_⟩:=HG (P:=Tryz.prog) (T:=mT) Cw (e:=198) (n:=2) (by kernel_rfl)
  exact⟨i,h1,h2.trans (by kernel_rfl)⟩
 obtain⟨news,I2⟩:∃news,news=F.toList.drop ((i+1)*3):=⟨_,rfl⟩
 have CB:news.length=(n-(i+1))*3:=by rw[I2];simp;omega
 have Ft:∀t,t<(n-(i+1))*3→news[t]?=some F[(i+1)*3+t]!:=by
  intro t ht
  rw[I2,DD,AR,DE F ((i+1)*3+t) (by omega),Bs (by omega)]
 obtain⟨A,hA,cJ⟩:∃A:Addr,(if cap=i+1 then some (⟨b,0,none⟩:Addr)else some ⟨b,(i+1)*3,none⟩)=some A∧Hid (∀t u,news[t]?=some u→w.drew.cell? (A.add t)=some u):=by
  by_cases h:cap=i+1
  ·refine⟨⟨b,0,none⟩,by simp[h],fun t u hu=>?_⟩
   have h0:news.length=0:=by rw[CB];omega
   rw[List.length_eq_zero_iff.1 h0]at hu
   simp at hu
  ·refine⟨⟨b,(i+1)*3,none⟩,by simp[h],fun t u hu=>?_⟩
   have ht:t<(n-(i+1))*3:=by
    have:=(As.1 hu).1
    rwa [CB]at this
   rw[Ft t ht]at hu
   rw[Addr.add_lit]
   have:=(hH ((i+1)*3+t) (by omega)).1
   rw[Bl]at this
   exact this.trans hu
 have s1:Hid (news.length=(n-(i+1))*3):=CB
 have s2:Hid (∀u∈news,u.oneCell'=true):=by
  intro u hu
  rw[I2]at hu
  exact h1 u (IB hu)
 have s3:Hid (∀t,t<news.length→(w.drew.cell? ⟨b,0+i*3+t,none⟩).isSome=true∧w.drew.frozen? ⟨b,0+i*3+t,none⟩=false):=by
  intro t ht
  rw[CB]at ht
  have:=hH (i*3+t) (by omega)
  rw[GJ]
  exact⟨by show(w.cell? _).isSome=true;rw[this.1];rfl,this.2⟩
 obtain⟨W1,wA⟩:∃W1,W1=w.drew.setCells b (0+i*3) news:=⟨_,rfl⟩
 have oa : W1=putRow id (Sort.ahead w 1) b 0 (lay F (i*3) news):=by
  have:=putRow_setCells id (Sort.ahead w 1) b 0 news F (i*3) (by omega)
  rw[putRow_self id (Sort.ahead w 1) b 0 F (holds_ahead id w 1 b 0 F hH),JU]at this
  rw[wA,←this]
  rfl
 have wt:Holds id W1 b 0 (lay F (i*3) news):=by rw[oa];exact holds_putRow id _ b 0 F _ (holds_ahead id w 1 b 0 F hH) (Lib.lay_size _ _ _)
 have Jy:(storeCells ⟨b,0+(n-1)*3,none⟩ jR 0).run Tryz.prog W1=.ok () (W1.setCells b (0+(n-1)*3) jR):=by
  have:=run_storeCells_cells (P:=Tryz.prog) b (0+(n-1)*3) jR 0 W1 (fun j hj=>by
   have hj:j<3:=hj
   have:=wt ((n-1)*3+j) (by rw[Lib.lay_size];omega)
   rw[show 0+(n-1)*3+0+j=0+((n-1)*3+j) by omega,this.1];rfl) (fun j hj=>by
   have hj:j<3:=hj
   have:=wt ((n-1)*3+j) (by rw[Lib.lay_size];omega)
   rw[show 0+(n-1)*3+0+j=0+((n-1)*3+j) by omega];exact this.2) (fun v hv=>by
   simp only[AA,LK,or_false]at hv
   rcases hv with rfl | rfl | rfl<;>rfl)
  exact this
 have hcl:∀ty c,(Builtin.clear_ #[168] ty #[.slice (some ⟨b,(n-1)*3,none⟩) 1 c]).run Tryz.prog W1=.ok (.tuple #[]) (W1.setCells b (0+(n-1)*3) jR):=fun ty c=>by
  have hv:=Tryz.zeroValue198
  rw[Bl]at Jy⊢
  have hz:(Builtin.zeroCells (Value.agg #[Value.string { data:=#[] },Value.bool false,Value.slice none 0 0]).cells 1).toList=jR:=by kernel_rfl
  simp[Builtin.clear_,run_underlying Tryz.underlying168,hv,hz,Jy]
 have Abg:∀ty,(Builtin.clear_ #[168] ty #[.slice (some ⟨b,(i+(n-(i+1)))*3,none⟩) (n-(i+(n-(i+1)))) (cap-(i+(n-(i+1))))]).run Tryz.prog W1=.ok (.tuple #[]) (W1.setCells b (0+(n-1)*3) jR):=fun ty=>by
  have e1:i+(n-(i+1))=n-1:=by omega
  have e2:n-(n-1)=1:=by omega
  rw[e1,e2];exact hcl ty _
 have X:Aside (W1=putRow id (Sort.ahead w 1) b 0 (lay F (i*3) news)):=oa
 have hW:Hid (W1=w.drew.setCells b (0+i*3) news):=wA
 have Y:Aside (news=F.toList.drop ((i+1)*3)):=I2
 have Z:Aside (news.length=(n-(i+1))*3):=CB
 have rL:i≤cap:=by omega
 have hjc:i+1≤cap:=by omega
 have mixed:=Go.Eng.hm
 have zw:(0:Int)≤(i:Int)+1:=by omega
 have Tq:(i:Int)+1≤(n:Int):=by omega
 clear wA oa wt hH Ft I2 CB Jy hcl
 go_enter Tryz.func212,Tryz.ntmps212
 go_wp2_with fail
 go_region_law_o (refine step_append_room rfl (.tmp 22) (.tmp 25) 168 rfl 198 i0 3 Tryz.underlying168 wU oO b 0 i cap (by simp[Act.eval,Act.put]) A (n-(i+1)) (cap-(i+1)) news (by simp[Act.eval,Act.put]) s1.out cJ.out s2.out (by omega) s3.out ?_;rw[←hW.out])
 go_wp2
 go_ret
 refine⟨by rw[show i+(n-(i+1))=n-1 by omega];rfl,?_⟩
 rw[X.out]
 have e1:=Y.out
 have e2:=Z.out
 rw[←e1]
 have:=putRow_setCells id (Sort.ahead w 1) b 0 jR (lay F (i*3) news) ((n-1)*3) (by rw[Lib.lay_size];show _+3≤_;omega)
 rw[JU,Bl]at this
 exact this
abbrev UQ:List AV:=[Go.Eng.vs ⟨#[]⟩,vb false,.v (.slice none 0 0)]
theorem vN(l:List Tm)(i:Nat)(hi:i<l.length) :
  A6 Tryz.prog 212 [.msl 1000 l.length,vi i,vi ((i:Int)+1)] (Ak [(1000,.arr 3 (l.map AH))] Aa) fun r h'=>r=.msl 2000 (l.length-1)∧h'=Ak [(1000,.dead),(2000,.arr 3 ((l.eraseIdx i).map AH))] Aa:=by
 have hE:Gk Tryz.prog 212:=dZ 212 Tryz.func212 (by kernel_rfl) rfl
 have CB:(l.eraseIdx i).length=l.length-1:=List.length_eraseIdx_of_lt hi
 have Hq:=UU (P:=Tryz.prog) (f:=212) (es:=l.map AH) (sz:=3) (rest:=[.int .i64 i,.int .i64 ((i:Int)+1)]) (n':=l.length-1) (Q:=fun FO=>FO=(l.eraseIdx i).map AH++[UQ]) hE (fun e=>by
  rw[Ed]at e;subst e;simp at hi) (by rw[Bb];omega) ?_
 ·rw[Bb]at Hq
  refine⟨hE,fun g w vals q1 q2 q3=>(Hq.2 g w vals q1 q2 q3).mono fun _ _ ⟨v,r,h',g',e1,⟨e2,FO,p1,p2⟩,rest⟩=>⟨v,r,h',g',e1,⟨e2,by rw[p2,p1,Hj (by rw[Bb,CB];exact Al _),Aw (by rw[Bb,CB];exact Al _)]⟩,rest⟩⟩
 ·intro g w b cap F hr hF hH hb hc
  rw[Bb]at hF hc⊢
  have hu:∀e∈l.map AH,e.length=3:=fun e he=>by
   obtain⟨t,_,rfl⟩:=Am.1 he;rfl
  refine(fE w b cap i l.length F hF hi hc hH hr.2.1).mono ?_
  rintro e w' ⟨rfl,rfl⟩
  refine⟨rfl,_,_,1,#[],?_,rfl,?_,fun cs hcs=>?_,fun g w hr=>?_,rfl⟩
  ·rw[Lib.lay_size,Lib.lay_size]
  ·rw[Ae,Bb,CB,AG];omega
  ·rcases A1.1 hcs with h | h
   ·obtain⟨t,_,rfl⟩:=Am.1 h;rfl
   ·rw[Aq.1 h];rfl
  ·rw[oY F i l.length hF hi jR rfl,List.eraseIdx_eq_take_drop_succ,CL,Ay,CL,List.map_take,List.map_drop,←Li _ i hu,←OS _ (i+1) hu]
   refine CI.append (CI.append (hr.take _) (hr.drop _)) ?_
   exact M3 g w Fy jR fun x hx=>by
    simp only[AA,LK,or_false]at hx
    rcases hx with rfl | rfl | rfl<;>rfl
end Go.Eng
namespace Go.Eng
open Go.Proofs
theorem qK(l:List Tm)(hl:Cp l)(DF:l≠[]):A6 Tryz.prog 213 [sl AH l] (Ak [] Aa) fun r h'=>r=.msl 2000 l.length∧h'=Ak [(2000,.arr 3 (l.map AH))] Aa:=by
 refine BW (Lg (pla [(5,3)] [])) [(5,2000)] rfl Cw hm rfl Tryz.func213 (by kernel_rfl) rfl (Nz rfl) (by kernel_rfl) rfl ?_;have Gv:CQ 3 (l.map AH)∧([]:List (List AV)).length=0∧(([]:List (List AV)).length+(l.map AH).length)*48≤140737488355328∧([]:List (List AV)).length+(l.map AH).length≤9223372036854775807:=by
  refine⟨Fz (enc:=AH) (n:=3) (fun _=>rfl) l,rfl,?_,?_⟩<;>simp only[AJ,Lm]<;>unfold Cp at hl<;>omega
 refine Yi ?_ ?_
 ·intro _;refine Yi Gv ?_;have e1:AV.msl 2000 (([]:List (List AV)).length+(l.map AH).length)=.msl 2000 l.length:=by simp
  refine Xi (.msl 2000 (([]:List (List AV)).length+(l.map AH).length)) (Yi (.refl _) (Yi e1 ?_))
  rfl
 ·intro h;have h:l.map AH=[]:=h;exact absurd (Ed.1 h) DF
theorem nL(x:Tm)(p:ByteArray):PC 211 [.agg (AH x),.cptr [vs p]] (vb (decide (x.path=p))):=by
 refine Ps E4 Tryz.func211 rfl (Nz rfl) ?_;refine Yi ?_ ?_
 ·intro h;have h:x.path=p:=h;rw[Ar h];exact .refl _
 ·intro h;have h:¬x.path=p:=h;rw[Ao h];exact .refl _
theorem Nl{p:ByteArray}:∀{c:List Tm} {i:Nat},(EF c).Nodup→∀(hi:i<c.length),c[i].path=p→c.eraseIdx i=FY c p
 |t::c,0,hn,_,h=>by
  have h:t.path=p:=h;unfold EF at hn;rw[AP,CU]at hn;unfold FY;rw[Ch,Aj (by simp[h])];show c=_;rw[List.filter_eq_self.2 fun u hu=>by
   have:u.path≠p:=fun e=>hn.1 (h▸e▸Am.2 ⟨u,hu,rfl⟩)
   simp[this]]
 |t::c,i+1,hn,hi,h=>by
  have hi:i<c.length:=by simpa using hi
  have h:c[i].path=p:=h;unfold EF at hn;rw[AP,CU]at hn
  have:t.path≠p:=fun e=>hn.1 (by rw[e,←h];exact Am.2 ⟨_,At hi,rfl⟩)
  have ih:=Nl hn.2 hi h;unfold FY at ih⊢;rw[List.eraseIdx_cons_succ,Ch,Ap (by simp[this]),ih]
theorem PX{l c:List Tm}(hl:Cp l)(h:CR l=some c):Cp c:=by
 have h1:=N3 l l.length (Al _);rw[DM]at h1;have h2:c=(Fa l).filter fun t=>!GL t:=by
  unfold CR at h;split at h
  ·cases h
  ·exact(Ca h).symm
 have h3:c.length≤(Fa l).length:=by rw[h2];exact Bv _ _
 have h4:(Fa l).length=(CY l).length:=by
  have:=(Oq (HY (HT l)) (HY (H6 (Ey l)))).2 (Jk l)
  exact this.length_eq.symm
 unfold Cp at hl⊢;omega
abbrev lu:AV:=.tup [.agg UQ,.v (.slice none 0 0),vb false]
abbrev mQ:RE:=⟨[3],[],[],[],[],[],[],[],[(30,0),(34,1)],[],[3]⟩
theorem fe(l:List Tm)(p:ByteArray)(hl:Cp l)(hs:∀t∈l,Cp t.set)(hn:FB l p=none):PC 182 [sl AH l,vs p] lu:=by
 have hc:=tW l hl hs;unfold FB at hn;cases e:CR l with
 |none =>
  have e1:GU l=.tup [sl AH [],vb false]:=by unfold GU Qo;rw[e];rfl
  rw[e1]at hc;have hi:=kb (Fi.ptr [vs p]) [] (fun x=>decide (x.path=p)) (fun x _=>nL x p) (by simp);refine Ps mQ Tryz.func182 rfl (Nz rfl) ?_;refine Xi .pure (Xi _ (Yi (hc) ?_));refine Xi .pure (Xi _ (Yi (hi) ?_));refine Xi ⟨[(4,.ref 4 0),(7,sl AH []),(8,vb false),(9,vi (-1))],[(4,.cells UQ)],Aa⟩ (Yi ⟨Z4,Z1,Fh,Tv⟩ ?_)
  refine Yi (Nz rfl) (Yi (Nz rfl) ?_);exact .refl _
 |some c =>
  rw[e]at hn;have hn:(match Dt c p with | none=>none | some t=>some (t,FY c p))=none:=hn;have rI:Dt c p=none:=by
   cases h:Dt c p with
   |none=>rfl
   |some t=>rw[h]at hn;cases hn
  have e1:GU l=.tup [sl AH c,vb true]:=by unfold GU Qo;rw[e];rfl
  rw[e1]at hc;have rF:=PX hl e;have hi:=kb (Fi.ptr [vs p]) c (fun x=>decide (x.path=p)) (fun x _=>nL x p) (by unfold Cp at rF;omega);have hid:Ks (fun x:Tm=>decide (x.path=p)) c 0=-1:=by
   rcases Pa (p:=fun x:Tm=>decide (x.path=p)) c 0 with ⟨h1,_⟩ | ⟨i,x,_,_,h3⟩
   ·exact h1
   ·unfold Dt at rI;rw[h3]at rI;cases rI
  rw[hid]at hi;refine Ps mQ Tryz.func182 rfl (Nz rfl) ?_;refine Xi .pure (Xi _ (Yi (hc) ?_));refine Xi .pure (Xi _ (Yi (hi) ?_));refine Xi ⟨[(4,.ref 4 0),(7,sl AH c),(8,vb true),(9,vi (-1))],[(4,.cells UQ)],Aa⟩ (Yi ⟨Z4,Z1,Fh,Tv⟩ ?_)
  refine Yi ?_ ?_
  ·intro _;refine Yi (Nz rfl) (Yi (Nz rfl) ?_);exact .refl _
  ·intro h;exact absurd (show(-1:Int)<0 by decide) h
abbrev pc:RE:=⟨[3],[],[],[],[],[],[],[],[(30,0),(34,2)],[],[]⟩
theorem ff(l:List Tm)(p:ByteArray)(hl:Cp l)(hs:∀t∈l,Cp t.set){t:Tm}{r:List Tm}(hn:FB l p=some (t,r)) :
  A6 Tryz.prog 182 [sl AH l,vs p] (Ak [] Aa) fun v h'=>v=.tup [.agg (AH t),.msl 2000 r.length,vb true]∧h'=Ak [(2000,.arr 3 (r.map AH))] Aa:=by
 have hc:=tW l hl hs;unfold FB at hn;cases e:CR l with
 |none=>rw[e]at hn;cases hn
 |some c =>
  rw[e]at hn;have hn:(match Dt c p with | none=>none | some t=>some (t,FY c p))=some (t,r):=hn;have gC:Dt c p=some t∧FY c p=r:=by
   cases h:Dt c p with
   |none=>rw[h]at hn;cases hn
   |some t=>rw[h]at hn;cases hn;exact Zr
  have e1:GU l=.tup [sl AH c,vb true]:=by unfold GU Qo;rw[e];rfl
  rw[e1]at hc;have rF:=PX hl e;have hi:=kb (Fi.ptr [vs p]) c (fun x=>decide (x.path=p)) (fun x _=>nL x p) (by unfold Cp at rF;omega);rcases Pa (p:=fun x:Tm=>decide (x.path=p)) c 0 with ⟨_,h2⟩ | ⟨i,x,h1,h2,h3⟩
  ·unfold Dt at gC;rw[h2]at gC;cases gC.1
  have hx:x=t:=by
   have:=gC.1
   unfold Dt at this;rw[h3]at this;exact Ca this
  subst hx;rw[h1,IQ]at hi;obtain⟨rL,hie⟩:=As.1 h2;have zB:c.eraseIdx i=r:=by
   rw[←gC.2];exact Nl (H6 (E2 e)) rL (by rw[hie];exact Hd gC.1)
  have ui:c.length-1=r.length:=by rw[←zB,List.length_eraseIdx_of_lt rL]
  have DF:c≠[]:=fun h=>by subst h;simp at rL
  have Abk:c.length≤1073741824:=rF;refine BW (Lg pc) [(13400,2000)] rfl Cw hm rfl Tryz.func182 (by kernel_rfl) rfl (Nz rfl) (by kernel_rfl) rfl ?_;refine Xi .pure (Xi _ (Yi (hc) ?_));refine Xi .pure (Xi _ (Yi (hi) ?_));refine Yi ?_ ?_
  ·intro h;have h:(i:Int)<0:=h;omega
  intro _;have hg:(c.map AH)[((i:Nat):Int).toNat]?=some (AH x):=by rw[Bj,AI,h2];rfl
  refine Xi (AH x) (Yi (Yi (Nn i) hg) (Yi rfl (Yi (Nz rfl) ?_)));refine Xi c.length (Xi 3 (Xi (c.map AH) (Yi rfl (Yi (qK c rF DF) ?_))));refine Yi (Ii i (by omega)) ?_;refine Xi (c.length-1) (Xi ((c.eraseIdx i).map AH) (Yi rfl (Yi (vN c i rL) ?_)));refine Yi (Nz rfl) ?_;refine Yi (by kernel_rfl) ?_;refine Yi (Nz rfl) ?_;have e2:AV.tup [.agg (AH x),.msl 2000 (c.length-1),vb true]=.tup [.agg (AH x),.msl 2000 r.length,vb true]:=by rw[ui]
  have e3:Ak [(2000,HO.arr 3 ((c.eraseIdx i).map AH))] Aa=Ak [(2000,.arr 3 (r.map AH))] Aa:=by rw[zB]
  exact Xi _ (Yi (.refl _) (Yi e2 e3))
abbrev br:RE:=⟨[],[],[],[],[],[],[],[],[],[(24,9),(30,12)],[2,3,5,6]⟩
abbrev pj(a b:List Tm)(p:ByteArray):AV:=.tup [sl AH (Bz a b p).1,vi (Bz a b p).2]
theorem VR{l r:List Tm}{p:ByteArray}{t:Tm}(h:FB l p=some (t,r)):∃c,CR l=some c∧t∈c∧r=FY c p:=by
 unfold FB at h;cases e:CR l with
 |none=>rw[e]at h;cases h
 |some c =>
  rw[e]at h;have h:(match Dt c p with | none=>none | some t=>some (t,FY c p))=some (t,r):=h;cases e2:Dt c p with
  |none=>rw[e2]at h;cases h
  |some u=>rw[e2]at h;cases h;exact⟨c,rfl,Fm e2,rfl⟩
theorem VS{l r:List Tm}{p:ByteArray}{t:Tm}(hl:Cp l)(h:FB l p=some (t,r)):Cp t.set∧Cp r∧∀u∈r,Cp u.set:=by
 obtain⟨c,h1,h2,rfl⟩:=VR h;have hs:=E2 h1;refine⟨ON (hs.canon t h2),?_,fun u hu=>ON (hs.canon u (BO.1 hu).1)⟩
 have:=PX hl h1
 have h3:(FY c p).length≤c.length:=Bv _ _;unfold Cp at *;omega
theorem fj{l c:List Tm}(h:CR l=some c):c.length≤l.length:=by
 have h1:=N3 l l.length (Al _);rw[DM]at h1;have h2:c=(Fa l).filter fun t=>!GL t:=by
  unfold CR at h;split at h
  ·cases h
  ·exact(Ca h).symm
 have h3:c.length≤(Fa l).length:=by rw[h2];exact Bv _ _
 have h4:(Fa l).length=(CY l).length:=by
  have:=(Oq (HY (HT l)) (HY (H6 (Ey l)))).2 (Jk l)
  exact this.length_eq.symm
 omega
theorem VT{l r:List Tm}{p:ByteArray}{t:Tm}(h:FB l p=some (t,r)):r.length≤l.length:=by
 obtain⟨c,h1,h2,rfl⟩:=VR h;have h3:(FY c p).length≤c.length:=Bv _ _
 have:=fj h1
 omega
theorem co(a b:Ba):Cp (PF a b):=by
 unfold Cp;have:=Il (YX a b);omega
theorem vB(a b:List Tm)(p:ByteArray)(ha:a.length≤500000000)(hb:b.length≤500000000)(zW:∀t∈a,Cp t.set)(kT:∀t∈b,Cp t.set):PC 128 [sl AH a,sl AH b,vs p] (pj a b p):=by
 have rE:Cp a:=by unfold Cp;omega
 have ol:Cp b:=by unfold Cp;omega
 have er:∀{l:List Tm} {e:Int},Bz a b p=(l,e)→pj a b p=.tup [sl AH l,vi e]:=fun h=>by unfold pj;rw[h]
 have e0:G1 (.tup [.v (.slice none 0 0),vi 1]) (.tup [.slice .none [],vi 1]):=G1.tup ⟨.nil,.refl _,trivial⟩;cases h1:FB a p with
 |none =>
  have hr:Bz a b p=([],1):=by unfold Bz;rw[h1]
  have c1:=fe a p rE zW h1;cases h2:FB b p with
  |none =>
   have c2:=fe b p ol kT h2;refine Ps br Tryz.func128 rfl (Nz rfl) ?_;refine Xi .pure (Xi _ (Yi (c1) ?_));refine Yi (Nz rfl) ?_;refine Xi ⟨[(1,sl AH b),(2,vs p),(8,.ref 8 0),(9,.v (.slice none 0 0)),(10,vb false)],[(8,.cells UQ)],Aa⟩ (Yi ⟨Z5,Z1,Fh,Tv⟩ ?_)
   refine Xi .pure (Xi _ (Yi (c2) ?_));refine Yi (Nz rfl) ?_;refine Xi ⟨[(8,.ref 8 0),(9,.v (.slice none 0 0)),(10,vb false),(11,.ref 11 0),(12,.v (.slice none 0 0)),(13,vb false)],[(8,.cells UQ),(11,.cells UQ)],Aa⟩ (Yi ⟨Z6,Z2,Fh,Tv⟩ ?_)
   exact e0.trans (.of_eq (er hr).symm)
  |some q2 =>
   obtain⟨t2,r2⟩:=q2;have c2:=ff b p ol kT h2;refine Ps br Tryz.func128 rfl (Nz rfl) ?_;refine Xi .pure (Xi _ (Yi (c1) ?_));refine Yi (Nz rfl) ?_;refine Xi ⟨[(1,sl AH b),(2,vs p),(8,.ref 8 0),(9,.v (.slice none 0 0)),(10,vb false)],[(8,.cells UQ)],Aa⟩ (Yi ⟨Z5,Z1,Fh,Tv⟩ ?_)
   have z2:r2.length=(r2.map AH).length:=by rw[Lm]
   refine Xi (.gen [] 1) (Yi rfl (c2.imp ?_));intro v2 g2 q2;have xT:=q2.1;have xU:=q2.2;subst xT;subst xU;refine Yi (Nz rfl) ?_;refine Xi ⟨[(8,.ref 8 0),(9,.v (.slice none 0 0)),(10,vb false),(11,.ref 11 0),(12,.msl 12600 r2.length),(13,vb true)],[(8,.cells UQ),(11,.cells (AH t2)),(12600,.arr 3 (r2.map AH))],Aa⟩ (Yi ⟨Z6,Z3,Fh,Tv⟩ ?_)
   refine Yi z2 ?_;exact e0.trans (.of_eq (er hr).symm)
 |some q1 =>
  obtain⟨t1,r1⟩:=q1;have c1:=ff a p rE zW h1;obtain⟨f1,f2,f3⟩:=VS rE h1;cases h2:FB b p with
  |none =>
   have hr:Bz a b p=([],1):=by unfold Bz;rw[h1,h2]
   have c2:=fe b p ol kT h2;refine Ps br Tryz.func128 rfl (Nz rfl) ?_;refine Xi (.gen [] 1) (Yi rfl (c1.imp ?_));intro v1 g1 q1;have xO:=q1.1;have lN:=q1.2;subst xO;subst lN;refine Yi (Nz rfl) ?_;refine Xi ⟨[(1,sl AH b),(2,vs p),(8,.ref 8 0),(9,.msl 11900 r1.length),(10,vb true)],[(8,.cells (AH t1)),(11900,.arr 3 (r1.map AH))],Aa⟩ (Yi ⟨Z5,Z2,Fh,Tv⟩ ?_)
   have z1:r1.length=(r1.map AH).length:=by rw[Lm]
   refine Yi z1 ?_;refine Xi .pure (Xi _ (Yi (c2) ?_));refine Yi (Nz rfl) ?_;refine Xi ⟨[(8,.ref 8 0),(9,.slice (.id 11900 3) (r1.map AH)),(10,vb true),(11,.ref 11 0),(12,.v (.slice none 0 0)),(13,vb false)],[(8,.cells (AH t1)),(11,.cells UQ),(11900,.tok 3 (r1.map AH).length)],Aa⟩ (Yi ⟨Z6,Z3,Fh,Tv⟩ ?_)
   exact e0.trans (.of_eq (er hr).symm)
  |some q2 =>
   obtain⟨t2,r2⟩:=q2;have c2:=ff b p ol kT h2;obtain⟨g1,g2,g3⟩:=VS ol h2;refine Ps br Tryz.func128 rfl (Nz rfl) ?_;refine Xi (.gen [] 1) (Yi rfl (c1.imp ?_));intro v1 g1 q1;have xO:=q1.1;have lN:=q1.2;subst xO;subst lN;refine Yi (Nz rfl) ?_;refine Xi ⟨[(1,sl AH b),(2,vs p),(8,.ref 8 0),(9,.msl 11900 r1.length),(10,vb true)],[(8,.cells (AH t1)),(11900,.arr 3 (r1.map AH))],Aa⟩ (Yi ⟨Z5,Z2,Fh,Tv⟩ ?_)
   have z1:r1.length=(r1.map AH).length:=by rw[Lm]
   have z2:r2.length=(r2.map AH).length:=by rw[Lm]
   refine Yi z1 ?_;refine Xi (.gen [] 1) (Yi rfl (c2.imp ?_));intro v2 g2 q2;have xT:=q2.1;have xU:=q2.2;subst xT;subst xU;refine Yi (Nz rfl) ?_;refine Xi ⟨[(8,.ref 8 0),(9,.slice (.id 11900 3) (r1.map AH)),(10,vb true),(11,.ref 11 0),(12,.msl 12600 r2.length),(13,vb true)],[(8,.cells (AH t1)),(11,.cells (AH t2)),(11900,.tok 3 (r1.map AH).length),(12600,.arr 3 (r2.map AH))],Aa⟩ (Yi ⟨Z6,Z4,Fh,Tv⟩ ?_)
   refine Yi z2 ?_;refine Xi ⟨[(8,.ref 8 0),(9,.slice (.id 11900 3) (r1.map AH)),(11,.ref 11 0),(12,.slice (.id 12600 3) (r2.map AH))],[(8,.cells (AH t1)),(11,.cells (AH t2)),(11900,.tok 3 (r1.map AH).length),(12600,.tok 3 (r2.map AH).length)],Aa⟩ (Yi ⟨Z4,Z4,Fh,Tv⟩ ?_)
   have l1:=VT h1;have l2:=VT h2;have b1:CQ 3 (r2.map AH)∧(r1.map AH).length=(r1.map AH).length∧((r1.map AH).length+(r2.map AH).length)*48≤140737488355328∧(r1.map AH).length+(r2.map AH).length≤9223372036854775807 :=
    ⟨Fz (enc:=AH) (n:=3) (fun _=>rfl) r2,rfl,by rw[Lm,Lm];omega,by rw[Lm,Lm];omega⟩
   refine Yi b1 ?_;refine Yi (Nz rfl) (Yi (Nz rfl) ?_);refine Xi _ (Yi (vG t1 t2 f1 g1) ?_);have b2:CQ 3 [AH (Dq t1 t2)]∧(r1.map AH++r2.map AH).length=(r1.map AH).length+(r2.map AH).length∧((r1.map AH++r2.map AH).length+[AH (Dq t1 t2)].length)*48≤140737488355328∧(r1.map AH++r2.map AH).length+[AH (Dq t1 t2)].length≤9223372036854775807 :=
    ⟨⟨rfl,trivial⟩,by rw[Ae],by rw[Ae,Lm,Lm,AG];omega,by rw[Ae,Lm,Lm,AG];omega⟩
   refine Yi b2 ?_;have og:=tW (r1++r2++[Dq t1 t2]) (by unfold Cp;simp only[Ae,AG];omega) (fun u hu=>by
    rcases A1.1 hu with hu | hu
    ·rcases A1.1 hu with hu | hu
     ·exact f3 u hu
     ·exact g3 u hu
    ·rw[Aq.1 hu];exact co _ _)
   have e1:sl AH (r1++r2++[Dq t1 t2])=.slice .none (r1.map AH++r2.map AH++[AH (Dq t1 t2)]):=by simp
   have zy:PC 183 [.slice .none (r1.map AH++r2.map AH++[AH (Dq t1 t2)])] (GU (r1++r2++[Dq t1 t2])):=e1▸og;cases pW:CR (r1++r2++[Dq t1 t2])with
   |none =>
    have hr:Bz a b p=([],8):=by unfold Bz;rw[h1,h2];dsimp only;rw[pW]
    have ec:GU (r1++r2++[Dq t1 t2])=.tup [sl AH [],vb false]:=by unfold GU Qo;rw[pW];rfl
    have hc:PC 183 [.slice .none (r1.map AH++r2.map AH++[AH (Dq t1 t2)])] (.tup [sl AH [],vb false]):=ec▸zy;have e8:G1 (.tup [.v (.slice none 0 0),vi 8]) (.tup [.slice .none [],vi 8]):=G1.tup ⟨.nil,.refl _,trivial⟩;refine Xi _ (Yi (hc) ?_);refine Yi (by kernel_rfl) ?_;refine Xi ⟨[(14,sl AH []),(15,vb false)],[],Aa⟩ (Yi ⟨Z2,Tv,Fh,Tv⟩ ?_)
    exact e8.trans (.of_eq (er hr).symm)
   |some o =>
    have hr:Bz a b p=(o,0):=by unfold Bz;rw[h1,h2];dsimp only;rw[pW]
    have ec:GU (r1++r2++[Dq t1 t2])=.tup [sl AH o,vb true]:=by unfold GU Qo;rw[pW];rfl
    have hc:PC 183 [.slice .none (r1.map AH++r2.map AH++[AH (Dq t1 t2)])] (.tup [sl AH o,vb true]):=ec▸zy;refine Xi _ (Yi (hc) ?_);refine Yi (by kernel_rfl) ?_;refine Xi ⟨[(14,sl AH o),(15,vb true)],[],Aa⟩ (Yi ⟨Z2,Tv,Fh,Tv⟩ ?_)
    exact .of_eq (er hr).symm
def aH(h s:Nat→HO):Nat→Bool
 |0=>true
 |n+1=>(match h (1000+n)with |.free=>true |_=>(match s (1000+n)with |.free=>false |_=>true))&&aH h s n
theorem S7{h s:Nat→HO}:∀{n:Nat},aH h s n=true→∀j,j<n→h (1000+j)≠.free→s (1000+j)≠.free
 |n+1,hd,j,hj,hn=>by
  simp only[aH,Ah]at hd;rcases B7 j n with h1 | h1
  ·exact S7 hd.2 j h1 hn
  ·have:j=n:=by omega
   subst this
   have:=hd.1
   intro e;split at this
   ·rename_i q;exact hn q
   ·rw[e]at this;cases this
theorem AB{h s:Nat→HO}(hd:aH h s 1000=true):∀j,1000≤j→j<2000→h j≠.free→s j≠.free:=fun j h1 h2=>by
 have:=S7 hd (j-1000) (by omega)
 rw[show 1000+(j-1000)=j by omega]at this;exact this
abbrev Xh:List AV:=[vs ⟨#[]⟩,vi 0,vi 0,vi 0,.v (.slice none 0 0),vs ⟨#[]⟩,vs ⟨#[]⟩,vs ⟨#[]⟩,vb false]
abbrev J9:Option Rl→AV
 |some r=>.tup [.agg (Ag r),vb true]
 |none=>.tup [.agg Xh,vb false]
theorem fN{α:Type}{p:α→Bool}{l:List α}{i:Nat}(hi:i<l.length)(hb:∀j (hj:j<l.length),j<i→p l[j]=false)(h:p l[i]=true):l.find? p=some l[i]:=by
 rw[List.find?_eq_some_iff_getElem];exact⟨h,i,hi,rfl,fun j hj=>by rw[hb j (by omega) hj];rfl⟩
theorem cr{α:Type}{p:α→Bool}{l:List α}(hb:∀j (hj:j<l.length),p l[j]=false):l.find? p=none:=by
 rw[DC];intro x hx;obtain⟨j,hj,rfl⟩:=BU hx;rw[hb j hj];decide
theorem lL(v:Ver):0≤plc v∧plc v<1000000:=by
 unfold plc;cases h:Cr v with
 |true=>exact JG h
 |false=>simp
abbrev m7(t:List Tm):Prop:=t.length≤500000000∧∀u∈t,Cp u.set
theorem qE(s:ByteArray):PC 113 [vs s] (vb false):=by
 refine Ps E4 Tryz.func113 rfl (Nz rfl) ?_;refine Yi ?_ ?_
 ·intro h;exact absurd rfl (show s≠s from h)
 ·intro _;exact .refl _
theorem qI(z:Int):PC 167 [vi z] (vb false):=by
 refine Ps E4 Tryz.func167 rfl (Nz rfl) ?_;refine Yi ?_ ?_
 ·intro h;exact absurd rfl (show z≠z from h)
 ·intro _;exact .refl _
theorem vf(a b:ByteArray):PC 84 [vs a,vs b] (vi (IS a b)):=by
 refine Ps E4 Tryz.func84 rfl (Nz rfl) ?_;refine Xi .pure (Xi _ (Yi (qE a) ?_));refine Xi .pure (Xi _ (Yi (qE b) ?_));refine Yi ?_ ?_
 ·intro h;have h:Op.bytesLess a.toList b.toList=true:=h;exact .of_eq (Ac vi (show(-1:Int)=IS a b by unfold IS;rw[Ap (by rw[EX];exact h)]))
 ·intro h;have h:¬Op.bytesLess a.toList b.toList=true:=h;refine Yi ?_ ?_
  ·intro h2;have h2:Op.bytesLess b.toList a.toList=true:=h2;exact .of_eq (Ac vi (show(1:Int)=IS a b by unfold IS;rw[Aj (by rw[EX];exact h),Ap (by rw[EX];exact h2)]))
  ·intro h2;have h2:¬Op.bytesLess b.toList a.toList=true:=h2;exact .of_eq (Ac vi (show(0:Int)=IS a b by unfold IS;rw[Aj (by rw[EX];exact h),Aj (by rw[EX];exact h2)]))
theorem nF(a b:Int):PC 114 [vi a,vi b] (vi (E9 a b)):=by
 refine Ps E4 Tryz.func114 rfl (Nz rfl) ?_;refine Xi .pure (Xi _ (Yi (qI a) ?_));refine Xi .pure (Xi _ (Yi (qI b) ?_));refine Yi ?_ ?_
 ·intro h;have h:a<b:=h;exact .of_eq (Ac vi (show(-1:Int)=E9 a b by unfold E9;rw[Ap h]))
 ·intro h;have h:¬a<b:=h;refine Yi ?_ ?_
  ·intro h2;have h2:b<a:=h2;exact .of_eq (Ac vi (show(1:Int)=E9 a b by unfold E9;rw[Aj h,Ap h2]))
  ·intro h2;have h2:¬b<a:=h2;exact .of_eq (Ac vi (show(0:Int)=E9 a b by unfold E9;rw[Aj h,Aj h2]))
theorem ve(a b:Int):PC 83 [.slice .none [[vi a],[vi b]]] (vi (if a≠0 then a else b)):=by
 refine Ps E4 Tryz.func83 rfl (Nz rfl) ?_;refine Xi {i:Nat // i≤2∧(0<i→a=0)∧(1<i→b=0)} (Xi (fun i=>⟨[(3,vi 0),(6,.slice .none [[vi a],[vi b]]),(7,vi 2),(8,vi i.1)],[],Aa⟩) (Xi (fun i=>2-i.1) (Yi (Xi ⟨0,by omega,by omega,by omega⟩ ?_) ?_)))
 ·exact⟨Z4,Tv,Fh,Tv⟩
 intro⟨i,h1,h2,h3⟩;refine Yi ?_ ?_
 ·intro h;have h:(i:Int)<2:=h
  match i,h1,h2,h3,h with
  |0,h1,h2,h3,h =>
   refine Xi [vi a] (Yi (Yi (BJ _) rfl) (Yi rfl ?_));refine Yi ?_ ?_
   ·intro h4;have h4:a≠0:=h4;exact .of_eq (Ac vi (Ap h4).symm)
   ·intro h4;have h4:¬a≠0:=h4;refine Yi (Ii 0 (by omega)) ?_;refine Xi ⟨1,by omega,fun _=>by omega,fun q=>absurd q (by decide)⟩ ?_;exact⟨by show 2-1<2-0;decide,Z4,Tv,Fh,Tv⟩
  |1,h1,h2,h3,h =>
   have ha:=h2 (by decide);refine Xi [vi b] (Yi (Yi (by show(0:Int)≤1;decide) rfl) (Yi rfl ?_));refine Yi ?_ ?_
   ·intro h4;exact .of_eq (Ac vi (Aj (by omega)).symm)
   ·intro h4;have h4:¬b≠0:=h4;refine Yi (Ii 1 (by omega)) ?_;refine Xi ⟨2,by omega,fun _=>ha,fun q=>by omega⟩ ?_;exact⟨by show 2-2<2-1;decide,Z4,Tv,Fh,Tv⟩
  |i+2,h1,h2,h3,h=>omega
 ·intro h;have h:¬(i:Int)<2:=h;have ha:=h2 (by omega);have hb:=h3 (by omega);exact .of_eq (Ac vi (show(0:Int)=if a≠0 then a else b by rw[Aj (by omega),hb]))
theorem SQ(a b:Ver)(i:Nat)(hi:i<3)(h:∀j,j<i→E9 (part a j) (part b j)=0)(hn:E9 (part a i) (part b i)≠0):Im a b=E9 (part a i) (part b i):=by
 unfold Im
 match i,hi,h,hn with
 |0,_,_,hn=>exact Ap hn
 |1,_,h,hn =>
  have h0:E9 a.a b.a=0:=h 0 (by decide);rw[Aj (by omega)];exact Ap hn
 |2,_,h,hn =>
  have h0:E9 a.a b.a=0:=h 0 (by decide);have h1:E9 a.b b.b=0:=h 1 (by decide);rw[Aj (by omega),Aj (by omega)];rfl
theorem fA(a b:Ver)(h:∀j,j<3→E9 (part a j) (part b j)=0):Im a b=0:=by
 unfold Im;have h0:E9 a.a b.a=0:=h 0 (by decide);have h1:E9 a.b b.b=0:=h 1 (by decide);have h2:E9 a.c b.c=0:=h 2 (by decide);rw[Aj (by omega),Aj (by omega),h2]
theorem vg(a b:Ver):PC 85 [.agg (Ea a),.agg (Ea b)] (vi (Im a b)):=by
 refine Ps E4 Tryz.func85 rfl (Nz rfl) ?_;refine Yi (Nz rfl) ?_;refine Xi _ (Yi (nC a) ?_);refine Yi (Nz rfl) ?_;refine Xi _ (Yi (nC b) ?_);refine Yi (Nz rfl) (Yi (Nz rfl) ?_);refine Yi (by kernel_rfl) ?_;refine Xi {i:Nat // i≤3∧∀j,j<i→E9 (part a j) (part b j)=0} (Xi (fun i=>⟨[(5,.ref 5 0),(6,.ref 6 0),(13,vi i.1)],[(5,.cells (Ea a)),(6,.cells (Ea b))],Aa⟩) (Xi (fun i=>3-i.1) (Yi (Xi ⟨0,by omega,fun j h=>by omega⟩ ?_) ?_)))
 ·exact⟨Z3,Z2,Fh,Tv⟩
 intro⟨i,h1,h2⟩;refine Yi ?_ ?_
 ·intro h;have h:(i:Int)<3:=h;have next:E9 (part a i) (part b i)=0→∀j,j<i+1→E9 (part a j) (part b j)=0:=fun hz j hj=>by
   rcases B7 j i with q | q
   ·exact h2 j q
   ·have:j=i:=by omega
    subst this;exact hz
  match i,h1,h2,h,next with
  |0,h1,h2,h,next =>
   refine Yi ⟨by show(0:Int)≤0;decide,by show(0:Int)<3;decide⟩ ?_;refine Yi ⟨by show(0:Int)≤0;decide,by show(0:Int)<3;decide⟩ ?_;refine Xi _ (Yi (nF (part a 0) (part b 0)) ?_);refine Yi (by kernel_rfl) ?_;refine Yi ?_ ?_
   ·intro h4;have h4:E9 (part a 0) (part b 0)≠0:=h4;exact .of_eq (Ac vi (SQ a b 0 (by decide) h2 h4).symm)
   ·intro h4;have h4:¬E9 (part a 0) (part b 0)≠0:=h4;refine Yi (Ii 0 (by omega)) ?_;refine Xi ⟨1,by omega,next (Gz h4)⟩ ?_
    exact⟨by show 3-1<3-0;decide,Z3,Z2,Fh,Tv⟩
  |1,h1,h2,h,next =>
   refine Yi ⟨by show(0:Int)≤1;decide,by show(1:Int)<3;decide⟩ ?_;refine Yi ⟨by show(0:Int)≤1;decide,by show(1:Int)<3;decide⟩ ?_;refine Xi _ (Yi (nF (part a 1) (part b 1)) ?_);refine Yi (by kernel_rfl) ?_;refine Yi ?_ ?_
   ·intro h4;have h4:E9 (part a 1) (part b 1)≠0:=h4;exact .of_eq (Ac vi (SQ a b 1 (by decide) h2 h4).symm)
   ·intro h4;have h4:¬E9 (part a 1) (part b 1)≠0:=h4;refine Yi (Ii 1 (by omega)) ?_;refine Xi ⟨2,by omega,next (Gz h4)⟩ ?_
    exact⟨by show 3-2<3-1;decide,Z3,Z2,Fh,Tv⟩
  |2,h1,h2,h,next =>
   refine Yi ⟨by show(0:Int)≤2;decide,by show(2:Int)<3;decide⟩ ?_;refine Yi ⟨by show(0:Int)≤2;decide,by show(2:Int)<3;decide⟩ ?_;refine Xi _ (Yi (nF (part a 2) (part b 2)) ?_);refine Yi (by kernel_rfl) ?_;refine Yi ?_ ?_
   ·intro h4;have h4:E9 (part a 2) (part b 2)≠0:=h4;exact .of_eq (Ac vi (SQ a b 2 (by decide) h2 h4).symm)
   ·intro h4;have h4:¬E9 (part a 2) (part b 2)≠0:=h4;refine Yi (Ii 2 (by omega)) ?_;refine Xi ⟨3,by omega,next (Gz h4)⟩ ?_
    exact⟨by show 3-3<3-2;decide,Z3,Z2,Fh,Tv⟩
  |i+3,h1,h2,h,next=>omega
 ·intro h;have h:¬(i:Int)<3:=h;exact .of_eq (Ac vi (fA a b fun j hj=>h2 j (by omega)).symm)
theorem qz(a b:Rl):PC 60 [.agg (Ag a),.agg (Ag b)] (vi (Dh a b)):=by
 refine Ps E4 Tryz.func60 rfl (Nz rfl) ?_;refine Xi _ (Yi (vf a.path b.path) ?_);refine Yi (Nz rfl) (Yi (Nz rfl) ?_);refine Xi _ (Yi (vg a.ver b.ver) ?_);refine Xi _ (Yi (ve (IS a.path b.path) (Im a.ver b.ver)) ?_);refine Yi (by kernel_rfl) ?_;exact .refl _
abbrev F0(s:ByteArray):Prop:=s.size≤1073741824
abbrev NE(q:Rq):Prop:=Cp q.set∧F0 q.path
abbrev JM(r:Rl):Prop:=F0 r.path∧∀q∈r.reqs,NE q
abbrev TP(nm:ByteArray→ByteArray)(p:ByteArray):AV:=match Bu p with
 |some m=>.tup [vs (nm p),vi m,vi 0]
 |none=>.tup [vs ⟨#[]⟩,vi 0,vi 4]
abbrev Uw(nm:ByteArray→ByteArray):Prop:=∀p:ByteArray,F0 p→PC 81 [vs p] (TP nm p)
theorem Uw.none{nm:ByteArray→ByteArray}(h:Uw nm){p:ByteArray}(hp:F0 p)(e:Bu p=.none):PC 81 [vs p] (.tup [vs ⟨#[]⟩,vi 0,vi 4]):=by
 have:=h p hp;unfold TP at this;rw[e]at this;exact this
theorem Uw.some{nm:ByteArray→ByteArray}(h:Uw nm){p:ByteArray}{m:Int}(hp:F0 p)(e:Bu p=.some m):PC 81 [vs p] (.tup [vs (nm p),vi m,vi 0]):=by
 have:=h p hp;unfold TP at this;rw[e]at this;exact this
theorem qA{nm:ByteArray→ByteArray}(hL:Uw nm)(q:Rq)(hq:Cp q.set)(hp:F0 q.path):PC 112 [.agg (AF q),.v (.pointer none)] (vi (F9 none q)):=by
 cases Us:Bu q.path with
 |none =>
  have e:(4:Int)=F9 none q:=by unfold F9;rw[Us];rfl
  have hl:=hL.none hp Us;refine Ps E4 Tryz.func112 rfl (Nz rfl) ?_;refine Xi .pure (Xi _ (Yi (hl) ?_));refine Yi ?_ ?_
  ·intro _;exact .of_eq (Ac vi e)
  ·intro h;exact absurd (show(4:Int)≠0 by decide) h
 |some m =>
  have er:F9 none q=if(q.set.isEmpty||!decide (q.set=canon q.set)||false)=true then 1 else 0:=by unfold F9;rw[Us];rfl
  have hl:=hL.some hp Us;have hc:=Xz q.set hq;have he:=qC q.set (canon q.set) hq;have Qb:∀{n:Int},n=(q.set.map Af).length→n=0→q.set.isEmpty=true:=fun h1 h2=>by
   rw[Lm]at h1;rw[F4];exact AL (by omega)
  have gI:¬((q.set.map Af).length:Int)=0→q.set.isEmpty=false:=fun h=>by
   cases hqs:q.set with
   |nil=>rw[hqs]at h;exact absurd rfl h
   |cons a l=>rfl
  rcases Bt (decide (q.set=canon q.set))with h2 | h2
  ·rw[h2]at he;refine Ps (Hv [2,4]) Tryz.func112 rfl (Nz rfl) ?_;refine Xi .pure (Xi _ (Yi (hl) ?_));refine Xi ⟨[(1,.v (.pointer none)),(2,.ref 2 0),(7,vi 0)],[(2,.cells (AF q))],Aa⟩ (Yi ⟨Z3,Z1,Fh,Tv⟩ ?_)
   refine Yi ?_ ?_
   ·intro h;exact absurd rfl h
   intro _;refine Xi ⟨[(1,.v (.pointer none)),(2,.ref 2 0)],[(2,.cells (AF q))],Aa⟩ (Yi ⟨Z2,Z1,Fh,Tv⟩ ?_)
   refine Yi ?_ ?_
   ·intro h;have h:((q.set.map Af).length:Int)=0:=h;have e:(1:Int)=F9 none q:=by rw[er,Qb rfl h];rfl
    refine Yi (by kernel_rfl) ?_;exact .of_eq (Ac vi e)
   intro h;have h:¬((q.set.map Af).length:Int)=0:=h;have hn:=gI h;refine Xi _ (Yi (hc) ?_);refine Xi _ (Yi (he) ?_);refine Yi (by kernel_rfl) ?_;have e:(0:Int)=F9 none q:=by rw[er,hn,h2];rfl
   exact .of_eq (Ac vi e)
  ·rw[h2]at he;refine Ps (Hv [2,4]) Tryz.func112 rfl (Nz rfl) ?_;refine Xi .pure (Xi _ (Yi (hl) ?_));refine Xi ⟨[(1,.v (.pointer none)),(2,.ref 2 0),(7,vi 0)],[(2,.cells (AF q))],Aa⟩ (Yi ⟨Z3,Z1,Fh,Tv⟩ ?_)
   refine Yi ?_ ?_
   ·intro h;exact absurd rfl h
   intro _;refine Xi ⟨[(1,.v (.pointer none)),(2,.ref 2 0)],[(2,.cells (AF q))],Aa⟩ (Yi ⟨Z2,Z1,Fh,Tv⟩ ?_)
   refine Yi ?_ ?_
   ·intro h;have h:((q.set.map Af).length:Int)=0:=h;have e:(1:Int)=F9 none q:=by rw[er,Qb rfl h];rfl
    refine Yi (by kernel_rfl) ?_;exact .of_eq (Ac vi e)
   intro h;have h:¬((q.set.map Af).length:Int)=0:=h;have hn:=gI h;refine Xi _ (Yi (hc) ?_);refine Xi _ (Yi (he) ?_);refine Yi (by kernel_rfl) ?_;have e:(1:Int)=F9 none q:=by rw[er,hn,h2];rfl
   exact .of_eq (Ac vi e)
theorem qB{nm:ByteArray→ByteArray}(hL:Uw nm)(q b:Rq)(hq:Cp q.set)(hp:F0 q.path):PC 112 [.agg (AF q),.cptr (AF b)] (vi (F9 (some b.path) q)):=by
 cases Us:Bu q.path with
 |none =>
  have e:(4:Int)=F9 (some b.path) q:=by unfold F9;rw[Us];rfl
  have hl:=hL.none hp Us;refine Ps E4 Tryz.func112 rfl (Nz rfl) ?_;refine Xi .pure (Xi _ (Yi (hl) ?_));refine Yi ?_ ?_
  ·intro _;exact .of_eq (Ac vi e)
  ·intro h;exact absurd (show(4:Int)≠0 by decide) h
 |some m =>
  have er:F9 (some b.path) q=if(q.set.isEmpty||!decide (q.set=canon q.set)||!Eg b.path q.path)=true then 1 else 0:=by unfold F9;rw[Us];rfl
  have hl:=hL.some hp Us;have hc:=Xz q.set hq;have he:=qC q.set (canon q.set) hq;have Qb:∀{n:Int},n=(q.set.map Af).length→n=0→q.set.isEmpty=true:=fun h1 h2=>by
   rw[Lm]at h1;rw[F4];exact AL (by omega)
  have gI:¬((q.set.map Af).length:Int)=0→q.set.isEmpty=false:=fun h=>by
   cases hqs:q.set with
   |nil=>rw[hqs]at h;exact absurd rfl h
   |cons a l=>rfl
  rcases Bt (decide (q.set=canon q.set))with h2 | h2
  ·rw[h2]at he;refine Ps (Hv [2,4]) Tryz.func112 rfl (Nz rfl) ?_;refine Xi .pure (Xi _ (Yi (hl) ?_));refine Xi ⟨[(1,.cptr (AF b)),(2,.ref 2 0),(7,vi 0)],[(2,.cells (AF q))],Aa⟩ (Yi ⟨Z3,Z1,Fh,Tv⟩ ?_)
   refine Yi ?_ ?_
   ·intro h;exact absurd rfl h
   intro _;refine Xi ⟨[(1,.cptr (AF b)),(2,.ref 2 0)],[(2,.cells (AF q))],Aa⟩ (Yi ⟨Z2,Z1,Fh,Tv⟩ ?_)
   refine Yi ?_ ?_
   ·intro h;have h:((q.set.map Af).length:Int)=0:=h;have e:(1:Int)=F9 (some b.path) q:=by rw[er,Qb rfl h];rfl
    refine Yi (by kernel_rfl) ?_;exact .of_eq (Ac vi e)
   intro h;have h:¬((q.set.map Af).length:Int)=0:=h;have hn:=gI h;refine Xi _ (Yi (hc) ?_);refine Xi _ (Yi (he) ?_);refine Yi ?_ ?_
   ·intro h3;have h3:Op.bytesLess b.path.toList q.path.toList=false:=h3;refine Yi (by kernel_rfl) ?_;have e:(1:Int)=F9 (some b.path) q:=by rw[er,hn,h2,EX,h3];rfl
    exact .of_eq (Ac vi e)
   ·intro h3;have h3:¬Op.bytesLess b.path.toList q.path.toList=false:=h3;have h3:Op.bytesLess b.path.toList q.path.toList=true:=by simpa using h3
    refine Yi (by kernel_rfl) ?_;have e:(0:Int)=F9 (some b.path) q:=by rw[er,hn,h2,EX,h3];rfl
    exact .of_eq (Ac vi e)
  ·rw[h2]at he;refine Ps (Hv [2,4]) Tryz.func112 rfl (Nz rfl) ?_;refine Xi .pure (Xi _ (Yi (hl) ?_));refine Xi ⟨[(1,.cptr (AF b)),(2,.ref 2 0),(7,vi 0)],[(2,.cells (AF q))],Aa⟩ (Yi ⟨Z3,Z1,Fh,Tv⟩ ?_)
   refine Yi ?_ ?_
   ·intro h;exact absurd rfl h
   intro _;refine Xi ⟨[(1,.cptr (AF b)),(2,.ref 2 0)],[(2,.cells (AF q))],Aa⟩ (Yi ⟨Z2,Z1,Fh,Tv⟩ ?_)
   refine Yi ?_ ?_
   ·intro h;have h:((q.set.map Af).length:Int)=0:=h;have e:(1:Int)=F9 (some b.path) q:=by rw[er,Qb rfl h];rfl
    refine Yi (by kernel_rfl) ?_;exact .of_eq (Ac vi e)
   intro h;have h:¬((q.set.map Af).length:Int)=0:=h;have hn:=gI h;refine Xi _ (Yi (hc) ?_);refine Xi _ (Yi (he) ?_);refine Yi (by kernel_rfl) ?_;have e:(1:Int)=F9 (some b.path) q:=by rw[er,hn,h2];rfl
   exact .of_eq (Ac vi e)
abbrev MI(l:List Rq)(k:Nat):List AV:=((l.map AF)[k]?).getD []
abbrev qw(l:List Rq):Nat→AV
 |0=>.v (.pointer none)
 |k+1=>.cptr (MI l k)
abbrev G2(l:List Rq):Nat→Option ByteArray
 |0=>none
 |k+1=>(l[k]?).map (·.path)
theorem NJ{l:List Rq}{k:Nat}(h:k<l.length):MI l k=AF l[k]:=by
 unfold MI;rw[AI,Ge h];rfl
theorem LW{l:List Rq}{k:Nat}(h:k<l.length):G2 l (k+1)=some l[k].path:=by
 show(l[k]?).map _=_;rw[Ge h];rfl
theorem zb{nm:ByteArray→ByteArray}(hL:Uw nm)(l:List Rq)(hs:∀q∈l,NE q):PC 82 [sl AF l] (vi (Bp l)):=by
 refine Ps (Hv [8]) Tryz.func82 rfl (Nz rfl) ?_;refine Yi ?_ ?_
 ·intro h;have h:(16:Int)<(l.map AF).length:=h;exact .of_eq (Ac vi (show(7:Int)=Bp l by unfold Bp;rw[Ap (by rw[Lm]at h;omega)]))
 intro h;have h:¬(16:Int)<(l.map AF).length:=h;have hl:l.length≤16:=by rw[Lm]at h;omega
 have Mb:Bp l=D8 none l:=by unfold Bp;rw[Aj (by omega)]
 refine Xi {i:Nat // i≤l.length∧D8 none l=D8 (G2 l i) (l.drop i)} (Xi (fun i=>⟨[(0,sl AF l),(3,qw l i.1),(10,sl AF l),(11,vi (l.map AF).length),(12,vi i.1)],[],Aa⟩) (Xi (fun i=>l.length-i.1) (Yi (Xi ⟨0,AD _,rfl⟩ ?_) ?_)))
 ·exact⟨Z5,Tv,Fh,Tv⟩
 intro⟨i,h1,h2⟩;refine Yi ?_ ?_
 ·intro h;have h:(i:Int)<(l.map AF).length:=h;have h:i<l.length:=by simpa using h
  have hg:l[i]?=some l[i]:=Ge h;have hd:l.drop i=l[i]::l.drop (i+1):=A7 h;have hq:=hs l[i] (At h);have hc:PC 112 [.agg (AF l[i]),qw l i] (vi (F9 (G2 l i) l[i])):=by
   cases i with
   |zero=>exact qA hL _ hq.1 hq.2
   |succ k =>
    rw[LW (by omega:k<l.length)];show PC 112 [_,.cptr (MI l k)] _;rw[NJ (by omega:k<l.length)];exact qB hL _ _ hq.1 hq.2
  have HC:D8 none l=if F9 (G2 l i) l[i]=0 then D8 (some l[i].path) (l.drop (i+1))else F9 (G2 l i) l[i]:=by rw[h2,hd];rfl
  match i,h1,h2,h,hg,hd,hc,HC with
  |0,h1,h2,h,hg,hd,hc,HC =>
   refine Xi (AF l[0]) (Yi (Yi (by show(0:Int)≤((0:Nat):Int);omega) (by simp[hg])) (Yi rfl ?_));refine Yi (Nz rfl) (Yi (Nz rfl) (Yi (Nz rfl) ?_));refine Xi .pure (Xi _ (Yi (hc) ?_));refine Xi ⟨[(0,sl AF l),(4,vi ((0:Nat):Int)),(6,vi (F9 (G2 l (0)) l[0])),(10,sl AF l),(11,vi (l.map AF).length),(12,vi ((0:Nat):Int))],[],Aa⟩ (Yi ⟨Z6,Tv,Fh,Tv⟩ ?_)
   refine Yi ?_ ?_
   ·intro h4;have h4:F9 (G2 l (0)) l[0]≠0:=h4;exact .of_eq (Ac vi (show F9 (G2 l (0)) l[0]=Bp l by rw[Mb,HC,Aj h4]))
   ·intro h4;have h4:¬F9 (G2 l (0)) l[0]≠0:=h4;refine Xi (AF l[0]) (Yi (Yi (by show(0:Int)≤((0:Nat):Int);omega) (by simp[hg])) (Yi rfl ?_));refine Yi (by show Bi (((0:Nat):Int)+1);unfold Bi;omega) ?_;refine Xi ⟨0+1,by omega,by rw[HC,Ap (Gz h4),LW h]⟩ ?_;have e1:AV.cptr (AF l[0])=.cptr (MI l (0)):=by rw[NJ h]
    exact⟨by show l.length-(0+1)<l.length-(0);omega,⟨Zr,⟨e1,rfl⟩,Zr,Zr,Zr,Tv⟩,Tv,Fh,Tv⟩
  |k+1,h1,h2,h,hg,hd,hc,HC =>
   refine Xi (AF l[k+1]) (Yi (Yi (by show(0:Int)≤((k+1:Nat):Int);omega) (by simp[hg])) (Yi rfl ?_));refine Yi (Nz rfl) (Yi (Nz rfl) (Yi (Nz rfl) ?_));refine Xi .pure (Xi _ (Yi (hc) ?_));refine Xi ⟨[(0,sl AF l),(4,vi ((k+1:Nat):Int)),(6,vi (F9 (G2 l (k+1)) l[k+1])),(10,sl AF l),(11,vi (l.map AF).length),(12,vi ((k+1:Nat):Int))],[],Aa⟩ (Yi ⟨Z6,Tv,Fh,Tv⟩ ?_)
   refine Yi ?_ ?_
   ·intro h4;have h4:F9 (G2 l (k+1)) l[k+1]≠0:=h4;exact .of_eq (Ac vi (show F9 (G2 l (k+1)) l[k+1]=Bp l by rw[Mb,HC,Aj h4]))
   ·intro h4;have h4:¬F9 (G2 l (k+1)) l[k+1]≠0:=h4;refine Xi (AF l[k+1]) (Yi (Yi (by show(0:Int)≤((k+1:Nat):Int);omega) (by simp[hg])) (Yi rfl ?_));refine Yi (by show Bi (((k+1:Nat):Int)+1);unfold Bi;omega) ?_;refine Xi ⟨k+1+1,by omega,by rw[HC,Ap (Gz h4),LW h]⟩ ?_;have e1:AV.cptr (AF l[k+1])=.cptr (MI l (k+1)):=by rw[NJ h]
    exact⟨by show l.length-(k+1+1)<l.length-(k+1);omega,⟨Zr,⟨e1,rfl⟩,Zr,Zr,Zr,Tv⟩,Tv,Fh,Tv⟩
 ·intro h;have h:¬(i:Int)<(l.map AF).length:=h;have h:¬i<l.length:=by simpa using h
  have e:(0:Int)=Bp l:=by rw[Mb,h2,Hy (by omega)];rfl
  exact .of_eq (Ac vi e)
abbrev fG(r:Rl):Nat→ByteArray
 |0=>r.arch
 |1=>r.ifc
 |_=>r.cert
theorem nQ{r:Rl}(h:∀j,j<3→DQ (fG r j)=true):(DQ r.arch&&DQ r.ifc&&DQ r.cert)=true:=by
 have h0:DQ r.arch=true:=h 0 (by decide);have h1:DQ r.ifc=true:=h 1 (by decide);have h2:DQ r.cert=true:=h 2 (by decide);rw[h0,h1,h2];rfl
theorem Zq{r:Rl}{i:Nat}(hi:i<3)(h:DQ (fG r i)=false):(DQ r.arch&&DQ r.ifc&&DQ r.cert)=false:=by
 match i,hi,h with
 |0,_,h=>have h:DQ r.arch=false:=h;rw[h];rfl
 |1,_,h=>have h:DQ r.ifc=false:=h;rw[h,Di];rfl
 |2,_,h=>have h:DQ r.cert=false:=h;rw[h,Di]
theorem uS{nm:ByteArray→ByteArray}(hL:Uw nm)(r:Rl)(hr:JM r):PC 58 [.agg (Ag r)] (vi (CW r)):=by
 cases Us:Bu r.path with
 |none =>
  have e:(4:Int)=CW r:=by unfold CW;rw[Us]
  have hl:=hL.none hr.1 Us;refine Ps E4 Tryz.func58 rfl (Nz rfl) ?_;refine Xi .pure (Xi _ (Yi (hl) ?_));refine Yi ?_ ?_
  ·intro _;exact .of_eq (Ac vi e)
  ·intro h;exact absurd (show(4:Int)≠0 by decide) h
 |some m =>
  have er:CW r=if(!Cr r.ver||!decide (r.ver.a=m))=true then 2 else if Bp r.reqs≠0 then Bp r.reqs else if(DQ r.arch&&DQ r.ifc&&DQ r.cert)=true then 0 else 1:=by unfold CW;rw[Us]
  have hl:=hL.some hr.1 Us;have hv:=nu r.ver;have hc:=zb hL r.reqs hr.2;rcases Bt (Cr r.ver)with h2 | h2
  ·rw[h2]at hv;refine Ps (Hv [2,4,6,7,9]) Tryz.func58 rfl (Nz rfl) ?_;refine Xi .pure (Xi _ (Yi (hl) ?_));refine Xi ⟨[(1,.ref 1 0),(4,vi m),(5,vi 0)],[(1,.cells (Ag r))],Aa⟩ (Yi ⟨Z3,Z1,Fh,Tv⟩ ?_)
   refine Yi ?_ ?_
   ·intro h;exact absurd rfl h
   intro _;refine Xi ⟨[(1,.ref 1 0),(4,vi m)],[(1,.cells (Ag r))],Aa⟩ (Yi ⟨Z2,Z1,Fh,Tv⟩ ?_)
   refine Yi (Nz rfl) ?_;refine Xi .pure (Xi _ (Yi (hv) ?_));refine Yi ?_ ?_
   ·intro h;have h:r.ver.a≠m:=h;have e:(2:Int)=CW r:=by rw[er,h2,Ao h];rfl
    exact .of_eq (Ac vi e)
   intro h;have h:¬r.ver.a≠m:=h;have h3:r.ver.a=m:=Gz h;have qV:CW r=if Bp r.reqs≠0 then Bp r.reqs else if(DQ r.arch&&DQ r.ifc&&DQ r.cert)=true then 0 else 1:=by rw[er,h2,Ar h3];rfl
   refine Xi ⟨[(1,.ref 1 0)],[(1,.cells (Ag r))],Aa⟩ (Yi ⟨Z1,Z1,Fh,Tv⟩ ?_)
   refine Xi .pure (Xi _ (Yi (hc) ?_));refine Xi ⟨[(1,.ref 1 0),(6,vi (Bp r.reqs))],[(1,.cells (Ag r))],Aa⟩ (Yi ⟨Z2,Z1,Fh,Tv⟩ ?_)
   refine Yi ?_ ?_
   ·intro h4;have h4:Bp r.reqs≠0:=h4;exact .of_eq (Ac vi (show Bp r.reqs=CW r by rw[qV,Ap h4]))
   intro h4;have h4:¬Bp r.reqs≠0:=h4;have tX:CW r=if(DQ r.arch&&DQ r.ifc&&DQ r.cert)=true then 0 else 1:=by rw[qV,Aj h4]
   refine Xi ⟨[(1,.ref 1 0)],[(1,.cells (Ag r))],Aa⟩ (Yi ⟨Z1,Z1,Fh,Tv⟩ ?_)
   refine Xi {i:Nat // i≤3∧∀j,j<i→DQ (fG r j)=true} (Xi (fun i=>⟨[(41,.slice (.id 41 1) [[vs r.arch],[vs r.ifc],[vs r.cert]]),(42,vi 3),(43,vi i.1)],[(41,.tok 1 3)],Aa⟩) (Xi (fun i=>3-i.1) (Yi (Xi ⟨0,by omega,fun j h=>by omega⟩ ?_) ?_)))
   ·exact⟨Z3,Z1,Fh,Tv⟩
   intro⟨i,i1,i2⟩;refine Yi ?_ ?_
   ·intro h;have h:(i:Int)<3:=h;have next:DQ (fG r i)=true→∀j,j<i+1→DQ (fG r j)=true:=fun hz j hj=>by
     rcases B7 j i with q | q
     ·exact i2 j q
     ·have:j=i:=by omega
      subst this;exact hz
    match i,i1,i2,h,next with
    |0,i1,i2,h,next =>
     refine Xi [vs r.arch] (Yi (Yi (by show(0:Int)≤0;decide) rfl) (Yi rfl ?_));refine Yi ?_ ?_
     ·intro h5;have h5:((r.arch.size:Nat):Int)≠0:=h5;refine Yi ?_ ?_
      ·intro h6;have h6:((r.arch.size:Nat):Int)≠32:=h6;have e:(1:Int)=CW r:=by rw[tX,Zq (i:=0) (by decide) (show DQ r.arch=false by unfold DQ;rw[Ao (by omega),Ao (by omega)];rfl)];rfl
       exact .of_eq (Ac vi e)
      ·intro h6;have h6:¬((r.arch.size:Nat):Int)≠32:=h6;refine Yi (Ii 0 (by omega)) ?_;refine Xi ⟨1,by omega,next (show DQ r.arch=true by unfold DQ;rw[Ar (by omega:r.arch.size=32),Uv])⟩ ?_
       exact⟨by show 3-1<3-0;decide,Z3,Z1,Fh,Tv⟩
     ·intro h5;have h5:¬((r.arch.size:Nat):Int)≠0:=h5;refine Yi (Ii 0 (by omega)) ?_;refine Xi ⟨1,by omega,next (show DQ r.arch=true by unfold DQ;rw[Ar (by omega:r.arch.size=0)];rfl)⟩ ?_
      exact⟨by show 3-1<3-0;decide,Z3,Z1,Fh,Tv⟩
    |1,i1,i2,h,next =>
     refine Xi [vs r.ifc] (Yi (Yi (by show(0:Int)≤1;decide) rfl) (Yi rfl ?_));refine Yi ?_ ?_
     ·intro h5;have h5:((r.ifc.size:Nat):Int)≠0:=h5;refine Yi ?_ ?_
      ·intro h6;have h6:((r.ifc.size:Nat):Int)≠32:=h6;have e:(1:Int)=CW r:=by rw[tX,Zq (i:=1) (by decide) (show DQ r.ifc=false by unfold DQ;rw[Ao (by omega),Ao (by omega)];rfl)];rfl
       exact .of_eq (Ac vi e)
      ·intro h6;have h6:¬((r.ifc.size:Nat):Int)≠32:=h6;refine Yi (Ii 1 (by omega)) ?_;refine Xi ⟨2,by omega,next (show DQ r.ifc=true by unfold DQ;rw[Ar (by omega:r.ifc.size=32),Uv])⟩ ?_
       exact⟨by show 3-2<3-1;decide,Z3,Z1,Fh,Tv⟩
     ·intro h5;have h5:¬((r.ifc.size:Nat):Int)≠0:=h5;refine Yi (Ii 1 (by omega)) ?_;refine Xi ⟨2,by omega,next (show DQ r.ifc=true by unfold DQ;rw[Ar (by omega:r.ifc.size=0)];rfl)⟩ ?_
      exact⟨by show 3-2<3-1;decide,Z3,Z1,Fh,Tv⟩
    |2,i1,i2,h,next =>
     refine Xi [vs r.cert] (Yi (Yi (by show(0:Int)≤2;decide) rfl) (Yi rfl ?_));refine Yi ?_ ?_
     ·intro h5;have h5:((r.cert.size:Nat):Int)≠0:=h5;refine Yi ?_ ?_
      ·intro h6;have h6:((r.cert.size:Nat):Int)≠32:=h6;have e:(1:Int)=CW r:=by rw[tX,Zq (i:=2) (by decide) (show DQ r.cert=false by unfold DQ;rw[Ao (by omega),Ao (by omega)];rfl)];rfl
       exact .of_eq (Ac vi e)
      ·intro h6;have h6:¬((r.cert.size:Nat):Int)≠32:=h6;refine Yi (Ii 2 (by omega)) ?_;refine Xi ⟨3,by omega,next (show DQ r.cert=true by unfold DQ;rw[Ar (by omega:r.cert.size=32),Uv])⟩ ?_
       exact⟨by show 3-3<3-2;decide,Z3,Z1,Fh,Tv⟩
     ·intro h5;have h5:¬((r.cert.size:Nat):Int)≠0:=h5;refine Yi (Ii 2 (by omega)) ?_;refine Xi ⟨3,by omega,next (show DQ r.cert=true by unfold DQ;rw[Ar (by omega:r.cert.size=0)];rfl)⟩ ?_
      exact⟨by show 3-3<3-2;decide,Z3,Z1,Fh,Tv⟩
    |i+3,i1,i2,h,next=>omega
   ·intro h;have h:¬(i:Int)<3:=h;have e:(0:Int)=CW r:=by rw[tX,Ap (nQ fun j hj=>i2 j (by omega))]
    exact .of_eq (Ac vi e)
  ·rw[h2]at hv;have e:(2:Int)=CW r:=by rw[er,h2];rfl
   refine Ps (Hv [2,4]) Tryz.func58 rfl (Nz rfl) ?_;refine Xi .pure (Xi _ (Yi (hl) ?_));refine Xi ⟨[(1,.ref 1 0),(4,vi m),(5,vi 0)],[(1,.cells (Ag r))],Aa⟩ (Yi ⟨Z3,Z1,Fh,Tv⟩ ?_)
   refine Yi ?_ ?_
   ·intro h;exact absurd rfl h
   intro _;refine Xi ⟨[(1,.ref 1 0),(4,vi m)],[(1,.cells (Ag r))],Aa⟩ (Yi ⟨Z2,Z1,Fh,Tv⟩ ?_)
   refine Yi (Nz rfl) ?_;refine Xi .pure (Xi _ (Yi (hv) ?_));exact .of_eq (Ac vi e)
theorem oT{a b:Rl}(h:a.path=b.path∧a.ver.a=b.ver.a∧a.ver.b=b.ver.b∧a.ver.c=b.ver.c):EY a=EY b:=by
 unfold EY;obtain⟨h1,h2,h3,h4⟩:=h
 have:a.ver=b.ver:=by
  cases ha:a.ver;cases hb:b.ver;rw[ha,hb]at h2 h3 h4;simp_all
 rw[h1,this]
theorem Vv{a b:Rl}(h:EY a=EY b):a.path=b.path∧a.ver.a=b.ver.a∧a.ver.b=b.ver.b∧a.ver.c=b.ver.c:=by
 unfold EY at h
 injection h with h1 h2
 exact⟨h1,by rw[h2],by rw[h2],by rw[h2]⟩
abbrev Wr(x:List Rl):Nat→Option Rl
 |0=>none
 |k+1=>x[k]?
theorem jG{nm:ByteArray→ByteArray}(hL:Uw nm)(x:List Rl)(ifs:List (List AV))(hs:∀r∈x,JM r):PC 37 [.agg (Ic x ifs)] (vi (AQ x)):=by
 refine Ps (Hv [7,9,11,13]) Tryz.func37 rfl (Nz rfl) ?_;refine Yi ?_ ?_
 ·intro h;have h:(256:Int)<(x.map Ag).length:=h;exact .of_eq (Ac vi (show(7:Int)=AQ x by unfold AQ;rw[Ap (by rw[Lm]at h;omega)]))
 intro h;have h:¬(256:Int)<(x.map Ag).length:=h;have hl:x.length≤256:=by rw[Lm]at h;omega
 have Mb:AQ x=CV none x:=by unfold AQ;rw[Aj (by omega)]
 refine Xi {i:Nat // i≤x.length∧CV none x=CV (Wr x i) (x.drop i)} (Xi (fun i=>⟨[(1,.ref 1 0),(12,sl Ag x),(13,vi (x.map Ag).length),(14,vi i.1)],[(1,.cells (Ic x ifs))],Aa⟩) (Xi (fun i=>x.length-i.1) (Yi (Xi ⟨0,AD _,rfl⟩ ?_) ?_)))
 ·exact⟨Z4,Z1,Fh,Tv⟩
 intro⟨i,h1,h2⟩;refine Yi ?_ ?_
 ·intro h;have h:(i:Int)<(x.map Ag).length:=h;have h:i<x.length:=by simpa using h
  have hg:x[i]?=some x[i]:=Ge h;have hd:x.drop i=x[i]::x.drop (i+1):=A7 h;have hc:=uS hL x[i] (hs x[i] (At h));have HC:CV none x=if CW x[i]≠0 then CW x[i]else match Wr x i with
   |none=>CV (some x[i]) (x.drop (i+1))
   |some b=>if EY b=EY x[i]then 5 else if 0<Dh b x[i]then 1 else CV (some x[i]) (x.drop (i+1)):=by rw[h2,hd];rfl
  have Ya:Wr x (i+1)=some x[i]:=Ge h;refine Xi (Ag x[i]) (Yi (Yi (Nn i) (by simp[hg])) (Yi rfl ?_));refine Yi (Nz rfl) (Yi (Nz rfl) (Yi (Nz rfl) ?_));refine Xi .pure (Xi _ (Yi (hc) ?_));refine Xi ⟨[(1,.ref 1 0),(3,vi i),(4,.ref 4 0),(5,vi (CW x[i])),(12,sl Ag x),(13,vi (x.map Ag).length),(14,vi i)],[(1,.cells (Ic x ifs)),(4,.cells (Ag x[i]))],Aa⟩ (Yi ⟨Z7,Z2,Fh,Tv⟩ ?_)
  refine Yi ?_ ?_
  ·intro h4;have h4:CW x[i]≠0:=h4;exact .of_eq (Ac vi (show CW x[i]=AQ x by rw[Mb,HC,Ap h4]))
  intro h4;have h4:¬CW x[i]≠0:=h4;refine Xi ⟨[(1,.ref 1 0),(3,vi i),(4,.ref 4 0),(12,sl Ag x),(13,vi (x.map Ag).length),(14,vi i)],[(1,.cells (Ic x ifs)),(4,.cells (Ag x[i]))],Aa⟩ (Yi ⟨Z6,Z2,Fh,Tv⟩ ?_)
  refine Yi ?_ ?_
  ·intro h5;have h5:(i:Int)=0:=h5;have h6:i=0:=by omega
   refine Yi (Ii i (by omega)) ?_;refine Xi ⟨i+1,by omega,by rw[HC,Aj h4,Ya];subst h6;rfl⟩ ?_;exact⟨Dl x.length i (by omega),Z4,Z1,Fh,Tv⟩
  intro h5;have h5:¬(i:Int)=0:=h5;have mB:i-1<x.length:=by omega
  have hb:Wr x i=some x[i-1]:=by
   obtain⟨k,rfl⟩:∃k,i=k+1:=⟨i-1,by omega⟩;exact Ge (by omega)
  have oq:CV none x=if EY x[i-1]=EY x[i]then 5 else if 0<Dh x[i-1] x[i]then 1 else CV (some x[i]) (x.drop (i+1)):=by rw[HC,Aj h4,hb]
  refine Yi (by show Bi ((i:Int)-1);unfold Bi;omega) ?_;have RY:(x.map Ag)[((i:Int)-1).toNat]?=some (Ag x[i-1]):=by rw[show((i:Int)-1).toNat=i-1 by omega];exact CC (Ge mB)
  refine Xi (Ag x[i-1]) (Yi (Yi (by show(0:Int)≤(i:Int)-1;omega) RY) (Yi rfl ?_));refine Yi (Nz rfl) (Yi (Nz rfl) ?_);refine Xi ⟨[(1,.ref 1 0),(4,.ref 4 0),(6,.ref 6 0),(12,sl Ag x),(13,vi (x.map Ag).length),(14,vi i)],[(1,.cells (Ic x ifs)),(4,.cells (Ag x[i])),(6,.cells (Ag x[i-1]))],Aa⟩ (Yi ⟨Z6,Z3,Fh,Tv⟩ ?_)
  refine Yi (Nz rfl) ?_;refine Xi _ (Yi (nA x[i-1]) ?_);refine Yi (Nz rfl) ?_;refine Xi _ (Yi (nA x[i]) ?_);refine Yi ?_ ?_
  ·intro h6;refine Yi (by kernel_rfl) ?_;have e:(5:Int)=AQ x:=by rw[Mb,oq,Ap (oT ⟨h6.1,h6.2.1,h6.2.2.1,h6.2.2.2.1⟩)]
   exact .of_eq (Ac vi e)
  intro h6;refine Yi (by kernel_rfl) ?_;have h7:¬EY x[i-1]=EY x[i]:=fun e=>by
   have e:=Vv e;exact h6 ⟨e.1,e.2.1,e.2.2.1,e.2.2.2,trivial⟩
  refine Xi ⟨[(1,.ref 1 0),(4,.ref 4 0),(6,.ref 6 0),(12,sl Ag x),(13,vi (x.map Ag).length),(14,vi i)],[(1,.cells (Ic x ifs)),(4,.cells (Ag x[i])),(6,.cells (Ag x[i-1]))],Aa⟩ (Yi ⟨Z6,Z3,Fh,Tv⟩ ?_)
  refine Yi (Nz rfl) (Yi (Nz rfl) ?_);refine Xi .pure (Xi _ (Yi (qz x[i-1] x[i]) ?_));refine Yi ?_ ?_
  ·intro h8;have h8:(0:Int)<Dh x[i-1] x[i]:=h8;have e:(1:Int)=AQ x:=by rw[Mb,oq,Aj h7,Ap h8]
   exact .of_eq (Ac vi e)
  ·intro h8;have h8:¬(0:Int)<Dh x[i-1] x[i]:=h8;refine Yi (Ii i (by omega)) ?_;refine Xi ⟨i+1,by omega,by rw[oq,Aj h7,Aj h8,Ya]⟩ ?_;exact⟨Dl x.length i (by omega),Z4,Z1,Fh,Tv⟩
 ·intro h;have h:¬(i:Int)<(x.map Ag).length:=h;have h:¬i<x.length:=by simpa using h
  have e:(0:Int)=AQ x:=by rw[Mb,h2,Hy (by omega)];rfl
  exact .of_eq (Ac vi e)
end Go.Eng
