/- Lemmas for the claims of this seat, without a condition: part 19 (C24, C25, C26, C27, C28, C29, C30, C31, C32, C33, C34, C35, C36, C37, C38). -/
import Derived.Test.YtmcbkdbfaneofaaGreatDoorDA18
import Derived.Shelf.Slices.Delete
namespace Go.Eng
open Go.Proofs
theorem mD(l:List Tm)(hl:Cn l)(hs:∀t∈l,Cn t.set):PC 196 [sl AF l] (sl AF (PK l)):=by
 refine Ps F7 Tryz.func196 rfl (Nz rfl) ?_;refine Xi .pure (Xi _ (Yi (rL l hl hs) ?_));exact .refl _
theorem Pv(s:Bn):Cn (Eg s):=by
 unfold Cn;have:=HX (G6 s);omega
theorem mM{α:Type}(x:α):Cn [x]:=by unfold Cn;simp
theorem tE{α:Type}(x y:α):Cn [x,y]:=by unfold Cn;simp
theorem tf(q:Rq)(hq:Cn q.set):PC 155 [.agg (AN q)] (sl AF (Jm q)):=by
 have hc:PC 196 [sl AF [DG q]] (sl AF (Jm q)):=mD [DG q] (mM _) fun t ht=>by rw[Ai.1 ht];exact Pv _
 refine Ps F7 Tryz.func155 rfl (Nz rfl) ?_;refine Yi (Nz rfl) ?_;refine Xi .pure (Xi _ (Yi (po q hq) ?_));refine Xi .pure (Xi _ (Yi (hc) ?_));exact .refl _
theorem tg(p:ByteArray)(pl:Int)(q:Rq)(hp:BY (pl+1))(hq:Cn q.set):PC 156 [vs p,vi pl,.agg (AN q)] (sl AF (Ef p pl q)):=by
 have hc:PC 196 [sl AF [⟨p,false,[(pl,pl+1)]⟩,DG q]] (sl AF (Ef p pl q)):=mD [⟨p,false,[(pl,pl+1)]⟩,DG q] (tE _ _) fun t ht=>by
  rcases Au.1 ht with rfl | ht
  ·exact mM _
  ·rw[Ai.1 ht];exact Pv _
 refine Ps F7 Tryz.func156 rfl (Nz rfl) ?_;refine Yi hp ?_;refine Yi (Nz rfl) ?_;refine Xi .pure (Xi _ (Yi (po q hq) ?_));refine Xi .pure (Xi _ (Yi (hc) ?_));exact .refl _
theorem pk(p:ByteArray)(s:Bn)(hs:Cn s):PC 160 [vs p,sl Aq s] (sl AF (HR p s)):=by
 have hc:PC 196 [sl AF [⟨p,false,Eg s⟩]] (sl AF (HR p s)):=mD [⟨p,false,Eg s⟩] (mM _) fun t ht=>by rw[Ai.1 ht];exact Pv _
 refine Ps F7 Tryz.func160 rfl (Nz rfl) ?_;refine Xi .pure (Xi _ (Yi (mp s hs) ?_));refine Xi .pure (Xi _ (Yi (hc) ?_));exact .refl _
end Go.Eng
namespace Go.Eng
open Go.Proofs Go.Shelf Go.RowKit Go.Lib Go.Sort
theorem nD(F:Array Value)(i n:Nat)(hF:F.size=n*3)(hi:i<n)(z:List Value)(hz:z.length=3):(lay (lay F (i*3) (F.toList.drop ((i+1)*3))) ((n-1)*3) z).toList=F.toList.take (i*3)++F.toList.drop ((i+1)*3)++z:=by
 have l1:(F.toList.take (i*3)).length=i*3:=by simp;omega
 have l2:(F.toList.drop ((i+1)*3)).length=(n-(i+1))*3:=by simp;omega
 apply CC
 intro t
 rw[A2,lay_get? _ _ _ _ (by rw[Lib.lay_size];omega),lay_get? _ _ _ _ (by rw[l2];omega)]
 rw[hz,l2]
 by_cases c1:t<i*3
 ·rw[Al (by omega),Al (by omega),AY (by rw[Ad];omega),AY (by omega),Js,Az c1,A2]
 ·by_cases c2:t<(n-1)*3
  ·rw[Al (by omega),Az (by omega),AY (by rw[Ad];omega),A4 (by omega),l1]
  ·rw[A4 (by rw[Ad];omega),Ad,l1,l2]
   by_cases c3:t<n*3
   ·rw[Az (by omega)];congr 1;omega
   ·rw[Al (by omega),Al (by omega),TP (by omega),A6 (by omega)]
abbrev iV:List Value:=[.string ⟨#[]⟩,.bool false,.slice none 0 0]
set_option maxHeartbeats 4000000 in
set_option maxRecDepth 1000000 in
theorem d6(w:World)(b cap i n:Nat)(F:Array Value)(hF:F.size=n*3)(hi:i<n)(Ox:n≤cap)(hH:Holds id w b 0 F)(h1:∀x∈F.toList,x.oneCell'=true) :
  Calls Tryz.prog 229 #[.slice (some ⟨b,0,none⟩) n cap,.int .i64 i,.int .i64 ((i:Int)+1)] w fun e w'=>e=.returned (.slice (some ⟨b,0,none⟩) (n-1) cap) ∧
   w'=putRow id (Sort.ahead w 1) b 0 (lay (lay F (i*3) (F.toList.drop ((i+1)*3))) ((n-1)*3) iV):=by
 obtain⟨i0,fq,nu⟩:∃i0,Tryz.prog.info? 207=some i0∧i0.size=3:=by
  obtain⟨i,z,h1,_,h2,_⟩:=Ho (P:=Tryz.prog) (T:=lY) CL (e:=207) (n:=2) (by kernel_rfl)
  exact⟨i,h1,h2.trans (by kernel_rfl)⟩
 obtain⟨news,IK⟩:∃news,news=F.toList.drop ((i+1)*3):=⟨_,rfl⟩
 have CB:news.length=(n-(i+1))*3:=by rw[IK];simp;omega
 have Fb:∀t,t<(n-(i+1))*3→news[t]?=some F[(i+1)*3+t]!:=by
  intro t ht
  rw[IK,BR,A2,DC F ((i+1)*3+t) (by omega),BF (by omega)]
 obtain⟨A,hA,bS⟩:∃A:Addr,(if cap=i+1 then some (⟨b,0,none⟩:Addr)else some ⟨b,(i+1)*3,none⟩)=some A∧Hid (∀t u,news[t]?=some u→w.drew.cell? (A.add t)=some u):=by
  by_cases h:cap=i+1
  ·refine⟨⟨b,0,none⟩,by simp[h],fun t u hu=>?_⟩
   have h0:news.length=0:=by rw[CB];omega
   rw[List.length_eq_zero_iff.1 h0]at hu
   simp at hu
  ·refine⟨⟨b,(i+1)*3,none⟩,by simp[h],fun t u hu=>?_⟩
   have ht:t<(n-(i+1))*3:=by
    have:=(As.1 hu).1
    rwa [CB]at this
   rw[Fb t ht]at hu
   rw[Addr.add_lit]
   have:=(hH ((i+1)*3+t) (by omega)).1
   rw[Bk]at this
   exact this.trans hu
 have s1:Hid (news.length=(n-(i+1))*3):=CB
 have s2:Hid (∀u∈news,u.oneCell'=true):=by
  intro u hu
  rw[IK]at hu
  exact h1 u (Ik hu)
 have s3:Hid (∀t,t<news.length→(w.drew.cell? ⟨b,0+i*3+t,none⟩).isSome=true∧w.drew.frozen? ⟨b,0+i*3+t,none⟩=false):=by
  intro t ht
  rw[CB]at ht
  have:=hH (i*3+t) (by omega)
  rw[Gp]
  exact⟨by show(w.cell? _).isSome=true;rw[this.1];rfl,this.2⟩
 obtain⟨W1,rU⟩:∃W1,W1=w.drew.setCells b (0+i*3) news:=⟨_,rfl⟩
 have mS : W1=putRow id (Sort.ahead w 1) b 0 (lay F (i*3) news):=by
  have:=putRow_setCells id (Sort.ahead w 1) b 0 news F (i*3) (by omega)
  rw[putRow_self id (Sort.ahead w 1) b 0 F (holds_ahead id w 1 b 0 F hH),JA]at this
  rw[rU,←this]
  rfl
 have tO:Holds id W1 b 0 (lay F (i*3) news):=by rw[mS];exact holds_putRow id _ b 0 F _ (holds_ahead id w 1 b 0 F hH) (Lib.lay_size _ _ _)
 have Jc:(storeCells ⟨b,0+(n-1)*3,none⟩ iV 0).run Tryz.prog W1=.ok () (W1.setCells b (0+(n-1)*3) iV):=by
  have:=run_storeCells_cells (P:=Tryz.prog) b (0+(n-1)*3) iV 0 W1 (fun j hj=>by
   have hj:j<3:=hj
   have:=tO ((n-1)*3+j) (by rw[Lib.lay_size];omega)
   rw[show 0+(n-1)*3+0+j=0+((n-1)*3+j) by omega,this.1];rfl) (fun j hj=>by
   have hj:j<3:=hj
   have:=tO ((n-1)*3+j) (by rw[Lib.lay_size];omega)
   rw[show 0+(n-1)*3+0+j=0+((n-1)*3+j) by omega];exact this.2) (fun v hv=>by
   simp only[Au,Lt,or_false]at hv
   rcases hv with rfl | rfl | rfl<;>rfl)
  exact this
 have hcl:∀ty c,(Builtin.clear_ #[179] ty #[.slice (some ⟨b,(n-1)*3,none⟩) 1 c]).run Tryz.prog W1=.ok (.tuple #[]) (W1.setCells b (0+(n-1)*3) iV):=fun ty c=>by
  have hv:=Tryz.zeroValue207
  rw[Bk]at Jc⊢
  have hz:(Builtin.zeroCells (Value.agg #[Value.string { data:=#[] },Value.bool false,Value.slice none 0 0]).cells 1).toList=iV:=by kernel_rfl
  simp[Builtin.clear_,run_underlying Tryz.underlying179,hv,hz,Jc]
 have zl:∀ty,(Builtin.clear_ #[179] ty #[.slice (some ⟨b,(i+(n-(i+1)))*3,none⟩) (n-(i+(n-(i+1)))) (cap-(i+(n-(i+1))))]).run Tryz.prog W1=.ok (.tuple #[]) (W1.setCells b (0+(n-1)*3) iV):=fun ty=>by
  have e1:i+(n-(i+1))=n-1:=by omega
  have e2:n-(n-1)=1:=by omega
  rw[e1,e2];exact hcl ty _
 have X:Aside (W1=putRow id (Sort.ahead w 1) b 0 (lay F (i*3) news)):=mS
 have hW:Hid (W1=w.drew.setCells b (0+i*3) news):=rU
 have Y:Aside (news=F.toList.drop ((i+1)*3)):=IK
 have Z:Aside (news.length=(n-(i+1))*3):=CB
 have qe:i≤cap:=by omega
 have hjc:i+1≤cap:=by omega
 have mixed:=Go.Eng.hm
 have hb1:(0:Int)≤(i:Int)+1:=by omega
 have T2:(i:Int)+1≤(n:Int):=by omega
 clear rU mS tO hH Fb IK CB Jc hcl
 go_enter Tryz.func229,Tryz.ntmps229
 go_wp2_with fail
 go_region_law_o (refine step_append_room rfl (.tmp 22) (.tmp 25) 179 rfl 207 i0 3 Tryz.underlying179 fq nu b 0 i cap (by simp[Act.eval,Act.put]) A (n-(i+1)) (cap-(i+1)) news (by simp[Act.eval,Act.put]) s1.out bS.out s2.out (by omega) s3.out ?_;rw[←hW.out])
 go_wp2
 go_ret
 refine⟨by rw[show i+(n-(i+1))=n-1 by omega];rfl,?_⟩
 rw[X.out]
 have e1:=Y.out
 have e2:=Z.out
 rw[←e1]
 have:=putRow_setCells id (Sort.ahead w 1) b 0 iV (lay F (i*3) news) ((n-1)*3) (by rw[Lib.lay_size];show _+3≤_;omega)
 rw[JA,Bk]at this
 exact this
abbrev Ug:List AV:=[Go.Eng.vs ⟨#[]⟩,vb false,.v (.slice none 0 0)]
theorem tw(l:List Tm)(i:Nat)(hi:i<l.length) :
  Be Tryz.prog 229 [.msl 1000 l.length,vi i,vi ((i:Int)+1)] (Aj [(1000,.arr 3 (l.map AF))] Ab) fun r h'=>r=.msl 2000 (l.length-1)∧h'=Aj [(1000,.dead),(2000,.arr 3 ((l.eraseIdx i).map AF))] Ab:=by
 have hE:F1 Tryz.prog 229:=dp 229 Tryz.func229 (by kernel_rfl) rfl
 have CB:(l.eraseIdx i).length=l.length-1:=List.length_eraseIdx_of_lt hi
 have G9:=Uk (P:=Tryz.prog) (f:=229) (es:=l.map AF) (sz:=3) (rest:=[.int .i64 i,.int .i64 ((i:Int)+1)]) (n':=l.length-1) (Q:=fun FA=>FA=(l.eraseIdx i).map AF++[Ug]) hE (fun e=>by
  rw[Dr]at e;subst e;simp at hi) (by rw[Bb];omega) ?_
 ·rw[Bb]at G9
  refine⟨hE,fun g w vals q1 q2 q3=>(G9.2 g w vals q1 q2 q3).mono fun _ _ ⟨v,r,h',g',e1,⟨e2,FA,p1,p2⟩,rest⟩=>⟨v,r,h',g',e1,⟨e2,by rw[p2,p1,DZ (by rw[Bb,CB];exact Ak _),AT (by rw[Bb,CB];exact Ak _)]⟩,rest⟩⟩
 ·intro g w b cap F hr hF hH hb hc
  rw[Bb]at hF hc⊢
  have hu:∀e∈l.map AF,e.length=3:=fun e he=>by
   obtain⟨t,_,rfl⟩:=Am.1 he;rfl
  refine(d6 w b cap i l.length F hF hi hc hH hr.2.1).mono ?_
  rintro e w' ⟨rfl,rfl⟩
  refine⟨rfl,_,_,1,#[],?_,rfl,?_,fun cs hcs=>?_,fun g w hr=>?_,rfl⟩
  ·rw[Lib.lay_size,Lib.lay_size]
  ·rw[Ad,Bb,CB,AD];omega
  ·rcases A3.1 hcs with h | h
   ·obtain⟨t,_,rfl⟩:=Am.1 h;rfl
   ·rw[Ai.1 h];rfl
  ·rw[nD F i l.length hF hi iV rfl,List.eraseIdx_eq_take_drop_succ,CI,AH,CI,QS,List.map_drop,←KW _ i hu,←Om _ (i+1) hu]
   refine CF.append (CF.append (hr.take _) (hr.drop _)) ?_
   exact MG g w Fp iV fun x hx=>by
    simp only[Au,Lt,or_false]at hx
    rcases hx with rfl | rfl | rfl<;>rfl
end Go.Eng
namespace Go.Eng
open Go.Proofs
theorem pp(l:List Tm)(hl:Cn l)(DD:l≠[]):Be Tryz.prog 230 [sl AF l] (Aj [] Ab) fun r h'=>r=.msl 2000 l.length∧h'=Aj [(2000,.arr 3 (l.map AF))] Ab:=by
 refine Cm (Mo (xY [(5,3)] [])) [(5,2000)] rfl CL hm rfl Tryz.func230 (by kernel_rfl) rfl (Nz rfl) (by kernel_rfl) rfl ?_;have Gs:Dp 3 (l.map AF)∧([]:List (List AV)).length=0∧(([]:List (List AV)).length+(l.map AF).length)*48≤140737488355328∧([]:List (List AV)).length+(l.map AF).length≤9223372036854775807:=by
  refine⟨Ez (enc:=AF) (n:=3) (fun _=>rfl) l,rfl,?_,?_⟩<;>simp only[AC,Lm]<;>unfold Cn at hl<;>omega
 refine Yi ?_ ?_
 ·intro _;refine Yi Gs ?_;have e1:AV.msl 2000 (([]:List (List AV)).length+(l.map AF).length)=.msl 2000 l.length:=by simp
  refine Xi (.msl 2000 (([]:List (List AV)).length+(l.map AF).length)) (Yi (.refl _) (Yi e1 ?_))
  rfl
 ·intro h;have h:l.map AF=[]:=h;exact absurd (Dr.1 h) DD
theorem mE(x:Tm)(p:ByteArray):PC 228 [.agg (AF x),.cptr [vs p]] (vb (decide (x.path=p))):=by
 refine Ps F7 Tryz.func228 rfl (Nz rfl) ?_;refine Yi ?_ ?_
 ·intro h;have h:x.path=p:=h;rw[Aw h];exact .refl _
 ·intro h;have h:¬x.path=p:=h;rw[Ap h];exact .refl _
theorem MV{p:ByteArray}:∀{c:List Tm} {i:Nat},(Ev c).Nodup→∀(hi:i<c.length),c[i].path=p→c.eraseIdx i=FJ c p
 |t::c,0,hn,_,h=>by
  have h:t.path=p:=h;unfold Ev at hn;rw[AP,CT]at hn;unfold FJ;rw[Eo,Al (by simp[h])];show c=_;rw[List.filter_eq_self.2 fun u hu=>by
   have:u.path≠p:=fun e=>hn.1 (h▸e▸Am.2 ⟨u,hu,rfl⟩)
   simp[this]]
 |t::c,i+1,hn,hi,h=>by
  have hi:i<c.length:=by simpa using hi
  have h:c[i].path=p:=h;unfold Ev at hn;rw[AP,CT]at hn
  have:t.path≠p:=fun e=>hn.1 (by rw[e,←h];exact Am.2 ⟨_,Ao hi,rfl⟩)
  have ih:=MV hn.2 hi h;unfold FJ at ih⊢;rw[List.eraseIdx_cons_succ,Eo,Az (by simp[this]),ih]
theorem Pu{l c:List Tm}(hl:Cn l)(h:CO l=some c):Cn c:=by
 have h1:=NC l l.length (Ak _);rw[Dv]at h1;have h2:c=(EU l).filter fun t=>!Gr t:=by
  unfold CO at h;split at h
  ·cases h
  ·exact(BM h).symm
 have h3:c.length≤(EU l).length:=by rw[h2];exact BE _ _
 have h4:(EU l).length=(CW l).length:=by
  have:=(List.perm_ext_iff_of_nodup (HD (HB l)) (HD (HJ (Em l)))).2 (I1 l)
  exact this.length_eq.symm
 unfold Cn at hl⊢;omega
abbrev km:AV:=.tup [.agg Ug,.v (.slice none 0 0),vb false]
abbrev lV:TM:=⟨[3],[],[],[],[],[],[],[],[(30,0),(34,1)],[],[3]⟩
theorem dQ(l:List Tm)(p:ByteArray)(hl:Cn l)(hs:∀t∈l,Cn t.set)(hn:Fj l p=none):PC 203 [sl AF l,vs p] km:=by
 have hc:=rL l hl hs;unfold Fj at hn;cases e:CO l with
 |none =>
  have e1:GD l=.tup [sl AF [],vb false]:=by unfold GD PK;rw[e];rfl
  rw[e1]at hc;have hi:=jm (Es.ptr [vs p]) [] (fun x=>decide (x.path=p)) (fun x _=>mE x p) (by simp);refine Ps lV Tryz.func203 rfl (Nz rfl) ?_;refine Xi .pure (Xi _ (Yi (hc) ?_));refine Xi .pure (Xi _ (Yi (hi) ?_));refine Xi ⟨[(4,.ref 4 0),(7,sl AF []),(8,vb false),(9,vi (-1))],[(4,.cells Ug)],Ab⟩ (Yi ⟨Z4,Z1,Fh,Tv⟩ ?_)
  refine Yi (Nz rfl) (Yi (Nz rfl) ?_);exact .refl _
 |some c =>
  rw[e]at hn;have hn:(match Dj c p with | none=>none | some t=>some (t,FJ c p))=none:=hn;have qb:Dj c p=none:=by
   cases h:Dj c p with
   |none=>rfl
   |some t=>rw[h]at hn;cases hn
  have e1:GD l=.tup [sl AF c,vb true]:=by unfold GD PK;rw[e];rfl
  rw[e1]at hc;have p9:=Pu hl e;have hi:=jm (Es.ptr [vs p]) c (fun x=>decide (x.path=p)) (fun x _=>mE x p) (by unfold Cn at p9;omega);have hid:Hy (fun x:Tm=>decide (x.path=p)) c 0=-1:=by
   rcases Oz (p:=fun x:Tm=>decide (x.path=p)) c 0 with ⟨h1,_⟩ | ⟨i,x,_,_,h3⟩
   ·exact h1
   ·unfold Dj at qb;rw[h3]at qb;cases qb
  rw[hid]at hi;refine Ps lV Tryz.func203 rfl (Nz rfl) ?_;refine Xi .pure (Xi _ (Yi (hc) ?_));refine Xi .pure (Xi _ (Yi (hi) ?_));refine Xi ⟨[(4,.ref 4 0),(7,sl AF c),(8,vb true),(9,vi (-1))],[(4,.cells Ug)],Ab⟩ (Yi ⟨Z4,Z1,Fh,Tv⟩ ?_)
  refine Yi ?_ ?_
  ·intro _;refine Yi (Nz rfl) (Yi (Nz rfl) ?_);exact .refl _
  ·intro h;exact absurd (show(-1:Int)<0 by decide) h
abbrev nK:TM:=⟨[3],[],[],[],[],[],[],[],[(30,0),(34,2)],[],[]⟩
theorem dR(l:List Tm)(p:ByteArray)(hl:Cn l)(hs:∀t∈l,Cn t.set){t:Tm}{r:List Tm}(hn:Fj l p=some (t,r)) :
  Be Tryz.prog 203 [sl AF l,vs p] (Aj [] Ab) fun v h'=>v=.tup [.agg (AF t),.msl 2000 r.length,vb true]∧h'=Aj [(2000,.arr 3 (r.map AF))] Ab:=by
 have hc:=rL l hl hs;unfold Fj at hn;cases e:CO l with
 |none=>rw[e]at hn;cases hn
 |some c =>
  rw[e]at hn;have hn:(match Dj c p with | none=>none | some t=>some (t,FJ c p))=some (t,r):=hn;have fj:Dj c p=some t∧FJ c p=r:=by
   cases h:Dj c p with
   |none=>rw[h]at hn;cases hn
   |some t=>rw[h]at hn;cases hn;exact Zr
  have e1:GD l=.tup [sl AF c,vb true]:=by unfold GD PK;rw[e];rfl
  rw[e1]at hc;have p9:=Pu hl e;have hi:=jm (Es.ptr [vs p]) c (fun x=>decide (x.path=p)) (fun x _=>mE x p) (by unfold Cn at p9;omega);rcases Oz (p:=fun x:Tm=>decide (x.path=p)) c 0 with ⟨_,h2⟩ | ⟨i,x,h1,h2,h3⟩
  ·unfold Dj at fj;rw[h2]at fj;cases fj.1
  have hx:x=t:=by
   have:=fj.1
   unfold Dj at this;rw[h3]at this;exact BM this
  subst hx;rw[h1,EE]at hi;obtain⟨qe,zx⟩:=As.1 h2;have xh:c.eraseIdx i=r:=by
   rw[←fj.2];exact MV (HJ (EK e)) qe (by rw[zx];exact GY fj.1)
  have r7:c.length-1=r.length:=by rw[←xh,List.length_eraseIdx_of_lt qe]
  have DD:c≠[]:=fun h=>by subst h;simp at qe
  have zq:c.length≤1073741824:=p9;refine Cm (Mo nK) [(13400,2000)] rfl CL hm rfl Tryz.func203 (by kernel_rfl) rfl (Nz rfl) (by kernel_rfl) rfl ?_;refine Xi .pure (Xi _ (Yi (hc) ?_));refine Xi .pure (Xi _ (Yi (hi) ?_));refine Yi ?_ ?_
  ·intro h;have h:(i:Int)<0:=h;omega
  intro _;have hg:(c.map AF)[((i:Nat):Int).toNat]?=some (AF x):=by rw[Ch,AG,h2];rfl
  refine Xi (AF x) (Yi (Yi (Nn i) hg) (Yi rfl (Yi (Nz rfl) ?_)));refine Xi c.length (Xi 3 (Xi (c.map AF) (Yi rfl (Yi (pp c p9 DD) ?_))));refine Yi (Ii i (by omega)) ?_;refine Xi (c.length-1) (Xi ((c.eraseIdx i).map AF) (Yi rfl (Yi (tw c i qe) ?_)));refine Yi (Nz rfl) ?_;refine Yi (by kernel_rfl) ?_;refine Yi (Nz rfl) ?_;have e2:AV.tup [.agg (AF x),.msl 2000 (c.length-1),vb true]=.tup [.agg (AF x),.msl 2000 r.length,vb true]:=by rw[r7]
  have e3:Aj [(2000,HO.arr 3 ((c.eraseIdx i).map AF))] Ab=Aj [(2000,.arr 3 (r.map AF))] Ab:=by rw[xh]
  exact Xi _ (Yi (.refl _) (Yi e2 e3))
abbrev aB:TM:=⟨[],[],[],[],[],[],[],[],[],[(24,9),(30,12)],[2,3,5,6]⟩
abbrev nR(a b:List Tm)(p:ByteArray):AV:=.tup [sl AF (Bw a b p).1,vi (Bw a b p).2]
theorem Vg{l r:List Tm}{p:ByteArray}{t:Tm}(h:Fj l p=some (t,r)):∃c,CO l=some c∧t∈c∧r=FJ c p:=by
 unfold Fj at h;cases e:CO l with
 |none=>rw[e]at h;cases h
 |some c =>
  rw[e]at h;have h:(match Dj c p with | none=>none | some t=>some (t,FJ c p))=some (t,r):=h;cases e2:Dj c p with
  |none=>rw[e2]at h;cases h
  |some u=>rw[e2]at h;cases h;exact⟨c,rfl,E5 e2,rfl⟩
theorem Vh{l r:List Tm}{p:ByteArray}{t:Tm}(hl:Cn l)(h:Fj l p=some (t,r)):Cn t.set∧Cn r∧∀u∈r,Cn u.set:=by
 obtain⟨c,h1,h2,rfl⟩:=Vg h;have hs:=EK h1;refine⟨Oh (hs.canon t h2),?_,fun u hu=>Oh (hs.canon u (Bx.1 hu).1)⟩
 have:=Pu hl h1
 have h3:(FJ c p).length≤c.length:=BE _ _;unfold Cn at *;omega
theorem dU{l c:List Tm}(h:CO l=some c):c.length≤l.length:=by
 have h1:=NC l l.length (Ak _);rw[Dv]at h1;have h2:c=(EU l).filter fun t=>!Gr t:=by
  unfold CO at h;split at h
  ·cases h
  ·exact(BM h).symm
 have h3:c.length≤(EU l).length:=by rw[h2];exact BE _ _
 have h4:(EU l).length=(CW l).length:=by
  have:=(List.perm_ext_iff_of_nodup (HD (HB l)) (HD (HJ (Em l)))).2 (I1 l)
  exact this.length_eq.symm
 omega
theorem Vi{l r:List Tm}{p:ByteArray}{t:Tm}(h:Fj l p=some (t,r)):r.length≤l.length:=by
 obtain⟨c,h1,h2,rfl⟩:=Vg h;have h3:(FJ c p).length≤c.length:=BE _ _
 have:=dU h1
 omega
theorem bC(a b:Bn):Cn (Pa a b):=by
 unfold Cn;have:=HX (Ye a b);omega
theorem ti(a b:List Tm)(p:ByteArray)(ha:a.length≤500000000)(hb:b.length≤500000000)(xC:∀t∈a,Cn t.set)(jR:∀t∈b,Cn t.set):PC 161 [sl AF a,sl AF b,vs p] (nR a b p):=by
 have p8:Cn a:=by unfold Cn;omega
 have mX:Cn b:=by unfold Cn;omega
 have er:∀{l:List Tm} {e:Int},Bw a b p=(l,e)→nR a b p=.tup [sl AF l,vi e]:=fun h=>by unfold nR;rw[h]
 have e0:Hm (.tup [.v (.slice none 0 0),vi 1]) (.tup [.slice .none [],vi 1]):=Hm.tup ⟨.nil,.refl _,trivial⟩;cases h1:Fj a p with
 |none =>
  have hr:Bw a b p=([],1):=by unfold Bw;rw[h1]
  have c1:=dQ a p p8 xC h1;cases h2:Fj b p with
  |none =>
   have c2:=dQ b p mX jR h2;refine Ps aB Tryz.func161 rfl (Nz rfl) ?_;refine Xi .pure (Xi _ (Yi (c1) ?_));refine Yi (Nz rfl) ?_;refine Xi ⟨[(1,sl AF b),(2,vs p),(8,.ref 8 0),(9,.v (.slice none 0 0)),(10,vb false)],[(8,.cells Ug)],Ab⟩ (Yi ⟨Z5,Z1,Fh,Tv⟩ ?_)
   refine Xi .pure (Xi _ (Yi (c2) ?_));refine Yi (Nz rfl) ?_;refine Xi ⟨[(8,.ref 8 0),(9,.v (.slice none 0 0)),(10,vb false),(11,.ref 11 0),(12,.v (.slice none 0 0)),(13,vb false)],[(8,.cells Ug),(11,.cells Ug)],Ab⟩ (Yi ⟨Z6,Z2,Fh,Tv⟩ ?_)
   exact e0.trans (.of_eq (er hr).symm)
  |some q2 =>
   obtain⟨t2,r2⟩:=q2;have c2:=dR b p mX jR h2;refine Ps aB Tryz.func161 rfl (Nz rfl) ?_;refine Xi .pure (Xi _ (Yi (c1) ?_));refine Yi (Nz rfl) ?_;refine Xi ⟨[(1,sl AF b),(2,vs p),(8,.ref 8 0),(9,.v (.slice none 0 0)),(10,vb false)],[(8,.cells Ug)],Ab⟩ (Yi ⟨Z5,Z1,Fh,Tv⟩ ?_)
   have z2:r2.length=(r2.map AF).length:=by rw[Lm]
   refine Xi (.gen [] 1) (Yi rfl (c2.imp ?_));intro v2 g2 q2;have vH:=q2.1;have vI:=q2.2;subst vH;subst vI;refine Yi (Nz rfl) ?_;refine Xi ⟨[(8,.ref 8 0),(9,.v (.slice none 0 0)),(10,vb false),(11,.ref 11 0),(12,.msl 12600 r2.length),(13,vb true)],[(8,.cells Ug),(11,.cells (AF t2)),(12600,.arr 3 (r2.map AF))],Ab⟩ (Yi ⟨Z6,Z3,Fh,Tv⟩ ?_)
   refine Yi z2 ?_;exact e0.trans (.of_eq (er hr).symm)
 |some q1 =>
  obtain⟨t1,r1⟩:=q1;have c1:=dR a p p8 xC h1;obtain⟨f1,f2,f3⟩:=Vh p8 h1;cases h2:Fj b p with
  |none =>
   have hr:Bw a b p=([],1):=by unfold Bw;rw[h1,h2]
   have c2:=dQ b p mX jR h2;refine Ps aB Tryz.func161 rfl (Nz rfl) ?_;refine Xi (.gen [] 1) (Yi rfl (c1.imp ?_));intro v1 g1 q1;have vC:=q1.1;have kK:=q1.2;subst vC;subst kK;refine Yi (Nz rfl) ?_;refine Xi ⟨[(1,sl AF b),(2,vs p),(8,.ref 8 0),(9,.msl 11900 r1.length),(10,vb true)],[(8,.cells (AF t1)),(11900,.arr 3 (r1.map AF))],Ab⟩ (Yi ⟨Z5,Z2,Fh,Tv⟩ ?_)
   have z1:r1.length=(r1.map AF).length:=by rw[Lm]
   refine Yi z1 ?_;refine Xi .pure (Xi _ (Yi (c2) ?_));refine Yi (Nz rfl) ?_;refine Xi ⟨[(8,.ref 8 0),(9,.slice (.id 11900 3) (r1.map AF)),(10,vb true),(11,.ref 11 0),(12,.v (.slice none 0 0)),(13,vb false)],[(8,.cells (AF t1)),(11,.cells Ug),(11900,.tok 3 (r1.map AF).length)],Ab⟩ (Yi ⟨Z6,Z3,Fh,Tv⟩ ?_)
   exact e0.trans (.of_eq (er hr).symm)
  |some q2 =>
   obtain⟨t2,r2⟩:=q2;have c2:=dR b p mX jR h2;obtain⟨g1,g2,g3⟩:=Vh mX h2;refine Ps aB Tryz.func161 rfl (Nz rfl) ?_;refine Xi (.gen [] 1) (Yi rfl (c1.imp ?_));intro v1 g1 q1;have vC:=q1.1;have kK:=q1.2;subst vC;subst kK;refine Yi (Nz rfl) ?_;refine Xi ⟨[(1,sl AF b),(2,vs p),(8,.ref 8 0),(9,.msl 11900 r1.length),(10,vb true)],[(8,.cells (AF t1)),(11900,.arr 3 (r1.map AF))],Ab⟩ (Yi ⟨Z5,Z2,Fh,Tv⟩ ?_)
   have z1:r1.length=(r1.map AF).length:=by rw[Lm]
   have z2:r2.length=(r2.map AF).length:=by rw[Lm]
   refine Yi z1 ?_;refine Xi (.gen [] 1) (Yi rfl (c2.imp ?_));intro v2 g2 q2;have vH:=q2.1;have vI:=q2.2;subst vH;subst vI;refine Yi (Nz rfl) ?_;refine Xi ⟨[(8,.ref 8 0),(9,.slice (.id 11900 3) (r1.map AF)),(10,vb true),(11,.ref 11 0),(12,.msl 12600 r2.length),(13,vb true)],[(8,.cells (AF t1)),(11,.cells (AF t2)),(11900,.tok 3 (r1.map AF).length),(12600,.arr 3 (r2.map AF))],Ab⟩ (Yi ⟨Z6,Z4,Fh,Tv⟩ ?_)
   refine Yi z2 ?_;refine Xi ⟨[(8,.ref 8 0),(9,.slice (.id 11900 3) (r1.map AF)),(11,.ref 11 0),(12,.slice (.id 12600 3) (r2.map AF))],[(8,.cells (AF t1)),(11,.cells (AF t2)),(11900,.tok 3 (r1.map AF).length),(12600,.tok 3 (r2.map AF).length)],Ab⟩ (Yi ⟨Z4,Z4,Fh,Tv⟩ ?_)
   have l1:=Vi h1;have l2:=Vi h2;have b1:Dp 3 (r2.map AF)∧(r1.map AF).length=(r1.map AF).length∧((r1.map AF).length+(r2.map AF).length)*48≤140737488355328∧(r1.map AF).length+(r2.map AF).length≤9223372036854775807 :=
    ⟨Ez (enc:=AF) (n:=3) (fun _=>rfl) r2,rfl,by rw[Lm,Lm];omega,by rw[Lm,Lm];omega⟩
   refine Yi b1 ?_;refine Yi (Nz rfl) (Yi (Nz rfl) ?_);refine Xi _ (Yi (tq t1 t2 f1 g1) ?_);have b2:Dp 3 [AF (Dh t1 t2)]∧(r1.map AF++r2.map AF).length=(r1.map AF).length+(r2.map AF).length∧((r1.map AF++r2.map AF).length+[AF (Dh t1 t2)].length)*48≤140737488355328∧(r1.map AF++r2.map AF).length+[AF (Dh t1 t2)].length≤9223372036854775807 :=
    ⟨⟨rfl,trivial⟩,by rw[Ad],by rw[Ad,Lm,Lm,AD];omega,by rw[Ad,Lm,Lm,AD];omega⟩
   refine Yi b2 ?_;have pZ:=rL (r1++r2++[Dh t1 t2]) (by unfold Cn;simp only[Ad,AD];omega) (fun u hu=>by
    rcases A3.1 hu with hu | hu
    ·rcases A3.1 hu with hu | hu
     ·exact f3 u hu
     ·exact g3 u hu
    ·rw[Ai.1 hu];exact bC _ _)
   have e1:sl AF (r1++r2++[Dh t1 t2])=.slice .none (r1.map AF++r2.map AF++[AF (Dh t1 t2)]):=by simp
   have xb:PC 204 [.slice .none (r1.map AF++r2.map AF++[AF (Dh t1 t2)])] (GD (r1++r2++[Dh t1 t2])):=e1▸pZ;cases oz:CO (r1++r2++[Dh t1 t2])with
   |none =>
    have hr:Bw a b p=([],8):=by unfold Bw;rw[h1,h2];dsimp only;rw[oz]
    have ec:GD (r1++r2++[Dh t1 t2])=.tup [sl AF [],vb false]:=by unfold GD PK;rw[oz];rfl
    have hc:PC 204 [.slice .none (r1.map AF++r2.map AF++[AF (Dh t1 t2)])] (.tup [sl AF [],vb false]):=ec▸xb;have e8:Hm (.tup [.v (.slice none 0 0),vi 8]) (.tup [.slice .none [],vi 8]):=Hm.tup ⟨.nil,.refl _,trivial⟩;refine Xi _ (Yi (hc) ?_);refine Yi (by kernel_rfl) ?_;refine Xi ⟨[(14,sl AF []),(15,vb false)],[],Ab⟩ (Yi ⟨Z2,Tv,Fh,Tv⟩ ?_)
    exact e8.trans (.of_eq (er hr).symm)
   |some o =>
    have hr:Bw a b p=(o,0):=by unfold Bw;rw[h1,h2];dsimp only;rw[oz]
    have ec:GD (r1++r2++[Dh t1 t2])=.tup [sl AF o,vb true]:=by unfold GD PK;rw[oz];rfl
    have hc:PC 204 [.slice .none (r1.map AF++r2.map AF++[AF (Dh t1 t2)])] (.tup [sl AF o,vb true]):=ec▸xb;refine Xi _ (Yi (hc) ?_);refine Yi (by kernel_rfl) ?_;refine Xi ⟨[(14,sl AF o),(15,vb true)],[],Ab⟩ (Yi ⟨Z2,Tv,Fh,Tv⟩ ?_)
    exact .of_eq (er hr).symm
def ZQ(h s:Nat→HO):Nat→Bool
 |0=>true
 |n+1=>(match h (1000+n)with |.free=>true |_=>(match s (1000+n)with |.free=>false |_=>true))&&ZQ h s n
theorem Sd{h s:Nat→HO}:∀{n:Nat},ZQ h s n=true→∀j,j<n→h (1000+j)≠.free→s (1000+j)≠.free
 |n+1,hd,j,hj,hn=>by
  simp only[ZQ,Ag]at hd;rcases EF j n with h1 | h1
  ·exact Sd hd.2 j h1 hn
  ·have:j=n:=by omega
   subst this
   have:=hd.1
   intro e;split at this
   ·rename_i q;exact hn q
   ·rw[e]at this;cases this
theorem Ax{h s:Nat→HO}(hd:ZQ h s 1000=true):∀j,1000≤j→j<2000→h j≠.free→s j≠.free:=fun j h1 h2=>by
 have:=Sd hd (j-1000) (by omega)
 rw[show 1000+(j-1000)=j by omega]at this;exact this
theorem kH(v:Ver):0≤plc v∧plc v<1000000:=by
 unfold plc;cases h:CM v with
 |true=>exact Jl h
 |false=>simp
abbrev l7(t:List Tm):Prop:=t.length≤500000000∧∀u∈t,Cn u.set
theorem pj(s:ByteArray):PC 81 [vs s] (vb false):=by
 refine Ps F7 Tryz.func81 rfl (Nz rfl) ?_;refine Yi ?_ ?_
 ·intro h;exact absurd rfl (show s≠s from h)
 ·intro _;exact .refl _
theorem pn(z:Int):PC 134 [vi z] (vb false):=by
 refine Ps F7 Tryz.func134 rfl (Nz rfl) ?_;refine Yi ?_ ?_
 ·intro h;exact absurd rfl (show z≠z from h)
 ·intro _;exact .refl _
theorem jl(a b:ByteArray):PC 53 [vs a,vs b] (vi (Gt a b)):=by
 refine Ps F7 Tryz.func53 rfl (Nz rfl) ?_;refine Xi .pure (Xi _ (Yi (pj a) ?_));refine Xi .pure (Xi _ (Yi (pj b) ?_));refine Yi ?_ ?_
 ·intro h;have h:Op.bytesLess a.toList b.toList=true:=h;exact .of_eq (Ac vi (show(-1:Int)=Gt a b by unfold Gt;rw[Az (by rw[HW];exact h)]))
 ·intro h;have h:¬Op.bytesLess a.toList b.toList=true:=h;refine Yi ?_ ?_
  ·intro h2;have h2:Op.bytesLess b.toList a.toList=true:=h2;exact .of_eq (Ac vi (show(1:Int)=Gt a b by unfold Gt;rw[Al (by rw[HW];exact h),Az (by rw[HW];exact h2)]))
  ·intro h2;have h2:¬Op.bytesLess b.toList a.toList=true:=h2;exact .of_eq (Ac vi (show(0:Int)=Gt a b by unfold Gt;rw[Al (by rw[HW];exact h),Al (by rw[HW];exact h2)]))
theorem my(a b:Int):PC 109 [vi a,vi b] (vi (FO a b)):=by
 refine Ps F7 Tryz.func109 rfl (Nz rfl) ?_;refine Xi .pure (Xi _ (Yi (pn a) ?_));refine Xi .pure (Xi _ (Yi (pn b) ?_));refine Yi ?_ ?_
 ·intro h;have h:a<b:=h;exact .of_eq (Ac vi (show(-1:Int)=FO a b by unfold FO;rw[Az h]))
 ·intro h;have h:¬a<b:=h;refine Yi ?_ ?_
  ·intro h2;have h2:b<a:=h2;exact .of_eq (Ac vi (show(1:Int)=FO a b by unfold FO;rw[Al h,Az h2]))
  ·intro h2;have h2:¬b<a:=h2;exact .of_eq (Ac vi (show(0:Int)=FO a b by unfold FO;rw[Al h,Al h2]))
theorem pf(a b:Int):PC 83 [.slice .none [[vi a],[vi b]]] (vi (if a≠0 then a else b)):=by
 refine Ps F7 Tryz.func83 rfl (Nz rfl) ?_;refine Xi {i:Nat // i≤2∧(0<i→a=0)∧(1<i→b=0)} (Xi (fun i=>⟨[(3,vi 0),(6,.slice .none [[vi a],[vi b]]),(7,vi 2),(8,vi i.1)],[],Ab⟩) (Xi (fun i=>2-i.1) (Yi (Xi ⟨0,by omega,by omega,by omega⟩ ?_) ?_)))
 ·exact⟨Z4,Tv,Fh,Tv⟩
 intro⟨i,h1,h2,h3⟩;refine Yi ?_ ?_
 ·intro h;have h:(i:Int)<2:=h
  match i,h1,h2,h3,h with
  |0,h1,h2,h3,h =>
   refine Xi [vi a] (Yi (Yi (AX _) rfl) (Yi rfl ?_));refine Yi ?_ ?_
   ·intro h4;have h4:a≠0:=h4;exact .of_eq (Ac vi (Az h4).symm)
   ·intro h4;have h4:¬a≠0:=h4;refine Yi (Ii 0 (by omega)) ?_;refine Xi ⟨1,by omega,fun _=>by omega,fun q=>absurd q (by decide)⟩ ?_;exact⟨by show 2-1<2-0;decide,Z4,Tv,Fh,Tv⟩
  |1,h1,h2,h3,h =>
   have ha:=h2 (by decide);refine Xi [vi b] (Yi (Yi (by show(0:Int)≤1;decide) rfl) (Yi rfl ?_));refine Yi ?_ ?_
   ·intro h4;exact .of_eq (Ac vi (Al (by omega)).symm)
   ·intro h4;have h4:¬b≠0:=h4;refine Yi (Ii 1 (by omega)) ?_;refine Xi ⟨2,by omega,fun _=>ha,fun q=>by omega⟩ ?_;exact⟨by show 2-2<2-1;decide,Z4,Tv,Fh,Tv⟩
  |i+2,h1,h2,h3,h=>omega
 ·intro h;have h:¬(i:Int)<2:=h;have ha:=h2 (by omega);have hb:=h3 (by omega);exact .of_eq (Ac vi (show(0:Int)=if a≠0 then a else b by rw[Al (by omega),hb]))
theorem RW(a b:Ver)(i:Nat)(hi:i<3)(h:∀j,j<i→FO (part a j) (part b j)=0)(hn:FO (part a i) (part b i)≠0):LH a b=FO (part a i) (part b i):=by
 unfold LH
 match i,hi,h,hn with
 |0,_,_,hn=>exact Az hn
 |1,_,h,hn =>
  have h0:FO a.a b.a=0:=h 0 (by decide);rw[Al (by omega)];exact Az hn
 |2,_,h,hn =>
  have h0:FO a.a b.a=0:=h 0 (by decide);have h1:FO a.b b.b=0:=h 1 (by decide);rw[Al (by omega),Al (by omega)];rfl
theorem dZ(a b:Ver)(h:∀j,j<3→FO (part a j) (part b j)=0):LH a b=0:=by
 unfold LH;have h0:FO a.a b.a=0:=h 0 (by decide);have h1:FO a.b b.b=0:=h 1 (by decide);have h2:FO a.c b.c=0:=h 2 (by decide);rw[Al (by omega),Al (by omega),h2]
theorem pg(a b:Ver):PC 84 [.agg (LL a),.agg (LL b)] (vi (LH a b)):=by
 refine Ps F7 Tryz.func84 rfl (Nz rfl) ?_;refine Yi (Nz rfl) ?_;refine Xi _ (Yi (mv a) ?_);refine Yi (Nz rfl) ?_;refine Xi _ (Yi (mv b) ?_);refine Yi (Nz rfl) (Yi (Nz rfl) ?_);refine Yi (by kernel_rfl) ?_;refine Xi {i:Nat // i≤3∧∀j,j<i→FO (part a j) (part b j)=0} (Xi (fun i=>⟨[(5,.ref 5 0),(6,.ref 6 0),(13,vi i.1)],[(5,.cells (LL a)),(6,.cells (LL b))],Ab⟩) (Xi (fun i=>3-i.1) (Yi (Xi ⟨0,by omega,fun j h=>by omega⟩ ?_) ?_)))
 ·exact⟨Z3,Z2,Fh,Tv⟩
 intro⟨i,h1,h2⟩;refine Yi ?_ ?_
 ·intro h;have h:(i:Int)<3:=h;have next:FO (part a i) (part b i)=0→∀j,j<i+1→FO (part a j) (part b j)=0:=fun hz j hj=>by
   rcases EF j i with q | q
   ·exact h2 j q
   ·have:j=i:=by omega
    subst this;exact hz
  match i,h1,h2,h,next with
  |0,h1,h2,h,next =>
   refine Yi ⟨by show(0:Int)≤0;decide,by show(0:Int)<3;decide⟩ ?_;refine Yi ⟨by show(0:Int)≤0;decide,by show(0:Int)<3;decide⟩ ?_;refine Xi _ (Yi (my (part a 0) (part b 0)) ?_);refine Yi (by kernel_rfl) ?_;refine Yi ?_ ?_
   ·intro h4;have h4:FO (part a 0) (part b 0)≠0:=h4;exact .of_eq (Ac vi (RW a b 0 (by decide) h2 h4).symm)
   ·intro h4;have h4:¬FO (part a 0) (part b 0)≠0:=h4;refine Yi (Ii 0 (by omega)) ?_;refine Xi ⟨1,by omega,next (F8 h4)⟩ ?_
    exact⟨by show 3-1<3-0;decide,Z3,Z2,Fh,Tv⟩
  |1,h1,h2,h,next =>
   refine Yi ⟨by show(0:Int)≤1;decide,by show(1:Int)<3;decide⟩ ?_;refine Yi ⟨by show(0:Int)≤1;decide,by show(1:Int)<3;decide⟩ ?_;refine Xi _ (Yi (my (part a 1) (part b 1)) ?_);refine Yi (by kernel_rfl) ?_;refine Yi ?_ ?_
   ·intro h4;have h4:FO (part a 1) (part b 1)≠0:=h4;exact .of_eq (Ac vi (RW a b 1 (by decide) h2 h4).symm)
   ·intro h4;have h4:¬FO (part a 1) (part b 1)≠0:=h4;refine Yi (Ii 1 (by omega)) ?_;refine Xi ⟨2,by omega,next (F8 h4)⟩ ?_
    exact⟨by show 3-2<3-1;decide,Z3,Z2,Fh,Tv⟩
  |2,h1,h2,h,next =>
   refine Yi ⟨by show(0:Int)≤2;decide,by show(2:Int)<3;decide⟩ ?_;refine Yi ⟨by show(0:Int)≤2;decide,by show(2:Int)<3;decide⟩ ?_;refine Xi _ (Yi (my (part a 2) (part b 2)) ?_);refine Yi (by kernel_rfl) ?_;refine Yi ?_ ?_
   ·intro h4;have h4:FO (part a 2) (part b 2)≠0:=h4;exact .of_eq (Ac vi (RW a b 2 (by decide) h2 h4).symm)
   ·intro h4;have h4:¬FO (part a 2) (part b 2)≠0:=h4;refine Yi (Ii 2 (by omega)) ?_;refine Xi ⟨3,by omega,next (F8 h4)⟩ ?_
    exact⟨by show 3-3<3-2;decide,Z3,Z2,Fh,Tv⟩
  |i+3,h1,h2,h,next=>omega
 ·intro h;have h:¬(i:Int)<3:=h;exact .of_eq (Ac vi (dZ a b fun j hj=>h2 j (by omega)).symm)
theorem sV(a b:Rl):PC 68 [.agg (Ah a),.agg (Ah b)] (vi (RT a b)):=by
 refine Ps F7 Tryz.func68 rfl (Nz rfl) ?_;refine Xi _ (Yi (jl a.path b.path) ?_);refine Yi (Nz rfl) (Yi (Nz rfl) ?_);refine Xi _ (Yi (pg a.ver b.ver) ?_);refine Xi _ (Yi (pf (Gt a.path b.path) (LH a.ver b.ver)) ?_);refine Yi (by kernel_rfl) ?_;exact .refl _
abbrev Gn(s:ByteArray):Prop:=s.size≤1073741824
abbrev NT(q:Rq):Prop:=Cn q.set∧Gn q.path
abbrev Ka(r:Rl):Prop:=Gn r.path∧∀q∈r.reqs,NT q
abbrev UY(nm:ByteArray→ByteArray)(p:ByteArray):AV:=match Cr p with
 |some m=>.tup [vs (nm p),vi m,vi 0]
 |none=>.tup [vs ⟨#[]⟩,vi 0,vi 4]
abbrev TR(nm:ByteArray→ByteArray):Prop:=∀p:ByteArray,Gn p→PC 91 [vs p] (UY nm p)
theorem TR.none{nm:ByteArray→ByteArray}(h:TR nm){p:ByteArray}(hp:Gn p)(e:Cr p=.none):PC 91 [vs p] (.tup [vs ⟨#[]⟩,vi 0,vi 4]):=by
 have:=h p hp;unfold UY at this;rw[e]at this;exact this
theorem TR.some{nm:ByteArray→ByteArray}(h:TR nm){p:ByteArray}{m:Int}(hp:Gn p)(e:Cr p=.some m):PC 91 [vs p] (.tup [vs (nm p),vi m,vi 0]):=by
 have:=h p hp;unfold UY at this;rw[e]at this;exact this
theorem pd{nm:ByteArray→ByteArray}(hL:TR nm)(q:Rq)(hq:Cn q.set)(hp:Gn q.path):PC 116 [.agg (AN q),.v (.pointer none)] (vi (GH none q)):=by
 cases TO:Cr q.path with
 |none =>
  have e:(4:Int)=GH none q:=by unfold GH;rw[TO];rfl
  have hl:=hL.none hp TO;refine Ps F7 Tryz.func116 rfl (Nz rfl) ?_;refine Xi .pure (Xi _ (Yi (hl) ?_));refine Yi ?_ ?_
  ·intro _;exact .of_eq (Ac vi e)
  ·intro h;exact absurd (show(4:Int)≠0 by decide) h
 |some m =>
  have er:GH none q=if(q.set.isEmpty||!decide (q.set=canon q.set)||false)=true then 1 else 0:=by unfold GH;rw[TO];rfl
  have hl:=hL.some hp TO;have hc:=WR q.set hq;have he:=ph q.set (canon q.set) hq;have T3:∀{n:Int},n=(q.set.map Aq).length→n=0→q.set.isEmpty=true:=fun h1 h2=>by
   rw[Lm]at h1;rw[GL];exact AB (by omega)
  have fw:¬((q.set.map Aq).length:Int)=0→q.set.isEmpty=false:=fun h=>by
   cases hqs:q.set with
   |nil=>rw[hqs]at h;exact absurd rfl h
   |cons a l=>rfl
  rcases Bt (decide (q.set=canon q.set))with h2 | h2
  ·rw[h2]at he;refine Ps (KG [2,4]) Tryz.func116 rfl (Nz rfl) ?_;refine Xi .pure (Xi _ (Yi (hl) ?_));refine Xi ⟨[(1,.v (.pointer none)),(2,.ref 2 0),(7,vi 0)],[(2,.cells (AN q))],Ab⟩ (Yi ⟨Z3,Z1,Fh,Tv⟩ ?_)
   refine Yi ?_ ?_
   ·intro h;exact absurd rfl h
   intro _;refine Xi ⟨[(1,.v (.pointer none)),(2,.ref 2 0)],[(2,.cells (AN q))],Ab⟩ (Yi ⟨Z2,Z1,Fh,Tv⟩ ?_)
   refine Yi ?_ ?_
   ·intro h;have h:((q.set.map Aq).length:Int)=0:=h;have e:(1:Int)=GH none q:=by rw[er,T3 rfl h];rfl
    refine Yi (by kernel_rfl) ?_;exact .of_eq (Ac vi e)
   intro h;have h:¬((q.set.map Aq).length:Int)=0:=h;have hn:=fw h;refine Xi _ (Yi (hc) ?_);refine Xi _ (Yi (he) ?_);refine Yi (by kernel_rfl) ?_;have e:(0:Int)=GH none q:=by rw[er,hn,h2];rfl
   exact .of_eq (Ac vi e)
  ·rw[h2]at he;refine Ps (KG [2,4]) Tryz.func116 rfl (Nz rfl) ?_;refine Xi .pure (Xi _ (Yi (hl) ?_));refine Xi ⟨[(1,.v (.pointer none)),(2,.ref 2 0),(7,vi 0)],[(2,.cells (AN q))],Ab⟩ (Yi ⟨Z3,Z1,Fh,Tv⟩ ?_)
   refine Yi ?_ ?_
   ·intro h;exact absurd rfl h
   intro _;refine Xi ⟨[(1,.v (.pointer none)),(2,.ref 2 0)],[(2,.cells (AN q))],Ab⟩ (Yi ⟨Z2,Z1,Fh,Tv⟩ ?_)
   refine Yi ?_ ?_
   ·intro h;have h:((q.set.map Aq).length:Int)=0:=h;have e:(1:Int)=GH none q:=by rw[er,T3 rfl h];rfl
    refine Yi (by kernel_rfl) ?_;exact .of_eq (Ac vi e)
   intro h;have h:¬((q.set.map Aq).length:Int)=0:=h;have hn:=fw h;refine Xi _ (Yi (hc) ?_);refine Xi _ (Yi (he) ?_);refine Yi (by kernel_rfl) ?_;have e:(1:Int)=GH none q:=by rw[er,hn,h2];rfl
   exact .of_eq (Ac vi e)
theorem pe{nm:ByteArray→ByteArray}(hL:TR nm)(q b:Rq)(hq:Cn q.set)(hp:Gn q.path):PC 116 [.agg (AN q),.cptr (AN b)] (vi (GH (some b.path) q)):=by
 cases TO:Cr q.path with
 |none =>
  have e:(4:Int)=GH (some b.path) q:=by unfold GH;rw[TO];rfl
  have hl:=hL.none hp TO;refine Ps F7 Tryz.func116 rfl (Nz rfl) ?_;refine Xi .pure (Xi _ (Yi (hl) ?_));refine Yi ?_ ?_
  ·intro _;exact .of_eq (Ac vi e)
  ·intro h;exact absurd (show(4:Int)≠0 by decide) h
 |some m =>
  have er:GH (some b.path) q=if(q.set.isEmpty||!decide (q.set=canon q.set)||!Ff b.path q.path)=true then 1 else 0:=by unfold GH;rw[TO];rfl
  have hl:=hL.some hp TO;have hc:=WR q.set hq;have he:=ph q.set (canon q.set) hq;have T3:∀{n:Int},n=(q.set.map Aq).length→n=0→q.set.isEmpty=true:=fun h1 h2=>by
   rw[Lm]at h1;rw[GL];exact AB (by omega)
  have fw:¬((q.set.map Aq).length:Int)=0→q.set.isEmpty=false:=fun h=>by
   cases hqs:q.set with
   |nil=>rw[hqs]at h;exact absurd rfl h
   |cons a l=>rfl
  rcases Bt (decide (q.set=canon q.set))with h2 | h2
  ·rw[h2]at he;refine Ps (KG [2,4]) Tryz.func116 rfl (Nz rfl) ?_;refine Xi .pure (Xi _ (Yi (hl) ?_));refine Xi ⟨[(1,.cptr (AN b)),(2,.ref 2 0),(7,vi 0)],[(2,.cells (AN q))],Ab⟩ (Yi ⟨Z3,Z1,Fh,Tv⟩ ?_)
   refine Yi ?_ ?_
   ·intro h;exact absurd rfl h
   intro _;refine Xi ⟨[(1,.cptr (AN b)),(2,.ref 2 0)],[(2,.cells (AN q))],Ab⟩ (Yi ⟨Z2,Z1,Fh,Tv⟩ ?_)
   refine Yi ?_ ?_
   ·intro h;have h:((q.set.map Aq).length:Int)=0:=h;have e:(1:Int)=GH (some b.path) q:=by rw[er,T3 rfl h];rfl
    refine Yi (by kernel_rfl) ?_;exact .of_eq (Ac vi e)
   intro h;have h:¬((q.set.map Aq).length:Int)=0:=h;have hn:=fw h;refine Xi _ (Yi (hc) ?_);refine Xi _ (Yi (he) ?_);refine Yi ?_ ?_
   ·intro h3;have h3:Op.bytesLess b.path.toList q.path.toList=false:=h3;refine Yi (by kernel_rfl) ?_;have e:(1:Int)=GH (some b.path) q:=by rw[er,hn,h2,HW,h3];rfl
    exact .of_eq (Ac vi e)
   ·intro h3;have h3:¬Op.bytesLess b.path.toList q.path.toList=false:=h3;have h3:Op.bytesLess b.path.toList q.path.toList=true:=by simpa using h3
    refine Yi (by kernel_rfl) ?_;have e:(0:Int)=GH (some b.path) q:=by rw[er,hn,h2,HW,h3];rfl
    exact .of_eq (Ac vi e)
  ·rw[h2]at he;refine Ps (KG [2,4]) Tryz.func116 rfl (Nz rfl) ?_;refine Xi .pure (Xi _ (Yi (hl) ?_));refine Xi ⟨[(1,.cptr (AN b)),(2,.ref 2 0),(7,vi 0)],[(2,.cells (AN q))],Ab⟩ (Yi ⟨Z3,Z1,Fh,Tv⟩ ?_)
   refine Yi ?_ ?_
   ·intro h;exact absurd rfl h
   intro _;refine Xi ⟨[(1,.cptr (AN b)),(2,.ref 2 0)],[(2,.cells (AN q))],Ab⟩ (Yi ⟨Z2,Z1,Fh,Tv⟩ ?_)
   refine Yi ?_ ?_
   ·intro h;have h:((q.set.map Aq).length:Int)=0:=h;have e:(1:Int)=GH (some b.path) q:=by rw[er,T3 rfl h];rfl
    refine Yi (by kernel_rfl) ?_;exact .of_eq (Ac vi e)
   intro h;have h:¬((q.set.map Aq).length:Int)=0:=h;have hn:=fw h;refine Xi _ (Yi (hc) ?_);refine Xi _ (Yi (he) ?_);refine Yi (by kernel_rfl) ?_;have e:(1:Int)=GH (some b.path) q:=by rw[er,hn,h2];rfl
   exact .of_eq (Ac vi e)
abbrev Mm(l:List Rq)(k:Nat):List AV:=((l.map AN)[k]?).getD []
abbrev o8(l:List Rq):Nat→AV
 |0=>.v (.pointer none)
 |k+1=>.cptr (Mm l k)
abbrev Km(l:List Rq):Nat→Option ByteArray
 |0=>none
 |k+1=>(l[k]?).map (·.path)
theorem Nj{l:List Rq}{k:Nat}(h:k<l.length):Mm l k=AN l[k]:=by
 unfold Mm;rw[AG,Ge h];rfl
theorem RK{l:List Rq}{k:Nat}(h:k<l.length):Km l (k+1)=some l[k].path:=by
 show(l[k]?).map _=_;rw[Ge h];rfl
theorem wK{nm:ByteArray→ByteArray}(hL:TR nm)(l:List Rq)(hs:∀q∈l,NT q):PC 93 [sl AN l] (vi (BS l)):=by
 refine Ps (KG [8]) Tryz.func93 rfl (Nz rfl) ?_;refine Yi ?_ ?_
 ·intro h;have h:(16:Int)<(l.map AN).length:=h;exact .of_eq (Ac vi (show(7:Int)=BS l by unfold BS;rw[Az (by rw[Lm]at h;omega)]))
 intro h;have h:¬(16:Int)<(l.map AN).length:=h;have hl:l.length≤16:=by rw[Lm]at h;omega
 have TN:BS l=FN none l:=by unfold BS;rw[Al (by omega)]
 refine Xi {i:Nat // i≤l.length∧FN none l=FN (Km l i) (l.drop i)} (Xi (fun i=>⟨[(0,sl AN l),(3,o8 l i.1),(10,sl AN l),(11,vi (l.map AN).length),(12,vi i.1)],[],Ab⟩) (Xi (fun i=>l.length-i.1) (Yi (Xi ⟨0,AM _,rfl⟩ ?_) ?_)))
 ·exact⟨Z5,Tv,Fh,Tv⟩
 intro⟨i,h1,h2⟩;refine Yi ?_ ?_
 ·intro h;have h:(i:Int)<(l.map AN).length:=h;have h:i<l.length:=by simpa using h
  have hg:l[i]?=some l[i]:=Ge h;have hd:l.drop i=l[i]::l.drop (i+1):=Bs h;have hq:=hs l[i] (Ao h);have hc:PC 116 [.agg (AN l[i]),o8 l i] (vi (GH (Km l i) l[i])):=by
   cases i with
   |zero=>exact pd hL _ hq.1 hq.2
   |succ k =>
    rw[RK (by omega:k<l.length)];show PC 116 [_,.cptr (Mm l k)] _;rw[Nj (by omega:k<l.length)];exact pe hL _ _ hq.1 hq.2
  have JW:FN none l=if GH (Km l i) l[i]=0 then FN (some l[i].path) (l.drop (i+1))else GH (Km l i) l[i]:=by rw[h2,hd];rfl
  match i,h1,h2,h,hg,hd,hc,JW with
  |0,h1,h2,h,hg,hd,hc,JW =>
   refine Xi (AN l[0]) (Yi (Yi (by show(0:Int)≤((0:Nat):Int);omega) (by simp[hg])) (Yi rfl ?_));refine Yi (Nz rfl) (Yi (Nz rfl) (Yi (Nz rfl) ?_));refine Xi .pure (Xi _ (Yi (hc) ?_));refine Xi ⟨[(0,sl AN l),(4,vi ((0:Nat):Int)),(6,vi (GH (Km l (0)) l[0])),(10,sl AN l),(11,vi (l.map AN).length),(12,vi ((0:Nat):Int))],[],Ab⟩ (Yi ⟨Z6,Tv,Fh,Tv⟩ ?_)
   refine Yi ?_ ?_
   ·intro h4;have h4:GH (Km l (0)) l[0]≠0:=h4;exact .of_eq (Ac vi (show GH (Km l (0)) l[0]=BS l by rw[TN,JW,Al h4]))
   ·intro h4;have h4:¬GH (Km l (0)) l[0]≠0:=h4;refine Xi (AN l[0]) (Yi (Yi (by show(0:Int)≤((0:Nat):Int);omega) (by simp[hg])) (Yi rfl ?_));refine Yi (by show BY (((0:Nat):Int)+1);unfold BY;omega) ?_;refine Xi ⟨0+1,by omega,by rw[JW,Az (F8 h4),RK h]⟩ ?_;have e1:AV.cptr (AN l[0])=.cptr (Mm l (0)):=by rw[Nj h]
    exact⟨by show l.length-(0+1)<l.length-(0);omega,⟨Zr,⟨e1,rfl⟩,Zr,Zr,Zr,Tv⟩,Tv,Fh,Tv⟩
  |k+1,h1,h2,h,hg,hd,hc,JW =>
   refine Xi (AN l[k+1]) (Yi (Yi (by show(0:Int)≤((k+1:Nat):Int);omega) (by simp[hg])) (Yi rfl ?_));refine Yi (Nz rfl) (Yi (Nz rfl) (Yi (Nz rfl) ?_));refine Xi .pure (Xi _ (Yi (hc) ?_));refine Xi ⟨[(0,sl AN l),(4,vi ((k+1:Nat):Int)),(6,vi (GH (Km l (k+1)) l[k+1])),(10,sl AN l),(11,vi (l.map AN).length),(12,vi ((k+1:Nat):Int))],[],Ab⟩ (Yi ⟨Z6,Tv,Fh,Tv⟩ ?_)
   refine Yi ?_ ?_
   ·intro h4;have h4:GH (Km l (k+1)) l[k+1]≠0:=h4;exact .of_eq (Ac vi (show GH (Km l (k+1)) l[k+1]=BS l by rw[TN,JW,Al h4]))
   ·intro h4;have h4:¬GH (Km l (k+1)) l[k+1]≠0:=h4;refine Xi (AN l[k+1]) (Yi (Yi (by show(0:Int)≤((k+1:Nat):Int);omega) (by simp[hg])) (Yi rfl ?_));refine Yi (by show BY (((k+1:Nat):Int)+1);unfold BY;omega) ?_;refine Xi ⟨k+1+1,by omega,by rw[JW,Az (F8 h4),RK h]⟩ ?_;have e1:AV.cptr (AN l[k+1])=.cptr (Mm l (k+1)):=by rw[Nj h]
    exact⟨by show l.length-(k+1+1)<l.length-(k+1);omega,⟨Zr,⟨e1,rfl⟩,Zr,Zr,Zr,Tv⟩,Tv,Fh,Tv⟩
 ·intro h;have h:¬(i:Int)<(l.map AN).length:=h;have h:¬i<l.length:=by simpa using h
  have e:(0:Int)=BS l:=by rw[TN,h2,TS (by omega)];rfl
  exact .of_eq (Ac vi e)
abbrev d7(r:Rl):Nat→ByteArray
 |0=>r.arch
 |1=>r.ifc
 |_=>r.cert
theorem mI{r:Rl}(h:∀j,j<3→EQ (d7 r j)=true):(EQ r.arch&&EQ r.ifc&&EQ r.cert)=true:=by
 have h0:EQ r.arch=true:=h 0 (by decide);have h1:EQ r.ifc=true:=h 1 (by decide);have h2:EQ r.cert=true:=h 2 (by decide);rw[h0,h1,h2];rfl
theorem YJ{r:Rl}{i:Nat}(hi:i<3)(h:EQ (d7 r i)=false):(EQ r.arch&&EQ r.ifc&&EQ r.cert)=false:=by
 match i,hi,h with
 |0,_,h=>have h:EQ r.arch=false:=h;rw[h];rfl
 |1,_,h=>have h:EQ r.ifc=false:=h;rw[h,DH];rfl
 |2,_,h=>have h:EQ r.cert=false:=h;rw[h,DH]
theorem sU{nm:ByteArray→ByteArray}(hL:TR nm)(r:Rl)(hr:Ka r):PC 66 [.agg (Ah r)] (vi (Dy r)):=by
 cases TO:Cr r.path with
 |none =>
  have e:(4:Int)=Dy r:=by unfold Dy;rw[TO]
  have hl:=hL.none hr.1 TO;refine Ps F7 Tryz.func66 rfl (Nz rfl) ?_;refine Xi .pure (Xi _ (Yi (hl) ?_));refine Yi ?_ ?_
  ·intro _;exact .of_eq (Ac vi e)
  ·intro h;exact absurd (show(4:Int)≠0 by decide) h
 |some m =>
  have er:Dy r=if(!CM r.ver||!decide (r.ver.a=m))=true then 2 else if BS r.reqs≠0 then BS r.reqs else if(EQ r.arch&&EQ r.ifc&&EQ r.cert)=true then 0 else 1:=by unfold Dy;rw[TO]
  have hl:=hL.some hr.1 TO;have hv:=jk r.ver;have hc:=wK hL r.reqs hr.2;rcases Bt (CM r.ver)with h2 | h2
  ·rw[h2]at hv;refine Ps (KG [2,4,6,7,9]) Tryz.func66 rfl (Nz rfl) ?_;refine Xi .pure (Xi _ (Yi (hl) ?_));refine Xi ⟨[(1,.ref 1 0),(4,vi m),(5,vi 0)],[(1,.cells (Ah r))],Ab⟩ (Yi ⟨Z3,Z1,Fh,Tv⟩ ?_)
   refine Yi ?_ ?_
   ·intro h;exact absurd rfl h
   intro _;refine Xi ⟨[(1,.ref 1 0),(4,vi m)],[(1,.cells (Ah r))],Ab⟩ (Yi ⟨Z2,Z1,Fh,Tv⟩ ?_)
   refine Yi (Nz rfl) ?_;refine Xi .pure (Xi _ (Yi (hv) ?_));refine Yi ?_ ?_
   ·intro h;have h:r.ver.a≠m:=h;have e:(2:Int)=Dy r:=by rw[er,h2,Ap h];rfl
    exact .of_eq (Ac vi e)
   intro h;have h:¬r.ver.a≠m:=h;have h3:r.ver.a=m:=F8 h;have pE:Dy r=if BS r.reqs≠0 then BS r.reqs else if(EQ r.arch&&EQ r.ifc&&EQ r.cert)=true then 0 else 1:=by rw[er,h2,Aw h3];rfl
   refine Xi ⟨[(1,.ref 1 0)],[(1,.cells (Ah r))],Ab⟩ (Yi ⟨Z1,Z1,Fh,Tv⟩ ?_)
   refine Xi .pure (Xi _ (Yi (hc) ?_));refine Xi ⟨[(1,.ref 1 0),(6,vi (BS r.reqs))],[(1,.cells (Ah r))],Ab⟩ (Yi ⟨Z2,Z1,Fh,Tv⟩ ?_)
   refine Yi ?_ ?_
   ·intro h4;have h4:BS r.reqs≠0:=h4;exact .of_eq (Ac vi (show BS r.reqs=Dy r by rw[pE,Az h4]))
   intro h4;have h4:¬BS r.reqs≠0:=h4;have rO:Dy r=if(EQ r.arch&&EQ r.ifc&&EQ r.cert)=true then 0 else 1:=by rw[pE,Al h4]
   refine Xi ⟨[(1,.ref 1 0)],[(1,.cells (Ah r))],Ab⟩ (Yi ⟨Z1,Z1,Fh,Tv⟩ ?_)
   refine Xi {i:Nat // i≤3∧∀j,j<i→EQ (d7 r j)=true} (Xi (fun i=>⟨[(41,.slice (.id 41 1) [[vs r.arch],[vs r.ifc],[vs r.cert]]),(42,vi 3),(43,vi i.1)],[(41,.tok 1 3)],Ab⟩) (Xi (fun i=>3-i.1) (Yi (Xi ⟨0,by omega,fun j h=>by omega⟩ ?_) ?_)))
   ·exact⟨Z3,Z1,Fh,Tv⟩
   intro⟨i,i1,i2⟩;refine Yi ?_ ?_
   ·intro h;have h:(i:Int)<3:=h;have next:EQ (d7 r i)=true→∀j,j<i+1→EQ (d7 r j)=true:=fun hz j hj=>by
     rcases EF j i with q | q
     ·exact i2 j q
     ·have:j=i:=by omega
      subst this;exact hz
    match i,i1,i2,h,next with
    |0,i1,i2,h,next =>
     refine Xi [vs r.arch] (Yi (Yi (by show(0:Int)≤0;decide) rfl) (Yi rfl ?_));refine Yi ?_ ?_
     ·intro h5;have h5:((r.arch.size:Nat):Int)≠0:=h5;refine Yi ?_ ?_
      ·intro h6;have h6:((r.arch.size:Nat):Int)≠32:=h6;have e:(1:Int)=Dy r:=by rw[rO,YJ (i:=0) (by decide) (show EQ r.arch=false by unfold EQ;rw[Ap (by omega),Ap (by omega)];rfl)];rfl
       exact .of_eq (Ac vi e)
      ·intro h6;have h6:¬((r.arch.size:Nat):Int)≠32:=h6;refine Yi (Ii 0 (by omega)) ?_;refine Xi ⟨1,by omega,next (show EQ r.arch=true by unfold EQ;rw[Aw (by omega:r.arch.size=32),Bool.or_true])⟩ ?_
       exact⟨by show 3-1<3-0;decide,Z3,Z1,Fh,Tv⟩
     ·intro h5;have h5:¬((r.arch.size:Nat):Int)≠0:=h5;refine Yi (Ii 0 (by omega)) ?_;refine Xi ⟨1,by omega,next (show EQ r.arch=true by unfold EQ;rw[Aw (by omega:r.arch.size=0)];rfl)⟩ ?_
      exact⟨by show 3-1<3-0;decide,Z3,Z1,Fh,Tv⟩
    |1,i1,i2,h,next =>
     refine Xi [vs r.ifc] (Yi (Yi (by show(0:Int)≤1;decide) rfl) (Yi rfl ?_));refine Yi ?_ ?_
     ·intro h5;have h5:((r.ifc.size:Nat):Int)≠0:=h5;refine Yi ?_ ?_
      ·intro h6;have h6:((r.ifc.size:Nat):Int)≠32:=h6;have e:(1:Int)=Dy r:=by rw[rO,YJ (i:=1) (by decide) (show EQ r.ifc=false by unfold EQ;rw[Ap (by omega),Ap (by omega)];rfl)];rfl
       exact .of_eq (Ac vi e)
      ·intro h6;have h6:¬((r.ifc.size:Nat):Int)≠32:=h6;refine Yi (Ii 1 (by omega)) ?_;refine Xi ⟨2,by omega,next (show EQ r.ifc=true by unfold EQ;rw[Aw (by omega:r.ifc.size=32),Bool.or_true])⟩ ?_
       exact⟨by show 3-2<3-1;decide,Z3,Z1,Fh,Tv⟩
     ·intro h5;have h5:¬((r.ifc.size:Nat):Int)≠0:=h5;refine Yi (Ii 1 (by omega)) ?_;refine Xi ⟨2,by omega,next (show EQ r.ifc=true by unfold EQ;rw[Aw (by omega:r.ifc.size=0)];rfl)⟩ ?_
      exact⟨by show 3-2<3-1;decide,Z3,Z1,Fh,Tv⟩
    |2,i1,i2,h,next =>
     refine Xi [vs r.cert] (Yi (Yi (by show(0:Int)≤2;decide) rfl) (Yi rfl ?_));refine Yi ?_ ?_
     ·intro h5;have h5:((r.cert.size:Nat):Int)≠0:=h5;refine Yi ?_ ?_
      ·intro h6;have h6:((r.cert.size:Nat):Int)≠32:=h6;have e:(1:Int)=Dy r:=by rw[rO,YJ (i:=2) (by decide) (show EQ r.cert=false by unfold EQ;rw[Ap (by omega),Ap (by omega)];rfl)];rfl
       exact .of_eq (Ac vi e)
      ·intro h6;have h6:¬((r.cert.size:Nat):Int)≠32:=h6;refine Yi (Ii 2 (by omega)) ?_;refine Xi ⟨3,by omega,next (show EQ r.cert=true by unfold EQ;rw[Aw (by omega:r.cert.size=32),Bool.or_true])⟩ ?_
       exact⟨by show 3-3<3-2;decide,Z3,Z1,Fh,Tv⟩
     ·intro h5;have h5:¬((r.cert.size:Nat):Int)≠0:=h5;refine Yi (Ii 2 (by omega)) ?_;refine Xi ⟨3,by omega,next (show EQ r.cert=true by unfold EQ;rw[Aw (by omega:r.cert.size=0)];rfl)⟩ ?_
      exact⟨by show 3-3<3-2;decide,Z3,Z1,Fh,Tv⟩
    |i+3,i1,i2,h,next=>omega
   ·intro h;have h:¬(i:Int)<3:=h;have e:(0:Int)=Dy r:=by rw[rO,Az (mI fun j hj=>i2 j (by omega))]
    exact .of_eq (Ac vi e)
  ·rw[h2]at hv;have e:(2:Int)=Dy r:=by rw[er,h2];rfl
   refine Ps (KG [2,4]) Tryz.func66 rfl (Nz rfl) ?_;refine Xi .pure (Xi _ (Yi (hl) ?_));refine Xi ⟨[(1,.ref 1 0),(4,vi m),(5,vi 0)],[(1,.cells (Ah r))],Ab⟩ (Yi ⟨Z3,Z1,Fh,Tv⟩ ?_)
   refine Yi ?_ ?_
   ·intro h;exact absurd rfl h
   intro _;refine Xi ⟨[(1,.ref 1 0),(4,vi m)],[(1,.cells (Ah r))],Ab⟩ (Yi ⟨Z2,Z1,Fh,Tv⟩ ?_)
   refine Yi (Nz rfl) ?_;refine Xi .pure (Xi _ (Yi (hv) ?_));exact .of_eq (Ac vi e)
theorem nB{a b:Rl}(h:a.path=b.path∧a.ver.a=b.ver.a∧a.ver.b=b.ver.b∧a.ver.c=b.ver.c):GQ a=GQ b:=by
 unfold GQ;obtain⟨h1,h2,h3,h4⟩:=h
 have:a.ver=b.ver:=by
  cases ha:a.ver;cases hb:b.ver;rw[ha,hb]at h2 h3 h4;simp_all
 rw[h1,this]
theorem cd{a b:Rl}(h:GQ a=GQ b):a.path=b.path∧a.ver.a=b.ver.a∧a.ver.b=b.ver.b∧a.ver.c=b.ver.c:=by
 unfold GQ at h
 injection h with h1 h2
 exact⟨h1,by rw[h2],by rw[h2],by rw[h2]⟩
abbrev je(x:List Rl):Nat→Option Rl
 |0=>none
 |k+1=>x[k]?
theorem pt{nm:ByteArray→ByteArray}(hL:TR nm)(x:List Rl)(ifs:List (List AV))(hs:∀r∈x,Ka r):PC 20 [.agg (Ic x ifs)] (vi (A9 x)):=by
 refine Ps (KG [7,9,11,13]) Tryz.func20 rfl (Nz rfl) ?_;refine Yi ?_ ?_
 ·intro h;have h:(256:Int)<(x.map Ah).length:=h;exact .of_eq (Ac vi (show(7:Int)=A9 x by unfold A9;rw[Az (by rw[Lm]at h;omega)]))
 intro h;have h:¬(256:Int)<(x.map Ah).length:=h;have hl:x.length≤256:=by rw[Lm]at h;omega
 have TN:A9 x=Dw none x:=by unfold A9;rw[Al (by omega)]
 refine Xi {i:Nat // i≤x.length∧Dw none x=Dw (je x i) (x.drop i)} (Xi (fun i=>⟨[(1,.ref 1 0),(12,sl Ah x),(13,vi (x.map Ah).length),(14,vi i.1)],[(1,.cells (Ic x ifs))],Ab⟩) (Xi (fun i=>x.length-i.1) (Yi (Xi ⟨0,AM _,rfl⟩ ?_) ?_)))
 ·exact⟨Z4,Z1,Fh,Tv⟩
 intro⟨i,h1,h2⟩;refine Yi ?_ ?_
 ·intro h;have h:(i:Int)<(x.map Ah).length:=h;have h:i<x.length:=by simpa using h
  have hg:x[i]?=some x[i]:=Ge h;have hd:x.drop i=x[i]::x.drop (i+1):=Bs h;have hc:=sU hL x[i] (hs x[i] (Ao h));have JW:Dw none x=if Dy x[i]≠0 then Dy x[i]else match je x i with
   |none=>Dw (some x[i]) (x.drop (i+1))
   |some b=>if GQ b=GQ x[i]then 5 else if 0<RT b x[i]then 1 else Dw (some x[i]) (x.drop (i+1)):=by rw[h2,hd];rfl
  have lB:je x (i+1)=some x[i]:=Ge h;refine Xi (Ah x[i]) (Yi (Yi (Nn i) (by simp[hg])) (Yi rfl ?_));refine Yi (Nz rfl) (Yi (Nz rfl) (Yi (Nz rfl) ?_));refine Xi .pure (Xi _ (Yi (hc) ?_));refine Xi ⟨[(1,.ref 1 0),(3,vi i),(4,.ref 4 0),(5,vi (Dy x[i])),(12,sl Ah x),(13,vi (x.map Ah).length),(14,vi i)],[(1,.cells (Ic x ifs)),(4,.cells (Ah x[i]))],Ab⟩ (Yi ⟨Z7,Z2,Fh,Tv⟩ ?_)
  refine Yi ?_ ?_
  ·intro h4;have h4:Dy x[i]≠0:=h4;exact .of_eq (Ac vi (show Dy x[i]=A9 x by rw[TN,JW,Az h4]))
  intro h4;have h4:¬Dy x[i]≠0:=h4;refine Xi ⟨[(1,.ref 1 0),(3,vi i),(4,.ref 4 0),(12,sl Ah x),(13,vi (x.map Ah).length),(14,vi i)],[(1,.cells (Ic x ifs)),(4,.cells (Ah x[i]))],Ab⟩ (Yi ⟨Z6,Z2,Fh,Tv⟩ ?_)
  refine Yi ?_ ?_
  ·intro h5;have h5:(i:Int)=0:=h5;have h6:i=0:=by omega
   refine Yi (Ii i (by omega)) ?_;refine Xi ⟨i+1,by omega,by rw[JW,Al h4,lB];subst h6;rfl⟩ ?_;exact⟨Dl x.length i (by omega),Z4,Z1,Fh,Tv⟩
  intro h5;have h5:¬(i:Int)=0:=h5;have zv:i-1<x.length:=by omega
  have hb:je x i=some x[i-1]:=by
   obtain⟨k,rfl⟩:∃k,i=k+1:=⟨i-1,by omega⟩;exact Ge (by omega)
  have m0:Dw none x=if GQ x[i-1]=GQ x[i]then 5 else if 0<RT x[i-1] x[i]then 1 else Dw (some x[i]) (x.drop (i+1)):=by rw[JW,Al h4,hb]
  refine Yi (by show BY ((i:Int)-1);unfold BY;omega) ?_;have T4:(x.map Ah)[((i:Int)-1).toNat]?=some (Ah x[i-1]):=by rw[show((i:Int)-1).toNat=i-1 by omega];exact Cg (Ge zv)
  refine Xi (Ah x[i-1]) (Yi (Yi (by show(0:Int)≤(i:Int)-1;omega) T4) (Yi rfl ?_));refine Yi (Nz rfl) (Yi (Nz rfl) ?_);refine Xi ⟨[(1,.ref 1 0),(4,.ref 4 0),(6,.ref 6 0),(12,sl Ah x),(13,vi (x.map Ah).length),(14,vi i)],[(1,.cells (Ic x ifs)),(4,.cells (Ah x[i])),(6,.cells (Ah x[i-1]))],Ab⟩ (Yi ⟨Z6,Z3,Fh,Tv⟩ ?_)
  refine Yi (Nz rfl) ?_;refine Xi _ (Yi (mr x[i-1]) ?_);refine Yi (Nz rfl) ?_;refine Xi _ (Yi (mr x[i]) ?_);refine Yi ?_ ?_
  ·intro h6;refine Yi (by kernel_rfl) ?_;have e:(5:Int)=A9 x:=by rw[TN,m0,Az (nB ⟨h6.1,h6.2.1,h6.2.2.1,h6.2.2.2.1⟩)]
   exact .of_eq (Ac vi e)
  intro h6;refine Yi (by kernel_rfl) ?_;have h7:¬GQ x[i-1]=GQ x[i]:=fun e=>by
   have e:=cd e;exact h6 ⟨e.1,e.2.1,e.2.2.1,e.2.2.2,trivial⟩
  refine Xi ⟨[(1,.ref 1 0),(4,.ref 4 0),(6,.ref 6 0),(12,sl Ah x),(13,vi (x.map Ah).length),(14,vi i)],[(1,.cells (Ic x ifs)),(4,.cells (Ah x[i])),(6,.cells (Ah x[i-1]))],Ab⟩ (Yi ⟨Z6,Z3,Fh,Tv⟩ ?_)
  refine Yi (Nz rfl) (Yi (Nz rfl) ?_);refine Xi .pure (Xi _ (Yi (sV x[i-1] x[i]) ?_));refine Yi ?_ ?_
  ·intro h8;have h8:(0:Int)<RT x[i-1] x[i]:=h8;have e:(1:Int)=A9 x:=by rw[TN,m0,Al h7,Az h8]
   exact .of_eq (Ac vi e)
  ·intro h8;have h8:¬(0:Int)<RT x[i-1] x[i]:=h8;refine Yi (Ii i (by omega)) ?_;refine Xi ⟨i+1,by omega,by rw[m0,Al h7,Al h8,lB]⟩ ?_;exact⟨Dl x.length i (by omega),Z4,Z1,Fh,Tv⟩
 ·intro h;have h:¬(i:Int)<(x.map Ah).length:=h;have h:¬i<x.length:=by simpa using h
  have e:(0:Int)=A9 x:=by rw[TN,h2,TS (by omega)];rfl
  exact .of_eq (Ac vi e)
end Go.Eng
