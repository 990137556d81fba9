/- Lemmas for the claims of this seat, without a condition: part 19 (C24, C25, C26, C27, C28, C29, C30, C31, C32, C33, C34, C35, C36, C37, C38). -/
import Derived.Test.YtmcbkdbfaneofaaGreatDoorCA18
import Derived.Shelf.Slices.Delete
namespace Go.Eng
open Go.Proofs
theorem mj(l:List Tm)(hl:Cp l)(hs:∀t∈l,Cp t.set):PC 196 [sl AF l] (sl AF (PM l)):=by
 refine Ps Gc Tryz.func196 rfl (Nz rfl) ?_;refine Xi .pure (Xi _ (Yi (rt l hl hs) ?_));exact .refl _
theorem Pz(s:Bl):Cp (Ed s):=by
 unfold Cp;have:=HQ (GZ s);omega
theorem mw{α:Type}(x:α):Cp [x]:=by unfold Cp;simp
theorem tf{α:Type}(x y:α):Cp [x,y]:=by unfold Cp;simp
theorem sT(q:Rq)(hq:Cp q.set):PC 155 [.agg (AM q)] (sl AF (Jk q)):=by
 have hc:PC 196 [sl AF [DD q]] (sl AF (Jk q)):=mj [DD q] (mw _) fun t ht=>by rw[Al.1 ht];exact Pz _
 refine Ps Gc Tryz.func155 rfl (Nz rfl) ?_;refine Yi (Nz rfl) ?_;refine Xi .pure (Xi _ (Yi (o8 q hq) ?_));refine Xi .pure (Xi _ (Yi (hc) ?_));exact .refl _
theorem sU(p:ByteArray)(pl:Int)(q:Rq)(hp:B1 (pl+1))(hq:Cp q.set):PC 156 [vs p,vi pl,.agg (AM q)] (sl AF (Ec p pl q)):=by
 have hc:PC 196 [sl AF [⟨p,false,[(pl,pl+1)]⟩,DD q]] (sl AF (Ec p pl q)):=mj [⟨p,false,[(pl,pl+1)]⟩,DD q] (tf _ _) fun t ht=>by
  rcases Au.1 ht with rfl | ht
  ·exact mw _
  ·rw[Al.1 ht];exact Pz _
 refine Ps Gc Tryz.func156 rfl (Nz rfl) ?_;refine Yi hp ?_;refine Yi (Nz rfl) ?_;refine Xi .pure (Xi _ (Yi (o8 q hq) ?_));refine Xi .pure (Xi _ (Yi (hc) ?_));exact .refl _
theorem o5(p:ByteArray)(s:Bl)(hs:Cp s):PC 160 [vs p,sl Ao s] (sl AF (HJ p s)):=by
 have hc:PC 196 [sl AF [⟨p,false,Ed s⟩]] (sl AF (HJ p s)):=mj [⟨p,false,Ed s⟩] (mw _) fun t ht=>by rw[Al.1 ht];exact Pz _
 refine Ps Gc Tryz.func160 rfl (Nz rfl) ?_;refine Xi .pure (Xi _ (Yi (l7 s hs) ?_));refine Xi .pure (Xi _ (Yi (hc) ?_));exact .refl _
end Go.Eng
namespace Go.Eng
open Go.Proofs Go.Shelf Go.RowKit Go.Lib Go.Sort
theorem nh(F:Array Value)(i n:Nat)(hF:F.size=n*3)(hi:i<n)(z:List Value)(hz:z.length=3):(lay (lay F (i*3) (F.toList.drop ((i+1)*3))) ((n-1)*3) z).toList=F.toList.take (i*3)++F.toList.drop ((i+1)*3)++z:=by
 have l1:(F.toList.take (i*3)).length=i*3:=by simp;omega
 have l2:(F.toList.drop ((i+1)*3)).length=(n-(i+1))*3:=by simp;omega
 apply Cz
 intro t
 rw[A1,lay_get? _ _ _ _ (by rw[Lib.lay_size];omega),lay_get? _ _ _ _ (by rw[l2];omega)]
 rw[hz,l2]
 by_cases c1:t<i*3
 ·rw[Ak (by omega),Ak (by omega),AW (by rw[Ad];omega),AW (by omega),Jq,Aw c1,A1]
 ·by_cases c2:t<(n-1)*3
  ·rw[Ak (by omega),Aw (by omega),AW (by rw[Ad];omega),A2 (by omega),l1]
  ·rw[A2 (by rw[Ad];omega),Ad,l1,l2]
   by_cases c3:t<n*3
   ·rw[Aw (by omega)];congr 1;omega
   ·rw[Ak (by omega),Ak (by omega),TN (by omega),A4 (by omega)]
abbrev iL:List Value:=[.string ⟨#[]⟩,.bool false,.slice none 0 0]
set_option maxHeartbeats 4000000 in
set_option maxRecDepth 1000000 in
theorem d4(w:World)(b cap i n:Nat)(F:Array Value)(hF:F.size=n*3)(hi:i<n)(Oz:n≤cap)(hH:Holds id w b 0 F)(h1:∀x∈F.toList,x.oneCell'=true) :
  Calls Tryz.prog 229 #[.slice (some ⟨b,0,none⟩) n cap,.int .i64 i,.int .i64 ((i:Int)+1)] w fun e w'=>e=.returned (.slice (some ⟨b,0,none⟩) (n-1) cap) ∧
   w'=putRow id (Sort.ahead w 1) b 0 (lay (lay F (i*3) (F.toList.drop ((i+1)*3))) ((n-1)*3) iL):=by
 obtain⟨i0,fm,m6⟩:∃i0,Tryz.prog.info? 207=some i0∧i0.size=3:=by
  obtain⟨i,z,h1,_,h2,_⟩:=Hh (P:=Tryz.prog) (T:=lJ) CK (e:=207) (n:=2) (by kernel_rfl)
  exact⟨i,h1,h2.trans (by kernel_rfl)⟩
 obtain⟨news,IF⟩:∃news,news=F.toList.drop ((i+1)*3):=⟨_,rfl⟩
 have CE:news.length=(n-(i+1))*3:=by rw[IF];simp;omega
 have E6:∀t,t<(n-(i+1))*3→news[t]?=some F[(i+1)*3+t]!:=by
  intro t ht
  rw[IF,BP,A1,Dy F ((i+1)*3+t) (by omega),BE (by omega)]
 obtain⟨A,hA,bS⟩:∃A:Addr,(if cap=i+1 then some (⟨b,0,none⟩:Addr)else some ⟨b,(i+1)*3,none⟩)=some A∧Hid (∀t u,news[t]?=some u→w.drew.cell? (A.add t)=some u):=by
  by_cases h:cap=i+1
  ·refine⟨⟨b,0,none⟩,by simp[h],fun t u hu=>?_⟩
   have h0:news.length=0:=by rw[CE];omega
   rw[List.length_eq_zero_iff.1 h0]at hu
   simp at hu
  ·refine⟨⟨b,(i+1)*3,none⟩,by simp[h],fun t u hu=>?_⟩
   have ht:t<(n-(i+1))*3:=by
    have:=(As.1 hu).1
    rwa [CE]at this
   rw[E6 t ht]at hu
   rw[Addr.add_lit]
   have:=(hH ((i+1)*3+t) (by omega)).1
   rw[Bi]at this
   exact this.trans hu
 have s1:Hid (news.length=(n-(i+1))*3):=CE
 have s2:Hid (∀u∈news,u.oneCell'=true):=by
  intro u hu
  rw[IF]at hu
  exact h1 u (Ie hu)
 have s3:Hid (∀t,t<news.length→(w.drew.cell? ⟨b,0+i*3+t,none⟩).isSome=true∧w.drew.frozen? ⟨b,0+i*3+t,none⟩=false):=by
  intro t ht
  rw[CE]at ht
  have:=hH (i*3+t) (by omega)
  rw[Gi]
  exact⟨by show(w.cell? _).isSome=true;rw[this.1];rfl,this.2⟩
 obtain⟨W1,rF⟩:∃W1,W1=w.drew.setCells b (0+i*3) news:=⟨_,rfl⟩
 have mE : W1=putRow id (Sort.ahead w 1) b 0 (lay F (i*3) news):=by
  have:=putRow_setCells id (Sort.ahead w 1) b 0 news F (i*3) (by omega)
  rw[putRow_self id (Sort.ahead w 1) b 0 F (holds_ahead id w 1 b 0 F hH),Jw]at this
  rw[rF,←this]
  rfl
 have tt:Holds id W1 b 0 (lay F (i*3) news):=by rw[mE];exact holds_putRow id _ b 0 F _ (holds_ahead id w 1 b 0 F hH) (Lib.lay_size _ _ _)
 have I9:(storeCells ⟨b,0+(n-1)*3,none⟩ iL 0).run Tryz.prog W1=.ok () (W1.setCells b (0+(n-1)*3) iL):=by
  have:=run_storeCells_cells (P:=Tryz.prog) b (0+(n-1)*3) iL 0 W1 (fun j hj=>by
   have hj:j<3:=hj
   have:=tt ((n-1)*3+j) (by rw[Lib.lay_size];omega)
   rw[show 0+(n-1)*3+0+j=0+((n-1)*3+j) by omega,this.1];rfl) (fun j hj=>by
   have hj:j<3:=hj
   have:=tt ((n-1)*3+j) (by rw[Lib.lay_size];omega)
   rw[show 0+(n-1)*3+0+j=0+((n-1)*3+j) by omega];exact this.2) (fun v hv=>by
   simp only[Au,Lq,or_false]at hv
   rcases hv with rfl | rfl | rfl<;>rfl)
  exact this
 have hcl:∀ty c,(Builtin.clear_ #[179] ty #[.slice (some ⟨b,(n-1)*3,none⟩) 1 c]).run Tryz.prog W1=.ok (.tuple #[]) (W1.setCells b (0+(n-1)*3) iL):=fun ty c=>by
  have hv:=Tryz.zeroValue207
  rw[Bi]at I9⊢
  have hz:(Builtin.zeroCells (Value.agg #[Value.string { data:=#[] },Value.bool false,Value.slice none 0 0]).cells 1).toList=iL:=by kernel_rfl
  simp[Builtin.clear_,run_underlying Tryz.underlying179,hv,hz,I9]
 have yY:∀ty,(Builtin.clear_ #[179] ty #[.slice (some ⟨b,(i+(n-(i+1)))*3,none⟩) (n-(i+(n-(i+1)))) (cap-(i+(n-(i+1))))]).run Tryz.prog W1=.ok (.tuple #[]) (W1.setCells b (0+(n-1)*3) iL):=fun ty=>by
  have e1:i+(n-(i+1))=n-1:=by omega
  have e2:n-(n-1)=1:=by omega
  rw[e1,e2];exact hcl ty _
 have X:Aside (W1=putRow id (Sort.ahead w 1) b 0 (lay F (i*3) news)):=mE
 have hW:Hid (W1=w.drew.setCells b (0+i*3) news):=rF
 have Y:Aside (news=F.toList.drop ((i+1)*3)):=IF
 have Z:Aside (news.length=(n-(i+1))*3):=CE
 have pW:i≤cap:=by omega
 have hjc:i+1≤cap:=by omega
 have mixed:=Go.Eng.hm
 have hb1:(0:Int)≤(i:Int)+1:=by omega
 have T2:(i:Int)+1≤(n:Int):=by omega
 clear rF mE tt hH E6 IF CE I9 hcl
 go_enter Tryz.func229,Tryz.ntmps229
 go_wp2_with fail
 go_region_law_o (refine step_append_room rfl (.tmp 22) (.tmp 25) 179 rfl 207 i0 3 Tryz.underlying179 fm m6 b 0 i cap (by simp[Act.eval,Act.put]) A (n-(i+1)) (cap-(i+1)) news (by simp[Act.eval,Act.put]) s1.out bS.out s2.out (by omega) s3.out ?_;rw[←hW.out])
 go_wp2
 go_ret
 refine⟨by rw[show i+(n-(i+1))=n-1 by omega];rfl,?_⟩
 rw[X.out]
 have e1:=Y.out
 have e2:=Z.out
 rw[←e1]
 have:=putRow_setCells id (Sort.ahead w 1) b 0 iL (lay F (i*3) news) ((n-1)*3) (by rw[Lib.lay_size];show _+3≤_;omega)
 rw[Jw,Bi]at this
 exact this
abbrev Uh:List AV:=[Go.Eng.vs ⟨#[]⟩,vb false,.v (.slice none 0 0)]
theorem ta(l:List Tm)(i:Nat)(hi:i<l.length) :
  Bd Tryz.prog 229 [.msl 1000 l.length,vi i,vi ((i:Int)+1)] (Ah [(1000,.arr 3 (l.map AF))] Ab) fun r h'=>r=.msl 2000 (l.length-1)∧h'=Ah [(1000,.dead),(2000,.arr 3 ((l.eraseIdx i).map AF))] Ab:=by
 have hE:FS Tryz.prog 229:=dj 229 Tryz.func229 (by kernel_rfl) rfl
 have CE:(l.eraseIdx i).length=l.length-1:=List.length_eraseIdx_of_lt hi
 have G2:=Ul (P:=Tryz.prog) (f:=229) (es:=l.map AF) (sz:=3) (rest:=[.int .i64 i,.int .i64 ((i:Int)+1)]) (n':=l.length-1) (Q:=fun Ft=>Ft=(l.eraseIdx i).map AF++[Uh]) hE (fun e=>by
  rw[Dq]at e;subst e;simp at hi) (by rw[A9];omega) ?_
 ·rw[A9]at G2
  refine⟨hE,fun g w vals q1 q2 q3=>(G2.2 g w vals q1 q2 q3).mono fun _ _ ⟨v,r,h',g',e1,⟨e2,Ft,p1,p2⟩,rest⟩=>⟨v,r,h',g',e1,⟨e2,by rw[p2,p1,DY (by rw[A9,CE];exact Aj _),AT (by rw[A9,CE];exact Aj _)]⟩,rest⟩⟩
 ·intro g w b cap F hr hF hH hb hc
  rw[A9]at hF hc⊢
  have hu:∀e∈l.map AF,e.length=3:=fun e he=>by
   obtain⟨t,_,rfl⟩:=Am.1 he;rfl
  refine(d4 w b cap i l.length F hF hi hc hH hr.2.1).mono ?_
  rintro e w' ⟨rfl,rfl⟩
  refine⟨rfl,_,_,1,#[],?_,rfl,?_,fun cs hcs=>?_,fun g w hr=>?_,rfl⟩
  ·rw[Lib.lay_size,Lib.lay_size]
  ·rw[Ad,A9,CE,AD];omega
  ·rcases A6.1 hcs with h | h
   ·obtain⟨t,_,rfl⟩:=Am.1 h;rfl
   ·rw[Al.1 h];rfl
  ·rw[nh F i l.length hF hi iL rfl,List.eraseIdx_eq_take_drop_succ,CG,AH,CG,QU,List.map_drop,←KO _ i hu,←Oo _ (i+1) hu]
   refine CC.append (CC.append (hr.take _) (hr.drop _)) ?_
   exact MH g w Fi iL fun x hx=>by
    simp only[Au,Lq,or_false]at hx
    rcases hx with rfl | rfl | rfl<;>rfl
end Go.Eng
namespace Go.Eng
open Go.Proofs
theorem pc(l:List Tm)(hl:Cp l)(Dz:l≠[]):Bd Tryz.prog 230 [sl AF l] (Ah [] Ab) fun r h'=>r=.msl 2000 l.length∧h'=Ah [(2000,.arr 3 (l.map AF))] Ab:=by
 refine Cm (Mo (xH [(5,3)] [])) [(5,2000)] rfl CK hm rfl Tryz.func230 (by kernel_rfl) rfl (Nz rfl) (by kernel_rfl) rfl ?_;have Gl:Do 3 (l.map AF)∧([]:List (List AV)).length=0∧(([]:List (List AV)).length+(l.map AF).length)*48≤140737488355328∧([]:List (List AV)).length+(l.map AF).length≤9223372036854775807:=by
  refine⟨Eu (enc:=AF) (n:=3) (fun _=>rfl) l,rfl,?_,?_⟩<;>simp only[AC,Lm]<;>unfold Cp at hl<;>omega
 refine Yi ?_ ?_
 ·intro _;refine Yi Gl ?_;have e1:AV.msl 2000 (([]:List (List AV)).length+(l.map AF).length)=.msl 2000 l.length:=by simp
  refine Xi (.msl 2000 (([]:List (List AV)).length+(l.map AF).length)) (Yi (.refl _) (Yi e1 ?_))
  rfl
 ·intro h;have h:l.map AF=[]:=h;exact absurd (Dq.1 h) Dz
theorem ml(x:Tm)(p:ByteArray):PC 228 [.agg (AF x),.cptr [vs p]] (vb (decide (x.path=p))):=by
 refine Ps Gc Tryz.func228 rfl (Nz rfl) ?_;refine Yi ?_ ?_
 ·intro h;have h:x.path=p:=h;rw[AA h];exact .refl _
 ·intro h;have h:¬x.path=p:=h;rw[Ap h];exact .refl _
theorem MW{p:ByteArray}:∀{c:List Tm} {i:Nat},(Ep c).Nodup→∀(hi:i<c.length),c[i].path=p→c.eraseIdx i=FC c p
 |t::c,0,hn,_,h=>by
  have h:t.path=p:=h;unfold Ep at hn;rw[AP,CT]at hn;unfold FC;rw[Ek,Ak (by simp[h])];show c=_;rw[List.filter_eq_self.2 fun u hu=>by
   have:u.path≠p:=fun e=>hn.1 (h▸e▸Am.2 ⟨u,hu,rfl⟩)
   simp[this]]
 |t::c,i+1,hn,hi,h=>by
  have hi:i<c.length:=by simpa using hi
  have h:c[i].path=p:=h;unfold Ep at hn;rw[AP,CT]at hn
  have:t.path≠p:=fun e=>hn.1 (by rw[e,←h];exact Am.2 ⟨_,Aq hi,rfl⟩)
  have ih:=MW hn.2 hi h;unfold FC at ih⊢;rw[List.eraseIdx_cons_succ,Ek,Aw (by simp[this]),ih]
theorem Py{l c:List Tm}(hl:Cp l)(h:CN l=some c):Cp c:=by
 have h1:=NF l l.length (Aj _);rw[Du]at h1;have h2:c=(EO l).filter fun t=>!Gk t:=by
  unfold CN at h;split at h
  ·cases h
  ·exact(BL h).symm
 have h3:c.length≤(EO l).length:=by rw[h2];exact BD _ _
 have h4:(EO l).length=(CW l).length:=by
  have:=(List.perm_ext_iff_of_nodup (Hx (Hu l)) (Hx (HD (Ei l)))).2 (IY l)
  exact this.length_eq.symm
 unfold Cp at hl⊢;omega
abbrev j8:AV:=.tup [.agg Uh,.v (.slice none 0 0),vb false]
abbrev lG:TK:=⟨[3],[],[],[],[],[],[],[],[(30,0),(34,1)],[],[3]⟩
theorem dO(l:List Tm)(p:ByteArray)(hl:Cp l)(hs:∀t∈l,Cp t.set)(hn:Fd l p=none):PC 203 [sl AF l,vs p] j8:=by
 have hc:=rt l hl hs;unfold Fd at hn;cases e:CN l with
 |none =>
  have e1:Gx l=.tup [sl AF [],vb false]:=by unfold Gx PM;rw[e];rfl
  rw[e1]at hc;have hi:=jc (ED.ptr [vs p]) [] (fun x=>decide (x.path=p)) (fun x _=>ml x p) (by simp);refine Ps lG Tryz.func203 rfl (Nz rfl) ?_;refine Xi .pure (Xi _ (Yi (hc) ?_));refine Xi .pure (Xi _ (Yi (hi) ?_));refine Xi ⟨[(4,.ref 4 0),(7,sl AF []),(8,vb false),(9,vi (-1))],[(4,.cells Uh)],Ab⟩ (Yi ⟨Z4,Z1,Fh,Tv⟩ ?_)
  refine Yi (Nz rfl) (Yi (Nz rfl) ?_);exact .refl _
 |some c =>
  rw[e]at hn;have hn:(match Di c p with | none=>none | some t=>some (t,FC c p))=none:=hn;have pT:Di c p=none:=by
   cases h:Di c p with
   |none=>rfl
   |some t=>rw[h]at hn;cases hn
  have e1:Gx l=.tup [sl AF c,vb true]:=by unfold Gx PM;rw[e];rfl
  rw[e1]at hc;have pR:=Py hl e;have hi:=jc (ED.ptr [vs p]) c (fun x=>decide (x.path=p)) (fun x _=>ml x p) (by unfold Cp at pR;omega);have hid:HU (fun x:Tm=>decide (x.path=p)) c 0=-1:=by
   rcases OB (p:=fun x:Tm=>decide (x.path=p)) c 0 with ⟨h1,_⟩ | ⟨i,x,_,_,h3⟩
   ·exact h1
   ·unfold Di at pT;rw[h3]at pT;cases pT
  rw[hid]at hi;refine Ps lG Tryz.func203 rfl (Nz rfl) ?_;refine Xi .pure (Xi _ (Yi (hc) ?_));refine Xi .pure (Xi _ (Yi (hi) ?_));refine Xi ⟨[(4,.ref 4 0),(7,sl AF c),(8,vb true),(9,vi (-1))],[(4,.cells Uh)],Ab⟩ (Yi ⟨Z4,Z1,Fh,Tv⟩ ?_)
  refine Yi ?_ ?_
  ·intro _;refine Yi (Nz rfl) (Yi (Nz rfl) ?_);exact .refl _
  ·intro h;exact absurd (show(-1:Int)<0 by decide) h
abbrev nv:TK:=⟨[3],[],[],[],[],[],[],[],[(30,0),(34,2)],[],[]⟩
theorem dP(l:List Tm)(p:ByteArray)(hl:Cp l)(hs:∀t∈l,Cp t.set){t:Tm}{r:List Tm}(hn:Fd l p=some (t,r)) :
  Bd Tryz.prog 203 [sl AF l,vs p] (Ah [] Ab) fun v h'=>v=.tup [.agg (AF t),.msl 2000 r.length,vb true]∧h'=Ah [(2000,.arr 3 (r.map AF))] Ab:=by
 have hc:=rt l hl hs;unfold Fd at hn;cases e:CN l with
 |none=>rw[e]at hn;cases hn
 |some c =>
  rw[e]at hn;have hn:(match Di c p with | none=>none | some t=>some (t,FC c p))=some (t,r):=hn;have ff:Di c p=some t∧FC c p=r:=by
   cases h:Di c p with
   |none=>rw[h]at hn;cases hn
   |some t=>rw[h]at hn;cases hn;exact Zr
  have e1:Gx l=.tup [sl AF c,vb true]:=by unfold Gx PM;rw[e];rfl
  rw[e1]at hc;have pR:=Py hl e;have hi:=jc (ED.ptr [vs p]) c (fun x=>decide (x.path=p)) (fun x _=>ml x p) (by unfold Cp at pR;omega);rcases OB (p:=fun x:Tm=>decide (x.path=p)) c 0 with ⟨_,h2⟩ | ⟨i,x,h1,h2,h3⟩
  ·unfold Di at ff;rw[h2]at ff;cases ff.1
  have hx:x=t:=by
   have:=ff.1
   unfold Di at this;rw[h3]at this;exact BL this
  subst hx;rw[h1,EV]at hi;obtain⟨pW,zf⟩:=As.1 h2;have wU:c.eraseIdx i=r:=by
   rw[←ff.2];exact MW (HD (EF e)) pW (by rw[zf];exact GR ff.1)
  have rO:c.length-1=r.length:=by rw[←wU,List.length_eraseIdx_of_lt pW]
  have Dz:c≠[]:=fun h=>by subst h;simp at pW
  have y8:c.length≤1073741824:=pR;refine Cm (Mo nv) [(13400,2000)] rfl CK hm rfl Tryz.func203 (by kernel_rfl) rfl (Nz rfl) (by kernel_rfl) rfl ?_;refine Xi .pure (Xi _ (Yi (hc) ?_));refine Xi .pure (Xi _ (Yi (hi) ?_));refine Yi ?_ ?_
  ·intro h;have h:(i:Int)<0:=h;omega
  intro _;have hg:(c.map AF)[((i:Nat):Int).toNat]?=some (AF x):=by rw[Ch,AG,h2];rfl
  refine Xi (AF x) (Yi (Yi (Nn i) hg) (Yi rfl (Yi (Nz rfl) ?_)));refine Xi c.length (Xi 3 (Xi (c.map AF) (Yi rfl (Yi (pc c pR Dz) ?_))));refine Yi (Ii i (by omega)) ?_;refine Xi (c.length-1) (Xi ((c.eraseIdx i).map AF) (Yi rfl (Yi (ta c i pW) ?_)));refine Yi (Nz rfl) ?_;refine Yi (by kernel_rfl) ?_;refine Yi (Nz rfl) ?_;have e2:AV.tup [.agg (AF x),.msl 2000 (c.length-1),vb true]=.tup [.agg (AF x),.msl 2000 r.length,vb true]:=by rw[rO]
  have e3:Ah [(2000,HO.arr 3 ((c.eraseIdx i).map AF))] Ab=Ah [(2000,.arr 3 (r.map AF))] Ab:=by rw[wU]
  exact Xi _ (Yi (.refl _) (Yi e2 e3))
abbrev aB:TK:=⟨[],[],[],[],[],[],[],[],[],[(24,9),(30,12)],[2,3,5,6]⟩
abbrev nD(a b:List Tm)(p:ByteArray):AV:=.tup [sl AF (Bv a b p).1,vi (Bv a b p).2]
theorem Vj{l r:List Tm}{p:ByteArray}{t:Tm}(h:Fd l p=some (t,r)):∃c,CN l=some c∧t∈c∧r=FC c p:=by
 unfold Fd at h;cases e:CN l with
 |none=>rw[e]at h;cases h
 |some c =>
  rw[e]at h;have h:(match Di c p with | none=>none | some t=>some (t,FC c p))=some (t,r):=h;cases e2:Di c p with
  |none=>rw[e2]at h;cases h
  |some u=>rw[e2]at h;cases h;exact⟨c,rfl,E0 e2,rfl⟩
theorem Vk{l r:List Tm}{p:ByteArray}{t:Tm}(hl:Cp l)(h:Fd l p=some (t,r)):Cp t.set∧Cp r∧∀u∈r,Cp u.set:=by
 obtain⟨c,h1,h2,rfl⟩:=Vj h;have hs:=EF h1;refine⟨Oj (hs.canon t h2),?_,fun u hu=>Oj (hs.canon u (BK.1 hu).1)⟩
 have:=Py hl h1
 have h3:(FC c p).length≤c.length:=BD _ _;unfold Cp at *;omega
theorem dS{l c:List Tm}(h:CN l=some c):c.length≤l.length:=by
 have h1:=NF l l.length (Aj _);rw[Du]at h1;have h2:c=(EO l).filter fun t=>!Gk t:=by
  unfold CN at h;split at h
  ·cases h
  ·exact(BL h).symm
 have h3:c.length≤(EO l).length:=by rw[h2];exact BD _ _
 have h4:(EO l).length=(CW l).length:=by
  have:=(List.perm_ext_iff_of_nodup (Hx (Hu l)) (Hx (HD (Ei l)))).2 (IY l)
  exact this.length_eq.symm
 omega
theorem Vl{l r:List Tm}{p:ByteArray}{t:Tm}(h:Fd l p=some (t,r)):r.length≤l.length:=by
 obtain⟨c,h1,h2,rfl⟩:=Vj h;have h3:(FC c p).length≤c.length:=BD _ _
 have:=dS h1
 omega
theorem bC(a b:Bl):Cp (Pa a b):=by
 unfold Cp;have:=HQ (Ye a b);omega
theorem sW(a b:List Tm)(p:ByteArray)(ha:a.length≤500000000)(hb:b.length≤500000000)(xk:∀t∈a,Cp t.set)(jF:∀t∈b,Cp t.set):PC 161 [sl AF a,sl AF b,vs p] (nD a b p):=by
 have pQ:Cp a:=by unfold Cp;omega
 have mJ:Cp b:=by unfold Cp;omega
 have er:∀{l:List Tm} {e:Int},Bv a b p=(l,e)→nD a b p=.tup [sl AF l,vi e]:=fun h=>by unfold nD;rw[h]
 have e0:Ha (.tup [.v (.slice none 0 0),vi 1]) (.tup [.slice .none [],vi 1]):=Ha.tup ⟨.nil,.refl _,trivial⟩;cases h1:Fd a p with
 |none =>
  have hr:Bv a b p=([],1):=by unfold Bv;rw[h1]
  have c1:=dO a p pQ xk h1;cases h2:Fd b p with
  |none =>
   have c2:=dO b p mJ jF h2;refine Ps aB Tryz.func161 rfl (Nz rfl) ?_;refine Xi .pure (Xi _ (Yi (c1) ?_));refine Yi (Nz rfl) ?_;refine Xi ⟨[(1,sl AF b),(2,vs p),(8,.ref 8 0),(9,.v (.slice none 0 0)),(10,vb false)],[(8,.cells Uh)],Ab⟩ (Yi ⟨Z5,Z1,Fh,Tv⟩ ?_)
   refine Xi .pure (Xi _ (Yi (c2) ?_));refine Yi (Nz rfl) ?_;refine Xi ⟨[(8,.ref 8 0),(9,.v (.slice none 0 0)),(10,vb false),(11,.ref 11 0),(12,.v (.slice none 0 0)),(13,vb false)],[(8,.cells Uh),(11,.cells Uh)],Ab⟩ (Yi ⟨Z6,Z2,Fh,Tv⟩ ?_)
   exact e0.trans (.of_eq (er hr).symm)
  |some q2 =>
   obtain⟨t2,r2⟩:=q2;have c2:=dP b p mJ jF h2;refine Ps aB Tryz.func161 rfl (Nz rfl) ?_;refine Xi .pure (Xi _ (Yi (c1) ?_));refine Yi (Nz rfl) ?_;refine Xi ⟨[(1,sl AF b),(2,vs p),(8,.ref 8 0),(9,.v (.slice none 0 0)),(10,vb false)],[(8,.cells Uh)],Ab⟩ (Yi ⟨Z5,Z1,Fh,Tv⟩ ?_)
   have z2:r2.length=(r2.map AF).length:=by rw[Lm]
   refine Xi (.gen [] 1) (Yi rfl (c2.imp ?_));intro v2 g2 q2;have vh:=q2.1;have vl:=q2.2;subst vh;subst vl;refine Yi (Nz rfl) ?_;refine Xi ⟨[(8,.ref 8 0),(9,.v (.slice none 0 0)),(10,vb false),(11,.ref 11 0),(12,.msl 12600 r2.length),(13,vb true)],[(8,.cells Uh),(11,.cells (AF t2)),(12600,.arr 3 (r2.map AF))],Ab⟩ (Yi ⟨Z6,Z3,Fh,Tv⟩ ?_)
   refine Yi z2 ?_;exact e0.trans (.of_eq (er hr).symm)
 |some q1 =>
  obtain⟨t1,r1⟩:=q1;have c1:=dP a p pQ xk h1;obtain⟨f1,f2,f3⟩:=Vk pQ h1;cases h2:Fd b p with
  |none =>
   have hr:Bv a b p=([],1):=by unfold Bv;rw[h1,h2]
   have c2:=dO b p mJ jF h2;refine Ps aB Tryz.func161 rfl (Nz rfl) ?_;refine Xi (.gen [] 1) (Yi rfl (c1.imp ?_));intro v1 g1 q1;have u9:=q1.1;have kq:=q1.2;subst u9;subst kq;refine Yi (Nz rfl) ?_;refine Xi ⟨[(1,sl AF b),(2,vs p),(8,.ref 8 0),(9,.msl 11900 r1.length),(10,vb true)],[(8,.cells (AF t1)),(11900,.arr 3 (r1.map AF))],Ab⟩ (Yi ⟨Z5,Z2,Fh,Tv⟩ ?_)
   have z1:r1.length=(r1.map AF).length:=by rw[Lm]
   refine Yi z1 ?_;refine Xi .pure (Xi _ (Yi (c2) ?_));refine Yi (Nz rfl) ?_;refine Xi ⟨[(8,.ref 8 0),(9,.slice (.id 11900 3) (r1.map AF)),(10,vb true),(11,.ref 11 0),(12,.v (.slice none 0 0)),(13,vb false)],[(8,.cells (AF t1)),(11,.cells Uh),(11900,.tok 3 (r1.map AF).length)],Ab⟩ (Yi ⟨Z6,Z3,Fh,Tv⟩ ?_)
   exact e0.trans (.of_eq (er hr).symm)
  |some q2 =>
   obtain⟨t2,r2⟩:=q2;have c2:=dP b p mJ jF h2;obtain⟨g1,g2,g3⟩:=Vk mJ h2;refine Ps aB Tryz.func161 rfl (Nz rfl) ?_;refine Xi (.gen [] 1) (Yi rfl (c1.imp ?_));intro v1 g1 q1;have u9:=q1.1;have kq:=q1.2;subst u9;subst kq;refine Yi (Nz rfl) ?_;refine Xi ⟨[(1,sl AF b),(2,vs p),(8,.ref 8 0),(9,.msl 11900 r1.length),(10,vb true)],[(8,.cells (AF t1)),(11900,.arr 3 (r1.map AF))],Ab⟩ (Yi ⟨Z5,Z2,Fh,Tv⟩ ?_)
   have z1:r1.length=(r1.map AF).length:=by rw[Lm]
   have z2:r2.length=(r2.map AF).length:=by rw[Lm]
   refine Yi z1 ?_;refine Xi (.gen [] 1) (Yi rfl (c2.imp ?_));intro v2 g2 q2;have vh:=q2.1;have vl:=q2.2;subst vh;subst vl;refine Yi (Nz rfl) ?_;refine Xi ⟨[(8,.ref 8 0),(9,.slice (.id 11900 3) (r1.map AF)),(10,vb true),(11,.ref 11 0),(12,.msl 12600 r2.length),(13,vb true)],[(8,.cells (AF t1)),(11,.cells (AF t2)),(11900,.tok 3 (r1.map AF).length),(12600,.arr 3 (r2.map AF))],Ab⟩ (Yi ⟨Z6,Z4,Fh,Tv⟩ ?_)
   refine Yi z2 ?_;refine Xi ⟨[(8,.ref 8 0),(9,.slice (.id 11900 3) (r1.map AF)),(11,.ref 11 0),(12,.slice (.id 12600 3) (r2.map AF))],[(8,.cells (AF t1)),(11,.cells (AF t2)),(11900,.tok 3 (r1.map AF).length),(12600,.tok 3 (r2.map AF).length)],Ab⟩ (Yi ⟨Z4,Z4,Fh,Tv⟩ ?_)
   have l1:=Vl h1;have l2:=Vl h2;have b1:Do 3 (r2.map AF)∧(r1.map AF).length=(r1.map AF).length∧((r1.map AF).length+(r2.map AF).length)*48≤140737488355328∧(r1.map AF).length+(r2.map AF).length≤9223372036854775807 :=
    ⟨Eu (enc:=AF) (n:=3) (fun _=>rfl) r2,rfl,by rw[Lm,Lm];omega,by rw[Lm,Lm];omega⟩
   refine Yi b1 ?_;refine Yi (Nz rfl) (Yi (Nz rfl) ?_);refine Xi _ (Yi (s5 t1 t2 f1 g1) ?_);have b2:Do 3 [AF (Dg t1 t2)]∧(r1.map AF++r2.map AF).length=(r1.map AF).length+(r2.map AF).length∧((r1.map AF++r2.map AF).length+[AF (Dg t1 t2)].length)*48≤140737488355328∧(r1.map AF++r2.map AF).length+[AF (Dg t1 t2)].length≤9223372036854775807 :=
    ⟨⟨rfl,trivial⟩,by rw[Ad],by rw[Ad,Lm,Lm,AD];omega,by rw[Ad,Lm,Lm,AD];omega⟩
   refine Yi b2 ?_;have pM:=rt (r1++r2++[Dg t1 t2]) (by unfold Cp;simp only[Ad,AD];omega) (fun u hu=>by
    rcases A6.1 hu with hu | hu
    ·rcases A6.1 hu with hu | hu
     ·exact f3 u hu
     ·exact g3 u hu
    ·rw[Al.1 hu];exact bC _ _)
   have e1:sl AF (r1++r2++[Dg t1 t2])=.slice .none (r1.map AF++r2.map AF++[AF (Dg t1 t2)]):=by simp
   have wO:PC 204 [.slice .none (r1.map AF++r2.map AF++[AF (Dg t1 t2)])] (Gx (r1++r2++[Dg t1 t2])):=e1▸pM;cases oc:CN (r1++r2++[Dg t1 t2])with
   |none =>
    have hr:Bv a b p=([],8):=by unfold Bv;rw[h1,h2];dsimp only;rw[oc]
    have ec:Gx (r1++r2++[Dg t1 t2])=.tup [sl AF [],vb false]:=by unfold Gx PM;rw[oc];rfl
    have hc:PC 204 [.slice .none (r1.map AF++r2.map AF++[AF (Dg t1 t2)])] (.tup [sl AF [],vb false]):=ec▸wO;have e8:Ha (.tup [.v (.slice none 0 0),vi 8]) (.tup [.slice .none [],vi 8]):=Ha.tup ⟨.nil,.refl _,trivial⟩;refine Xi _ (Yi (hc) ?_);refine Yi (by kernel_rfl) ?_;refine Xi ⟨[(14,sl AF []),(15,vb false)],[],Ab⟩ (Yi ⟨Z2,Tv,Fh,Tv⟩ ?_)
    exact e8.trans (.of_eq (er hr).symm)
   |some o =>
    have hr:Bv a b p=(o,0):=by unfold Bv;rw[h1,h2];dsimp only;rw[oc]
    have ec:Gx (r1++r2++[Dg t1 t2])=.tup [sl AF o,vb true]:=by unfold Gx PM;rw[oc];rfl
    have hc:PC 204 [.slice .none (r1.map AF++r2.map AF++[AF (Dg t1 t2)])] (.tup [sl AF o,vb true]):=ec▸wO;refine Xi _ (Yi (hc) ?_);refine Yi (by kernel_rfl) ?_;refine Xi ⟨[(14,sl AF o),(15,vb true)],[],Ab⟩ (Yi ⟨Z2,Tv,Fh,Tv⟩ ?_)
    exact .of_eq (er hr).symm
def ZP(h s:Nat→HO):Nat→Bool
 |0=>true
 |n+1=>(match h (1000+n)with |.free=>true |_=>(match s (1000+n)with |.free=>false |_=>true))&&ZP h s n
theorem Se{h s:Nat→HO}:∀{n:Nat},ZP h s n=true→∀j,j<n→h (1000+j)≠.free→s (1000+j)≠.free
 |n+1,hd,j,hj,hn=>by
  simp only[ZP,Ag]at hd;rcases Ez j n with h1 | h1
  ·exact Se hd.2 j h1 hn
  ·have:j=n:=by omega
   subst this
   have:=hd.1
   intro e;split at this
   ·rename_i q;exact hn q
   ·rw[e]at this;cases this
theorem Ax{h s:Nat→HO}(hd:ZP h s 1000=true):∀j,1000≤j→j<2000→h j≠.free→s j≠.free:=fun j h1 h2=>by
 have:=Se hd (j-1000) (by omega)
 rw[show 1000+(j-1000)=j by omega]at this;exact this
theorem ko(v:Ver):0≤plc v∧plc v<1000000:=by
 unfold plc;cases h:CL v with
 |true=>exact Jj h
 |false=>simp
abbrev lN(t:List Tm):Prop:=t.length≤500000000∧∀u∈t,Cp u.set
theorem o0(s:ByteArray):PC 81 [vs s] (vb false):=by
 refine Ps Gc Tryz.func81 rfl (Nz rfl) ?_;refine Yi ?_ ?_
 ·intro h;exact absurd rfl (show s≠s from h)
 ·intro _;exact .refl _
theorem o7(z:Int):PC 134 [vi z] (vb false):=by
 refine Ps Gc Tryz.func134 rfl (Nz rfl) ?_;refine Yi ?_ ?_
 ·intro h;exact absurd rfl (show z≠z from h)
 ·intro _;exact .refl _
theorem i9(a b:ByteArray):PC 53 [vs a,vs b] (vi (Gm a b)):=by
 refine Ps Gc Tryz.func53 rfl (Nz rfl) ?_;refine Xi .pure (Xi _ (Yi (o0 a) ?_));refine Xi .pure (Xi _ (Yi (o0 b) ?_));refine Yi ?_ ?_
 ·intro h;have h:Op.bytesLess a.toList b.toList=true:=h;exact .of_eq (Ac vi (show(-1:Int)=Gm a b by unfold Gm;rw[Aw (by rw[HP];exact h)]))
 ·intro h;have h:¬Op.bytesLess a.toList b.toList=true:=h;refine Yi ?_ ?_
  ·intro h2;have h2:Op.bytesLess b.toList a.toList=true:=h2;exact .of_eq (Ac vi (show(1:Int)=Gm a b by unfold Gm;rw[Ak (by rw[HP];exact h),Aw (by rw[HP];exact h2)]))
  ·intro h2;have h2:¬Op.bytesLess b.toList a.toList=true:=h2;exact .of_eq (Ac vi (show(0:Int)=Gm a b by unfold Gm;rw[Ak (by rw[HP];exact h),Ak (by rw[HP];exact h2)]))
theorem mf(a b:Int):PC 109 [vi a,vi b] (vi (FH a b)):=by
 refine Ps Gc Tryz.func109 rfl (Nz rfl) ?_;refine Xi .pure (Xi _ (Yi (o7 a) ?_));refine Xi .pure (Xi _ (Yi (o7 b) ?_));refine Yi ?_ ?_
 ·intro h;have h:a<b:=h;exact .of_eq (Ac vi (show(-1:Int)=FH a b by unfold FH;rw[Aw h]))
 ·intro h;have h:¬a<b:=h;refine Yi ?_ ?_
  ·intro h2;have h2:b<a:=h2;exact .of_eq (Ac vi (show(1:Int)=FH a b by unfold FH;rw[Ak h,Aw h2]))
  ·intro h2;have h2:¬b<a:=h2;exact .of_eq (Ac vi (show(0:Int)=FH a b by unfold FH;rw[Ak h,Ak h2]))
theorem oW(a b:Int):PC 83 [.slice .none [[vi a],[vi b]]] (vi (if a≠0 then a else b)):=by
 refine Ps Gc Tryz.func83 rfl (Nz rfl) ?_;refine Xi {i:Nat // i≤2∧(0<i→a=0)∧(1<i→b=0)} (Xi (fun i=>⟨[(3,vi 0),(6,.slice .none [[vi a],[vi b]]),(7,vi 2),(8,vi i.1)],[],Ab⟩) (Xi (fun i=>2-i.1) (Yi (Xi ⟨0,by omega,by omega,by omega⟩ ?_) ?_)))
 ·exact⟨Z4,Tv,Fh,Tv⟩
 intro⟨i,h1,h2,h3⟩;refine Yi ?_ ?_
 ·intro h;have h:(i:Int)<2:=h
  match i,h1,h2,h3,h with
  |0,h1,h2,h3,h =>
   refine Xi [vi a] (Yi (Yi (AX _) rfl) (Yi rfl ?_));refine Yi ?_ ?_
   ·intro h4;have h4:a≠0:=h4;exact .of_eq (Ac vi (Aw h4).symm)
   ·intro h4;have h4:¬a≠0:=h4;refine Yi (Ii 0 (by omega)) ?_;refine Xi ⟨1,by omega,fun _=>by omega,fun q=>absurd q (by decide)⟩ ?_;exact⟨by show 2-1<2-0;decide,Z4,Tv,Fh,Tv⟩
  |1,h1,h2,h3,h =>
   have ha:=h2 (by decide);refine Xi [vi b] (Yi (Yi (by show(0:Int)≤1;decide) rfl) (Yi rfl ?_));refine Yi ?_ ?_
   ·intro h4;exact .of_eq (Ac vi (Ak (by omega)).symm)
   ·intro h4;have h4:¬b≠0:=h4;refine Yi (Ii 1 (by omega)) ?_;refine Xi ⟨2,by omega,fun _=>ha,fun q=>by omega⟩ ?_;exact⟨by show 2-2<2-1;decide,Z4,Tv,Fh,Tv⟩
  |i+2,h1,h2,h3,h=>omega
 ·intro h;have h:¬(i:Int)<2:=h;have ha:=h2 (by omega);have hb:=h3 (by omega);exact .of_eq (Ac vi (show(0:Int)=if a≠0 then a else b by rw[Ak (by omega),hb]))
theorem RX(a b:Ver)(i:Nat)(hi:i<3)(h:∀j,j<i→FH (part a j) (part b j)=0)(hn:FH (part a i) (part b i)≠0):LD a b=FH (part a i) (part b i):=by
 unfold LD
 match i,hi,h,hn with
 |0,_,_,hn=>exact Aw hn
 |1,_,h,hn =>
  have h0:FH a.a b.a=0:=h 0 (by decide);rw[Ak (by omega)];exact Aw hn
 |2,_,h,hn =>
  have h0:FH a.a b.a=0:=h 0 (by decide);have h1:FH a.b b.b=0:=h 1 (by decide);rw[Ak (by omega),Ak (by omega)];rfl
theorem dX(a b:Ver)(h:∀j,j<3→FH (part a j) (part b j)=0):LD a b=0:=by
 unfold LD;have h0:FH a.a b.a=0:=h 0 (by decide);have h1:FH a.b b.b=0:=h 1 (by decide);have h2:FH a.c b.c=0:=h 2 (by decide);rw[Ak (by omega),Ak (by omega),h2]
theorem oX(a b:Ver):PC 84 [.agg (LH a),.agg (LH b)] (vi (LD a b)):=by
 refine Ps Gc Tryz.func84 rfl (Nz rfl) ?_;refine Yi (Nz rfl) ?_;refine Xi _ (Yi (md a) ?_);refine Yi (Nz rfl) ?_;refine Xi _ (Yi (md b) ?_);refine Yi (Nz rfl) (Yi (Nz rfl) ?_);refine Yi (by kernel_rfl) ?_;refine Xi {i:Nat // i≤3∧∀j,j<i→FH (part a j) (part b j)=0} (Xi (fun i=>⟨[(5,.ref 5 0),(6,.ref 6 0),(13,vi i.1)],[(5,.cells (LH a)),(6,.cells (LH b))],Ab⟩) (Xi (fun i=>3-i.1) (Yi (Xi ⟨0,by omega,fun j h=>by omega⟩ ?_) ?_)))
 ·exact⟨Z3,Z2,Fh,Tv⟩
 intro⟨i,h1,h2⟩;refine Yi ?_ ?_
 ·intro h;have h:(i:Int)<3:=h;have next:FH (part a i) (part b i)=0→∀j,j<i+1→FH (part a j) (part b j)=0:=fun hz j hj=>by
   rcases Ez j i with q | q
   ·exact h2 j q
   ·have:j=i:=by omega
    subst this;exact hz
  match i,h1,h2,h,next with
  |0,h1,h2,h,next =>
   refine Yi ⟨by show(0:Int)≤0;decide,by show(0:Int)<3;decide⟩ ?_;refine Yi ⟨by show(0:Int)≤0;decide,by show(0:Int)<3;decide⟩ ?_;refine Xi _ (Yi (mf (part a 0) (part b 0)) ?_);refine Yi (by kernel_rfl) ?_;refine Yi ?_ ?_
   ·intro h4;have h4:FH (part a 0) (part b 0)≠0:=h4;exact .of_eq (Ac vi (RX a b 0 (by decide) h2 h4).symm)
   ·intro h4;have h4:¬FH (part a 0) (part b 0)≠0:=h4;refine Yi (Ii 0 (by omega)) ?_;refine Xi ⟨1,by omega,next (FY h4)⟩ ?_
    exact⟨by show 3-1<3-0;decide,Z3,Z2,Fh,Tv⟩
  |1,h1,h2,h,next =>
   refine Yi ⟨by show(0:Int)≤1;decide,by show(1:Int)<3;decide⟩ ?_;refine Yi ⟨by show(0:Int)≤1;decide,by show(1:Int)<3;decide⟩ ?_;refine Xi _ (Yi (mf (part a 1) (part b 1)) ?_);refine Yi (by kernel_rfl) ?_;refine Yi ?_ ?_
   ·intro h4;have h4:FH (part a 1) (part b 1)≠0:=h4;exact .of_eq (Ac vi (RX a b 1 (by decide) h2 h4).symm)
   ·intro h4;have h4:¬FH (part a 1) (part b 1)≠0:=h4;refine Yi (Ii 1 (by omega)) ?_;refine Xi ⟨2,by omega,next (FY h4)⟩ ?_
    exact⟨by show 3-2<3-1;decide,Z3,Z2,Fh,Tv⟩
  |2,h1,h2,h,next =>
   refine Yi ⟨by show(0:Int)≤2;decide,by show(2:Int)<3;decide⟩ ?_;refine Yi ⟨by show(0:Int)≤2;decide,by show(2:Int)<3;decide⟩ ?_;refine Xi _ (Yi (mf (part a 2) (part b 2)) ?_);refine Yi (by kernel_rfl) ?_;refine Yi ?_ ?_
   ·intro h4;have h4:FH (part a 2) (part b 2)≠0:=h4;exact .of_eq (Ac vi (RX a b 2 (by decide) h2 h4).symm)
   ·intro h4;have h4:¬FH (part a 2) (part b 2)≠0:=h4;refine Yi (Ii 2 (by omega)) ?_;refine Xi ⟨3,by omega,next (FY h4)⟩ ?_
    exact⟨by show 3-3<3-2;decide,Z3,Z2,Fh,Tv⟩
  |i+3,h1,h2,h,next=>omega
 ·intro h;have h:¬(i:Int)<3:=h;exact .of_eq (Ac vi (dX a b fun j hj=>h2 j (by omega)).symm)
theorem sE(a b:Rl):PC 68 [.agg (Ai a),.agg (Ai b)] (vi (RV a b)):=by
 refine Ps Gc Tryz.func68 rfl (Nz rfl) ?_;refine Xi _ (Yi (i9 a.path b.path) ?_);refine Yi (Nz rfl) (Yi (Nz rfl) ?_);refine Xi _ (Yi (oX a.ver b.ver) ?_);refine Xi _ (Yi (oW (Gm a.path b.path) (LD a.ver b.ver)) ?_);refine Yi (by kernel_rfl) ?_;exact .refl _
abbrev Gg(s:ByteArray):Prop:=s.size≤1073741824
abbrev NW(q:Rq):Prop:=Cp q.set∧Gg q.path
abbrev J3(r:Rl):Prop:=Gg r.path∧∀q∈r.reqs,NW q
abbrev U2(nm:ByteArray→ByteArray)(p:ByteArray):AV:=match Cr p with
 |some m=>.tup [vs (nm p),vi m,vi 0]
 |none=>.tup [vs ⟨#[]⟩,vi 0,vi 4]
abbrev TP(nm:ByteArray→ByteArray):Prop:=∀p:ByteArray,Gg p→PC 91 [vs p] (U2 nm p)
theorem TP.none{nm:ByteArray→ByteArray}(h:TP nm){p:ByteArray}(hp:Gg p)(e:Cr p=.none):PC 91 [vs p] (.tup [vs ⟨#[]⟩,vi 0,vi 4]):=by
 have:=h p hp;unfold U2 at this;rw[e]at this;exact this
theorem TP.some{nm:ByteArray→ByteArray}(h:TP nm){p:ByteArray}{m:Int}(hp:Gg p)(e:Cr p=.some m):PC 91 [vs p] (.tup [vs (nm p),vi m,vi 0]):=by
 have:=h p hp;unfold U2 at this;rw[e]at this;exact this
theorem oU{nm:ByteArray→ByteArray}(hL:TP nm)(q:Rq)(hq:Cp q.set)(hp:Gg q.path):PC 116 [.agg (AM q),.v (.pointer none)] (vi (GA none q)):=by
 cases TM:Cr q.path with
 |none =>
  have e:(4:Int)=GA none q:=by unfold GA;rw[TM];rfl
  have hl:=hL.none hp TM;refine Ps Gc Tryz.func116 rfl (Nz rfl) ?_;refine Xi .pure (Xi _ (Yi (hl) ?_));refine Yi ?_ ?_
  ·intro _;exact .of_eq (Ac vi e)
  ·intro h;exact absurd (show(4:Int)≠0 by decide) h
 |some m =>
  have er:GA none q=if(q.set.isEmpty||!decide (q.set=canon q.set)||false)=true then 1 else 0:=by unfold GA;rw[TM];rfl
  have hl:=hL.some hp TM;have hc:=WR q.set hq;have he:=oY q.set (canon q.set) hq;have T3:∀{n:Int},n=(q.set.map Ao).length→n=0→q.set.isEmpty=true:=fun h1 h2=>by
   rw[Lm]at h1;rw[GE];exact AB (by omega)
  have fq:¬((q.set.map Ao).length:Int)=0→q.set.isEmpty=false:=fun h=>by
   cases hqs:q.set with
   |nil=>rw[hqs]at h;exact absurd rfl h
   |cons a l=>rfl
  rcases Bt (decide (q.set=canon q.set))with h2 | h2
  ·rw[h2]at he;refine Ps (Kz [2,4]) Tryz.func116 rfl (Nz rfl) ?_;refine Xi .pure (Xi _ (Yi (hl) ?_));refine Xi ⟨[(1,.v (.pointer none)),(2,.ref 2 0),(7,vi 0)],[(2,.cells (AM q))],Ab⟩ (Yi ⟨Z3,Z1,Fh,Tv⟩ ?_)
   refine Yi ?_ ?_
   ·intro h;exact absurd rfl h
   intro _;refine Xi ⟨[(1,.v (.pointer none)),(2,.ref 2 0)],[(2,.cells (AM q))],Ab⟩ (Yi ⟨Z2,Z1,Fh,Tv⟩ ?_)
   refine Yi ?_ ?_
   ·intro h;have h:((q.set.map Ao).length:Int)=0:=h;have e:(1:Int)=GA none q:=by rw[er,T3 rfl h];rfl
    refine Yi (by kernel_rfl) ?_;exact .of_eq (Ac vi e)
   intro h;have h:¬((q.set.map Ao).length:Int)=0:=h;have hn:=fq h;refine Xi _ (Yi (hc) ?_);refine Xi _ (Yi (he) ?_);refine Yi (by kernel_rfl) ?_;have e:(0:Int)=GA none q:=by rw[er,hn,h2];rfl
   exact .of_eq (Ac vi e)
  ·rw[h2]at he;refine Ps (Kz [2,4]) Tryz.func116 rfl (Nz rfl) ?_;refine Xi .pure (Xi _ (Yi (hl) ?_));refine Xi ⟨[(1,.v (.pointer none)),(2,.ref 2 0),(7,vi 0)],[(2,.cells (AM q))],Ab⟩ (Yi ⟨Z3,Z1,Fh,Tv⟩ ?_)
   refine Yi ?_ ?_
   ·intro h;exact absurd rfl h
   intro _;refine Xi ⟨[(1,.v (.pointer none)),(2,.ref 2 0)],[(2,.cells (AM q))],Ab⟩ (Yi ⟨Z2,Z1,Fh,Tv⟩ ?_)
   refine Yi ?_ ?_
   ·intro h;have h:((q.set.map Ao).length:Int)=0:=h;have e:(1:Int)=GA none q:=by rw[er,T3 rfl h];rfl
    refine Yi (by kernel_rfl) ?_;exact .of_eq (Ac vi e)
   intro h;have h:¬((q.set.map Ao).length:Int)=0:=h;have hn:=fq h;refine Xi _ (Yi (hc) ?_);refine Xi _ (Yi (he) ?_);refine Yi (by kernel_rfl) ?_;have e:(1:Int)=GA none q:=by rw[er,hn,h2];rfl
   exact .of_eq (Ac vi e)
theorem oV{nm:ByteArray→ByteArray}(hL:TP nm)(q b:Rq)(hq:Cp q.set)(hp:Gg q.path):PC 116 [.agg (AM q),.cptr (AM b)] (vi (GA (some b.path) q)):=by
 cases TM:Cr q.path with
 |none =>
  have e:(4:Int)=GA (some b.path) q:=by unfold GA;rw[TM];rfl
  have hl:=hL.none hp TM;refine Ps Gc Tryz.func116 rfl (Nz rfl) ?_;refine Xi .pure (Xi _ (Yi (hl) ?_));refine Yi ?_ ?_
  ·intro _;exact .of_eq (Ac vi e)
  ·intro h;exact absurd (show(4:Int)≠0 by decide) h
 |some m =>
  have er:GA (some b.path) q=if(q.set.isEmpty||!decide (q.set=canon q.set)||!Fa b.path q.path)=true then 1 else 0:=by unfold GA;rw[TM];rfl
  have hl:=hL.some hp TM;have hc:=WR q.set hq;have he:=oY q.set (canon q.set) hq;have T3:∀{n:Int},n=(q.set.map Ao).length→n=0→q.set.isEmpty=true:=fun h1 h2=>by
   rw[Lm]at h1;rw[GE];exact AB (by omega)
  have fq:¬((q.set.map Ao).length:Int)=0→q.set.isEmpty=false:=fun h=>by
   cases hqs:q.set with
   |nil=>rw[hqs]at h;exact absurd rfl h
   |cons a l=>rfl
  rcases Bt (decide (q.set=canon q.set))with h2 | h2
  ·rw[h2]at he;refine Ps (Kz [2,4]) Tryz.func116 rfl (Nz rfl) ?_;refine Xi .pure (Xi _ (Yi (hl) ?_));refine Xi ⟨[(1,.cptr (AM b)),(2,.ref 2 0),(7,vi 0)],[(2,.cells (AM q))],Ab⟩ (Yi ⟨Z3,Z1,Fh,Tv⟩ ?_)
   refine Yi ?_ ?_
   ·intro h;exact absurd rfl h
   intro _;refine Xi ⟨[(1,.cptr (AM b)),(2,.ref 2 0)],[(2,.cells (AM q))],Ab⟩ (Yi ⟨Z2,Z1,Fh,Tv⟩ ?_)
   refine Yi ?_ ?_
   ·intro h;have h:((q.set.map Ao).length:Int)=0:=h;have e:(1:Int)=GA (some b.path) q:=by rw[er,T3 rfl h];rfl
    refine Yi (by kernel_rfl) ?_;exact .of_eq (Ac vi e)
   intro h;have h:¬((q.set.map Ao).length:Int)=0:=h;have hn:=fq h;refine Xi _ (Yi (hc) ?_);refine Xi _ (Yi (he) ?_);refine Yi ?_ ?_
   ·intro h3;have h3:Op.bytesLess b.path.toList q.path.toList=false:=h3;refine Yi (by kernel_rfl) ?_;have e:(1:Int)=GA (some b.path) q:=by rw[er,hn,h2,HP,h3];rfl
    exact .of_eq (Ac vi e)
   ·intro h3;have h3:¬Op.bytesLess b.path.toList q.path.toList=false:=h3;have h3:Op.bytesLess b.path.toList q.path.toList=true:=by simpa using h3
    refine Yi (by kernel_rfl) ?_;have e:(0:Int)=GA (some b.path) q:=by rw[er,hn,h2,HP,h3];rfl
    exact .of_eq (Ac vi e)
  ·rw[h2]at he;refine Ps (Kz [2,4]) Tryz.func116 rfl (Nz rfl) ?_;refine Xi .pure (Xi _ (Yi (hl) ?_));refine Xi ⟨[(1,.cptr (AM b)),(2,.ref 2 0),(7,vi 0)],[(2,.cells (AM q))],Ab⟩ (Yi ⟨Z3,Z1,Fh,Tv⟩ ?_)
   refine Yi ?_ ?_
   ·intro h;exact absurd rfl h
   intro _;refine Xi ⟨[(1,.cptr (AM b)),(2,.ref 2 0)],[(2,.cells (AM q))],Ab⟩ (Yi ⟨Z2,Z1,Fh,Tv⟩ ?_)
   refine Yi ?_ ?_
   ·intro h;have h:((q.set.map Ao).length:Int)=0:=h;have e:(1:Int)=GA (some b.path) q:=by rw[er,T3 rfl h];rfl
    refine Yi (by kernel_rfl) ?_;exact .of_eq (Ac vi e)
   intro h;have h:¬((q.set.map Ao).length:Int)=0:=h;have hn:=fq h;refine Xi _ (Yi (hc) ?_);refine Xi _ (Yi (he) ?_);refine Yi (by kernel_rfl) ?_;have e:(1:Int)=GA (some b.path) q:=by rw[er,hn,h2];rfl
   exact .of_eq (Ac vi e)
abbrev Mm(l:List Rq)(k:Nat):List AV:=((l.map AM)[k]?).getD []
abbrev oR(l:List Rq):Nat→AV
 |0=>.v (.pointer none)
 |k+1=>.cptr (Mm l k)
abbrev Kf(l:List Rq):Nat→Option ByteArray
 |0=>none
 |k+1=>(l[k]?).map (·.path)
theorem Nk{l:List Rq}{k:Nat}(h:k<l.length):Mm l k=AM l[k]:=by
 unfold Mm;rw[AG,Ge h];rfl
theorem RM{l:List Rq}{k:Nat}(h:k<l.length):Kf l (k+1)=some l[k].path:=by
 show(l[k]?).map _=_;rw[Ge h];rfl
theorem wt{nm:ByteArray→ByteArray}(hL:TP nm)(l:List Rq)(hs:∀q∈l,NW q):PC 93 [sl AM l] (vi (BR l)):=by
 refine Ps (Kz [8]) Tryz.func93 rfl (Nz rfl) ?_;refine Yi ?_ ?_
 ·intro h;have h:(16:Int)<(l.map AM).length:=h;exact .of_eq (Ac vi (show(7:Int)=BR l by unfold BR;rw[Aw (by rw[Lm]at h;omega)]))
 intro h;have h:¬(16:Int)<(l.map AM).length:=h;have hl:l.length≤16:=by rw[Lm]at h;omega
 have TL:BR l=FG none l:=by unfold BR;rw[Ak (by omega)]
 refine Xi {i:Nat // i≤l.length∧FG none l=FG (Kf l i) (l.drop i)} (Xi (fun i=>⟨[(0,sl AM l),(3,oR l i.1),(10,sl AM l),(11,vi (l.map AM).length),(12,vi i.1)],[],Ab⟩) (Xi (fun i=>l.length-i.1) (Yi (Xi ⟨0,AN _,rfl⟩ ?_) ?_)))
 ·exact⟨Z5,Tv,Fh,Tv⟩
 intro⟨i,h1,h2⟩;refine Yi ?_ ?_
 ·intro h;have h:(i:Int)<(l.map AM).length:=h;have h:i<l.length:=by simpa using h
  have hg:l[i]?=some l[i]:=Ge h;have hd:l.drop i=l[i]::l.drop (i+1):=Br h;have hq:=hs l[i] (Aq h);have hc:PC 116 [.agg (AM l[i]),oR l i] (vi (GA (Kf l i) l[i])):=by
   cases i with
   |zero=>exact oU hL _ hq.1 hq.2
   |succ k =>
    rw[RM (by omega:k<l.length)];show PC 116 [_,.cptr (Mm l k)] _;rw[Nk (by omega:k<l.length)];exact oV hL _ _ hq.1 hq.2
  have JQ:FG none l=if GA (Kf l i) l[i]=0 then FG (some l[i].path) (l.drop (i+1))else GA (Kf l i) l[i]:=by rw[h2,hd];rfl
  match i,h1,h2,h,hg,hd,hc,JQ with
  |0,h1,h2,h,hg,hd,hc,JQ =>
   refine Xi (AM l[0]) (Yi (Yi (by show(0:Int)≤((0:Nat):Int);omega) (by simp[hg])) (Yi rfl ?_));refine Yi (Nz rfl) (Yi (Nz rfl) (Yi (Nz rfl) ?_));refine Xi .pure (Xi _ (Yi (hc) ?_));refine Xi ⟨[(0,sl AM l),(4,vi ((0:Nat):Int)),(6,vi (GA (Kf l (0)) l[0])),(10,sl AM l),(11,vi (l.map AM).length),(12,vi ((0:Nat):Int))],[],Ab⟩ (Yi ⟨Z6,Tv,Fh,Tv⟩ ?_)
   refine Yi ?_ ?_
   ·intro h4;have h4:GA (Kf l (0)) l[0]≠0:=h4;exact .of_eq (Ac vi (show GA (Kf l (0)) l[0]=BR l by rw[TL,JQ,Ak h4]))
   ·intro h4;have h4:¬GA (Kf l (0)) l[0]≠0:=h4;refine Xi (AM l[0]) (Yi (Yi (by show(0:Int)≤((0:Nat):Int);omega) (by simp[hg])) (Yi rfl ?_));refine Yi (by show B1 (((0:Nat):Int)+1);unfold B1;omega) ?_;refine Xi ⟨0+1,by omega,by rw[JQ,Aw (FY h4),RM h]⟩ ?_;have e1:AV.cptr (AM l[0])=.cptr (Mm l (0)):=by rw[Nk h]
    exact⟨by show l.length-(0+1)<l.length-(0);omega,⟨Zr,⟨e1,rfl⟩,Zr,Zr,Zr,Tv⟩,Tv,Fh,Tv⟩
  |k+1,h1,h2,h,hg,hd,hc,JQ =>
   refine Xi (AM l[k+1]) (Yi (Yi (by show(0:Int)≤((k+1:Nat):Int);omega) (by simp[hg])) (Yi rfl ?_));refine Yi (Nz rfl) (Yi (Nz rfl) (Yi (Nz rfl) ?_));refine Xi .pure (Xi _ (Yi (hc) ?_));refine Xi ⟨[(0,sl AM l),(4,vi ((k+1:Nat):Int)),(6,vi (GA (Kf l (k+1)) l[k+1])),(10,sl AM l),(11,vi (l.map AM).length),(12,vi ((k+1:Nat):Int))],[],Ab⟩ (Yi ⟨Z6,Tv,Fh,Tv⟩ ?_)
   refine Yi ?_ ?_
   ·intro h4;have h4:GA (Kf l (k+1)) l[k+1]≠0:=h4;exact .of_eq (Ac vi (show GA (Kf l (k+1)) l[k+1]=BR l by rw[TL,JQ,Ak h4]))
   ·intro h4;have h4:¬GA (Kf l (k+1)) l[k+1]≠0:=h4;refine Xi (AM l[k+1]) (Yi (Yi (by show(0:Int)≤((k+1:Nat):Int);omega) (by simp[hg])) (Yi rfl ?_));refine Yi (by show B1 (((k+1:Nat):Int)+1);unfold B1;omega) ?_;refine Xi ⟨k+1+1,by omega,by rw[JQ,Aw (FY h4),RM h]⟩ ?_;have e1:AV.cptr (AM l[k+1])=.cptr (Mm l (k+1)):=by rw[Nk h]
    exact⟨by show l.length-(k+1+1)<l.length-(k+1);omega,⟨Zr,⟨e1,rfl⟩,Zr,Zr,Zr,Tv⟩,Tv,Fh,Tv⟩
 ·intro h;have h:¬(i:Int)<(l.map AM).length:=h;have h:¬i<l.length:=by simpa using h
  have e:(0:Int)=BR l:=by rw[TL,h2,TQ (by omega)];rfl
  exact .of_eq (Ac vi e)
abbrev d5(r:Rl):Nat→ByteArray
 |0=>r.arch
 |1=>r.ifc
 |_=>r.cert
theorem mq{r:Rl}(h:∀j,j<3→EL (d5 r j)=true):(EL r.arch&&EL r.ifc&&EL r.cert)=true:=by
 have h0:EL r.arch=true:=h 0 (by decide);have h1:EL r.ifc=true:=h 1 (by decide);have h2:EL r.cert=true:=h 2 (by decide);rw[h0,h1,h2];rfl
theorem YJ{r:Rl}{i:Nat}(hi:i<3)(h:EL (d5 r i)=false):(EL r.arch&&EL r.ifc&&EL r.cert)=false:=by
 match i,hi,h with
 |0,_,h=>have h:EL r.arch=false:=h;rw[h];rfl
 |1,_,h=>have h:EL r.ifc=false:=h;rw[h,DE];rfl
 |2,_,h=>have h:EL r.cert=false:=h;rw[h,DE]
theorem sD{nm:ByteArray→ByteArray}(hL:TP nm)(r:Rl)(hr:J3 r):PC 66 [.agg (Ai r)] (vi (DQ r)):=by
 cases TM:Cr r.path with
 |none =>
  have e:(4:Int)=DQ r:=by unfold DQ;rw[TM]
  have hl:=hL.none hr.1 TM;refine Ps Gc Tryz.func66 rfl (Nz rfl) ?_;refine Xi .pure (Xi _ (Yi (hl) ?_));refine Yi ?_ ?_
  ·intro _;exact .of_eq (Ac vi e)
  ·intro h;exact absurd (show(4:Int)≠0 by decide) h
 |some m =>
  have er:DQ r=if(!CL r.ver||!decide (r.ver.a=m))=true then 2 else if BR r.reqs≠0 then BR r.reqs else if(EL r.arch&&EL r.ifc&&EL r.cert)=true then 0 else 1:=by unfold DQ;rw[TM]
  have hl:=hL.some hr.1 TM;have hv:=i7 r.ver;have hc:=wt hL r.reqs hr.2;rcases Bt (CL r.ver)with h2 | h2
  ·rw[h2]at hv;refine Ps (Kz [2,4,6,7,9]) Tryz.func66 rfl (Nz rfl) ?_;refine Xi .pure (Xi _ (Yi (hl) ?_));refine Xi ⟨[(1,.ref 1 0),(4,vi m),(5,vi 0)],[(1,.cells (Ai r))],Ab⟩ (Yi ⟨Z3,Z1,Fh,Tv⟩ ?_)
   refine Yi ?_ ?_
   ·intro h;exact absurd rfl h
   intro _;refine Xi ⟨[(1,.ref 1 0),(4,vi m)],[(1,.cells (Ai r))],Ab⟩ (Yi ⟨Z2,Z1,Fh,Tv⟩ ?_)
   refine Yi (Nz rfl) ?_;refine Xi .pure (Xi _ (Yi (hv) ?_));refine Yi ?_ ?_
   ·intro h;have h:r.ver.a≠m:=h;have e:(2:Int)=DQ r:=by rw[er,h2,Ap h];rfl
    exact .of_eq (Ac vi e)
   intro h;have h:¬r.ver.a≠m:=h;have h3:r.ver.a=m:=FY h;have po:DQ r=if BR r.reqs≠0 then BR r.reqs else if(EL r.arch&&EL r.ifc&&EL r.cert)=true then 0 else 1:=by rw[er,h2,AA h3];rfl
   refine Xi ⟨[(1,.ref 1 0)],[(1,.cells (Ai r))],Ab⟩ (Yi ⟨Z1,Z1,Fh,Tv⟩ ?_)
   refine Xi .pure (Xi _ (Yi (hc) ?_));refine Xi ⟨[(1,.ref 1 0),(6,vi (BR r.reqs))],[(1,.cells (Ai r))],Ab⟩ (Yi ⟨Z2,Z1,Fh,Tv⟩ ?_)
   refine Yi ?_ ?_
   ·intro h4;have h4:BR r.reqs≠0:=h4;exact .of_eq (Ac vi (show BR r.reqs=DQ r by rw[po,Aw h4]))
   intro h4;have h4:¬BR r.reqs≠0:=h4;have rx:DQ r=if(EL r.arch&&EL r.ifc&&EL r.cert)=true then 0 else 1:=by rw[po,Ak h4]
   refine Xi ⟨[(1,.ref 1 0)],[(1,.cells (Ai r))],Ab⟩ (Yi ⟨Z1,Z1,Fh,Tv⟩ ?_)
   refine Xi {i:Nat // i≤3∧∀j,j<i→EL (d5 r j)=true} (Xi (fun i=>⟨[(41,.slice (.id 41 1) [[vs r.arch],[vs r.ifc],[vs r.cert]]),(42,vi 3),(43,vi i.1)],[(41,.tok 1 3)],Ab⟩) (Xi (fun i=>3-i.1) (Yi (Xi ⟨0,by omega,fun j h=>by omega⟩ ?_) ?_)))
   ·exact⟨Z3,Z1,Fh,Tv⟩
   intro⟨i,i1,i2⟩;refine Yi ?_ ?_
   ·intro h;have h:(i:Int)<3:=h;have next:EL (d5 r i)=true→∀j,j<i+1→EL (d5 r j)=true:=fun hz j hj=>by
     rcases Ez j i with q | q
     ·exact i2 j q
     ·have:j=i:=by omega
      subst this;exact hz
    match i,i1,i2,h,next with
    |0,i1,i2,h,next =>
     refine Xi [vs r.arch] (Yi (Yi (by show(0:Int)≤0;decide) rfl) (Yi rfl ?_));refine Yi ?_ ?_
     ·intro h5;have h5:((r.arch.size:Nat):Int)≠0:=h5;refine Yi ?_ ?_
      ·intro h6;have h6:((r.arch.size:Nat):Int)≠32:=h6;have e:(1:Int)=DQ r:=by rw[rx,YJ (i:=0) (by decide) (show EL r.arch=false by unfold EL;rw[Ap (by omega),Ap (by omega)];rfl)];rfl
       exact .of_eq (Ac vi e)
      ·intro h6;have h6:¬((r.arch.size:Nat):Int)≠32:=h6;refine Yi (Ii 0 (by omega)) ?_;refine Xi ⟨1,by omega,next (show EL r.arch=true by unfold EL;rw[AA (by omega:r.arch.size=32),Bool.or_true])⟩ ?_
       exact⟨by show 3-1<3-0;decide,Z3,Z1,Fh,Tv⟩
     ·intro h5;have h5:¬((r.arch.size:Nat):Int)≠0:=h5;refine Yi (Ii 0 (by omega)) ?_;refine Xi ⟨1,by omega,next (show EL r.arch=true by unfold EL;rw[AA (by omega:r.arch.size=0)];rfl)⟩ ?_
      exact⟨by show 3-1<3-0;decide,Z3,Z1,Fh,Tv⟩
    |1,i1,i2,h,next =>
     refine Xi [vs r.ifc] (Yi (Yi (by show(0:Int)≤1;decide) rfl) (Yi rfl ?_));refine Yi ?_ ?_
     ·intro h5;have h5:((r.ifc.size:Nat):Int)≠0:=h5;refine Yi ?_ ?_
      ·intro h6;have h6:((r.ifc.size:Nat):Int)≠32:=h6;have e:(1:Int)=DQ r:=by rw[rx,YJ (i:=1) (by decide) (show EL r.ifc=false by unfold EL;rw[Ap (by omega),Ap (by omega)];rfl)];rfl
       exact .of_eq (Ac vi e)
      ·intro h6;have h6:¬((r.ifc.size:Nat):Int)≠32:=h6;refine Yi (Ii 1 (by omega)) ?_;refine Xi ⟨2,by omega,next (show EL r.ifc=true by unfold EL;rw[AA (by omega:r.ifc.size=32),Bool.or_true])⟩ ?_
       exact⟨by show 3-2<3-1;decide,Z3,Z1,Fh,Tv⟩
     ·intro h5;have h5:¬((r.ifc.size:Nat):Int)≠0:=h5;refine Yi (Ii 1 (by omega)) ?_;refine Xi ⟨2,by omega,next (show EL r.ifc=true by unfold EL;rw[AA (by omega:r.ifc.size=0)];rfl)⟩ ?_
      exact⟨by show 3-2<3-1;decide,Z3,Z1,Fh,Tv⟩
    |2,i1,i2,h,next =>
     refine Xi [vs r.cert] (Yi (Yi (by show(0:Int)≤2;decide) rfl) (Yi rfl ?_));refine Yi ?_ ?_
     ·intro h5;have h5:((r.cert.size:Nat):Int)≠0:=h5;refine Yi ?_ ?_
      ·intro h6;have h6:((r.cert.size:Nat):Int)≠32:=h6;have e:(1:Int)=DQ r:=by rw[rx,YJ (i:=2) (by decide) (show EL r.cert=false by unfold EL;rw[Ap (by omega),Ap (by omega)];rfl)];rfl
       exact .of_eq (Ac vi e)
      ·intro h6;have h6:¬((r.cert.size:Nat):Int)≠32:=h6;refine Yi (Ii 2 (by omega)) ?_;refine Xi ⟨3,by omega,next (show EL r.cert=true by unfold EL;rw[AA (by omega:r.cert.size=32),Bool.or_true])⟩ ?_
       exact⟨by show 3-3<3-2;decide,Z3,Z1,Fh,Tv⟩
     ·intro h5;have h5:¬((r.cert.size:Nat):Int)≠0:=h5;refine Yi (Ii 2 (by omega)) ?_;refine Xi ⟨3,by omega,next (show EL r.cert=true by unfold EL;rw[AA (by omega:r.cert.size=0)];rfl)⟩ ?_
      exact⟨by show 3-3<3-2;decide,Z3,Z1,Fh,Tv⟩
    |i+3,i1,i2,h,next=>omega
   ·intro h;have h:¬(i:Int)<3:=h;have e:(0:Int)=DQ r:=by rw[rx,Aw (mq fun j hj=>i2 j (by omega))]
    exact .of_eq (Ac vi e)
  ·rw[h2]at hv;have e:(2:Int)=DQ r:=by rw[er,h2];rfl
   refine Ps (Kz [2,4]) Tryz.func66 rfl (Nz rfl) ?_;refine Xi .pure (Xi _ (Yi (hl) ?_));refine Xi ⟨[(1,.ref 1 0),(4,vi m),(5,vi 0)],[(1,.cells (Ai r))],Ab⟩ (Yi ⟨Z3,Z1,Fh,Tv⟩ ?_)
   refine Yi ?_ ?_
   ·intro h;exact absurd rfl h
   intro _;refine Xi ⟨[(1,.ref 1 0),(4,vi m)],[(1,.cells (Ai r))],Ab⟩ (Yi ⟨Z2,Z1,Fh,Tv⟩ ?_)
   refine Yi (Nz rfl) ?_;refine Xi .pure (Xi _ (Yi (hv) ?_));exact .of_eq (Ac vi e)
theorem nf{a b:Rl}(h:a.path=b.path∧a.ver.a=b.ver.a∧a.ver.b=b.ver.b∧a.ver.c=b.ver.c):GJ a=GJ b:=by
 unfold GJ;obtain⟨h1,h2,h3,h4⟩:=h
 have:a.ver=b.ver:=by
  cases ha:a.ver;cases hb:b.ver;rw[ha,hb]at h2 h3 h4;simp_all
 rw[h1,this]
theorem ca{a b:Rl}(h:GJ a=GJ b):a.path=b.path∧a.ver.a=b.ver.a∧a.ver.b=b.ver.b∧a.ver.c=b.ver.c:=by
 unfold GJ at h
 injection h with h1 h2
 exact⟨h1,by rw[h2],by rw[h2],by rw[h2]⟩
abbrev iU(x:List Rl):Nat→Option Rl
 |0=>none
 |k+1=>x[k]?
theorem pe{nm:ByteArray→ByteArray}(hL:TP nm)(x:List Rl)(ifs:List (List AV))(hs:∀r∈x,J3 r):PC 20 [.agg (Ic x ifs)] (vi (Bb x)):=by
 refine Ps (Kz [7,9,11,13]) Tryz.func20 rfl (Nz rfl) ?_;refine Yi ?_ ?_
 ·intro h;have h:(256:Int)<(x.map Ai).length:=h;exact .of_eq (Ac vi (show(7:Int)=Bb x by unfold Bb;rw[Aw (by rw[Lm]at h;omega)]))
 intro h;have h:¬(256:Int)<(x.map Ai).length:=h;have hl:x.length≤256:=by rw[Lm]at h;omega
 have TL:Bb x=Er none x:=by unfold Bb;rw[Ak (by omega)]
 refine Xi {i:Nat // i≤x.length∧Er none x=Er (iU x i) (x.drop i)} (Xi (fun i=>⟨[(1,.ref 1 0),(12,sl Ai x),(13,vi (x.map Ai).length),(14,vi i.1)],[(1,.cells (Ic x ifs))],Ab⟩) (Xi (fun i=>x.length-i.1) (Yi (Xi ⟨0,AN _,rfl⟩ ?_) ?_)))
 ·exact⟨Z4,Z1,Fh,Tv⟩
 intro⟨i,h1,h2⟩;refine Yi ?_ ?_
 ·intro h;have h:(i:Int)<(x.map Ai).length:=h;have h:i<x.length:=by simpa using h
  have hg:x[i]?=some x[i]:=Ge h;have hd:x.drop i=x[i]::x.drop (i+1):=Br h;have hc:=sD hL x[i] (hs x[i] (Aq h));have JQ:Er none x=if DQ x[i]≠0 then DQ x[i]else match iU x i with
   |none=>Er (some x[i]) (x.drop (i+1))
   |some b=>if GJ b=GJ x[i]then 5 else if 0<RV b x[i]then 1 else Er (some x[i]) (x.drop (i+1)):=by rw[h2,hd];rfl
  have lj:iU x (i+1)=some x[i]:=Ge h;refine Xi (Ai x[i]) (Yi (Yi (Nn i) (by simp[hg])) (Yi rfl ?_));refine Yi (Nz rfl) (Yi (Nz rfl) (Yi (Nz rfl) ?_));refine Xi .pure (Xi _ (Yi (hc) ?_));refine Xi ⟨[(1,.ref 1 0),(3,vi i),(4,.ref 4 0),(5,vi (DQ x[i])),(12,sl Ai x),(13,vi (x.map Ai).length),(14,vi i)],[(1,.cells (Ic x ifs)),(4,.cells (Ai x[i]))],Ab⟩ (Yi ⟨Z7,Z2,Fh,Tv⟩ ?_)
  refine Yi ?_ ?_
  ·intro h4;have h4:DQ x[i]≠0:=h4;exact .of_eq (Ac vi (show DQ x[i]=Bb x by rw[TL,JQ,Aw h4]))
  intro h4;have h4:¬DQ x[i]≠0:=h4;refine Xi ⟨[(1,.ref 1 0),(3,vi i),(4,.ref 4 0),(12,sl Ai x),(13,vi (x.map Ai).length),(14,vi i)],[(1,.cells (Ic x ifs)),(4,.cells (Ai x[i]))],Ab⟩ (Yi ⟨Z6,Z2,Fh,Tv⟩ ?_)
  refine Yi ?_ ?_
  ·intro h5;have h5:(i:Int)=0:=h5;have h6:i=0:=by omega
   refine Yi (Ii i (by omega)) ?_;refine Xi ⟨i+1,by omega,by rw[JQ,Ak h4,lj];subst h6;rfl⟩ ?_;exact⟨Dl x.length i (by omega),Z4,Z1,Fh,Tv⟩
  intro h5;have h5:¬(i:Int)=0:=h5;have zd:i-1<x.length:=by omega
  have hb:iU x i=some x[i-1]:=by
   obtain⟨k,rfl⟩:∃k,i=k+1:=⟨i-1,by omega⟩;exact Ge (by omega)
  have mM:Er none x=if GJ x[i-1]=GJ x[i]then 5 else if 0<RV x[i-1] x[i]then 1 else Er (some x[i]) (x.drop (i+1)):=by rw[JQ,Ak h4,hb]
  refine Yi (by show B1 ((i:Int)-1);unfold B1;omega) ?_;have T4:(x.map Ai)[((i:Int)-1).toNat]?=some (Ai x[i-1]):=by rw[show((i:Int)-1).toNat=i-1 by omega];exact Cf (Ge zd)
  refine Xi (Ai x[i-1]) (Yi (Yi (by show(0:Int)≤(i:Int)-1;omega) T4) (Yi rfl ?_));refine Yi (Nz rfl) (Yi (Nz rfl) ?_);refine Xi ⟨[(1,.ref 1 0),(4,.ref 4 0),(6,.ref 6 0),(12,sl Ai x),(13,vi (x.map Ai).length),(14,vi i)],[(1,.cells (Ic x ifs)),(4,.cells (Ai x[i])),(6,.cells (Ai x[i-1]))],Ab⟩ (Yi ⟨Z6,Z3,Fh,Tv⟩ ?_)
  refine Yi (Nz rfl) ?_;refine Xi _ (Yi (ma x[i-1]) ?_);refine Yi (Nz rfl) ?_;refine Xi _ (Yi (ma x[i]) ?_);refine Yi ?_ ?_
  ·intro h6;refine Yi (by kernel_rfl) ?_;have e:(5:Int)=Bb x:=by rw[TL,mM,Aw (nf ⟨h6.1,h6.2.1,h6.2.2.1,h6.2.2.2.1⟩)]
   exact .of_eq (Ac vi e)
  intro h6;refine Yi (by kernel_rfl) ?_;have h7:¬GJ x[i-1]=GJ x[i]:=fun e=>by
   have e:=ca e;exact h6 ⟨e.1,e.2.1,e.2.2.1,e.2.2.2,trivial⟩
  refine Xi ⟨[(1,.ref 1 0),(4,.ref 4 0),(6,.ref 6 0),(12,sl Ai x),(13,vi (x.map Ai).length),(14,vi i)],[(1,.cells (Ic x ifs)),(4,.cells (Ai x[i])),(6,.cells (Ai x[i-1]))],Ab⟩ (Yi ⟨Z6,Z3,Fh,Tv⟩ ?_)
  refine Yi (Nz rfl) (Yi (Nz rfl) ?_);refine Xi .pure (Xi _ (Yi (sE x[i-1] x[i]) ?_));refine Yi ?_ ?_
  ·intro h8;have h8:(0:Int)<RV x[i-1] x[i]:=h8;have e:(1:Int)=Bb x:=by rw[TL,mM,Ak h7,Aw h8]
   exact .of_eq (Ac vi e)
  ·intro h8;have h8:¬(0:Int)<RV x[i-1] x[i]:=h8;refine Yi (Ii i (by omega)) ?_;refine Xi ⟨i+1,by omega,by rw[mM,Ak h7,Ak h8,lj]⟩ ?_;exact⟨Dl x.length i (by omega),Z4,Z1,Fh,Tv⟩
 ·intro h;have h:¬(i:Int)<(x.map Ai).length:=h;have h:¬i<x.length:=by simpa using h
  have e:(0:Int)=Bb x:=by rw[TL,h2,TQ (by omega)];rfl
  exact .of_eq (Ac vi e)
end Go.Eng
