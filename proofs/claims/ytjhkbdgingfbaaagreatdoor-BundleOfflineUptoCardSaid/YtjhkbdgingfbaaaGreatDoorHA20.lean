/- Lemmas 20. -/
import Derived.Test.YtjhkbdgingfbaaaGreatDoorHA19
import Derived.Shelf.Slices.Delete
namespace Go.Eng
open Go.Proofs Go.Shelf Go.RowKit Go.Lib Go.Sort
theorem uw(F:Array Value)(i n:Nat)(hF:F.size=n*3)(hi:i<n)(z:List Value)(hz:z.length=3):(lay (lay F (i*3) (F.toList.drop ((i+1)*3))) ((n-1)*3) z).toList=F.toList.take (i*3)++F.toList.drop ((i+1)*3)++z:=by
 have l1:(F.toList.take (i*3)).length=i*3:=by simp;omega
 have l2:(F.toList.drop ((i+1)*3)).length=(n-(i+1))*3:=by simp;omega
 apply Cz
 intro t
 rw[AI,lay_get? _ _ _ _ (by rw[Lib.lay_size];omega),lay_get? _ _ _ _ (by rw[l2];omega)]
 rw[hz,l2]
 by_cases c1:t<i*3
 .rw[Ah ch,Ah ch,AU (by rw[Ac];omega),AU ch,Gn,As c1,AI]
 .by_cases c2:t<(n-1)*3
  .rw[Ah ch,As ch,AU (by rw[Ac];omega),A0 ch,l1]
  .rw[A0 (by rw[Ac];omega),Ac,l1,l2]
   by_cases c3:t<n*3
   .rw[As ch];congr 1;omega
   .rw[Ah ch,Ah ch,K4 ch,AQ ch]
abbrev o6:List Value:=[.string ⟨#[]⟩,.bool false,.slice none 0 0]
set_option maxHeartbeats 4000000 in
set_option maxRecDepth 1000000 in
theorem ly(w:World)(b cap i n:Nat)(F:Array Value)(hF:F.size=n*3)(hi:i<n)(KO:n<=cap)(hH:Holds id w b 0 F)(h1:∀x∈F.toList,x.oneCell'=true) :
  Calls Tryz.prog 306 #[.slice (some ⟨b,0,none⟩) n cap,.int .i64 i,.int .i64 ((i:Int)+1)] w fun e w'=>e=.returned (.slice (some ⟨b,0,none⟩) (n-1) cap) /\
   w'=putRow id (Sort.ahead w 1) b 0 (lay (lay F (i*3) (F.toList.drop ((i+1)*3))) ((n-1)*3) o6):=by
 obtain⟨i0,xO,qq⟩:∃i0,Tryz.prog.info? 300=some i0/\i0.size=3:=by
  obtain⟨i,z,h1,_,h2,_⟩:=H1 (P:=Tryz.prog) (T:=og) Cu (e:=300) (n:=2) aa0
  exact⟨i,h1,h2.trans aa0⟩
 obtain⟨news,Js⟩:∃news,news=F.toList.drop ((i+1)*3):=⟨_,rfl⟩
 have Ca:news.length=(n-(i+1))*3:=by rw[Js];simp;omega
 have E1:∀t,t<(n-(i+1))*3->news[t]?=some F[(i+1)*3+t]!:=by
  intro t ht
  rw[Js,CA,AI,E0 F ((i+1)*3+t) ch,Bj ch]
 obtain⟨A,hA,iy⟩:∃A:Addr,(if cap=i+1 then some (⟨b,0,none⟩:Addr)else some ⟨b,(i+1)*3,none⟩)=some A/\Hid (∀t u,news[t]?=some u->w.drew.cell? (A.add t)=some u):=by
  by_cases h:cap=i+1
  .refine⟨⟨b,0,none⟩,by simp[h],fun t u hu=>?_⟩
   have h0:news.length=0:=by rw[Ca];omega
   rw[List.length_eq_zero_iff.1 h0]at hu
   simp at hu
  .refine⟨⟨b,(i+1)*3,none⟩,by simp[h],fun t u hu=>?_⟩
   have ht:t<(n-(i+1))*3:=by
    have:=(Ar.1 hu).1
    rwa [Ca]at this
   rw[E1 t ht]at hu
   rw[Addr.add_lit]
   have:=(hH ((i+1)*3+t) ch).1
   rw[A7]at this
   exact this.trans hu
 have s1:Hid (news.length=(n-(i+1))*3):=Ca
 have s2:Hid (∀u∈news,u.oneCell'=true):=by
  intro u hu
  rw[Js]at hu
  exact h1 u (IV hu)
 have s3:Hid (∀t,t<news.length->(w.drew.cell? ⟨b,0+i*3+t,none⟩).isSome=true/\w.drew.frozen? ⟨b,0+i*3+t,none⟩=false):=by
  intro t ht
  rw[Ca]at ht
  have:=hH (i*3+t) ch
  rw[GX]
  exact⟨by show(w.cell? _).isSome=true;rw[this.1];rfl,this.2⟩
 obtain⟨W1,hW1⟩:∃W1,W1=w.drew.setCells b (0+i*3) news:=⟨_,rfl⟩
 have tx : W1=putRow id (Sort.ahead w 1) b 0 (lay F (i*3) news):=by
  have:=putRow_setCells id (Sort.ahead w 1) b 0 news F (i*3) ch
  rw[putRow_self id (Sort.ahead w 1) b 0 F (holds_ahead id w 1 b 0 F hH),MM]at this
  rw[hW1,<-this]
  rfl
 have hH1:Holds id W1 b 0 (lay F (i*3) news):=by rw[tx];exact holds_putRow id _ b 0 F _ (holds_ahead id w 1 b 0 F hH) (Lib.lay_size _ _ _)
 have Il:(storeCells ⟨b,0+(n-1)*3,none⟩ o6 0).run Tryz.prog W1=.ok () (W1.setCells b (0+(n-1)*3) o6):=by
  have:=run_storeCells_cells (P:=Tryz.prog) b (0+(n-1)*3) o6 0 W1 (fun j hj=>by
   have hj:j<3:=hj
   have:=hH1 ((n-1)*3+j) (by rw[Lib.lay_size];omega)
   rw[show 0+(n-1)*3+0+j=0+((n-1)*3+j) by omega,this.1];rfl) (fun j hj=>by
   have hj:j<3:=hj
   have:=hH1 ((n-1)*3+j) (by rw[Lib.lay_size];omega)
   rw[show 0+(n-1)*3+0+j=0+((n-1)*3+j) by omega];exact this.2) (fun v hv=>by
   simp only[Ay,MA,or_false]at hv
   rcases hv with rfl | rfl | rfl<;>rfl)
  exact this
 have hcl:∀ty c,(Builtin.clear_ #[262] ty #[.slice (some ⟨b,(n-1)*3,none⟩) 1 c]).run Tryz.prog W1=.ok (.tuple #[]) (W1.setCells b (0+(n-1)*3) o6):=fun ty c=>by
  have hv:=Tryz.zeroValue300
  rw[A7]at Il⊢
  have hz:(Builtin.zeroCells (Value.agg #[Value.string { data:=#[] },Value.bool false,Value.slice none 0 0]).cells 1).toList=o6:=by kernel_rfl
  simp[Builtin.clear_,run_underlying Tryz.underlying262,hv,hz,Il]
 have AfS:∀ty,(Builtin.clear_ #[262] ty #[.slice (some ⟨b,(i+(n-(i+1)))*3,none⟩) (n-(i+(n-(i+1)))) (cap-(i+(n-(i+1))))]).run Tryz.prog W1=.ok (.tuple #[]) (W1.setCells b (0+(n-1)*3) o6):=fun ty=>by
  have e1:i+(n-(i+1))=n-1:=by omega
  have e2:n-(n-1)=1:=by omega
  rw[e1,e2];exact hcl ty _
 have X:Aside (W1=putRow id (Sort.ahead w 1) b 0 (lay F (i*3) news)):=tx
 have hW:Hid (W1=w.drew.setCells b (0+i*3) news):=hW1
 have Y:Aside (news=F.toList.drop ((i+1)*3)):=Js
 have Z:Aside (news.length=(n-(i+1))*3):=Ca
 have xP:i<=cap:=by omega
 have hjc:i+1<=cap:=by omega
 have mixed:=Go.Eng.hm
 have zF:(0:Int)<=(i:Int)+1:=by omega
 have RZ:(i:Int)+1<=(n:Int):=by omega
 clear hW1 tx hH1 hH E1 Js Ca Il hcl
 go_enter Tryz.func306,Tryz.ntmps306
 go_wp2_with fail
 go_region_law_o (refine step_append_room rfl (.tmp 22) (.tmp 25) 262 rfl 300 i0 3 Tryz.underlying262 xO qq b 0 i cap (by simp[Act.eval,Act.put]) A (n-(i+1)) (cap-(i+1)) news (by simp[Act.eval,Act.put]) s1.out iy.out s2.out ch s3.out ?_;rw[<-hW.out])
 go_wp2
 go_ret
 refine⟨by rw[show i+(n-(i+1))=n-1 by omega];rfl,?_⟩
 rw[X.out]
 have e1:=Y.out
 have e2:=Z.out
 rw[<-e1]
 have:=putRow_setCells id (Sort.ahead w 1) b 0 o6 (lay F (i*3) news) ((n-1)*3) (by rw[Lib.lay_size];show _+3<=_;omega)
 rw[MM,A7]at this
 exact this
abbrev bF:List AV:=[Go.Eng.vs ⟨#[]⟩,vb false,nzA]
theorem AaO(l:List Tm)(i:Nat)(hi:i<l.length) :
  Bb Tryz.prog 306 [.msl 1000 l.length,vi i,vi ((i:Int)+1)] (Ag [(1000,.arr 3 (l.map AO))] Ad) fun r h'=>r=.msl 2000 (l.length-1)/\h'=Ag [(1000,.dead),(2000,.arr 3 ((l.eraseIdx i).map AO))] Ad:=by
 have hE:GI Tryz.prog 306:=VI 306 Tryz.func306 aa0 rfl
 have Ca:(l.eraseIdx i).length=l.length-1:=List.length_eraseIdx_of_lt hi
 have Kw:=fY (P:=Tryz.prog) (f:=306) (es:=l.map AO) (sz:=3) (rest:=[.int .i64 i,.int .i64 ((i:Int)+1)]) (n':=l.length-1) (Q:=fun Gm=>Gm=(l.eraseIdx i).map AO++[bF]) hE (fun e=>by
  rw[FS]at e;subst e;simp at hi) (by rw[AS];omega) ?_
 .rw[AS]at Kw
  refine⟨hE,fun g w vals q1 q2 q3=>(Kw.2 g w vals q1 q2 q3).mono fun _ _ ⟨v,r,h',g',e1,⟨e2,Gm,p1,p2⟩,rest⟩=>⟨v,r,h',g',e1,⟨e2,by rw[p2,p1,FA (by rw[AS,Ca];exact Ai _),AB (by rw[AS,Ca];exact Ai _)]⟩,rest⟩⟩
 .intro g w b cap F hr hF hH hb hc
  rw[AS]at hF hc⊢
  have hu:∀e∈l.map AO,e.length=3:=fun e he=>by
   obtain⟨t,_,rfl⟩:=Ak.1 he;rfl
  refine(ly w b cap i l.length F hF hi hc hH hr.2.1).mono ?_
  rintro e w' ⟨rfl,rfl⟩
  refine⟨rfl,_,_,1,#[],?_,rfl,?_,fun cs hcs=>?_,fun g w hr=>?_,rfl⟩
  .rw[Lib.lay_size,Lib.lay_size]
  .rw[Ac,AS,Ca,AJ];omega
  .rcases AT.1 hcs with h | h
   .obtain⟨t,_,rfl⟩:=Ak.1 h;rfl
   .rw[Aj.1 h];rfl
  .rw[uw F i l.length hF hi o6 rfl,List.eraseIdx_eq_take_drop_succ,Cs,Az,Cs,List.map_take,List.map_drop,<-L5 _ i hu,<-Py _ (i+1) hu]
   refine CJ.append (CJ.append (hr.take _) (hr.drop _)) ?_
   exact W9 g w Fq o6 fun x hx=>by
    simp only[Ay,MA,or_false]at hx
    rcases hx with rfl | rfl | rfl<;>rfl
end Go.Eng
namespace Go.Eng
open Go.Proofs
variable {nm:ByteArray->ByteArray}{l r c:List Tm}{t:Tm}{k:Nat}(a:List Tm)(s:ByteArray)(b:List Tm)(p:ByteArray)
theorem wT(l:List Tm)(hl:Cw l)(Dv:l≠[]):Bb Tryz.prog 307 [sl AO l] (Ag [] Ad) fun r h'=>r=.msl 2000 l.length/\h'=Ag [(2000,.arr 3 (l.map AO))] Ad:=by
 refine Cm (MC (pla [(5,3)] [])) [(5,2000)] rfl Cu hm rfl Tryz.func307 aa0 rfl (Nz rfl) aa0 rfl ?_;have GA:CR 3 (l.map AO)/\([]:List (List AV)).length=0/\(([]:List (List AV)).length+(l.map AO).length)*48<=140737488355328/\([]:List (List AV)).length+(l.map AO).length<=9223372036854775807:=by
  refine⟨Fj (enc:=AO) (n:=3) (fun _=>rfl) l,rfl,?_,?_⟩<;>simp only[Ax,Lm]<;>unfold Cw at hl<;>omega
 refine Yi ?_ ?_
 .intro _;refine Yi GA ?_;have e1:AV.msl 2000 (([]:List (List AV)).length+(l.map AO).length)=.msl 2000 l.length:=by simp
  refine Xi (.msl 2000 (([]:List (List AV)).length+(l.map AO).length)) (Yi (.refl _) (Yi e1 ?_))
  rfl
 .intro h;exact absurd (FS.1 h) Dv
theorem ta(x:Tm)(p:ByteArray):PC 305 [.agg (AO x),.cptr [vs p]] (vb (decide (x.path=p))):=by
 refine Ps DU Tryz.func305 rfl (Nz rfl) (Yi ?_ ?_)
 .intro h;rw[Ap h];exact .refl _
 .intro h;rw[Am h];exact .refl _
theorem N4{p:ByteArray}:∀{c:List Tm} {i:Nat},(EK c).Nodup->∀(hi:i<c.length),c[i].path=p->c.eraseIdx i=F4 c p
 |t::c,0,hn,_,h=>by
  have h:t.path=p:=h;unfold EK at hn;rw[AK,CN]at hn;unfold F4;rw[DB,Ah (by simp[h])];show c=_;rw[List.filter_eq_self.2 fun u hu=>by
   have:u.path≠p:=fun e=>hn.1 (h▸e▸Ak.2 ⟨u,hu,rfl⟩)
   simp[this]]
 |t::c,i+1,hn,hi,h=>by
  have hi:i<c.length:=by simpa using hi
  have h:c[i].path=p:=h;unfold EK at hn;rw[AK,CN]at hn
  have:t.path≠p:=fun e=>hn.1 (by rw[e,<-h];exact Ak.2 ⟨_,Aq hi,rfl⟩)
  have ih:=N4 hn.2 hi h;unfold F4 at ih⊢;rw[List.eraseIdx_cons_succ,DB,As (by simp[this]),ih]
theorem QH(hl:Cw l)(h:CW l=some c):Cw c:=by
 have h1:=OG l l.length (Ai _);rw[CK]at h1;have h2:c=(Fm l).filter fun t=>!GY t:=by
  unfold CW at h;split at h
  .cases h
  .exact(BW h).symm
 have h3:c.length<=(Fm l).length:=by rw[h2];exact BC _ _
 have h4:(Fm l).length=(Dy l).length:=by
  have:=(List.perm_ext_iff_of_nodup (Ie (Ib l)) (Ie (Ik (EF l)))).2 (JK l)
  exact this.length_eq.symm
 unfold Cw at hl⊢;omega
abbrev qK:AV:=.tup [.agg bF,nzA,vb false]
abbrev sc:Qn:=⟨[3],[],[],[],[],[],[],[],[(30,0),(34,1)],[],[]⟩
theorem lh(l:List Tm)(p:ByteArray)(hl:Cw l)(hs:∀t∈l,Cw t.set)(hn:FF l p=none):PC 281 [sl AO l,vs p] qK:=by
 have hc:=zv l hl hs;unfold FF at hn;cases e:CW l with
 |none=>
  have e1:G8 l=.tup [sl AO [],vb false]:=by unfold G8 Rg;rw[e];rfl
  rw[e1]at hc;have hi:=pv (DD.ptr [vs p]) [] (fun x=>decide (x.path=p)) (fun x _=>ta x p) B0;refine Ps sc Tryz.func281 rfl (Nz rfl) (Xi .pure (Xi _ (Yi (hc) (Xi .pure (Xi _ (Yi (hi) (Yi (Nz rfl) (yN ?_))))))));exact .refl _
 |some c=>
  rw[e]at hn;have hn:(match Dq c p with | none=>none | some t=>some (t,F4 c p))=none:=hn;have xL:Dq c p=none:=by
   cases h:Dq c p with
   |none=>rfl
   |some t=>rw[h]at hn;cases hn
  have e1:G8 l=.tup [sl AO c,vb true]:=by unfold G8 Rg;rw[e];rfl
  rw[e1]at hc;have ip:=QH hl e;have hi:=pv (DD.ptr [vs p]) c (fun x=>decide (x.path=p)) (fun x _=>ta x p) (by unfold Cw at ip;omega);have hid:IL (fun x:Tm=>decide (x.path=p)) c 0=-1:=by
   rcases PK (p:=fun x:Tm=>decide (x.path=p)) c 0 with ⟨h1,_⟩ | ⟨i,x,_,_,h3⟩
   .exact h1
   .unfold Dq at xL;rw[h3]at xL;cases xL
  rw[hid]at hi;refine Ps sc Tryz.func281 rfl (Nz rfl) (Xi .pure (Xi _ (Yi (hc) (Xi .pure (Xi _ (Yi (hi) (Yi ?_ ?_)))))))
  .intro _;refine Yi (Nz rfl) (yN ?_);exact .refl _
  .intro h;exact absurd (show(-1:Int)<0 by decide) h
abbrev uL:Qn:=⟨[3],[],[],[],[],[],[],[],[(30,0),(34,2)],[],[]⟩
theorem li(l:List Tm)(p:ByteArray)(hl:Cw l)(hs:∀t∈l,Cw t.set)(hn:FF l p=some (t,r)) :
  Bb Tryz.prog 281 [sl AO l,vs p] (Ag [] Ad) fun v h'=>v=.tup [.agg (AO t),.msl 2000 r.length,vb true]/\h'=Ag [(2000,.arr 3 (r.map AO))] Ad:=by
 have hc:=zv l hl hs;unfold FF at hn;cases e:CW l with
 |none=>rw[e]at hn;cases hn
 |some c=>
  rw[e]at hn;have hn:(match Dq c p with | none=>none | some t=>some (t,F4 c p))=some (t,r):=hn;have mi:Dq c p=some t/\F4 c p=r:=by
   cases h:Dq c p with
   |none=>rw[h]at hn;cases hn
   |some t=>rw[h]at hn;cases hn;exact Zr
  have e1:G8 l=.tup [sl AO c,vb true]:=by unfold G8 Rg;rw[e];rfl
  rw[e1]at hc;have ip:=QH hl e;have hi:=pv (DD.ptr [vs p]) c (fun x=>decide (x.path=p)) (fun x _=>ta x p) (by unfold Cw at ip;omega);rcases PK (p:=fun x:Tm=>decide (x.path=p)) c 0 with ⟨_,h2⟩ | ⟨i,x,h1,h2,h3⟩
  .unfold Dq at mi;rw[h2]at mi;cases mi.1
  have hx:x=t:=by
   have:=mi.1
   unfold Dq at this;rw[h3]at this;exact BW this
  subst hx;rw[h1,EU]at hi;obtain⟨xP,hie⟩:=Ar.1 h2;have her:c.eraseIdx i=r:=by
   rw[<-mi.2];exact N4 (Ik (E9 e)) xP (by rw[hie];exact HA mi.1)
  have zN:c.length-1=r.length:=by rw[<-her,List.length_eraseIdx_of_lt xP]
  have Dv:c≠[]:=fun h=>by subst h;simp at xP
  have AfZ:c.length<=1073741824:=ip;refine Cm (MC uL) [(13400,2000)] rfl Cu hm rfl Tryz.func281 aa0 rfl (Nz rfl) aa0 rfl (Xi .pure (Xi _ (Yi (hc) (Xi .pure (Xi _ (Yi (hi) (Yi ?_ ?_)))))))
  .intro h;omega
  intro _;have hg:(c.map AO)[((i:Nat):Int).toNat]?=some (AO x):=by rw[BE,Aw,h2];rfl
  refine Xi (AO x) (Yi (Yi (Nn i) hg) (Yi rfl (yN (Xi c.length (Xi 3 (Xi (c.map AO) (Yi rfl (Yi (wT c ip Dv) (Yi (Ii i ch) (Xi (c.length-1) (Xi ((c.eraseIdx i).map AO) (Yi rfl (Yi (AaO c i xP) (yN (Yi aa0 (yN ?_))))))))))))))));have e2:AV.tup [.agg (AO x),.msl 2000 (c.length-1),vb true]=.tup [.agg (AO x),.msl 2000 r.length,vb true]:=by rw[zN]
  have e3:Ag [(2000,HO.arr 3 ((c.eraseIdx i).map AO))] Ad=Ag [(2000,.arr 3 (r.map AO))] Ad:=by rw[her]
  exact Xi _ (Yi (.refl _) (Yi e2 e3))
abbrev fA:Qn:=⟨[],[],[],[],[],[],[],[],[],[(24,9),(30,12)],[2,3,5,6]⟩
abbrev uN:AV:=.tup [sl AO (BK a b p).1,vi (BK a b p).2]
theorem Xg{p:ByteArray}(h:FF l p=some (t,r)):∃c,CW l=some c/\t∈c/\r=F4 c p:=by
 unfold FF at h;cases e:CW l with
 |none=>rw[e]at h;cases h
 |some c=>
  rw[e]at h;have h:(match Dq c p with | none=>none | some t=>some (t,F4 c p))=some (t,r):=h;cases e2:Dq c p with
  |none=>rw[e2]at h;cases h
  |some u=>rw[e2]at h;cases h;exact⟨c,rfl,Fx e2,rfl⟩
theorem Xh{p:ByteArray}(hl:Cw l)(h:FF l p=some (t,r)):Cw t.set/\Cw r/\∀u∈r,Cw u.set:=by
 obtain⟨c,h1,h2,rfl⟩:=Xg h;have hs:=E9 h1;refine⟨Pr (hs.canon t h2),?_,fun u hu=>Pr (hs.canon u (BG.1 hu).1)⟩
 have:=QH hl h1
 have h3:(F4 c p).length<=c.length:=BC _ _;unfold Cw at *;omega
theorem ll(h:CW l=some c):c.length<=l.length:=by
 have h1:=OG l l.length (Ai _);rw[CK]at h1;have h2:c=(Fm l).filter fun t=>!GY t:=by
  unfold CW at h;split at h
  .cases h
  .exact(BW h).symm
 have h3:c.length<=(Fm l).length:=by rw[h2];exact BC _ _
 have h4:(Fm l).length=(Dy l).length:=by
  have:=(List.perm_ext_iff_of_nodup (Ie (Ib l)) (Ie (Ik (EF l)))).2 (JK l)
  exact this.length_eq.symm
 omega
theorem Xj{p:ByteArray}(h:FF l p=some (t,r)):r.length<=l.length:=by
 obtain⟨c,h1,h2,rfl⟩:=Xg h;have h3:(F4 c p).length<=c.length:=BC _ _
 have:=ll h1
 omega
theorem gW(a b:Bl):Cw (Qj a b):=by
 unfold Cw;have:=Iy (bz a b);omega
theorem AaD(ha:a.length<=500000000)(hb:b.length<=500000000)(hsa:∀t∈a,Cw t.set)(ql:∀t∈b,Cw t.set):PC 234 [sl AO a,sl AO b,vs p] (uN a b p):=by
 have xI:Cw a:=by unfold Cw;omega
 have tH:Cw b:=by unfold Cw;omega
 have er:∀{l:List Tm} {e:Int},BK a b p=(l,e)->uN a b p=.tup [sl AO l,vi e]:=fun h=>by unfold uN;rw[h]
 have e0:EY (.tup [nzA,vi 1]) (.tup [.slice .none [],vi 1]):=EY.tup ⟨.nil,.refl _,trivial⟩;cases h1:FF a p with
 |none=>
  have hr:BK a b p=([],1):=by unfold BK;rw[h1]
  have c1:=lh a p xI hsa h1;cases h2:FF b p with
  |none=>
   have c2:=lh b p tH ql h2;refine Ps fA Tryz.func234 rfl (Nz rfl) (Xi .pure (Xi _ (Yi (c1) (yN (Xi ⟨[(1,sl AO b),(2,vs p),(8,.ref 8 0),(9,nzA),(10,vb false)],[(8,.cells bF)],Ad⟩ (Yi ⟨Z5,Z1,Fh,Tv⟩ (Xi .pure (Xi _ (Yi (c2) (yN (Xi ⟨[(8,.ref 8 0),(9,nzA),(10,vb false),(11,.ref 11 0),(12,nzA),(13,vb false)],[(8,.cells bF),(11,.cells bF)],Ad⟩ (Yi ⟨Z6,Z2,Fh,Tv⟩ ?_))))))))))))
   exact e0.trans (.of_eq (er hr).symm)
  |some q2=>
   obtain⟨t2,r2⟩:=q2;have c2:=li b p tH ql h2;refine Ps fA Tryz.func234 rfl (Nz rfl) (Xi .pure (Xi _ (Yi (c1) (yN (Xi ⟨[(1,sl AO b),(2,vs p),(8,.ref 8 0),(9,nzA),(10,vb false)],[(8,.cells bF)],Ad⟩ (Yi ⟨Z5,Z1,Fh,Tv⟩ ?_))))))
   have z2:r2.length=(r2.map AO).length:=by rw[Lm]
   refine Xi (.gen [] 1) (Yi rfl (c2.imp ?_));intro v2 g2 q2;have q21:=q2.1;have q22:=q2.2;subst q21;subst q22;refine yN (Xi ⟨[(8,.ref 8 0),(9,nzA),(10,vb false),(11,.ref 11 0),(12,.msl 12600 r2.length),(13,vb true)],[(8,.cells bF),(11,.cells (AO t2)),(12600,.arr 3 (r2.map AO))],Ad⟩ (Yi ⟨Z6,Z3,Fh,Tv⟩ (Yi z2 ?_)));exact e0.trans (.of_eq (er hr).symm)
 |some q1=>
  obtain⟨t1,r1⟩:=q1;have c1:=li a p xI hsa h1;obtain⟨f1,f2,f3⟩:=Xh xI h1;cases h2:FF b p with
  |none=>
   have hr:BK a b p=([],1):=by unfold BK;rw[h1,h2]
   have c2:=lh b p tH ql h2;refine Ps fA Tryz.func234 rfl (Nz rfl) (Xi (.gen [] 1) (Yi rfl (c1.imp ?_)));intro v1 g1 q1;have q11:=q1.1;have YK:=q1.2;subst q11;subst YK;refine yN (Xi ⟨[(1,sl AO b),(2,vs p),(8,.ref 8 0),(9,.msl 11900 r1.length),(10,vb true)],[(8,.cells (AO t1)),(11900,.arr 3 (r1.map AO))],Ad⟩ (Yi ⟨Z5,Z2,Fh,Tv⟩ ?_))
   have z1:r1.length=(r1.map AO).length:=by rw[Lm]
   refine Yi z1 (Xi .pure (Xi _ (Yi (c2) (yN (Xi ⟨[(8,.ref 8 0),(9,.slice (.id 11900 3) (r1.map AO)),(10,vb true),(11,.ref 11 0),(12,nzA),(13,vb false)],[(8,.cells (AO t1)),(11,.cells bF),(11900,.tok 3 (r1.map AO).length)],Ad⟩ (Yi ⟨Z6,Z3,Fh,Tv⟩ ?_))))))
   exact e0.trans (.of_eq (er hr).symm)
  |some q2=>
   obtain⟨t2,r2⟩:=q2;have c2:=li b p tH ql h2;obtain⟨g1,g2,g3⟩:=Xh tH h2;refine Ps fA Tryz.func234 rfl (Nz rfl) (Xi (.gen [] 1) (Yi rfl (c1.imp ?_)));intro v1 g1 q1;have q11:=q1.1;have YK:=q1.2;subst q11;subst YK;refine yN (Xi ⟨[(1,sl AO b),(2,vs p),(8,.ref 8 0),(9,.msl 11900 r1.length),(10,vb true)],[(8,.cells (AO t1)),(11900,.arr 3 (r1.map AO))],Ad⟩ (Yi ⟨Z5,Z2,Fh,Tv⟩ ?_))
   have z1:r1.length=(r1.map AO).length:=by rw[Lm]
   have z2:r2.length=(r2.map AO).length:=by rw[Lm]
   refine Yi z1 (Xi (.gen [] 1) (Yi rfl (c2.imp ?_)));intro v2 g2 q2;have q21:=q2.1;have q22:=q2.2;subst q21;subst q22;refine yN (Xi ⟨[(8,.ref 8 0),(9,.slice (.id 11900 3) (r1.map AO)),(10,vb true),(11,.ref 11 0),(12,.msl 12600 r2.length),(13,vb true)],[(8,.cells (AO t1)),(11,.cells (AO t2)),(11900,.tok 3 (r1.map AO).length),(12600,.arr 3 (r2.map AO))],Ad⟩ (Yi ⟨Z6,Z4,Fh,Tv⟩ (Yi z2 (Xi ⟨[(8,.ref 8 0),(9,.slice (.id 11900 3) (r1.map AO)),(11,.ref 11 0),(12,.slice (.id 12600 3) (r2.map AO))],[(8,.cells (AO t1)),(11,.cells (AO t2)),(11900,.tok 3 (r1.map AO).length),(12600,.tok 3 (r2.map AO).length)],Ad⟩ (Yi ⟨Z4,Z4,Fh,Tv⟩ ?_)))))
   have l1:=Xj h1;have l2:=Xj h2;have b1:CR 3 (r2.map AO)/\(r1.map AO).length=(r1.map AO).length/\((r1.map AO).length+(r2.map AO).length)*48<=140737488355328/\(r1.map AO).length+(r2.map AO).length<=9223372036854775807:=
    ⟨Fj (enc:=AO) (n:=3) (fun _=>rfl) r2,rfl,by rw[Lm,Lm];omega,by rw[Lm,Lm];omega⟩
   refine Yi b1 (Yi (Nz rfl) (yN (Xi _ (Yi (AaH t1 t2 f1 g1) ?_))));have b2:CR 3 [AO (Do t1 t2)]/\(r1.map AO++r2.map AO).length=(r1.map AO).length+(r2.map AO).length/\((r1.map AO++r2.map AO).length+[AO (Do t1 t2)].length)*48<=140737488355328/\(r1.map AO++r2.map AO).length+[AO (Do t1 t2)].length<=9223372036854775807:=
    ⟨⟨rfl,trivial⟩,by rw[Ac],by rw[Ac,Lm,Lm,AJ];omega,by rw[Ac,Lm,Lm,AJ];omega⟩
   refine Yi b2 ?_;have pZ:=zv (r1++r2++[Do t1 t2]) (by unfold Cw;simp only[Ac,AJ];omega) (fun u hu=>by
    rcases AT.1 hu with hu | hu
    .rcases AT.1 hu with hu | hu
     .exact f3 u hu
     .exact g3 u hu
    .rw[Aj.1 hu];exact gW _ _)
   have e1:sl AO (r1++r2++[Do t1 t2])=.slice .none (r1.map AO++r2.map AO++[AO (Do t1 t2)]):=by simp
   have rM:PC 282 [.slice .none (r1.map AO++r2.map AO++[AO (Do t1 t2)])] (G8 (r1++r2++[Do t1 t2])):=e1▸pZ;cases vD:CW (r1++r2++[Do t1 t2])with
   |none=>
    have hr:BK a b p=([],8):=by unfold BK;rw[h1,h2];dsimp only;rw[vD]
    have ec:G8 (r1++r2++[Do t1 t2])=.tup [sl AO [],vb false]:=by unfold G8 Rg;rw[vD];rfl
    have hc:PC 282 [.slice .none (r1.map AO++r2.map AO++[AO (Do t1 t2)])] (.tup [sl AO [],vb false]):=ec▸rM;have e8:EY (.tup [nzA,vi 8]) (.tup [.slice .none [],vi 8]):=EY.tup ⟨.nil,.refl _,trivial⟩;refine Xi _ (Yi (hc) (Yi aa0 (Xi ⟨[(14,sl AO []),(15,vb false)],[],Ad⟩ (Yi ⟨Z2,Tv,Fh,Tv⟩ ?_))))
    exact e8.trans (.of_eq (er hr).symm)
   |some o=>
    have hr:BK a b p=(o,0):=by unfold BK;rw[h1,h2];dsimp only;rw[vD]
    have ec:G8 (r1++r2++[Do t1 t2])=.tup [sl AO o,vb true]:=by unfold G8 Rg;rw[vD];rfl
    have hc:PC 282 [.slice .none (r1.map AO++r2.map AO++[AO (Do t1 t2)])] (.tup [sl AO o,vb true]):=ec▸rM;refine Xi _ (Yi (hc) (Yi aa0 (Xi ⟨[(14,sl AO o),(15,vb true)],[],Ad⟩ (Yi ⟨Z2,Tv,Fh,Tv⟩ ?_))))
    exact .of_eq (er hr).symm
def d9(h s:Nat->HO):Nat->Bool
 |0=>true
 |n+1=>(match h (1000+n)with |.free=>true |_=>(match s (1000+n)with |.free=>false |_=>true))&&d9 h s n
theorem TZ{h s:Nat->HO}:∀{n:Nat},d9 h s n=true->∀j,j<n->h (1000+j)≠.free->s (1000+j)≠.free
 |n+1,hd,j,hj,hn=>by
  simp only[d9,Af]at hd;rcases BT j n with h1 | h1
  .exact TZ hd.2 j h1 hn
  .have:j=n:=by omega
   subst this
   have:=hd.1
   intro e;split at this
   .rename_i q;exact hn q
   .rw[e]at this;cases this
theorem BQ{h s:Nat->HO}(hd:d9 h s 1000=true):∀j,1000<=j->j<2000->h j≠.free->s j≠.free:=fun j h1 h2=>by
 have:=TZ hd (j-1000) ch
 rw[show 1000+(j-1000)=j by omega]at this;exact this
abbrev sm:List AV:=[vs ⟨#[]⟩,vi 0,vi 0,vi 0,nzA,vs ⟨#[]⟩,vs ⟨#[]⟩,vs ⟨#[]⟩,vb false]
abbrev fp:Option Rl->AV
 |some r=>.tup [.agg (BS r),vb true]
 |none=>.tup [.agg sm,vb false]
theorem qZ(v:Ver):0<=plc v/\plc v<1000000:=by
 unfold plc;cases h:B3 v with
 |true=>exact J8 h
 |false=>simp
abbrev su(t:List Tm):Prop:=t.length<=500000000/\∀u∈t,Cw u.set
theorem wO:PC 196 [vs s] (vb false):=by
 refine Ps DU Tryz.func196 rfl (Nz rfl) (Yi ?_ ?_)
 .intro h;exact absurd rfl (show s≠s from h)
 .intro _;exact .refl _
theorem wR(z:Int):PC 251 [vi z] (vb false):=by
 refine Ps DU Tryz.func251 rfl (Nz rfl) (Yi ?_ ?_)
 .intro h;exact absurd rfl (show z≠z from h)
 .intro _;exact .refl _
theorem Aau(a b:ByteArray):PC 140 [vs a,vs b] (vi (Ou a b)):=by
 refine Ps DU Tryz.func140 rfl (Nz rfl) (Xi .pure (Xi _ (Yi (wO a) (Xi .pure (Xi _ (Yi (wO b) (Yi ?_ ?_)))))))
 .intro h;exact .of_eq (Aa vi (show(-1:Int)=Ou a b by unfold Ou;rw[As (by rw[Hy];exact h)]))
 .intro h;refine Yi ?_ ?_
  .intro h2;exact .of_eq (Aa vi (show(1:Int)=Ou a b by unfold Ou;rw[Ah (by rw[Hy];exact h),As (by rw[Hy];exact h2)]))
  .intro h2;exact .of_eq (Aa vi (show(0:Int)=Ou a b by unfold Ou;rw[Ah (by rw[Hy];exact h),Ah (by rw[Hy];exact h2)]))
theorem sY(a b:Int):PC 197 [vi a,vi b] (vi (HW a b)):=by
 refine Ps DU Tryz.func197 rfl (Nz rfl) (Xi .pure (Xi _ (Yi (wR a) (Xi .pure (Xi _ (Yi (wR b) (Yi ?_ ?_)))))))
 .intro h;exact .of_eq (Aa vi (show(-1:Int)=HW a b by unfold HW;rw[As h]))
 .intro h;refine Yi ?_ ?_
  .intro h2;exact .of_eq (Aa vi (show(1:Int)=HW a b by unfold HW;rw[Ah h,As h2]))
  .intro h2;exact .of_eq (Aa vi (show(0:Int)=HW a b by unfold HW;rw[Ah h,Ah h2]))
theorem Aat(a b:Int):PC 139 [.slice .none [[vi a],[vi b]]] (vi (if a≠0 then a else b)):=by
 refine Ps DU Tryz.func139 rfl (Nz rfl) (Xi {i:Nat // i<=2/\(0<i->a=0)/\(1<i->b=0)} (Xi (fun i=>⟨[(3,vi 0),(6,.slice .none [[vi a],[vi b]]),(7,vi 2),(8,vi i.1)],[],Ad⟩) (Xi (fun i=>2-i.1) (Yi (Xi ⟨0,by omega,by omega,by omega⟩ ?_) ?_))))
 .exact⟨Z4,Tv,Fh,Tv⟩
 intro⟨i,h1,h2,h3⟩;refine Yi ?_ ?_
 .intro h;have h:(i:Int)<2:=h
  match i,h1,h2,h3,h with
  |0,h1,h2,h3,h=>
   refine Xi [vi a] (Yi (Yi (By _) rfl) (Yi rfl (Yi ?_ ?_)))
   .intro h4;exact .of_eq (Aa vi (As h4).symm)
   .intro h4;refine Yi (Ii 0 ch) (Xi ⟨1,by omega,fun _=>by omega,fun q=>absurd q Cl⟩ ?_);exact⟨by show 2-1<2-0;decide,Z4,Tv,Fh,Tv⟩
  |1,h1,h2,h3,h=>
   have ha:=h2 Cl;refine Xi [vi b] (Yi (Yi (by show(0:Int)<=1;decide) rfl) (Yi rfl (Yi ?_ ?_)))
   .intro h4;exact .of_eq (Aa vi (Ah ch).symm)
   .intro h4;refine Yi (Ii 1 ch) (Xi ⟨2,by omega,fun _=>ha,fun q=>by omega⟩ ?_);exact⟨by show 2-2<2-1;decide,Z4,Tv,Fh,Tv⟩
  |i+2,h1,h2,h3,h=>omega
 .intro h;have h:¬(i:Int)<2:=h;have ha:=h2 ch;have hb:=h3 ch;exact .of_eq (Aa vi (show(0:Int)=if a≠0 then a else b by rw[Ah ch,hb]))
theorem TN(a b:Ver)(i:Nat)(hi:i<3)(h:∀j,j<i->HW (part a j) (part b j)=0)(hn:HW (part a i) (part b i)≠0):TM a b=HW (part a i) (part b i):=by
 unfold TM
 match i,hi,h,hn with
 |0,_,_,hn=>exact As hn
 |1,_,h,hn=>
  have h0:HW a.a b.a=0:=h 0 Cl;rw[Ah ch];exact As hn
 |2,_,h,hn=>
  have h0:HW a.a b.a=0:=h 0 Cl;have h1:HW a.b b.b=0:=h 1 Cl;rw[Ah ch,Ah ch];rfl
theorem lx(a b:Ver)(h:∀j,j<3->HW (part a j) (part b j)=0):TM a b=0:=by
 unfold TM;have h0:HW a.a b.a=0:=h 0 Cl;have h1:HW a.b b.b=0:=h 1 Cl;have h2:HW a.c b.c=0:=h 2 Cl;rw[Ah ch,Ah ch,h2]
theorem Aav(a b:Ver):PC 141 [.agg (Jh a),.agg (Jh b)] (vi (TM a b)):=by
 refine Ps DU Tryz.func141 rfl (Nz rfl) (yN (Xi _ (Yi (pt a) (yN (Xi _ (Yi (pt b) (Yi (Nz rfl) (yN (Yi aa0 (Xi {i:Nat // i<=3/\∀j,j<i->HW (part a j) (part b j)=0} (Xi (fun i=>⟨[(5,.ref 5 0),(6,.ref 6 0),(13,vi i.1)],[(5,.cells (Jh a)),(6,.cells (Jh b))],Ad⟩) (Xi (fun i=>3-i.1) (Yi (Xi ⟨0,by omega,fun j h=>by omega⟩ ?_) ?_)))))))))))))
 .exact⟨Z3,Z2,Fh,Tv⟩
 intro⟨i,h1,h2⟩;refine Yi ?_ ?_
 .intro h;have h:(i:Int)<3:=h;have next:HW (part a i) (part b i)=0->∀j,j<i+1->HW (part a j) (part b j)=0:=fun hz j hj=>by
   rcases BT j i with q | q
   .exact h2 j q
   .have:j=i:=by omega
    subst this;exact hz
  match i,h1,h2,h,next with
  |0,h1,h2,h,next=>
   refine Yi ⟨by show(0:Int)<=0;decide,by show(0:Int)<3;decide⟩ ?_;refine Yi ⟨by show(0:Int)<=0;decide,by show(0:Int)<3;decide⟩ ?_;refine Xi _ (Yi (sY (part a 0) (part b 0)) (Yi aa0 (Yi ?_ ?_)))
   .intro h4;exact .of_eq (Aa vi (TN a b 0 Cl h2 h4).symm)
   .intro h4;refine Yi (Ii 0 ch) (Xi ⟨1,by omega,next (GH h4)⟩ ?_)
    exact⟨by show 3-1<3-0;decide,Z3,Z2,Fh,Tv⟩
  |1,h1,h2,h,next=>
   refine Yi ⟨by show(0:Int)<=1;decide,by show(1:Int)<3;decide⟩ ?_;refine Yi ⟨by show(0:Int)<=1;decide,by show(1:Int)<3;decide⟩ ?_;refine Xi _ (Yi (sY (part a 1) (part b 1)) (Yi aa0 (Yi ?_ ?_)))
   .intro h4;exact .of_eq (Aa vi (TN a b 1 Cl h2 h4).symm)
   .intro h4;refine Yi (Ii 1 ch) (Xi ⟨2,by omega,next (GH h4)⟩ ?_)
    exact⟨by show 3-2<3-1;decide,Z3,Z2,Fh,Tv⟩
  |2,h1,h2,h,next=>
   refine Yi ⟨by show(0:Int)<=2;decide,by show(2:Int)<3;decide⟩ ?_;refine Yi ⟨by show(0:Int)<=2;decide,by show(2:Int)<3;decide⟩ ?_;refine Xi _ (Yi (sY (part a 2) (part b 2)) (Yi aa0 (Yi ?_ ?_)))
   .intro h4;exact .of_eq (Aa vi (TN a b 2 Cl h2 h4).symm)
   .intro h4;have h4:¬HW (part a 2) (part b 2)≠0:=h4;refine Yi (Ii 2 ch) (Xi ⟨3,by omega,next (GH h4)⟩ ?_)
    exact⟨by show 3-3<3-2;decide,Z3,Z2,Fh,Tv⟩
  |i+3,h1,h2,h,next=>omega
 .intro h;have h:¬(i:Int)<3:=h;exact .of_eq (Aa vi (lx a b fun j hj=>h2 j ch).symm)
theorem Aam(a b:Rl):PC 81 [.agg (BS a),.agg (BS b)] (vi (SC a b)):=by
 refine Ps DU Tryz.func81 rfl (Nz rfl) (Xi _ (Yi (Aau a.path b.path) (Yi (Nz rfl) (yN (Xi _ (Yi (Aav a.ver b.ver) (Xi _ (Yi (Aat (Ou a.path b.path) (TM a.ver b.ver)) (Yi aa0 ?_)))))))));exact .refl _
abbrev Er:Prop:=s.size<=1073741824
abbrev NQ(q:Rq):Prop:=Cw q.set/\Er q.path
abbrev Jw(r:Rl):Prop:=Er r.path/\∀q∈r.reqs,NQ q
abbrev WI(nm:ByteArray->ByteArray)(p:ByteArray):AV:=match Bs p with
 |some m=>.tup [vs (nm p),vi m,vi 0]
 |none=>.tup [vs ⟨#[]⟩,vi 0,vi 4]
abbrev Vy(nm:ByteArray->ByteArray):Prop:=∀p:ByteArray,Er p->PC 93 [vs p] (WI nm p)
theorem Vy.none(h:Vy nm){p:ByteArray}(hp:Er p)(e:Bs p=.none):PC 93 [vs p] (.tup [vs ⟨#[]⟩,vi 0,vi 4]):=by
 have:=h p hp;unfold WI at this;rw[e]at this;exact this
theorem Vy.some(h:Vy nm){p:ByteArray}{m:Int}(hp:Er p)(e:Bs p=.some m):PC 93 [vs p] (.tup [vs (nm p),vi m,vi 0]):=by
 have:=h p hp;unfold WI at this;rw[e]at this;exact this
theorem wK(hL:Vy nm)(q:Rq)(hq:Cw q.set)(hp:Er q.path):PC 189 [.agg (A2 q),.v (.pointer none)] (vi (IH none q)):=by
 cases Vv:Bs q.path with
 |none=>
  have e:(4:Int)=IH none q:=by unfold IH;rw[Vv];rfl
  have hl:=hL.none hp Vv;refine Ps DU Tryz.func189 rfl (Nz rfl) (Xi .pure (Xi _ (Yi (hl) (Yi ?_ ?_))))
  .intro _;exact .of_eq (Aa vi e)
  .intro h;exact absurd (show(4:Int)≠0 by decide) h
 |some m=>
  have er:IH none q=if(q.set.isEmpty||!decide (q.set=canon q.set)||false)=true then 1 else 0:=by unfold IH;rw[Vv];rfl
  have hl:=hL.some hp Vv;have hc:=Zm q.set hq;have he:=wM q.set (canon q.set) hq;have QL:∀{n:Int},n=(q.set.map AC).length->n=0->q.set.isEmpty=true:=fun h1 h2=>by
   rw[Lm]at h1;rw[Hf];exact AL ch
  have mo:¬((q.set.map AC).length:Int)=0->q.set.isEmpty=false:=fun h=>by
   cases hqs:q.set with
   |nil=>rw[hqs]at h;exact absurd rfl h
   |cons a l=>rfl
  rcases Bt (decide (q.set=canon q.set))with h2 | h2
  .rw[h2]at he;refine Ps (I8 []) Tryz.func189 rfl (Nz rfl) (Xi .pure (Xi _ (Yi (hl) (Yi ?_ ?_))))
   .intro h;exact absurd rfl h
   intro _;refine Yi ?_ ?_
   .intro h;have e:(1:Int)=IH none q:=by rw[er,QL rfl h];rfl
    refine Yi aa0 ?_;exact .of_eq (Aa vi e)
   intro h;have hn:=mo h;refine Xi _ (Yi (hc) (Xi _ (Yi (he) (Yi aa0 ?_))));have e:(0:Int)=IH none q:=by rw[er,hn,h2];rfl
   exact .of_eq (Aa vi e)
  .rw[h2]at he;refine Ps (I8 []) Tryz.func189 rfl (Nz rfl) (Xi .pure (Xi _ (Yi (hl) (Yi ?_ ?_))))
   .intro h;exact absurd rfl h
   intro _;refine Yi ?_ ?_
   .intro h;have e:(1:Int)=IH none q:=by rw[er,QL rfl h];rfl
    refine Yi aa0 ?_;exact .of_eq (Aa vi e)
   intro h;have hn:=mo h;refine Xi _ (Yi (hc) (Xi _ (Yi (he) (Yi aa0 ?_))));have e:(1:Int)=IH none q:=by rw[er,hn,h2];rfl
   exact .of_eq (Aa vi e)
theorem wL(hL:Vy nm)(q b:Rq)(hq:Cw q.set)(hp:Er q.path):PC 189 [.agg (A2 q),.cptr (A2 b)] (vi (IH (some b.path) q)):=by
 cases Vv:Bs q.path with
 |none=>
  have e:(4:Int)=IH (some b.path) q:=by unfold IH;rw[Vv];rfl
  have hl:=hL.none hp Vv;refine Ps DU Tryz.func189 rfl (Nz rfl) (Xi .pure (Xi _ (Yi (hl) (Yi ?_ ?_))))
  .intro _;exact .of_eq (Aa vi e)
  .intro h;exact absurd (show(4:Int)≠0 by decide) h
 |some m=>
  have er:IH (some b.path) q=if(q.set.isEmpty||!decide (q.set=canon q.set)||!FQ b.path q.path)=true then 1 else 0:=by unfold IH;rw[Vv];rfl
  have hl:=hL.some hp Vv;have hc:=Zm q.set hq;have he:=wM q.set (canon q.set) hq;have QL:∀{n:Int},n=(q.set.map AC).length->n=0->q.set.isEmpty=true:=fun h1 h2=>by
   rw[Lm]at h1;rw[Hf];exact AL ch
  have mo:¬((q.set.map AC).length:Int)=0->q.set.isEmpty=false:=fun h=>by
   cases hqs:q.set with
   |nil=>rw[hqs]at h;exact absurd rfl h
   |cons a l=>rfl
  rcases Bt (decide (q.set=canon q.set))with h2 | h2
  .rw[h2]at he;refine Ps (I8 []) Tryz.func189 rfl (Nz rfl) (Xi .pure (Xi _ (Yi (hl) (Yi ?_ ?_))))
   .intro h;exact absurd rfl h
   intro _;refine Yi ?_ ?_
   .intro h;have e:(1:Int)=IH (some b.path) q:=by rw[er,QL rfl h];rfl
    refine Yi aa0 ?_;exact .of_eq (Aa vi e)
   intro h;have hn:=mo h;refine Xi _ (Yi (hc) (Xi _ (Yi (he) (Yi ?_ ?_))))
   .intro h3;refine Yi aa0 ?_;have e:(1:Int)=IH (some b.path) q:=by rw[er,hn,h2,Hy,h3];rfl
    exact .of_eq (Aa vi e)
   .intro h3;have h3:Op.bytesLess b.path.toList q.path.toList=true:=by simpa using h3
    refine Yi aa0 ?_;have e:(0:Int)=IH (some b.path) q:=by rw[er,hn,h2,Hy,h3];rfl
    exact .of_eq (Aa vi e)
  .rw[h2]at he;refine Ps (I8 []) Tryz.func189 rfl (Nz rfl) (Xi .pure (Xi _ (Yi (hl) (Yi ?_ ?_))))
   .intro h;exact absurd rfl h
   intro _;refine Yi ?_ ?_
   .intro h;have e:(1:Int)=IH (some b.path) q:=by rw[er,QL rfl h];rfl
    refine Yi aa0 ?_;exact .of_eq (Aa vi e)
   intro h;have hn:=mo h;refine Xi _ (Yi (hc) (Xi _ (Yi (he) (Yi aa0 ?_))));have e:(1:Int)=IH (some b.path) q:=by rw[er,hn,h2];rfl
   exact .of_eq (Aa vi e)
abbrev Nv(l:List Rq)(k:Nat):List AV:=((l.map A2)[k]?).getD []
abbrev wI(l:List Rq):Nat->AV
 |0=>.v (.pointer none)
 |k+1=>.cptr (Nv l k)
abbrev TA(l:List Rq):Nat->Option ByteArray
 |0=>none
 |k+1=>(l[k]?).map (·.path)
theorem Oq{l:List Rq}(h:k<l.length):Nv l k=A2 l[k]:=by
 unfold Nv;rw[Aw,Ge h];rfl
theorem TB{l:List Rq}(h:k<l.length):TA l (k+1)=some l[k].path:=by
 show(l[k]?).map _=_;rw[Ge h];rfl
theorem c65(hL:Vy nm)(l:List Rq)(hs:∀q∈l,NQ q):PC 127 [sl A2 l] (vi (B5 l)):=by
 refine Ps (I8 []) Tryz.func127 rfl (Nz rfl) (Yi ?_ ?_)
 .intro h;exact .of_eq (Aa vi (show(7:Int)=B5 l by unfold B5;rw[As (by rw[Lm]at h;omega)]))
 intro h;have hl:l.length<=16:=by rw[Lm]at h;omega
 have Vu:B5 l=Gg none l:=by unfold B5;rw[Ah ch]
 refine Xi {i:Nat // i<=l.length/\Gg none l=Gg (TA l i) (l.drop i)} (Xi (fun i=>⟨[(0,sl A2 l),(3,wI l i.1),(10,sl A2 l),(11,vi (l.map A2).length),(12,vi i.1)],[],Ad⟩) (Xi (fun i=>l.length-i.1) (Yi (Xi ⟨0,AE _,rfl⟩ ?_) ?_)))
 .exact⟨Z5,Tv,Fh,Tv⟩
 intro⟨i,h1,h2⟩;refine Yi ?_ ?_
 .intro h;have h:i<l.length:=by simpa using h
  have hg:l[i]?=some l[i]:=Ge h;have hd:l.drop i=l[i]::l.drop (i+1):=AY h;have hq:=hs l[i] (Aq h);have hc:PC 189 [.agg (A2 l[i]),wI l i] (vi (IH (TA l i) l[i])):=by
   cases i with
   |zero=>exact wK hL _ hq.1 hq.2
   |succ k=>
    rw[TB (by omega:k<l.length)];show PC 189 [_,.cptr (Nv l k)] _;rw[Oq (by omega:k<l.length)];exact wL hL _ _ hq.1 hq.2
  have KP:Gg none l=if IH (TA l i) l[i]=0 then Gg (some l[i].path) (l.drop (i+1))else IH (TA l i) l[i]:=by rw[h2,hd];rfl
  match i,h1,h2,h,hg,hd,hc,KP with
  |0,h1,h2,h,hg,hd,hc,KP=>
   refine Xi (A2 l[0]) (Yi (Yi (by show(0:Int)<=((0:Nat):Int);omega) (by simp[hg])) (Yi rfl ?_));refine Yi (Nz rfl) (Yi (Nz rfl) (yN (Xi .pure (Xi _ (Yi (hc) (Yi ?_ ?_))))))
   .intro h4;exact .of_eq (Aa vi (show IH (TA l (0)) l[0]=B5 l by rw[Vu,KP,Ah h4]))
   .intro h4;refine Xi (A2 l[0]) (Yi (Yi (by show(0:Int)<=((0:Nat):Int);omega) (by simp[hg])) (Yi rfl ?_));refine Yi (by show A5 (((0:Nat):Int)+1);unfold A5;omega) ?_;refine Xi ⟨0+1,by omega,by rw[KP,As (GH h4),TB h]⟩ ?_;have e1:AV.cptr (A2 l[0])=.cptr (Nv l (0)):=by rw[Oq h]
    exact⟨by show l.length-(0+1)<l.length-(0);omega,⟨Zr,⟨e1,rfl⟩,Zr,Zr,Zr,Tv⟩,Tv,Fh,Tv⟩
  |k+1,h1,h2,h,hg,hd,hc,KP=>
   refine Xi (A2 l[k+1]) (Yi (Yi (by show(0:Int)<=((k+1:Nat):Int);omega) (by simp[hg])) (Yi rfl ?_));refine Yi (Nz rfl) (Yi (Nz rfl) (yN (Xi .pure (Xi _ (Yi (hc) (Yi ?_ ?_))))))
   .intro h4;exact .of_eq (Aa vi (show IH (TA l (k+1)) l[k+1]=B5 l by rw[Vu,KP,Ah h4]))
   .intro h4;refine Xi (A2 l[k+1]) (Yi (Yi (by show(0:Int)<=((k+1:Nat):Int);omega) (by simp[hg])) (Yi rfl ?_));refine Yi (by show A5 (((k+1:Nat):Int)+1);unfold A5;omega) ?_;refine Xi ⟨k+1+1,by omega,by rw[KP,As (GH h4),TB h]⟩ ?_;have e1:AV.cptr (A2 l[k+1])=.cptr (Nv l (k+1)):=by rw[Oq h]
    exact⟨by show l.length-(k+1+1)<l.length-(k+1);omega,⟨Zr,⟨e1,rfl⟩,Zr,Zr,Zr,Tv⟩,Tv,Fh,Tv⟩
 .intro h;have h:¬i<l.length:=by simpa using h
  have e:(0:Int)=B5 l:=by rw[Vu,h2,Vz ch];rfl
  exact .of_eq (Aa vi e)
abbrev lA(r:Rl):Nat->ByteArray
 |0=>r.arch
 |1=>r.ifc
 |_=>r.cert
theorem tg{r:Rl}(h:∀j,j<3->Fk (lA r j)=true):(Fk r.arch&&Fk r.ifc&&Fk r.cert)=true:=by
 have h0:Fk r.arch=true:=h 0 Cl;have h1:Fk r.ifc=true:=h 1 Cl;have h2:Fk r.cert=true:=h 2 Cl;rw[h0,h1,h2];rfl
theorem cq{r:Rl}{i:Nat}(hi:i<3)(h:Fk (lA r i)=false):(Fk r.arch&&Fk r.ifc&&Fk r.cert)=false:=by
 match i,hi,h with
 |0,_,h=>have h:Fk r.arch=false:=h;rw[h];rfl
 |1,_,h=>have h:Fk r.ifc=false:=h;rw[h,Di];rfl
 |2,_,h=>have h:Fk r.cert=false:=h;rw[h,Di]
theorem Aal(hL:Vy nm)(r:Rl)(hr:Jw r):PC 79 [.agg (BS r)] (vi (D1 r)):=by
 cases Vv:Bs r.path with
 |none=>
  have e:(4:Int)=D1 r:=by unfold D1;rw[Vv]
  have hl:=hL.none hr.1 Vv;refine Ps DU Tryz.func79 rfl (Nz rfl) (Xi .pure (Xi _ (Yi (hl) (Yi ?_ ?_))))
  .intro _;exact .of_eq (Aa vi e)
  .intro h;exact absurd (show(4:Int)≠0 by decide) h
 |some m=>
  have er:D1 r=if(!B3 r.ver||!decide (r.ver.a=m))=true then 2 else if B5 r.reqs≠0 then B5 r.reqs else if(Fk r.arch&&Fk r.ifc&&Fk r.cert)=true then 0 else 1:=by unfold D1;rw[Vv]
  have hl:=hL.some hr.1 Vv;have hv:=gH r.ver;have hc:=c65 hL r.reqs hr.2;rcases Bt (B3 r.ver)with h2 | h2
  .rw[h2]at hv;refine Ps (I8 []) Tryz.func79 rfl (Nz rfl) (Xi .pure (Xi _ (Yi (hl) (Yi ?_ ?_))))
   .intro h;exact absurd rfl h
   intro _;refine yN (Xi .pure (Xi _ (Yi (hv) (Yi ?_ ?_))))
   .intro h;have e:(2:Int)=D1 r:=by rw[er,h2,Am h];rfl
    exact .of_eq (Aa vi e)
   intro h;have h3:r.ver.a=m:=GH h;have xc:D1 r=if B5 r.reqs≠0 then B5 r.reqs else if(Fk r.arch&&Fk r.ifc&&Fk r.cert)=true then 0 else 1:=by rw[er,h2,Ap h3];rfl
   refine Xi .pure (Xi _ (Yi (hc) (Yi ?_ ?_)))
   .intro h4;exact .of_eq (Aa vi (show B5 r.reqs=D1 r by rw[xc,As h4]))
   intro h4;have zx:D1 r=if(Fk r.arch&&Fk r.ifc&&Fk r.cert)=true then 0 else 1:=by rw[xc,Ah h4]
   refine Xi {i:Nat // i<=3/\∀j,j<i->Fk (lA r j)=true} (Xi (fun i=>⟨[(41,.slice (.id 41 1) [[vs r.arch],[vs r.ifc],[vs r.cert]]),(42,vi 3),(43,vi i.1)],[(41,.tok 1 3)],Ad⟩) (Xi (fun i=>3-i.1) (Yi (Xi ⟨0,by omega,fun j h=>by omega⟩ ?_) ?_)))
   .exact⟨Z3,Z1,Fh,Tv⟩
   intro⟨i,i1,i2⟩;refine Yi ?_ ?_
   .intro h;have h:(i:Int)<3:=h;have next:Fk (lA r i)=true->∀j,j<i+1->Fk (lA r j)=true:=fun hz j hj=>by
     rcases BT j i with q | q
     .exact i2 j q
     .have:j=i:=by omega
      subst this;exact hz
    match i,i1,i2,h,next with
    |0,i1,i2,h,next=>
     refine Xi [vs r.arch] (Yi (Yi (by show(0:Int)<=0;decide) rfl) (Yi rfl (Yi ?_ ?_)))
     .intro h5;refine Yi ?_ ?_
      .intro h6;have e:(1:Int)=D1 r:=by rw[zx,cq (i:=0) Cl (show Fk r.arch=false by unfold Fk;rw[Am ch,Am ch];rfl)];rfl
       exact .of_eq (Aa vi e)
      .intro h6;refine Yi (Ii 0 ch) (Xi ⟨1,by omega,next (show Fk r.arch=true by unfold Fk;rw[Ap (by omega:r.arch.size=32),Bool.or_true])⟩ ?_)
       exact⟨by show 3-1<3-0;decide,Z3,Z1,Fh,Tv⟩
     .intro h5;refine Yi (Ii 0 ch) (Xi ⟨1,by omega,next (show Fk r.arch=true by unfold Fk;rw[Ap (by omega:r.arch.size=0)];rfl)⟩ ?_)
      exact⟨by show 3-1<3-0;decide,Z3,Z1,Fh,Tv⟩
    |1,i1,i2,h,next=>
     refine Xi [vs r.ifc] (Yi (Yi (by show(0:Int)<=1;decide) rfl) (Yi rfl (Yi ?_ ?_)))
     .intro h5;have h5:((r.ifc.size:Nat):Int)≠0:=h5;refine Yi ?_ ?_
      .intro h6;have h6:((r.ifc.size:Nat):Int)≠32:=h6;have e:(1:Int)=D1 r:=by rw[zx,cq (i:=1) Cl (show Fk r.ifc=false by unfold Fk;rw[Am ch,Am ch];rfl)];rfl
       exact .of_eq (Aa vi e)
      .intro h6;have h6:¬((r.ifc.size:Nat):Int)≠32:=h6;refine Yi (Ii 1 ch) (Xi ⟨2,by omega,next (show Fk r.ifc=true by unfold Fk;rw[Ap (by omega:r.ifc.size=32),Bool.or_true])⟩ ?_)
       exact⟨by show 3-2<3-1;decide,Z3,Z1,Fh,Tv⟩
     .intro h5;have h5:¬((r.ifc.size:Nat):Int)≠0:=h5;refine Yi (Ii 1 ch) (Xi ⟨2,by omega,next (show Fk r.ifc=true by unfold Fk;rw[Ap (by omega:r.ifc.size=0)];rfl)⟩ ?_)
      exact⟨by show 3-2<3-1;decide,Z3,Z1,Fh,Tv⟩
    |2,i1,i2,h,next=>
     refine Xi [vs r.cert] (Yi (Yi (by show(0:Int)<=2;decide) rfl) (Yi rfl (Yi ?_ ?_)))
     .intro h5;have h5:((r.cert.size:Nat):Int)≠0:=h5;refine Yi ?_ ?_
      .intro h6;have h6:((r.cert.size:Nat):Int)≠32:=h6;have e:(1:Int)=D1 r:=by rw[zx,cq (i:=2) Cl (show Fk r.cert=false by unfold Fk;rw[Am ch,Am ch];rfl)];rfl
       exact .of_eq (Aa vi e)
      .intro h6;have h6:¬((r.cert.size:Nat):Int)≠32:=h6;refine Yi (Ii 2 ch) (Xi ⟨3,by omega,next (show Fk r.cert=true by unfold Fk;rw[Ap (by omega:r.cert.size=32),Bool.or_true])⟩ ?_)
       exact⟨by show 3-3<3-2;decide,Z3,Z1,Fh,Tv⟩
     .intro h5;have h5:¬((r.cert.size:Nat):Int)≠0:=h5;refine Yi (Ii 2 ch) (Xi ⟨3,by omega,next (show Fk r.cert=true by unfold Fk;rw[Ap (by omega:r.cert.size=0)];rfl)⟩ ?_)
      exact⟨by show 3-3<3-2;decide,Z3,Z1,Fh,Tv⟩
    |i+3,i1,i2,h,next=>omega
   .intro h;have h:¬(i:Int)<3:=h;have e:(0:Int)=D1 r:=by rw[zx,As (tg fun j hj=>i2 j ch)]
    exact .of_eq (Aa vi e)
  .rw[h2]at hv;have e:(2:Int)=D1 r:=by rw[er,h2];rfl
   refine Ps (I8 []) Tryz.func79 rfl (Nz rfl) (Xi .pure (Xi _ (Yi (hl) (Yi ?_ ?_))))
   .intro h;exact absurd rfl h
   intro _;refine yN (Xi .pure (Xi _ (Yi (hv) ?_)));exact .of_eq (Aa vi e)
theorem uo{a b:Rl}(h:a.path=b.path/\a.ver.a=b.ver.a/\a.ver.b=b.ver.b/\a.ver.c=b.ver.c):FC a=FC b:=by
 unfold FC;obtain⟨h1,h2,h3,h4⟩:=h
 have:a.ver=b.ver:=by
  cases ha:a.ver;cases hb:b.ver;rw[ha,hb]at h2 h3 h4;simp_all
 rw[h1,this]
theorem iK{a b:Rl}(h:FC a=FC b):a.path=b.path/\a.ver.a=b.ver.a/\a.ver.b=b.ver.b/\a.ver.c=b.ver.c:=by
 unfold FC at h
 injection h with h1 h2
 exact⟨h1,by rw[h2],by rw[h2],by rw[h2]⟩
abbrev pk(x:List Rl):Nat->Option Rl
 |0=>none
 |k+1=>x[k]?
theorem wV(hL:Vy nm)(x:List Rl)(ifs:List (List AV))(hs:∀r∈x,Jw r):PC 40 [.agg (Ic x ifs)] (vi (Bd x)):=by
 refine Ps (I8 []) Tryz.func40 rfl (Nz rfl) (Yi ?_ ?_)
 .intro h;exact .of_eq (Aa vi (show(7:Int)=Bd x by unfold Bd;rw[As (by rw[Lm]at h;omega)]))
 intro h;have hl:x.length<=256:=by rw[Lm]at h;omega
 have Vu:Bd x=DF none x:=by unfold Bd;rw[Ah ch]
 refine Xi {i:Nat // i<=x.length/\DF none x=DF (pk x i) (x.drop i)} (Xi (fun i=>⟨[(1,.ref 1 0),(12,sl BS x),(13,vi (x.map BS).length),(14,vi i.1)],[(1,.cells (Ic x ifs))],Ad⟩) (Xi (fun i=>x.length-i.1) (Yi (Xi ⟨0,AE _,rfl⟩ ?_) ?_)))
 .exact⟨Z4,Z1,Fh,Tv⟩
 intro⟨i,h1,h2⟩;refine Yi ?_ ?_
 .intro h;have h:i<x.length:=by simpa using h
  have hg:x[i]?=some x[i]:=Ge h;have hd:x.drop i=x[i]::x.drop (i+1):=AY h;have hc:=Aal hL x[i] (hs x[i] (Aq h));have KP:DF none x=if D1 x[i]≠0 then D1 x[i]else match pk x i with
   |none=>DF (some x[i]) (x.drop (i+1))
   |some b=>if FC b=FC x[i]then 5 else if 0<SC b x[i]then 1 else DF (some x[i]) (x.drop (i+1)):=by rw[h2,hd];rfl
  have rS:pk x (i+1)=some x[i]:=Ge h;refine Xi (BS x[i]) (Yi (Yi (Nn i) (by simp[hg])) (Yi rfl ?_));refine Yi (Nz rfl) (Yi (Nz rfl) (yN (Xi .pure (Xi _ (Yi (hc) (Yi ?_ ?_))))))
  .intro h4;exact .of_eq (Aa vi (show D1 x[i]=Bd x by rw[Vu,KP,As h4]))
  intro h4;refine Yi ?_ ?_
  .intro h5;have h5:(i:Int)=0:=h5;have h6:i=0:=by omega
   refine Yi (Ii i ch) (Xi ⟨i+1,by omega,by rw[KP,Ah h4,rS];subst h6;rfl⟩ ?_);exact⟨Dl x.length i ch,Z4,Z1,Fh,Tv⟩
  intro h5;have h5:¬(i:Int)=0:=h5;have zL:i-1<x.length:=by omega
  have hb:pk x i=some x[i-1]:=by
   obtain⟨k,rfl⟩:∃k,i=k+1:=⟨i-1,by omega⟩;exact Ge ch
  have tN:DF none x=if FC x[i-1]=FC x[i]then 5 else if 0<SC x[i-1] x[i]then 1 else DF (some x[i]) (x.drop (i+1)):=by rw[KP,Ah h4,hb]
  refine Yi (by show A5 ((i:Int)-1);unfold A5;omega) ?_;have VL:(x.map BS)[((i:Int)-1).toNat]?=some (BS x[i-1]):=by rw[show((i:Int)-1).toNat=i-1 by omega];exact Ee (Ge zL)
  refine Xi (BS x[i-1]) (Yi (Yi (by show(0:Int)<=(i:Int)-1;omega) VL) (Yi rfl (Yi (Nz rfl) (yN (yN (Xi _ (Yi (sV x[i-1]) (yN (Xi _ (Yi (sV x[i]) (Yi ?_ ?_)))))))))))
  .intro h6;refine Yi aa0 ?_;have e:(5:Int)=Bd x:=by rw[Vu,tN,As (uo ⟨h6.1,h6.2.1,h6.2.2.1,h6.2.2.2.1⟩)]
   exact .of_eq (Aa vi e)
  intro h6;refine Yi aa0 ?_;have h7:¬FC x[i-1]=FC x[i]:=fun e=>by
   have e:=iK e;exact h6 ⟨e.1,e.2.1,e.2.2.1,e.2.2.2,trivial⟩
  refine Yi (Nz rfl) (yN (Xi .pure (Xi _ (Yi (Aam x[i-1] x[i]) (Yi ?_ ?_)))))
  .intro h8;have e:(1:Int)=Bd x:=by rw[Vu,tN,Ah h7,As h8]
   exact .of_eq (Aa vi e)
  .intro h8;refine Yi (Ii i ch) (Xi ⟨i+1,by omega,by rw[tN,Ah h7,Ah h8,rS]⟩ ?_);exact⟨Dl x.length i ch,Z4,Z1,Fh,Tv⟩
 .intro h;have h:¬i<x.length:=by simpa using h
  have e:(0:Int)=Bd x:=by rw[Vu,h2,Vz ch];rfl
  exact .of_eq (Aa vi e)
abbrev rlC(r:Rl)(a:AV):List AV:=[vs r.path,vi r.ver.a,vi r.ver.b,vi r.ver.c,a,vs r.arch,vs r.ifc,vs r.cert,vb r.yanked]
abbrev Acy:Qn:=⟨[],[],[],[],[],[],[],[(9,(1,4,900,2))],[],[],[]⟩
theorem c98(r:Rl)(hr:r.reqs.length<=1000)(hs:∀q∈r.reqs,Cw q.set):PC 83 [.agg (BS r)] (.agg (BS r)):=by
 refine Ps Acy Tryz.func83 rfl (Nz rfl) (yN (Xi {i:Nat // i<=r.reqs.length} (Xi (fun i=>⟨[(1,.ref 1 0),(2,.ref 2 0),(9,sl A2 r.reqs),(10,vi (r.reqs.map A2).length),(11,vi i.1)],[(1,.cells (rlC r (.slice (.id 900 2) ((r.reqs.take i.1).map A2)))),(2,.cells sm),(900,.tok 2 ((r.reqs.take i.1).map A2).length)],Ad⟩) (Xi (fun i=>r.reqs.length-i.1) (Yi (Xi ⟨0,AE _⟩ ?_) ?_)))))
 .exact⟨Z5,Z3,Fh,Tv⟩
 intro⟨i,h1⟩;refine Yi ?_ ?_
 .intro h;have h:i<r.reqs.length:=by simpa using h
  have hg:r.reqs[i]?=some r.reqs[i]:=Ge h;refine Xi (A2 r.reqs[i]) (Yi (Yi (Nn i) (by simp[hg])) (Yi rfl ?_));have hq:=hs r.reqs[i] (Aq h);refine Yi (Nz rfl) (yN (Xi .pure (Xi _ (Yi (Aaq r.reqs[i].set hq) (yN (yN ?_))))));have GA:CR 2 [A2 r.reqs[i]]/\((r.reqs.take i).map A2).length=((r.reqs.take i).map A2).length/\(((r.reqs.take i).map A2).length+[A2 r.reqs[i]].length)*40<=140737488355328/\((r.reqs.take i).map A2).length+[A2 r.reqs[i]].length<=9223372036854775807:=
   ⟨⟨rfl,trivial⟩,rfl,by rw[Lm,AA,AJ];omega,by rw[Lm,AA,AJ];omega⟩
  refine Yi GA (yN (Yi (Ii i ch) (Xi ⟨i+1,by omega⟩ ?_)));have et:(r.reqs.take (i+1)).map A2=(r.reqs.take i).map A2++[A2 r.reqs[i]]:=by rw[AZ,hg,Az];rfl
  have e1:HO.cells (rlC r (.slice (.id 900 2) ((r.reqs.take i).map A2++[A2 r.reqs[i]])))=.cells (rlC r (.slice (.id 900 2) ((r.reqs.take (i+1)).map A2))):=by rw[et]
  have e2:HO.tok 2 (((r.reqs.take i).map A2).length+[A2 r.reqs[i]].length)=.tok 2 ((r.reqs.take (i+1)).map A2).length:=by rw[et,Ac]
  exact⟨Dl r.reqs.length i ch,Z5,⟨⟨e1,rfl⟩,Zr,⟨e2,rfl⟩,Tv⟩,Fh,Tv⟩
 .intro h;have h:¬i<r.reqs.length:=by simpa using h
  refine Yi (Nz rfl) (Yi (Nz rfl) (yN ?_));have e:AV.agg (rlC r (.slice .none ((r.reqs.take i).map A2)))=.agg (BS r):=by rw[AB ch]
  exact .of_eq e
theorem cU{cx:Cx}{st:St}{K:LS -> Prop}(t:List (Nat×AV))(h:List (Nat×HO))(h1:z6 st (LS.st ⟨t,h,Ad⟩).h t)(h2:zZ st (LS.st ⟨t,h,Ad⟩).h h)(k:K ⟨t,h,Ad⟩)
    (h3:match cx.ext with | false => True | true => ∀j,1000 <= j -> j<2000 -> st.h j ≠ .free -> (LS.st ⟨t,h,Ad⟩).h j ≠ .free := by first | exact trivial | exact BQ aa0):∃s,St.le cx st s /\ K s := ⟨_,⟨h1,h2,fun _ => .inl rfl,h3⟩,k⟩
end Go.Eng
