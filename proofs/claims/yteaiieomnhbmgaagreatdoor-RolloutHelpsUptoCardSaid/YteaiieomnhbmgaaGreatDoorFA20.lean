/- Lemmas 20. -/
import Derived.Test.YteaiieomnhbmgaaGreatDoorFA19
import Derived.Shelf.Slices.Delete
namespace Go.Eng
open Go.Proofs Go.Shelf Go.RowKit Go.Lib Go.Sort
theorem vT(F:Array Value)(i n:Nat)(hF:F.size=n*3)(hi:i<n)(z:List Value)(hz:z.length=3):(lay (lay F (i*3) (F.toList.drop ((i+1)*3))) ((n-1)*3) z).toList=F.toList.take (i*3)++F.toList.drop ((i+1)*3)++z:=by
 have l1:(F.toList.take (i*3)).length=i*3:=by simp;omega
 have l2:(F.toList.drop ((i+1)*3)).length=(n-(i+1))*3:=by simp;omega
 apply Dz
 intro t
 rw[A5,lay_get? _ _ _ _ (by rw[Lib.lay_size];omega),lay_get? _ _ _ _ (by rw[l2];omega)]
 rw[hz,l2]
 by_cases c1:t<i*3
 .rw[Aj ch,Aj ch,AT (by rw[Ac];omega),AT ch,KV,Ap c1,A5]
 .by_cases c2:t<(n-1)*3
  .rw[Aj ch,Ap ch,AT (by rw[Ac];omega),A2 ch,l1]
  .rw[A2 (by rw[Ac];omega),Ac,l1,l2]
   by_cases c3:t<n*3
   .rw[Ap ch];congr 1;omega
   .rw[Aj ch,Aj ch,Ww ch,A8 ch]
abbrev qf:List Value:=[.string ⟨#[]⟩,.bool false,.slice none 0 0]
set_option maxHeartbeats 4000000 in
set_option maxRecDepth 1000000 in
theorem ml(w:World)(b cap i n:Nat)(F:Array Value)(hF:F.size=n*3)(hi:i<n)(Mx:n<=cap)(hH:Holds id w b 0 F)(h1:∀x∈F.toList,x.oneCell'=true) :
  Calls Tryz.prog 344 #[.slice (some ⟨b,0,none⟩) n cap,.int .i64 i,.int .i64 ((i:Int)+1)] w fun e w'=>e=.returned (.slice (some ⟨b,0,none⟩) (n-1) cap) /\
   w'=putRow id (Sort.ahead w 1) b 0 (lay (lay F (i*3) (F.toList.drop ((i+1)*3))) ((n-1)*3) qf):=by
 obtain⟨i0,tf,vK⟩:∃i0,Tryz.prog.info? 343=some i0/\i0.size=3:=by
  obtain⟨i,z,h1,_,h2,_⟩:=IA (P:=Tryz.prog) (T:=sq) C3 (e:=343) (n:=2) Wk
  exact⟨i,h1,h2.trans Wk⟩
 obtain⟨news,JY⟩:∃news,news=F.toList.drop ((i+1)*3):=⟨_,rfl⟩
 have CH:news.length=(n-(i+1))*3:=by rw[JY];simp;omega
 have FI:∀t,t<(n-(i+1))*3->news[t]?=some F[(i+1)*3+t]!:=by
  intro t ht
  rw[JY,DX,A5,DY F ((i+1)*3+t) ch,A6 ch]
 obtain⟨A,hA,jJ⟩:∃A:Addr,(if cap=i+1 then some (⟨b,0,none⟩:Addr)else some ⟨b,(i+1)*3,none⟩)=some A/\Hid (∀t u,news[t]?=some u->w.drew.cell? (A.add t)=some u):=by
  by_cases h:cap=i+1
  .refine⟨⟨b,0,none⟩,by simp[h],fun t u hu=>?_⟩
   have h0:news.length=0:=by rw[CH];omega
   rw[EP.1 h0]at hu
   simp at hu
  .refine⟨⟨b,(i+1)*3,none⟩,by simp[h],fun t u hu=>?_⟩
   have ht:t<(n-(i+1))*3:=by
    have:=(Aw.1 hu).1
    rwa [CH]at this
   rw[FI t ht]at hu
   rw[Addr.add_lit]
   have:=(hH ((i+1)*3+t) ch).1
   rw[Bb]at this
   exact this.trans hu
 have s1:Hid (news.length=(n-(i+1))*3):=CH
 have s2:Hid (∀u∈news,u.oneCell'=true):=by
  intro u hu
  rw[JY]at hu
  exact h1 u (Jo hu)
 have s3:Hid (∀t,t<news.length->(w.drew.cell? ⟨b,0+i*3+t,none⟩).isSome=true/\w.drew.frozen? ⟨b,0+i*3+t,none⟩=false):=by
  intro t ht
  rw[CH]at ht
  have:=hH (i*3+t) ch
  rw[Hc]
  exact⟨by show(w.cell? _).isSome=true;rw[this.1];rfl,this.2⟩
 obtain⟨W1,hW1⟩:∃W1,W1=w.drew.setCells b (0+i*3) news:=⟨_,rfl⟩
 have uX:W1=putRow id (Sort.ahead w 1) b 0 (lay F (i*3) news):=by
  have:=putRow_setCells id (Sort.ahead w 1) b 0 news F (i*3) ch
  rw[putRow_self id (Sort.ahead w 1) b 0 F (holds_ahead id w 1 b 0 F hH),Gj]at this
  rw[hW1,<-this]
  rfl
 have hH1:Holds id W1 b 0 (lay F (i*3) news):=by rw[uX];exact holds_putRow id _ b 0 F _ (holds_ahead id w 1 b 0 F hH) (Lib.lay_size _ _ _)
 have K4:(storeCells ⟨b,0+(n-1)*3,none⟩ qf 0).run Tryz.prog W1=.ok () (W1.setCells b (0+(n-1)*3) qf):=by
  have:=run_storeCells_cells (P:=Tryz.prog) b (0+(n-1)*3) qf 0 W1 (fun j hj=>by
   have hj:j<3:=hj
   have:=hH1 ((n-1)*3+j) (by rw[Lib.lay_size];omega)
   rw[show 0+(n-1)*3+0+j=0+((n-1)*3+j) by omega,this.1];rfl) (fun j hj=>by
   have hj:j<3:=hj
   have:=hH1 ((n-1)*3+j) (by rw[Lib.lay_size];omega)
   rw[show 0+(n-1)*3+0+j=0+((n-1)*3+j) by omega];exact this.2) (fun v hv=>by
   simp only[Ay,M4,or_false]at hv
   rcases hv with rfl|rfl|rfl<;>rfl)
  exact this
 have hcl:∀ty c,(Builtin.clear_ #[283] ty #[.slice (some ⟨b,(n-1)*3,none⟩) 1 c]).run Tryz.prog W1=.ok (.tuple #[]) (W1.setCells b (0+(n-1)*3) qf):=fun ty c=>by
  have hv:=Tryz.zeroValue343
  rw[Bb]at K4⊢
  have hz:(Builtin.zeroCells (Value.agg #[Value.string { data:=#[] },Value.bool false,Value.slice none 0 0]).cells 1).toList=qf:=by kernel_rfl
  simp[Builtin.clear_,run_underlying Tryz.underlying283,hv,hz,K4]
 have AhB:∀ty,(Builtin.clear_ #[283] ty #[.slice (some ⟨b,(i+(n-(i+1)))*3,none⟩) (n-(i+(n-(i+1)))) (cap-(i+(n-(i+1))))]).run Tryz.prog W1=.ok (.tuple #[]) (W1.setCells b (0+(n-1)*3) qf):=fun ty=>by
  have e1:i+(n-(i+1))=n-1:=by omega
  have e2:n-(n-1)=1:=by omega
  rw[e1,e2];exact hcl ty _
 have X:Aside (W1=putRow id (Sort.ahead w 1) b 0 (lay F (i*3) news)):=uX
 have hW:Hid (W1=w.drew.setCells b (0+i*3) news):=hW1
 have Y:Aside (news=F.toList.drop ((i+1)*3)):=JY
 have Z:Aside (news.length=(n-(i+1))*3):=CH
 have zf:i<=cap:=by omega
 have hjc:i+1<=cap:=by omega
 have mixed:=Go.Eng.hm
 have hb1:(0:Int)<=(i:Int)+1:=by omega
 have Rr:(i:Int)+1<=(n:Int):=by omega
 clear hW1 uX hH1 hH FI JY CH K4 hcl
 go_enter Tryz.func344,Tryz.ntmps344
 go_wp2_with fail
 go_region_law_o (refine step_append_room rfl (.tmp 22) (.tmp 25) 283 rfl 343 i0 3 Tryz.underlying283 tf vK b 0 i cap (by simp[Act.eval,Act.put]) A (n-(i+1)) (cap-(i+1)) news (by simp[Act.eval,Act.put]) s1.out jJ.out s2.out ch s3.out ?_;rw[<-hW.out])
 go_wp2
 go_ret
 refine⟨by rw[show i+(n-(i+1))=n-1 by omega];rfl,?_⟩
 rw[X.out]
 have e1:=Y.out
 have e2:=Z.out
 rw[<-e1]
 have:=putRow_setCells id (Sort.ahead w 1) b 0 qf (lay F (i*3) news) ((n-1)*3) (by rw[Lib.lay_size];show _+3<=_;omega)
 rw[Gj,Bb]at this
 exact this
abbrev cX:List AV:=[Go.Eng.vs ⟨#[]⟩,vb false,nzA]
theorem Acx(l:List Tm)(i:Nat)(hi:i<l.length) :
  A9 Tryz.prog 344 [.msl 1000 l.length,vi i,vi ((i:Int)+1)] (As [(1000,.arr 3 (l.map AO))] Ag) fun r h'=>r=.msl 2000 (l.length-1)/\h'=As [(1000,.dead),(2000,.arr 3 ((l.eraseIdx i).map AO))] Ag:=by
 have hE:F3 Tryz.prog 344:=aN 344 Tryz.func344 Wk rfl
 have CH:(l.eraseIdx i).length=l.length-1:=List.length_eraseIdx_of_lt hi
 have Ig:=Xe (P:=Tryz.prog) (f:=344) (es:=l.map AO) (sz:=3) (rest:=[.int .i64 i,.int .i64 ((i:Int)+1)]) (n':=l.length-1) (Q:=fun F2=>F2=(l.eraseIdx i).map AO++[cX]) hE (fun e=>by
  rw[DO]at e;subst e;simp at hi) (by rw[A7];omega) ?_
 .rw[A7]at Ig
  refine⟨hE,fun g w vals q1 q2 q3=>(Ig.2 g w vals q1 q2 q3).mono fun _ _ ⟨v,r,h',g',e1,⟨e2,F2,p1,p2⟩,rest⟩=>⟨v,r,h',g',e1,⟨e2,by rw[p2,p1,H7 (by rw[A7,CH];exact Am _),Av (by rw[A7,CH];exact Am _)]⟩,rest⟩⟩
 .intro g w b cap F hr hF hH hb hc
  rw[A7]at hF hc⊢
  have hu:∀e∈l.map AO,e.length=3:=fun e he=>by
   obtain⟨t,_,rfl⟩:=Ai.1 he;rfl
  refine(ml w b cap i l.length F hF hi hc hH hr.2.1).mono ?_
  rintro e w' ⟨rfl,rfl⟩
  refine⟨rfl,_,_,1,#[],?_,rfl,?_,fun cs hcs=>?_,fun g w hr=>?_,rfl⟩
  .rw[Lib.lay_size,Lib.lay_size]
  .rw[Ac,A7,CH,Be];omega
  .rcases AN.1 hcs with h|h
   .obtain⟨t,_,rfl⟩:=Ai.1 h;rfl
   .rw[Ar.1 h];rfl
  .rw[vT F i l.length hF hi qf rfl,List.eraseIdx_eq_take_drop_succ,Cm,At,Cm,Ts,List.map_drop,<-Mt _ i hu,<-Qs _ (i+1) hu]
   refine CW.append (CW.append (hr.take _) (hr.drop _)) ?_
   exact Og g w FB qf fun x hx=>by
    simp only[Ay,M4,or_false]at hx
    rcases hx with rfl|rfl|rfl<;>rfl
end Go.Eng
namespace Go.Eng
open Go.Proofs
variable {nm:ByteArray->ByteArray}{l r c:List Tm}{t:Tm}{i k:Nat}(a:List Tm)(s:ByteArray)(b:List Tm)(p:ByteArray)
theorem ym(l:List Tm)(hl:B8 l)(DJ:l≠[]):A9 Tryz.prog 345 [sl AO l] (As [] Ag) fun r h'=>r=.msl 2000 l.length/\h'=As [(2000,.arr 3 (l.map AO))] Ag:=by
 refine Cz (No (pla [(5,3)] [])) [(5,2000)] rfl C3 hm rfl Tryz.func345 Wk rfl (Nz rfl) Wk rfl ?_;have HG:Cr 3 (l.map AO)/\([]:List (List AV)).length=0/\(([]:List (List AV)).length+(l.map AO).length)*48<=140737488355328/\([]:List (List AV)).length+(l.map AO).length<=9223372036854775807:=by
  refine⟨D5 (enc:=AO) (n:=3) (fun _=>rfl) l,rfl,?_,?_⟩<;>simp only[Au,Lm]<;>unfold B8 at hl<;>omega
 refine Yi ?_ ?_
 .intro _;refine Yi HG ?_;have e1:AV.msl 2000 (([]:List (List AV)).length+(l.map AO).length)=.msl 2000 l.length:=by simp
  refine Xi (.msl 2000 (([]:List (List AV)).length+(l.map AO).length)) (Yi (.refl _) (Yi e1 ?_))
  rfl
 .intro h;exact absurd (DO.1 h) DJ
theorem uG(x:Tm)(p:ByteArray):PC 343 [.agg (AO x),.cptr [vs p]] (vb (decide (x.path=p))):=by
 refine Ps Ej Tryz.func343 rfl (Nz rfl) (Yi ?_ ?_)
 .intro h;rw[Ak h];exact .refl _
 .intro h;rw[Ae h];exact .refl _
theorem Ox{p:ByteArray}:∀{c:List Tm} {i:Nat},(EU c).Nodup->∀(hi:i<c.length),c[i].path=p->c.eraseIdx i=Gg c p
 |t::c,0,hn,_,h=>by
  have h:t.path=p:=h;unfold EU at hn;rw[AJ,Dk]at hn;unfold Gg;rw[Dx,Aj (by simp[h])];show c=_;rw[List.filter_eq_self.2 fun u hu=>by
   have:u.path≠p:=fun e=>hn.1 (h▸e▸Ai.2 ⟨u,hu,rfl⟩)
   simp[this]]
 |t::c,i+1,hn,hi,h=>by
  have hi:i<c.length:=by simpa using hi
  have h:c[i].path=p:=h;unfold EU at hn;rw[AJ,Dk]at hn
  have:t.path≠p:=fun e=>hn.1 (by rw[e,<-h];exact Ai.2 ⟨_,Ao hi,rfl⟩)
  have ih:=Ox hn.2 hi h;unfold Gg at ih⊢;rw[List.eraseIdx_cons_succ,Dx,Ap (by simp[this]),ih]
theorem RF(hl:B8 l)(h:Dg l=some c):B8 c:=by
 have h1:=Po l l.length (Am _);rw[Ce]at h1;have h2:c=(Ft l).filter fun t=>!Hd t:=by
  unfold Dg at h;split at h
  .cases h
  .exact(Cj h).symm
 have h3:c.length<=(Ft l).length:=by rw[h2];exact Bx _ _
 have h4:(Ft l).length=(DQ l).length:=by
  have:=(PK (IN (IK l)) (IN (IV (EM l)))).2 (Kl l)
  exact this.length_eq.symm
 unfold B8 at hl⊢;omega
abbrev rI:AV:=.tup [.agg cX,nzA,vb false]
abbrev tG:Tt:=⟨[3],[],[],[],[],[],[],[],[(30,0),(34,1)],[],[]⟩
theorem lX(l:List Tm)(p:ByteArray)(hl:B8 l)(hs:∀t∈l,B8 t.set)(hn:FN l p=none):PC 311 [sl AO l,vs p] rI:=by
 have hc:=c29 l hl hs;unfold FN at hn;cases e:Dg l with
 |none=>
  have e1:Hr l=.tup [sl AO [],vb false]:=by unfold Hr RV;rw[e];rfl
  rw[e1]at hc;have hi:=qC (CU.ptr [vs p]) [] (fun x=>decide (x.path=p)) (fun x _=>uG x p) B0;refine Ps tG Tryz.func311 rfl (Nz rfl) (Xi .pure (Xi _ (Yi (hc) (Xi .pure (Xi _ (Yi (hi) (Yi (Nz rfl) (yN ?_))))))));exact .refl _
 |some c=>
  rw[e]at hn;have hn:(match DH c p with|none=>none|some t=>some (t,Gg c p))=none:=hn;have zb:DH c p=none:=by
   cases h:DH c p with
   |none=>rfl
   |some t=>rw[h]at hn;cases hn
  have e1:Hr l=.tup [sl AO c,vb true]:=by unfold Hr RV;rw[e];rfl
  rw[e1]at hc;have y8:=RF hl e;have hi:=qC (CU.ptr [vs p]) c (fun x=>decide (x.path=p)) (fun x _=>uG x p) (by unfold B8 at y8;omega);have hid:FS (fun x:Tm=>decide (x.path=p)) c 0=-1:=by
   rcases QE (p:=fun x:Tm=>decide (x.path=p)) c 0 with ⟨h1,_⟩|⟨i,x,_,_,h3⟩
   .exact h1
   .unfold DH at zb;rw[h3]at zb;cases zb
  rw[hid]at hi;refine Ps tG Tryz.func311 rfl (Nz rfl) (Xi .pure (Xi _ (Yi (hc) (Xi .pure (Xi _ (Yi (hi) (Yi ?_ ?_)))))))
  .intro _;refine Yi (Nz rfl) (yN ?_);exact .refl _
  .intro h;exact absurd (show(-1:Int)<0 by decide) h
abbrev wg:Tt:=⟨[3],[],[],[],[],[],[],[],[(30,0),(34,2)],[],[]⟩
theorem lY(l:List Tm)(p:ByteArray)(hl:B8 l)(hs:∀t∈l,B8 t.set)(hn:FN l p=some (t,r)) :
  A9 Tryz.prog 311 [sl AO l,vs p] (As [] Ag) fun v h'=>v=.tup [.agg (AO t),.msl 2000 r.length,vb true]/\h'=As [(2000,.arr 3 (r.map AO))] Ag:=by
 have hc:=c29 l hl hs;unfold FN at hn;cases e:Dg l with
 |none=>rw[e]at hn;cases hn
 |some c=>
  rw[e]at hn;have hn:(match DH c p with|none=>none|some t=>some (t,Gg c p))=some (t,r):=hn;have TR:DH c p=some t/\Gg c p=r:=by
   cases h:DH c p with
   |none=>rw[h]at hn;cases hn
   |some t=>rw[h]at hn;cases hn;exact Zr
  have e1:Hr l=.tup [sl AO c,vb true]:=by unfold Hr RV;rw[e];rfl
  rw[e1]at hc;have y8:=RF hl e;have hi:=qC (CU.ptr [vs p]) c (fun x=>decide (x.path=p)) (fun x _=>uG x p) (by unfold B8 at y8;omega);rcases QE (p:=fun x:Tm=>decide (x.path=p)) c 0 with ⟨_,h2⟩|⟨i,x,h1,h2,h3⟩
  .unfold DH at TR;rw[h2]at TR;cases TR.1
  have hx:x=t:=by
   have:=TR.1
   unfold DH at this;rw[h3]at this;exact Cj this
  subst hx;rw[h1,EF]at hi;obtain⟨zf,hie⟩:=Aw.1 h2;have her:c.eraseIdx i=r:=by
   rw[<-TR.2];exact Ox (IV (Fm e)) zf (by rw[hie];exact HZ TR.1)
  have hlr:c.length-1=r.length:=by rw[<-her,List.length_eraseIdx_of_lt zf]
  have DJ:c≠[]:=fun h=>by subst h;simp at zf
  have AhF:c.length<=1073741824:=y8;refine Cz (No wg) [(13400,2000)] rfl C3 hm rfl Tryz.func311 Wk rfl (Nz rfl) Wk rfl (Xi .pure (Xi _ (Yi (hc) (Xi .pure (Xi _ (Yi (hi) (Yi ?_ ?_)))))))
  .intro h;omega
  intro _;have hg:(c.map AO)[((i:Nat):Int).toNat]?=some (AO x):=by rw[Cb,AG,h2];rfl
  refine Xi (AO x) (Yi (Yi (Nn i) hg) (Yi rfl (yN (Xi c.length (Xi 3 (Xi (c.map AO) (Yi rfl (Yi (ym c y8 DJ) (Yi (Ii i ch) (Xi (c.length-1) (Xi ((c.eraseIdx i).map AO) (Yi rfl (Yi (Acx c i zf) (yN (Yi Wk (yN ?_))))))))))))))));have e2:AV.tup [.agg (AO x),.msl 2000 (c.length-1),vb true]=.tup [.agg (AO x),.msl 2000 r.length,vb true]:=by rw[hlr]
  have e3:As [(2000,HO.arr 3 ((c.eraseIdx i).map AO))] Ag=As [(2000,.arr 3 (r.map AO))] Ag:=by rw[her]
  exact Xi _ (Yi (.refl _) (Yi e2 e3))
abbrev ia:Tt:=⟨[],[],[],[],[],[],[],[],[],[(24,9),(30,12)],[2,3,5,6]⟩
abbrev wq:AV:=.tup [sl AO (B2 a b p).1,vi (B2 a b p).2]
theorem Yf{p:ByteArray}(h:FN l p=some (t,r)):∃c,Dg l=some c/\t∈c/\r=Gg c p:=by
 unfold FN at h;cases e:Dg l with
 |none=>rw[e]at h;cases h
 |some c=>
  rw[e]at h;have h:(match DH c p with|none=>none|some t=>some (t,Gg c p))=some (t,r):=h;cases e2:DH c p with
  |none=>rw[e2]at h;cases h
  |some u=>rw[e2]at h;cases h;exact⟨c,rfl,FD e2,rfl⟩
theorem Yg{p:ByteArray}(hl:B8 l)(h:FN l p=some (t,r)):B8 t.set/\B8 r/\∀u∈r,B8 u.set:=by
 obtain⟨c,h1,h2,rfl⟩:=Yf h;have hs:=Fm h1;refine⟨Qm (hs.canon t h2),?_,fun u hu=>Qm (hs.canon u (Br.1 hu).1)⟩
 have:=RF hl h1
 have h3:(Gg c p).length<=c.length:=Bx _ _;unfold B8 at *;omega
theorem l7(h:Dg l=some c):c.length<=l.length:=by
 have h1:=Po l l.length (Am _);rw[Ce]at h1;have h2:c=(Ft l).filter fun t=>!Hd t:=by
  unfold Dg at h;split at h
  .cases h
  .exact(Cj h).symm
 have h3:c.length<=(Ft l).length:=by rw[h2];exact Bx _ _
 have h4:(Ft l).length=(DQ l).length:=by
  have:=(PK (IN (IK l)) (IN (IV (EM l)))).2 (Kl l)
  exact this.length_eq.symm
 omega
theorem Yh{p:ByteArray}(h:FN l p=some (t,r)):r.length<=l.length:=by
 obtain⟨c,h1,h2,rfl⟩:=Yf h;have h3:(Gg c p).length<=c.length:=Bx _ _
 have:=l7 h1
 omega
theorem ju(a b:Bz):B8 (Rj a b):=by
 unfold B8;have:=I4 (cP a b);omega
theorem Aco(ha:a.length<=500000000)(hb:b.length<=500000000)(hsa:∀t∈a,B8 t.set)(rd:∀t∈b,B8 t.set):PC 262 [sl AO a,sl AO b,vs p] (wq a b p):=by
 have y7:B8 a:=by unfold B8;omega
 have u9:B8 b:=by unfold B8;omega
 have er:∀{l:List Tm} {e:Int},B2 a b p=(l,e)->wq a b p=.tup [sl AO l,vi e]:=fun h=>by unfold wq;rw[h]
 have e0:CX (.tup [nzA,vi 1]) (.tup [.slice .none [],vi 1]):=CX.tup ⟨.nil,.refl _,trivial⟩;cases h1:FN a p with
 |none=>
  have hr:B2 a b p=([],1):=by unfold B2;rw[h1]
  have c1:=lX a p y7 hsa h1;cases h2:FN b p with
  |none=>
   have c2:=lX b p u9 rd h2;refine Ps ia Tryz.func262 rfl (Nz rfl) (Xi .pure (Xi _ (Yi (c1) (yN (Xi ⟨[(1,sl AO b),(2,vs p),(8,.ref 8 0),(9,nzA),(10,vb false)],[(8,.cells cX)],Ag⟩ (Yi ⟨Z5,Z1,Fh,Tv⟩ (Xi .pure (Xi _ (Yi (c2) (yN (Xi ⟨[(8,.ref 8 0),(9,nzA),(10,vb false),(11,.ref 11 0),(12,nzA),(13,vb false)],[(8,.cells cX),(11,.cells cX)],Ag⟩ (Yi ⟨Z6,Z2,Fh,Tv⟩ ?_))))))))))))
   exact e0.trans (.of_eq (er hr).symm)
  |some q2=>
   obtain⟨t2,r2⟩:=q2;have c2:=lY b p u9 rd h2;refine Ps ia Tryz.func262 rfl (Nz rfl) (Xi .pure (Xi _ (Yi (c1) (yN (Xi ⟨[(1,sl AO b),(2,vs p),(8,.ref 8 0),(9,nzA),(10,vb false)],[(8,.cells cX)],Ag⟩ (Yi ⟨Z5,Z1,Fh,Tv⟩ ?_))))))
   have z2:r2.length=(r2.map AO).length:=by rw[Lm]
   refine Xi (.gen [] 1) (Yi rfl (c2.imp ?_));intro v2 g2 q2;have q21:=q2.1;have q22:=q2.2;subst q21;subst q22;refine yN (Xi ⟨[(8,.ref 8 0),(9,nzA),(10,vb false),(11,.ref 11 0),(12,.msl 12600 r2.length),(13,vb true)],[(8,.cells cX),(11,.cells (AO t2)),(12600,.arr 3 (r2.map AO))],Ag⟩ (Yi ⟨Z6,Z3,Fh,Tv⟩ (Yi z2 ?_)));exact e0.trans (.of_eq (er hr).symm)
 |some q1=>
  obtain⟨t1,r1⟩:=q1;have c1:=lY a p y7 hsa h1;obtain⟨f1,f2,f3⟩:=Yg y7 h1;cases h2:FN b p with
  |none=>
   have hr:B2 a b p=([],1):=by unfold B2;rw[h1,h2]
   have c2:=lX b p u9 rd h2;refine Ps ia Tryz.func262 rfl (Nz rfl) (Xi (.gen [] 1) (Yi rfl (c1.imp ?_)));intro v1 g1 q1;have q11:=q1.1;have rY:=q1.2;subst q11;subst rY;refine yN (Xi ⟨[(1,sl AO b),(2,vs p),(8,.ref 8 0),(9,.msl 11900 r1.length),(10,vb true)],[(8,.cells (AO t1)),(11900,.arr 3 (r1.map AO))],Ag⟩ (Yi ⟨Z5,Z2,Fh,Tv⟩ ?_))
   have z1:r1.length=(r1.map AO).length:=by rw[Lm]
   refine Yi z1 (Xi .pure (Xi _ (Yi (c2) (yN (Xi ⟨[(8,.ref 8 0),(9,.slice (.id 11900 3) (r1.map AO)),(10,vb true),(11,.ref 11 0),(12,nzA),(13,vb false)],[(8,.cells (AO t1)),(11,.cells cX),(11900,.tok 3 (r1.map AO).length)],Ag⟩ (Yi ⟨Z6,Z3,Fh,Tv⟩ ?_))))))
   exact e0.trans (.of_eq (er hr).symm)
  |some q2=>
   obtain⟨t2,r2⟩:=q2;have c2:=lY b p u9 rd h2;obtain⟨g1,g2,g3⟩:=Yg u9 h2;refine Ps ia Tryz.func262 rfl (Nz rfl) (Xi (.gen [] 1) (Yi rfl (c1.imp ?_)));intro v1 g1 q1;have q11:=q1.1;have rY:=q1.2;subst q11;subst rY;refine yN (Xi ⟨[(1,sl AO b),(2,vs p),(8,.ref 8 0),(9,.msl 11900 r1.length),(10,vb true)],[(8,.cells (AO t1)),(11900,.arr 3 (r1.map AO))],Ag⟩ (Yi ⟨Z5,Z2,Fh,Tv⟩ ?_))
   have z1:r1.length=(r1.map AO).length:=by rw[Lm]
   have z2:r2.length=(r2.map AO).length:=by rw[Lm]
   refine Yi z1 (Xi (.gen [] 1) (Yi rfl (c2.imp ?_)));intro v2 g2 q2;have q21:=q2.1;have q22:=q2.2;subst q21;subst q22;refine yN (Xi ⟨[(8,.ref 8 0),(9,.slice (.id 11900 3) (r1.map AO)),(10,vb true),(11,.ref 11 0),(12,.msl 12600 r2.length),(13,vb true)],[(8,.cells (AO t1)),(11,.cells (AO t2)),(11900,.tok 3 (r1.map AO).length),(12600,.arr 3 (r2.map AO))],Ag⟩ (Yi ⟨Z6,Z4,Fh,Tv⟩ (Yi z2 (Xi ⟨[(8,.ref 8 0),(9,.slice (.id 11900 3) (r1.map AO)),(11,.ref 11 0),(12,.slice (.id 12600 3) (r2.map AO))],[(8,.cells (AO t1)),(11,.cells (AO t2)),(11900,.tok 3 (r1.map AO).length),(12600,.tok 3 (r2.map AO).length)],Ag⟩ (Yi ⟨Z4,Z4,Fh,Tv⟩ ?_)))))
   have l1:=Yh h1;have l2:=Yh h2;have b1:Cr 3 (r2.map AO)/\(r1.map AO).length=(r1.map AO).length/\((r1.map AO).length+(r2.map AO).length)*48<=140737488355328/\(r1.map AO).length+(r2.map AO).length<=9223372036854775807:=
    ⟨D5 (enc:=AO) (n:=3) (fun _=>rfl) r2,rfl,by rw[Lm,Lm];omega,by rw[Lm,Lm];omega⟩
   refine Yi b1 (Yi (Nz rfl) (yN (Xi _ (Yi (Acs t1 t2 f1 g1) ?_))));have b2:Cr 3 [AO (DD t1 t2)]/\(r1.map AO++r2.map AO).length=(r1.map AO).length+(r2.map AO).length/\((r1.map AO++r2.map AO).length+[AO (DD t1 t2)].length)*48<=140737488355328/\(r1.map AO++r2.map AO).length+[AO (DD t1 t2)].length<=9223372036854775807:=
    ⟨⟨rfl,trivial⟩,by rw[Ac],by rw[Ac,Lm,Lm,Be];omega,by rw[Ac,Lm,Lm,Be];omega⟩
   refine Yi b2 ?_;have u6:=c29 (r1++r2++[DD t1 t2]) (by unfold B8;simp only[Ac,Be];omega) (fun u hu=>by
    rcases AN.1 hu with hu|hu
    .rcases AN.1 hu with hu|hu
     .exact f3 u hu
     .exact g3 u hu
    .rw[Ar.1 hu];exact ju _ _)
   have e1:sl AO (r1++r2++[DD t1 t2])=.slice .none (r1.map AO++r2.map AO++[AO (DD t1 t2)]):=by simp
   have hc1:PC 312 [.slice .none (r1.map AO++r2.map AO++[AO (DD t1 t2)])] (Hr (r1++r2++[DD t1 t2])):=e1▸u6;cases xB:Dg (r1++r2++[DD t1 t2])with
   |none=>
    have hr:B2 a b p=([],8):=by unfold B2;rw[h1,h2];dsimp only;rw[xB]
    have ec:Hr (r1++r2++[DD t1 t2])=.tup [sl AO [],vb false]:=by unfold Hr RV;rw[xB];rfl
    have hc:PC 312 [.slice .none (r1.map AO++r2.map AO++[AO (DD t1 t2)])] (.tup [sl AO [],vb false]):=ec▸hc1;have e8:CX (.tup [nzA,vi 8]) (.tup [.slice .none [],vi 8]):=CX.tup ⟨.nil,.refl _,trivial⟩;refine Xi _ (Yi (hc) (Yi Wk (Xi ⟨[(14,sl AO []),(15,vb false)],[],Ag⟩ (Yi ⟨Z2,Tv,Fh,Tv⟩ ?_))))
    exact e8.trans (.of_eq (er hr).symm)
   |some o=>
    have hr:B2 a b p=(o,0):=by unfold B2;rw[h1,h2];dsimp only;rw[xB]
    have ec:Hr (r1++r2++[DD t1 t2])=.tup [sl AO o,vb true]:=by unfold Hr RV;rw[xB];rfl
    have hc:PC 312 [.slice .none (r1.map AO++r2.map AO++[AO (DD t1 t2)])] (.tup [sl AO o,vb true]):=ec▸hc1;refine Xi _ (Yi (hc) (Yi Wk (Xi ⟨[(14,sl AO o),(15,vb true)],[],Ag⟩ (Yi ⟨Z2,Tv,Fh,Tv⟩ ?_))))
    exact .of_eq (er hr).symm
def gm(h s:Nat->HO):Nat->Bool
 |0=>true
 |n+1=>(match h (1000+n)with |.free=>true |_=>(match s (1000+n)with |.free=>false |_=>true))&&gm h s n
theorem UN{h s:Nat->HO}:∀{n:Nat},gm h s n=true->∀j,j<n->h (1000+j)≠.free->s (1000+j)≠.free
 |n+1,hd,j,hj,hn=>by
  simp only[gm,Af]at hd;rcases CR j n with h1|h1
  .exact UN hd.2 j h1 hn
  .have:j=n:=by omega
   subst this
   have:=hd.1
   intro e;split at this
   .rename_i q;exact hn q
   .rw[e]at this;cases this
theorem BV{h s:Nat->HO}(hd:gm h s 1000=true):∀j,1000<=j->j<2000->h j≠.free->s j≠.free:=fun j h1 h2=>by
 have:=UN hd (j-1000) ch
 rw[show 1000+(j-1000)=j by omega]at this;exact this
abbrev tV:List AV:=[vs ⟨#[]⟩,vi 0,vi 0,vi 0,nzA,vs ⟨#[]⟩,vs ⟨#[]⟩,vs ⟨#[]⟩,vb false]
abbrev X1:Option Rl->AV
 |some r=>.tup [.agg (AC r),vb true]
 |none=>.tup [.agg tV,vb false]
theorem mA{α:Type}{p:α->Bool}{l:List α}(hi:i<l.length)(hb:∀j (hj:j<l.length),j<i->p l[j]=false)(h:p l[i]=true):l.find? p=some l[i]:=by
 rw[List.find?_eq_some_iff_getElem];exact⟨h,i,hi,rfl,fun j hj=>by rw[hb j ch hj];rfl⟩
theorem rW(v:Ver):0<=plc v/\plc v<1000000:=by
 unfold plc;cases h:Ci v with
 |true=>exact KL h
 |false=>simp
abbrev t6(t:List Tm):Prop:=t.length<=500000000/\∀u∈t,B8 u.set
theorem uA:PC 198 [vs s] (vb false):=by
 refine Ps Ej Tryz.func198 rfl (Nz rfl) (Yi ?_ ?_)
 .intro h;exact absurd rfl (show s≠s from h)
 .intro _;exact .refl _
theorem yi(z:Int):PC 265 [vi z] (vb false):=by
 refine Ps Ej Tryz.func265 rfl (Nz rfl) (Yi ?_ ?_)
 .intro h;exact absurd rfl (show z≠z from h)
 .intro _;exact .refl _
theorem Ace(a b:ByteArray):PC 145 [vs a,vs b] (vi (Lr a b)):=by
 refine Ps Ej Tryz.func145 rfl (Nz rfl) (Xi .pure (Xi _ (Yi (uA a) (Xi .pure (Xi _ (Yi (uA b) (Yi ?_ ?_)))))))
 .intro h;exact .of_eq (Aa vi (show(-1:Int)=Lr a b by unfold Lr;rw[Ap (by rw[Gs];exact h)]))
 .intro h;refine Yi ?_ ?_
  .intro h2;exact .of_eq (Aa vi (show(1:Int)=Lr a b by unfold Lr;rw[Aj (by rw[Gs];exact h),Ap (by rw[Gs];exact h2)]))
  .intro h2;exact .of_eq (Aa vi (show(0:Int)=Lr a b by unfold Lr;rw[Aj (by rw[Gs];exact h),Aj (by rw[Gs];exact h2)]))
theorem uB(a b:Int):PC 199 [vi a,vi b] (vi (He a b)):=by
 refine Ps Ej Tryz.func199 rfl (Nz rfl) (Xi .pure (Xi _ (Yi (yi a) (Xi .pure (Xi _ (Yi (yi b) (Yi ?_ ?_)))))))
 .intro h;exact .of_eq (Aa vi (show(-1:Int)=He a b by unfold He;rw[Ap h]))
 .intro h;refine Yi ?_ ?_
  .intro h2;exact .of_eq (Aa vi (show(1:Int)=He a b by unfold He;rw[Aj h,Ap h2]))
  .intro h2;exact .of_eq (Aa vi (show(0:Int)=He a b by unfold He;rw[Aj h,Aj h2]))
theorem Acd(a b:Int):PC 144 [.slice .none [[vi a],[vi b]]] (vi (if a≠0 then a else b)):=by
 refine Ps Ej Tryz.func144 rfl (Nz rfl) (Xi {i:Nat // i<=2/\(0<i->a=0)/\(1<i->b=0)} (Xi (fun i=>⟨[(3,vi 0),(6,.slice .none [[vi a],[vi b]]),(7,vi 2),(8,vi i.1)],[],Ag⟩) (Xi (fun i=>2-i.1) (Yi (Xi ⟨0,by omega,by omega,by omega⟩ ?_) ?_))))
 .exact⟨Z4,Tv,Fh,Tv⟩
 intro⟨i,h1,h2,h3⟩;refine Yi ?_ ?_
 .intro h;have h:(i:Int)<2:=h
  match i,h1,h2,h3,h with
  |0,h1,h2,h3,h=>
   refine Xi [vi a] (Yi (Yi (Bs _) rfl) (Yi rfl (Yi ?_ ?_)))
   .intro h4;exact .of_eq (Aa vi (Ap h4).symm)
   .intro h4;refine Yi (Ii 0 ch) (Xi ⟨1,by omega,fun _=>by omega,fun q=>absurd q Cl⟩ ?_);exact⟨by show 2-1<2-0;decide,Z4,Tv,Fh,Tv⟩
  |1,h1,h2,h3,h=>
   have ha:=h2 Cl;refine Xi [vi b] (Yi (Yi (by show(0:Int)<=1;decide) rfl) (Yi rfl (Yi ?_ ?_)))
   .intro h4;exact .of_eq (Aa vi (Aj ch).symm)
   .intro h4;refine Yi (Ii 1 ch) (Xi ⟨2,by omega,fun _=>ha,fun q=>by omega⟩ ?_);exact⟨by show 2-2<2-1;decide,Z4,Tv,Fh,Tv⟩
  |i+2,h1,h2,h3,h=>omega
 .intro h;have h:¬(i:Int)<2:=h;have ha:=h2 ch;have hb:=h3 ch;exact .of_eq (Aa vi (show(0:Int)=if a≠0 then a else b by rw[Aj ch,hb]))
theorem UG(a b:Ver)(i:Nat)(hi:i<3)(h:∀j,j<i->He (part a j) (part b j)=0)(hn:He (part a i) (part b i)≠0):Qb a b=He (part a i) (part b i):=by
 unfold Qb
 match i,hi,h,hn with
 |0,_,_,hn=>exact Ap hn
 |1,_,h,hn=>
  have h0:He a.a b.a=0:=h 0 Cl;rw[Aj ch];exact Ap hn
 |2,_,h,hn=>
  have h0:He a.a b.a=0:=h 0 Cl;have h1:He a.b b.b=0:=h 1 Cl;rw[Aj ch,Aj ch];rfl
theorem mf(a b:Ver)(h:∀j,j<3->He (part a j) (part b j)=0):Qb a b=0:=by
 unfold Qb;have h0:He a.a b.a=0:=h 0 Cl;have h1:He a.b b.b=0:=h 1 Cl;have h2:He a.c b.c=0:=h 2 Cl;rw[Aj ch,Aj ch,h2]
theorem Acf(a b:Ver):PC 146 [.agg (DE a),.agg (DE b)] (vi (Qb a b)):=by
 refine Ps Ej Tryz.func146 rfl (Nz rfl) (yN (Xi _ (Yi (uy a) (yN (Xi _ (Yi (uy b) (Yi (Nz rfl) (yN (Yi Wk (Xi {i:Nat // i<=3/\∀j,j<i->He (part a j) (part b j)=0} (Xi (fun i=>⟨[(5,.ref 5 0),(6,.ref 6 0),(13,vi i.1)],[(5,.cells (DE a)),(6,.cells (DE b))],Ag⟩) (Xi (fun i=>3-i.1) (Yi (Xi ⟨0,by omega,fun j h=>by omega⟩ ?_) ?_)))))))))))))
 .exact⟨Z3,Z2,Fh,Tv⟩
 intro⟨i,h1,h2⟩;refine Yi ?_ ?_
 .intro h;have h:(i:Int)<3:=h;have next:He (part a i) (part b i)=0->∀j,j<i+1->He (part a j) (part b j)=0:=fun hz j hj=>by
   rcases CR j i with q|q
   .exact h2 j q
   .have:j=i:=by omega
    subst this;exact hz
  match i,h1,h2,h,next with
  |0,h1,h2,h,next=>
   refine Yi ⟨by show(0:Int)<=0;decide,by show(0:Int)<3;decide⟩ ?_;refine Yi ⟨by show(0:Int)<=0;decide,by show(0:Int)<3;decide⟩ ?_;refine Xi _ (Yi (uB (part a 0) (part b 0)) (Yi Wk (Yi ?_ ?_)))
   .intro h4;exact .of_eq (Aa vi (UG a b 0 Cl h2 h4).symm)
   .intro h4;refine Yi (Ii 0 ch) (Xi ⟨1,by omega,next (GR h4)⟩ ?_)
    exact⟨by show 3-1<3-0;decide,Z3,Z2,Fh,Tv⟩
  |1,h1,h2,h,next=>
   refine Yi ⟨by show(0:Int)<=1;decide,by show(1:Int)<3;decide⟩ ?_;refine Yi ⟨by show(0:Int)<=1;decide,by show(1:Int)<3;decide⟩ ?_;refine Xi _ (Yi (uB (part a 1) (part b 1)) (Yi Wk (Yi ?_ ?_)))
   .intro h4;exact .of_eq (Aa vi (UG a b 1 Cl h2 h4).symm)
   .intro h4;refine Yi (Ii 1 ch) (Xi ⟨2,by omega,next (GR h4)⟩ ?_)
    exact⟨by show 3-2<3-1;decide,Z3,Z2,Fh,Tv⟩
  |2,h1,h2,h,next=>
   refine Yi ⟨by show(0:Int)<=2;decide,by show(2:Int)<3;decide⟩ ?_;refine Yi ⟨by show(0:Int)<=2;decide,by show(2:Int)<3;decide⟩ ?_;refine Xi _ (Yi (uB (part a 2) (part b 2)) (Yi Wk (Yi ?_ ?_)))
   .intro h4;exact .of_eq (Aa vi (UG a b 2 Cl h2 h4).symm)
   .intro h4;have h4:¬He (part a 2) (part b 2)≠0:=h4;refine Yi (Ii 2 ch) (Xi ⟨3,by omega,next (GR h4)⟩ ?_)
    exact⟨by show 3-3<3-2;decide,Z3,Z2,Fh,Tv⟩
  |i+3,h1,h2,h,next=>omega
 .intro h;have h:¬(i:Int)<3:=h;exact .of_eq (Aa vi (mf a b fun j hj=>h2 j ch).symm)
theorem yc(a b:Rl):PC 85 [.agg (AC a),.agg (AC b)] (vi (CY a b)):=by
 refine Ps Ej Tryz.func85 rfl (Nz rfl) (Xi _ (Yi (Ace a.path b.path) (Yi (Nz rfl) (yN (Xi _ (Yi (Acf a.ver b.ver) (Xi _ (Yi (Acd (Lr a.path b.path) (Qb a.ver b.ver)) (Yi Wk ?_)))))))));exact .refl _
abbrev Gq:Prop:=s.size<=1073741824
abbrev JH(q:Rq):Prop:=B8 q.set/\Gq q.path
abbrev Ey(r:Rl):Prop:=Gq r.path/\∀q∈r.reqs,JH q
abbrev gL(nm:ByteArray->ByteArray)(p:ByteArray):AV:=match CD p with
 |some m=>.tup [vs (nm p),vi m,vi 0]
 |none=>.tup [vs ⟨#[]⟩,vi 0,vi 4]
abbrev Wx(nm:ByteArray->ByteArray):Prop:=∀p:ByteArray,Gq p->PC 167 [vs p] (gL nm p)
theorem Wx.none(h:Wx nm){p:ByteArray}(hp:Gq p)(e:CD p=.none):PC 167 [vs p] (.tup [vs ⟨#[]⟩,vi 0,vi 4]):=by
 have:=h p hp;unfold gL at this;rw[e]at this;exact this
theorem Wx.some(h:Wx nm){p:ByteArray}{m:Int}(hp:Gq p)(e:CD p=.some m):PC 167 [vs p] (.tup [vs (nm p),vi m,vi 0]):=by
 have:=h p hp;unfold gL at this;rw[e]at this;exact this
theorem yd(hL:Wx nm)(q:Rq)(hq:B8 q.set)(hp:Gq q.path):PC 107 [.agg (AW q),.v (.pointer none)] (vi (Jg none q)):=by
 cases SP:CD q.path with
 |none=>
  have e:(4:Int)=Jg none q:=by unfold Jg;rw[SP];rfl
  have hl:=hL.none hp SP;refine Ps Ej Tryz.func107 rfl (Nz rfl) (Xi .pure (Xi _ (Yi (hl) (Yi ?_ ?_))))
  .intro _;exact .of_eq (Aa vi e)
  .intro h;exact absurd (show(4:Int)≠0 by decide) h
 |some m=>
  have er:Jg none q=if(q.set.isEmpty||!decide (q.set=canon q.set)||false)=true then 1 else 0:=by unfold Jg;rw[SP];rfl
  have hl:=hL.some hp SP;have hc:=YL q.set hq;have he:=qB q.set (canon q.set) hq;have WI:∀{n:Int},n=(q.set.map AE).length->n=0->q.set.isEmpty=true:=fun h1 h2=>by
   rw[Lm]at h1;rw[HD];exact AQ ch
  have ne:¬((q.set.map AE).length:Int)=0->q.set.isEmpty=false:=fun h=>by
   cases hqs:q.set with
   |nil=>rw[hqs]at h;exact absurd rfl h
   |cons a l=>rfl
  rcases Bt (decide (q.set=canon q.set))with h2|h2
  .rw[h2]at he;refine Ps (KM []) Tryz.func107 rfl (Nz rfl) (Xi .pure (Xi _ (Yi (hl) (Yi ?_ ?_))))
   .intro h;exact absurd rfl h
   intro _;refine Yi ?_ ?_
   .intro h;have e:(1:Int)=Jg none q:=by rw[er,WI rfl h];rfl
    refine Yi Wk ?_;exact .of_eq (Aa vi e)
   intro h;have hn:=ne h;refine Xi _ (Yi (hc) (Xi _ (Yi (he) (Yi Wk ?_))));have e:(0:Int)=Jg none q:=by rw[er,hn,h2];rfl
   exact .of_eq (Aa vi e)
  .rw[h2]at he;refine Ps (KM []) Tryz.func107 rfl (Nz rfl) (Xi .pure (Xi _ (Yi (hl) (Yi ?_ ?_))))
   .intro h;exact absurd rfl h
   intro _;refine Yi ?_ ?_
   .intro h;have e:(1:Int)=Jg none q:=by rw[er,WI rfl h];rfl
    refine Yi Wk ?_;exact .of_eq (Aa vi e)
   intro h;have hn:=ne h;refine Xi _ (Yi (hc) (Xi _ (Yi (he) (Yi Wk ?_))));have e:(1:Int)=Jg none q:=by rw[er,hn,h2];rfl
   exact .of_eq (Aa vi e)
theorem ye(hL:Wx nm)(q b:Rq)(hq:B8 q.set)(hp:Gq q.path):PC 107 [.agg (AW q),.cptr (AW b)] (vi (Jg (some b.path) q)):=by
 cases SP:CD q.path with
 |none=>
  have e:(4:Int)=Jg (some b.path) q:=by unfold Jg;rw[SP];rfl
  have hl:=hL.none hp SP;refine Ps Ej Tryz.func107 rfl (Nz rfl) (Xi .pure (Xi _ (Yi (hl) (Yi ?_ ?_))))
  .intro _;exact .of_eq (Aa vi e)
  .intro h;exact absurd (show(4:Int)≠0 by decide) h
 |some m=>
  have er:Jg (some b.path) q=if(q.set.isEmpty||!decide (q.set=canon q.set)||!Ed b.path q.path)=true then 1 else 0:=by unfold Jg;rw[SP];rfl
  have hl:=hL.some hp SP;have hc:=YL q.set hq;have he:=qB q.set (canon q.set) hq;have WI:∀{n:Int},n=(q.set.map AE).length->n=0->q.set.isEmpty=true:=fun h1 h2=>by
   rw[Lm]at h1;rw[HD];exact AQ ch
  have ne:¬((q.set.map AE).length:Int)=0->q.set.isEmpty=false:=fun h=>by
   cases hqs:q.set with
   |nil=>rw[hqs]at h;exact absurd rfl h
   |cons a l=>rfl
  rcases Bt (decide (q.set=canon q.set))with h2|h2
  .rw[h2]at he;refine Ps (KM []) Tryz.func107 rfl (Nz rfl) (Xi .pure (Xi _ (Yi (hl) (Yi ?_ ?_))))
   .intro h;exact absurd rfl h
   intro _;refine Yi ?_ ?_
   .intro h;have e:(1:Int)=Jg (some b.path) q:=by rw[er,WI rfl h];rfl
    refine Yi Wk ?_;exact .of_eq (Aa vi e)
   intro h;have hn:=ne h;refine Xi _ (Yi (hc) (Xi _ (Yi (he) (Yi ?_ ?_))))
   .intro h3;refine Yi Wk ?_;have e:(1:Int)=Jg (some b.path) q:=by rw[er,hn,h2,Gs,h3];rfl
    exact .of_eq (Aa vi e)
   .intro h3;have h3:Op.bytesLess b.path.toList q.path.toList=true:=by simpa using h3
    refine Yi Wk ?_;have e:(0:Int)=Jg (some b.path) q:=by rw[er,hn,h2,Gs,h3];rfl
    exact .of_eq (Aa vi e)
  .rw[h2]at he;refine Ps (KM []) Tryz.func107 rfl (Nz rfl) (Xi .pure (Xi _ (Yi (hl) (Yi ?_ ?_))))
   .intro h;exact absurd rfl h
   intro _;refine Yi ?_ ?_
   .intro h;have e:(1:Int)=Jg (some b.path) q:=by rw[er,WI rfl h];rfl
    refine Yi Wk ?_;exact .of_eq (Aa vi e)
   intro h;have hn:=ne h;refine Xi _ (Yi (hc) (Xi _ (Yi (he) (Yi Wk ?_))));have e:(1:Int)=Jg (some b.path) q:=by rw[er,hn,h2];rfl
   exact .of_eq (Aa vi e)
abbrev NX(l:List Rq)(k:Nat):List AV:=((l.map AW)[k]?).getD []
abbrev x8(l:List Rq):Nat->AV
 |0=>.v (.pointer none)
 |k+1=>.cptr (NX l k)
abbrev Ur(l:List Rq):Nat->Option ByteArray
 |0=>none
 |k+1=>(l[k]?).map (·.path)
theorem OZ{l:List Rq}(h:k<l.length):NX l k=AW l[k]:=by
 unfold NX;rw[AG,Ge h];rfl
theorem Us{l:List Rq}(h:k<l.length):Ur l (k+1)=some l[k].path:=by
 show(l[k]?).map _=_;rw[Ge h];rfl
theorem c65(hL:Wx nm)(l:List Rq)(hs:∀q∈l,JH q):PC 64 [sl AW l] (vi (BH l)):=by
 refine Ps (KM []) Tryz.func64 rfl (Nz rfl) (Yi ?_ ?_)
 .intro h;exact .of_eq (Aa vi (show(7:Int)=BH l by unfold BH;rw[Ap (by rw[Lm]at h;omega)]))
 intro h;have hl:l.length<=16:=by rw[Lm]at h;omega
 have Ws:BH l=Gt none l:=by unfold BH;rw[Aj ch]
 refine Xi {i:Nat // i<=l.length/\Gt none l=Gt (Ur l i) (l.drop i)} (Xi (fun i=>⟨[(0,sl AW l),(3,x8 l i.1),(10,sl AW l),(11,vi (l.map AW).length),(12,vi i.1)],[],Ag⟩) (Xi (fun i=>l.length-i.1) (Yi (Xi ⟨0,AB _,rfl⟩ ?_) ?_)))
 .exact⟨Z5,Tv,Fh,Tv⟩
 intro⟨i,h1,h2⟩;refine Yi ?_ ?_
 .intro h;have h:i<l.length:=by simpa using h
  have hg:l[i]?=some l[i]:=Ge h;have hd:l.drop i=l[i]::l.drop (i+1):=AI h;have hq:=hs l[i] (Ao h);have hc:PC 107 [.agg (AW l[i]),x8 l i] (vi (Jg (Ur l i) l[i])):=by
   cases i with
   |zero=>exact yd hL _ hq.1 hq.2
   |succ k=>
    rw[Us (by omega:k<l.length)];show PC 107 [_,.cptr (NX l k)] _;rw[OZ (by omega:k<l.length)];exact ye hL _ _ hq.1 hq.2
  have Lt:Gt none l=if Jg (Ur l i) l[i]=0 then Gt (some l[i].path) (l.drop (i+1))else Jg (Ur l i) l[i]:=by rw[h2,hd];rfl
  match i,h1,h2,h,hg,hd,hc,Lt with
  |0,h1,h2,h,hg,hd,hc,Lt=>
   refine Xi (AW l[0]) (Yi (Yi (by show(0:Int)<=((0:Nat):Int);omega) (by simp[hg])) (Yi rfl ?_));refine Yi (Nz rfl) (Yi (Nz rfl) (yN (Xi .pure (Xi _ (Yi (hc) (Yi ?_ ?_))))))
   .intro h4;exact .of_eq (Aa vi (show Jg (Ur l (0)) l[0]=BH l by rw[Ws,Lt,Aj h4]))
   .intro h4;refine Xi (AW l[0]) (Yi (Yi (by show(0:Int)<=((0:Nat):Int);omega) (by simp[hg])) (Yi rfl ?_));refine Yi (by show Bc (((0:Nat):Int)+1);unfold Bc;omega) ?_;refine Xi ⟨0+1,by omega,by rw[Lt,Ap (GR h4),Us h]⟩ ?_;have e1:AV.cptr (AW l[0])=.cptr (NX l (0)):=by rw[OZ h]
    exact⟨by show l.length-(0+1)<l.length-(0);omega,⟨Zr,⟨e1,rfl⟩,Zr,Zr,Zr,Tv⟩,Tv,Fh,Tv⟩
  |k+1,h1,h2,h,hg,hd,hc,Lt=>
   refine Xi (AW l[k+1]) (Yi (Yi (by show(0:Int)<=((k+1:Nat):Int);omega) (by simp[hg])) (Yi rfl ?_));refine Yi (Nz rfl) (Yi (Nz rfl) (yN (Xi .pure (Xi _ (Yi (hc) (Yi ?_ ?_))))))
   .intro h4;exact .of_eq (Aa vi (show Jg (Ur l (k+1)) l[k+1]=BH l by rw[Ws,Lt,Aj h4]))
   .intro h4;refine Xi (AW l[k+1]) (Yi (Yi (by show(0:Int)<=((k+1:Nat):Int);omega) (by simp[hg])) (Yi rfl ?_));refine Yi (by show Bc (((k+1:Nat):Int)+1);unfold Bc;omega) ?_;refine Xi ⟨k+1+1,by omega,by rw[Lt,Ap (GR h4),Us h]⟩ ?_;have e1:AV.cptr (AW l[k+1])=.cptr (NX l (k+1)):=by rw[OZ h]
    exact⟨by show l.length-(k+1+1)<l.length-(k+1);omega,⟨Zr,⟨e1,rfl⟩,Zr,Zr,Zr,Tv⟩,Tv,Fh,Tv⟩
 .intro h;have h:¬i<l.length:=by simpa using h
  have e:(0:Int)=BH l:=by rw[Ws,h2,Wy ch];rfl
  exact .of_eq (Aa vi e)
abbrev mn(r:Rl):Nat->ByteArray
 |0=>r.arch
 |1=>r.ifc
 |_=>r.cert
theorem uL{r:Rl}(h:∀j,j<3->E9 (mn r j)=true):(E9 r.arch&&E9 r.ifc&&E9 r.cert)=true:=by
 have h0:E9 r.arch=true:=h 0 Cl;have h1:E9 r.ifc=true:=h 1 Cl;have h2:E9 r.cert=true:=h 2 Cl;rw[h0,h1,h2];rfl
theorem dJ{r:Rl}(hi:i<3)(h:E9 (mn r i)=false):(E9 r.arch&&E9 r.ifc&&E9 r.cert)=false:=by
 match i,hi,h with
 |0,_,h=>have h:E9 r.arch=false:=h;rw[h];rfl
 |1,_,h=>have h:E9 r.ifc=false:=h;rw[h,Cp];rfl
 |2,_,h=>have h:E9 r.cert=false:=h;rw[h,Cp]
theorem Ac3(hL:Wx nm)(r:Rl)(hr:Ey r):PC 147 [.agg (AC r)] (vi (Dq r)):=by
 cases SP:CD r.path with
 |none=>
  have e:(4:Int)=Dq r:=by unfold Dq;rw[SP]
  have hl:=hL.none hr.1 SP;refine Ps Ej Tryz.func147 rfl (Nz rfl) (Xi .pure (Xi _ (Yi (hl) (Yi ?_ ?_))))
  .intro _;exact .of_eq (Aa vi e)
  .intro h;exact absurd (show(4:Int)≠0 by decide) h
 |some m=>
  have er:Dq r=if(!Ci r.ver||!decide (r.ver.a=m))=true then 2 else if BH r.reqs≠0 then BH r.reqs else if(E9 r.arch&&E9 r.ifc&&E9 r.cert)=true then 0 else 1:=by unfold Dq;rw[SP]
  have hl:=hL.some hr.1 SP;have hv:=yb r.ver;have hc:=c65 hL r.reqs hr.2;rcases Bt (Ci r.ver)with h2|h2
  .rw[h2]at hv;refine Ps (KM []) Tryz.func147 rfl (Nz rfl) (Xi .pure (Xi _ (Yi (hl) (Yi ?_ ?_))))
   .intro h;exact absurd rfl h
   intro _;refine yN (Xi .pure (Xi _ (Yi (hv) (Yi ?_ ?_))))
   .intro h;have e:(2:Int)=Dq r:=by rw[er,h2,Ae h];rfl
    exact .of_eq (Aa vi e)
   intro h;have h3:r.ver.a=m:=GR h;have yy:Dq r=if BH r.reqs≠0 then BH r.reqs else if(E9 r.arch&&E9 r.ifc&&E9 r.cert)=true then 0 else 1:=by rw[er,h2,Ak h3];rfl
   refine Xi .pure (Xi _ (Yi (hc) (Yi ?_ ?_)))
   .intro h4;exact .of_eq (Aa vi (show BH r.reqs=Dq r by rw[yy,Ap h4]))
   intro h4;have er3:Dq r=if(E9 r.arch&&E9 r.ifc&&E9 r.cert)=true then 0 else 1:=by rw[yy,Aj h4]
   refine Xi {i:Nat // i<=3/\∀j,j<i->E9 (mn r j)=true} (Xi (fun i=>⟨[(41,.slice (.id 41 1) [[vs r.arch],[vs r.ifc],[vs r.cert]]),(42,vi 3),(43,vi i.1)],[(41,.tok 1 3)],Ag⟩) (Xi (fun i=>3-i.1) (Yi (Xi ⟨0,by omega,fun j h=>by omega⟩ ?_) ?_)))
   .exact⟨Z3,Z1,Fh,Tv⟩
   intro⟨i,i1,i2⟩;refine Yi ?_ ?_
   .intro h;have h:(i:Int)<3:=h;have next:E9 (mn r i)=true->∀j,j<i+1->E9 (mn r j)=true:=fun hz j hj=>by
     rcases CR j i with q|q
     .exact i2 j q
     .have:j=i:=by omega
      subst this;exact hz
    match i,i1,i2,h,next with
    |0,i1,i2,h,next=>
     refine Xi [vs r.arch] (Yi (Yi (by show(0:Int)<=0;decide) rfl) (Yi rfl (Yi ?_ ?_)))
     .intro h5;refine Yi ?_ ?_
      .intro h6;have e:(1:Int)=Dq r:=by rw[er3,dJ (i:=0) Cl (show E9 r.arch=false by unfold E9;rw[Ae ch,Ae ch];rfl)];rfl
       exact .of_eq (Aa vi e)
      .intro h6;refine Yi (Ii 0 ch) (Xi ⟨1,by omega,next (show E9 r.arch=true by unfold E9;rw[Ak (by omega:r.arch.size=32),Bool.or_true])⟩ ?_)
       exact⟨by show 3-1<3-0;decide,Z3,Z1,Fh,Tv⟩
     .intro h5;refine Yi (Ii 0 ch) (Xi ⟨1,by omega,next (show E9 r.arch=true by unfold E9;rw[Ak (by omega:r.arch.size=0)];rfl)⟩ ?_)
      exact⟨by show 3-1<3-0;decide,Z3,Z1,Fh,Tv⟩
    |1,i1,i2,h,next=>
     refine Xi [vs r.ifc] (Yi (Yi (by show(0:Int)<=1;decide) rfl) (Yi rfl (Yi ?_ ?_)))
     .intro h5;have h5:((r.ifc.size:Nat):Int)≠0:=h5;refine Yi ?_ ?_
      .intro h6;have h6:((r.ifc.size:Nat):Int)≠32:=h6;have e:(1:Int)=Dq r:=by rw[er3,dJ (i:=1) Cl (show E9 r.ifc=false by unfold E9;rw[Ae ch,Ae ch];rfl)];rfl
       exact .of_eq (Aa vi e)
      .intro h6;have h6:¬((r.ifc.size:Nat):Int)≠32:=h6;refine Yi (Ii 1 ch) (Xi ⟨2,by omega,next (show E9 r.ifc=true by unfold E9;rw[Ak (by omega:r.ifc.size=32),Bool.or_true])⟩ ?_)
       exact⟨by show 3-2<3-1;decide,Z3,Z1,Fh,Tv⟩
     .intro h5;have h5:¬((r.ifc.size:Nat):Int)≠0:=h5;refine Yi (Ii 1 ch) (Xi ⟨2,by omega,next (show E9 r.ifc=true by unfold E9;rw[Ak (by omega:r.ifc.size=0)];rfl)⟩ ?_)
      exact⟨by show 3-2<3-1;decide,Z3,Z1,Fh,Tv⟩
    |2,i1,i2,h,next=>
     refine Xi [vs r.cert] (Yi (Yi (by show(0:Int)<=2;decide) rfl) (Yi rfl (Yi ?_ ?_)))
     .intro h5;have h5:((r.cert.size:Nat):Int)≠0:=h5;refine Yi ?_ ?_
      .intro h6;have h6:((r.cert.size:Nat):Int)≠32:=h6;have e:(1:Int)=Dq r:=by rw[er3,dJ (i:=2) Cl (show E9 r.cert=false by unfold E9;rw[Ae ch,Ae ch];rfl)];rfl
       exact .of_eq (Aa vi e)
      .intro h6;have h6:¬((r.cert.size:Nat):Int)≠32:=h6;refine Yi (Ii 2 ch) (Xi ⟨3,by omega,next (show E9 r.cert=true by unfold E9;rw[Ak (by omega:r.cert.size=32),Bool.or_true])⟩ ?_)
       exact⟨by show 3-3<3-2;decide,Z3,Z1,Fh,Tv⟩
     .intro h5;have h5:¬((r.cert.size:Nat):Int)≠0:=h5;refine Yi (Ii 2 ch) (Xi ⟨3,by omega,next (show E9 r.cert=true by unfold E9;rw[Ak (by omega:r.cert.size=0)];rfl)⟩ ?_)
      exact⟨by show 3-3<3-2;decide,Z3,Z1,Fh,Tv⟩
    |i+3,i1,i2,h,next=>omega
   .intro h;have h:¬(i:Int)<3:=h;have e:(0:Int)=Dq r:=by rw[er3,Ap (uL fun j hj=>i2 j ch)]
    exact .of_eq (Aa vi e)
  .rw[h2]at hv;have e:(2:Int)=Dq r:=by rw[er,h2];rfl
   refine Ps (KM []) Tryz.func147 rfl (Nz rfl) (Xi .pure (Xi _ (Yi (hl) (Yi ?_ ?_))))
   .intro h;exact absurd rfl h
   intro _;refine yN (Xi .pure (Xi _ (Yi (hv) ?_)));exact .of_eq (Aa vi e)
theorem vR{a b:Rl}(h:a.path=b.path/\a.ver.a=b.ver.a/\a.ver.b=b.ver.b/\a.ver.c=b.ver.c):Fa a=Fa b:=by
 unfold Fa;obtain⟨h1,h2,h3,h4⟩:=h
 have:a.ver=b.ver:=by
  cases ha:a.ver;cases hb:b.ver;rw[ha,hb]at h2 h3 h4;simp_all
 rw[h1,this]
theorem jQ{a b:Rl}(h:Fa a=Fa b):a.path=b.path/\a.ver.a=b.ver.a/\a.ver.b=b.ver.b/\a.ver.c=b.ver.c:=by
 unfold Fa at h
 injection h with h1 h2
 exact⟨h1,by rw[h2],by rw[h2],by rw[h2]⟩
abbrev qu(x:List Rl):Nat->Option Rl
 |0=>none
 |k+1=>x[k]?
theorem xo(hL:Wx nm)(x:List Rl)(ifs:List (List AV))(hs:∀r∈x,Ey r):PC 86 [.agg (Ic x ifs)] (vi (A0 x)):=by
 refine Ps (KM []) Tryz.func86 rfl (Nz rfl) (Yi ?_ ?_)
 .intro h;exact .of_eq (Aa vi (show(7:Int)=A0 x by unfold A0;rw[Ap (by rw[Lm]at h;omega)]))
 intro h;have hl:x.length<=256:=by rw[Lm]at h;omega
 have Ws:A0 x=Dp none x:=by unfold A0;rw[Aj ch]
 refine Xi {i:Nat // i<=x.length/\Dp none x=Dp (qu x i) (x.drop i)} (Xi (fun i=>⟨[(1,.ref 1 0),(12,sl AC x),(13,vi (x.map AC).length),(14,vi i.1)],[(1,.cells (Ic x ifs))],Ag⟩) (Xi (fun i=>x.length-i.1) (Yi (Xi ⟨0,AB _,rfl⟩ ?_) ?_)))
 .exact⟨Z4,Z1,Fh,Tv⟩
 intro⟨i,h1,h2⟩;refine Yi ?_ ?_
 .intro h;have h:i<x.length:=by simpa using h
  have hg:x[i]?=some x[i]:=Ge h;have hd:x.drop i=x[i]::x.drop (i+1):=AI h;have hc:=Ac3 hL x[i] (hs x[i] (Ao h));have Lt:Dp none x=if Dq x[i]≠0 then Dq x[i]else match qu x i with
   |none=>Dp (some x[i]) (x.drop (i+1))
   |some b=>if Fa b=Fa x[i]then 5 else if 0<CY b x[i]then 1 else Dp (some x[i]) (x.drop (i+1)):=by rw[h2,hd];rfl
  have th:qu x (i+1)=some x[i]:=Ge h;refine Xi (AC x[i]) (Yi (Yi (Nn i) (by simp[hg])) (Yi rfl ?_));refine Yi (Nz rfl) (Yi (Nz rfl) (yN (Xi .pure (Xi _ (Yi (hc) (Yi ?_ ?_))))))
  .intro h4;exact .of_eq (Aa vi (show Dq x[i]=A0 x by rw[Ws,Lt,Ap h4]))
  intro h4;refine Yi ?_ ?_
  .intro h5;have h5:(i:Int)=0:=h5;have h6:i=0:=by omega
   refine Yi (Ii i ch) (Xi ⟨i+1,by omega,by rw[Lt,Aj h4,th];subst h6;rfl⟩ ?_);exact⟨Dl x.length i ch,Z4,Z1,Fh,Tv⟩
  intro h5;have h5:¬(i:Int)=0:=h5;have hi1:i-1<x.length:=by omega
  have hb:qu x i=some x[i-1]:=by
   obtain⟨k,rfl⟩:∃k,i=k+1:=⟨i-1,by omega⟩;exact Ge ch
  have vf:Dp none x=if Fa x[i-1]=Fa x[i]then 5 else if 0<CY x[i-1] x[i]then 1 else Dp (some x[i]) (x.drop (i+1)):=by rw[Lt,Aj h4,hb]
  refine Yi (by show Bc ((i:Int)-1);unfold Bc;omega) ?_;have WJ:(x.map AC)[((i:Int)-1).toNat]?=some (AC x[i-1]):=by rw[show((i:Int)-1).toNat=i-1 by omega];exact Ek (Ge hi1)
  refine Xi (AC x[i-1]) (Yi (Yi (by show(0:Int)<=(i:Int)-1;omega) WJ) (Yi rfl (Yi (Nz rfl) (yN (yN (Xi _ (Yi (uw x[i-1]) (yN (Xi _ (Yi (uw x[i]) (Yi ?_ ?_)))))))))))
  .intro h6;refine Yi Wk ?_;have e:(5:Int)=A0 x:=by rw[Ws,vf,Ap (vR ⟨h6.1,h6.2.1,h6.2.2.1,h6.2.2.2.1⟩)]
   exact .of_eq (Aa vi e)
  intro h6;refine Yi Wk ?_;have h7:¬Fa x[i-1]=Fa x[i]:=fun e=>by
   have e:=jQ e;exact h6 ⟨e.1,e.2.1,e.2.2.1,e.2.2.2,trivial⟩
  refine Yi (Nz rfl) (yN (Xi .pure (Xi _ (Yi (yc x[i-1] x[i]) (Yi ?_ ?_)))))
  .intro h8;have e:(1:Int)=A0 x:=by rw[Ws,vf,Aj h7,Ap h8]
   exact .of_eq (Aa vi e)
  .intro h8;refine Yi (Ii i ch) (Xi ⟨i+1,by omega,by rw[vf,Aj h7,Aj h8,th]⟩ ?_);exact⟨Dl x.length i ch,Z4,Z1,Fh,Tv⟩
 .intro h;have h:¬i<x.length:=by simpa using h
  have e:(0:Int)=A0 x:=by rw[Ws,h2,Wy ch];rfl
  exact .of_eq (Aa vi e)
abbrev rlC(r:Rl)(a:AV):List AV:=[vs r.path,vi r.ver.a,vi r.ver.b,vi r.ver.c,a,vs r.arch,vs r.ifc,vs r.cert,vb r.yanked]
abbrev Aeb:Tt:=⟨[],[],[],[],[],[],[],[(9,(1,4,900,2))],[],[],[]⟩
theorem c98(r:Rl)(hr:r.reqs.length<=1000)(hs:∀q∈r.reqs,B8 q.set):PC 83 [.agg (AC r)] (.agg (AC r)):=by
 refine Ps Aeb Tryz.func83 rfl (Nz rfl) (yN (Xi {i:Nat // i<=r.reqs.length} (Xi (fun i=>⟨[(1,.ref 1 0),(2,.ref 2 0),(9,sl AW r.reqs),(10,vi (r.reqs.map AW).length),(11,vi i.1)],[(1,.cells (rlC r (.slice (.id 900 2) ((r.reqs.take i.1).map AW)))),(2,.cells tV),(900,.tok 2 ((r.reqs.take i.1).map AW).length)],Ag⟩) (Xi (fun i=>r.reqs.length-i.1) (Yi (Xi ⟨0,AB _⟩ ?_) ?_)))))
 .exact⟨Z5,Z3,Fh,Tv⟩
 intro⟨i,h1⟩;refine Yi ?_ ?_
 .intro h;have h:i<r.reqs.length:=by simpa using h
  have hg:r.reqs[i]?=some r.reqs[i]:=Ge h;refine Xi (AW r.reqs[i]) (Yi (Yi (Nn i) (by simp[hg])) (Yi rfl ?_));have hq:=hs r.reqs[i] (Ao h);refine Yi (Nz rfl) (yN (Xi .pure (Xi _ (Yi (Ac8 r.reqs[i].set hq) (yN (yN ?_))))));have HG:Cr 2 [AW r.reqs[i]]/\((r.reqs.take i).map AW).length=((r.reqs.take i).map AW).length/\(((r.reqs.take i).map AW).length+[AW r.reqs[i]].length)*40<=140737488355328/\((r.reqs.take i).map AW).length+[AW r.reqs[i]].length<=9223372036854775807:=
   ⟨⟨rfl,trivial⟩,rfl,by rw[Lm,Ax,Be];omega,by rw[Lm,Ax,Be];omega⟩
  refine Yi HG (yN (Yi (Ii i ch) (Xi ⟨i+1,by omega⟩ ?_)));have et:(r.reqs.take (i+1)).map AW=(r.reqs.take i).map AW++[AW r.reqs[i]]:=by rw[Bh,hg,At];rfl
  have e1:HO.cells (rlC r (.slice (.id 900 2) ((r.reqs.take i).map AW++[AW r.reqs[i]])))=.cells (rlC r (.slice (.id 900 2) ((r.reqs.take (i+1)).map AW))):=by rw[et]
  have e2:HO.tok 2 (((r.reqs.take i).map AW).length+[AW r.reqs[i]].length)=.tok 2 ((r.reqs.take (i+1)).map AW).length:=by rw[et,Ac]
  exact⟨Dl r.reqs.length i ch,Z5,⟨⟨e1,rfl⟩,Zr,⟨e2,rfl⟩,Tv⟩,Fh,Tv⟩
 .intro h;have h:¬i<r.reqs.length:=by simpa using h
  refine Yi (Nz rfl) (Yi (Nz rfl) (yN ?_));have e:AV.agg (rlC r (.slice .none ((r.reqs.take i).map AW)))=.agg (AC r):=by rw[Av ch]
  exact .of_eq e
theorem cU{cx:Cx}{st:St}{K:LS->Prop}(t:List (Nat×AV))(h:List (Nat×HO))(h1:leT st (LS.st ⟨t,h,Ag⟩).h t)(h2:leH st (LS.st ⟨t,h,Ag⟩).h h)(k:K ⟨t,h,Ag⟩)
    (h3:match cx.ext with|false => True|true => ∀j,1000 <= j->j<2000->st.h j ≠ .free->(LS.st ⟨t,h,Ag⟩).h j ≠ .free:=by first|exact trivial|exact BV Wk):∃s,St.le cx st s/\K s:=⟨_,⟨h1,h2,fun _ => .inl rfl,h3⟩,k⟩
end Go.Eng
