/- Lemmas for the claims of this seat, without a condition: part 20 (C23, C24, C25, C26, C27, C28, C29, C30, C31, C32, C33, C34, C35, C36). -/
import Derived.Test.YtddfphmpfnmknaaGreatDoorGA19
import Derived.Shelf.Slices.Delete
namespace Go.Eng
open Go.Proofs
variable {α:Type}(p:ByteArray)(l:List Tm)(x:α)(s:Bb)
abbrev Hk:AV:=.tup [sl AO (RH l),vb (Db l).isSome]
abbrev Abg:Q0:=⟨[],[],[(4,3)],[],[],[],[],[],[],[(25,4)],[]⟩
abbrev dw:HO:=.arr 3 (l.map AO)
abbrev GO:List Tm:=l.filter fun t=>!G5 t
theorem o7{l:List Tm}{kv:Value×AV}{Pc : List (Value×AV)}(h:(l.map Tg).Perm (kv::Pc)):∃t r,kv=Tg t∧Pc=r.map Tg∧l.Perm (t::r):=by
 obtain⟨ps,h1,h2⟩:=Ni h l rfl;cases ps with
 |nil=>cases h2
 |cons t r =>
  rw[AJ,F0]at h2;exact⟨t,r,h2.1.symm,h2.2.symm,h1.symm⟩
theorem Y6{l:List Tm}{t:Tm}(h:t∈DH l)(hn:Ix t=true):Db l=none:=by
 unfold Db;rw[Al (A5.2 ⟨t,(J0 l t).1 h,hn⟩)]
theorem bP{l done s:List Tm}(h:done.Perm (DH l))(hn:∀t∈done,Ix t=false)(hp:s.Perm (GO done))(hs:s.Pairwise fun x y=>DL y.path x.path=false):Db l=some s:=by
 unfold Db;rw[Ae]
 ·congr 1
  exact(Rh _ (hp.trans (h.filter _)) hs).symm
 ·intro c;obtain⟨t,h1,h2⟩:=A5.1 c
  have:=hn t (h.mem_iff.2 ((J0 l t).2 h1))
  rw[h2]at this;cases this
theorem gO:(GO l).length≤l.length:=BC _ _
theorem xO(hl:Cy l)(hs:∀t∈l,Cy t.set):PC 183 [sl AO l] (Hk l):=by
 have gA:l.length≤1073741824:=hl;have hml:(DH l).length≤l.length:=by have:=OV l l.length (Ao _);rwa [Dp]at this
 refine Ps Abg Tryz.func183 rfl (Nz rfl) (Xi .pure (Xi _ (Yi (c57 l hl hs) (Xi {p:List Tm×List Tm×Option (Value×AV) // (p.1++p.2.1).Perm (DH l)∧∀t∈p.1,Ix t=false} (Xi (fun p=>⟨[(4,.msl 4 (GO p.1.1).length),(9,.ref 9 0)],[(4,dw (GO p.1.1)),(9,.iter ((DH l).map Tg) (p.1.2.1.map Tg) p.1.2.2)],Af⟩) (Xi (fun p=>p.1.2.1.length) (Yi (Xi ⟨([],DH l,none),.refl _,fun t ht=>by cases ht⟩ ?_) ?_)))))))
 ·exact⟨Z2,Z2,Fh,Tv⟩
 intro⟨⟨done,rem,F6⟩,r1,r2⟩;have r1:(done++rem).Perm (DH l):=r1;have r2:∀t∈done,Ix t=false:=r2;have hdl:done.length+rem.length≤l.length:=by have:=r1.length_eq;rw[Ad]at this;omega
 have tZ:=gO done;refine Yi ?_ ?_
 ·intro hr;have hr:rem.map Tg=[]:=hr;have hr:rem=[]:=Er.1 hr;subst hr;rw[BL]at r1;refine Xi (.gen [(4,1000)] 0) (Yi rfl ((c61 (GO done) (by unfold Cy;omega)).to ?_));intro s hq;have WR:s.length=(GO done).length:=hq.1.length_eq;have hc:=bP r1 r2 hq.1 hq.2;refine Yi (by rw[Lm,WR]) ?_;have e:AV.tup [sl AO s,vb true]=Hk l:=by unfold Hk RH;rw[hc];rfl
  exact .of_eq e
 ·intro kv Pc hp;refine Ba (o7 hp) (fun t hp=>Ba hp (fun r hp=>?_));have e1:=hp.1;have e2:=hp.2.1;subst e1;subst e2;have hp:=hp.2.2;have yi:t∈DH l:=r1.mem_iff.1 (Bj _ (hp.mem_iff.2 (Aa ..)));have htc:=Qq l t yi;have htf:=PR htc;refine Yi (Nz rfl) (yN ?_);have hv:PC 216 [.agg (AO t)] (vb (Ix t)):=lD htc▸c59 t htf;have ha:PC 217 [.agg (AO t)] (vb (G5 t)):=fC htc▸c60 t htf;refine BF (Bt (Ix t)) (fun h=>?_) (fun h=>?_)
  ·rw[h]at hv;refine Xi .pure (Xi _ (Yi (hv) ?_));have hc:=Y6 yi h;have e:AV.tup [.slice .none [],vb false]=Hk l:=by unfold Hk RH;rw[hc];rfl
   have e0:GF (.tup [Ce,vb false]) (.tup [.slice .none [],vb false]):=GF.tup ⟨.nil,.refl _,trivial⟩;exact e0.trans (.of_eq e)
  ·rw[h]at hv;refine Xi .pure (Xi _ (Yi (hv) (yN ?_)));have VG:((done++[t])++r).Perm (DH l):=by
    rw[Bx];exact(List.Perm.append_left _ hp.symm).trans r1
   have hnv:∀u∈done++[t],Ix u=false:=fun u hu=>by
    rcases AY.1 hu with hu | hu
    ·exact r2 u hu
    ·rw[Ar.1 hu];exact h
   have hrl:r.length<rem.length:=by rw[hp.length_eq,Av];omega
   refine BF (Bt (G5 t)) (fun h2=>?_) (fun h2=>?_)
   rotate_left
   ·rw[h2]at ha;refine Xi .pure (Xi _ (Yi (ha) ?_));have GQ:Cf 3 [AO t]∧((GO done).map AO).length=(GO done).length∧(((GO done).map AO).length+[AO t].length)*48≤140737488355328∧((GO done).map AO).length+[AO t].length≤9223372036854775807 :=
     ⟨⟨rfl,trivial⟩,by rw[Lm],by rw[Lm,AG];omega,by rw[Lm,AG];omega⟩
    refine yN (Yi GQ ?_);have hk:GO (done++[t])=GO done++[t]:=by unfold GO;rw[DB,CE,Al (by rw[h2];rfl)];rfl
    have e1:AV.msl 4 (((GO done).map AO).length+[AO t].length)=.msl 4 (GO (done++[t])).length:=by rw[hk];simp
    have e2:HO.arr 3 ((GO done).map AO++[AO t])=dw (GO (done++[t])):=by rw[hk];simp
    refine Xi ⟨(done++[t],r,some (Tg t)),VG,hnv⟩ ?_;exact⟨hrl,⟨⟨e1,rfl⟩,Zr,Tv⟩,⟨⟨e2,rfl⟩,Zr,Tv⟩,Fh,Tv⟩
   ·rw[h2]at ha;refine Xi .pure (Xi _ (Yi (ha) ?_));have hk:GO (done++[t])=GO done:=by unfold GO;rw[DB,CE,Ae (by rw[h2];decide)];simp
    have e1:AV.msl 4 (GO done).length=.msl 4 (GO (done++[t])).length:=by rw[hk]
    have e2:dw (GO done)=dw (GO (done++[t])):=by rw[hk]
    refine Xi ⟨(done++[t],r,some (Tg t)),VG,hnv⟩ ?_;exact⟨hrl,⟨⟨e1,rfl⟩,Zr,Tv⟩,⟨⟨e2,rfl⟩,Zr,Tv⟩,Fh,Tv⟩
theorem ru(hl:Cy l)(hs:∀t∈l,Cy t.set):PC 174 [sl AO l] (sl AO (RH l)):=by
 refine Ps D3 Tryz.func174 rfl (Nz rfl) (Xi .pure (Xi _ (Yi (xO l hl hs) ?_)));exact .refl _
theorem Rn:Cy (EJ s):=by
 unfold Cy;have:=IT (HP s);omega
theorem rJ:Cy [x]:=by unfold Cy;simp
theorem zW(y:α):Cy [x,y]:=by unfold Cy;simp
theorem zo(q:Rq)(hq:Cy q.set):PC 122 [.agg (AH q)] (sl AO (Ko q)):=by
 have hc:PC 174 [sl AO [DS q]] (sl AO (Ko q)):=ru [DS q] (rJ _) fun t ht=>by rw[Ar.1 ht];exact Rn _
 refine Ps D3 Tryz.func122 rfl (Nz rfl) (yN (Xi .pure (Xi _ (Yi (uI q hq) (Xi .pure (Xi _ (Yi (hc) ?_)))))));exact .refl _
theorem zp(pl:Int)(q:Rq)(hp:Bc (pl+1))(hq:Cy q.set):PC 123 [vs p,vi pl,.agg (AH q)] (sl AO (EI p pl q)):=by
 have hc:PC 174 [sl AO [⟨p,false,[(pl,pl+1)]⟩,DS q]] (sl AO (EI p pl q)):=ru [⟨p,false,[(pl,pl+1)]⟩,DS q] (zW _ _) fun t ht=>by
  rcases AF.1 ht with rfl | ht
  ·exact rJ _
  ·rw[Ar.1 ht];exact Rn _
 refine Ps D3 Tryz.func123 rfl (Nz rfl) (Yi hp (yN (Xi .pure (Xi _ (Yi (uI q hq) (Xi .pure (Xi _ (Yi (hc) ?_))))))));exact .refl _
theorem uE(hs:Cy s):PC 127 [vs p,sl Ag s] (sl AO (IB p s)):=by
 have hc:PC 174 [sl AO [⟨p,false,EJ s⟩]] (sl AO (IB p s)):=ru [⟨p,false,EJ s⟩] (rJ _) fun t ht=>by rw[Ar.1 ht];exact Rn _
 refine Ps D3 Tryz.func127 rfl (Nz rfl) (Xi .pure (Xi _ (Yi (rf s hs) (Xi .pure (Xi _ (Yi (hc) ?_))))));exact .refl _
end Go.Eng
namespace Go.Eng
open Go.Proofs Go.Shelf Go.RowKit Go.Lib Go.Sort
theorem sI(F:Array Value)(i n:Nat)(hF:F.size=n*3)(hi:i<n)(z:List Value)(hz:z.length=3):(lay (lay F (i*3) (F.toList.drop ((i+1)*3))) ((n-1)*3) z).toList=F.toList.take (i*3)++F.toList.drop ((i+1)*3)++z:=by
 have l1:(F.toList.take (i*3)).length=i*3:=by simp;omega
 have l2:(F.toList.drop ((i+1)*3)).length=(n-(i+1))*3:=by simp;omega
 apply Dq
 intro t
 rw[AQ,lay_get? _ _ _ _ (by rw[Lib.lay_size];omega),lay_get? _ _ _ _ (by rw[l2];omega)]
 rw[hz,l2]
 by_cases c1:t<i*3
 ·rw[Ae ch,Ae ch,A2 (by rw[Ad];omega),A2 ch,Kw,Al c1,AQ]
 ·by_cases c2:t<(n-1)*3
  ·rw[Ae ch,Al ch,A2 (by rw[Ad];omega),AR ch,l1]
  ·rw[AR (by rw[Ad];omega),Ad,l1,l2]
   by_cases c3:t<n*3
   ·rw[Al ch];congr 1;omega
   ·rw[Ae ch,Ae ch,VI ch,A6 ch]
abbrev nl:List Value:=[.string ⟨#[]⟩,.bool false,.slice none 0 0]
set_option maxHeartbeats 4000000 in
set_option maxRecDepth 1000000 in
theorem jR(w:World)(b cap i n:Nat)(F:Array Value)(hF:F.size=n*3)(hi:i<n)(Qg:n≤cap)(hH:Holds id w b 0 F)(h1:∀x∈F.toList,x.oneCell'=true) :
  Calls Tryz.prog 212 #[.slice (some ⟨b,0,none⟩) n cap,.int .i64 i,.int .i64 ((i:Int)+1)] w fun e w'=>e=.returned (.slice (some ⟨b,0,none⟩) (n-1) cap) ∧
   w'=putRow id (Sort.ahead w 1) b 0 (lay (lay F (i*3) (F.toList.drop ((i+1)*3))) ((n-1)*3) nl):=by
 obtain⟨i0,hi0,sv⟩:∃i0,Tryz.prog.info? 198=some i0∧i0.size=3:=by
  obtain⟨i,z,h1,_,h2,_⟩:=Ie (P:=Tryz.prog) (T:=pU) Co (e:=198) (n:=2) Wk
  exact⟨i,h1,h2.trans Wk⟩
 obtain⟨news,JJ⟩:∃news,news=F.toList.drop ((i+1)*3):=⟨_,rfl⟩
 have CB:news.length=(n-(i+1))*3:=by rw[JJ];simp;omega
 have FN:∀t,t<(n-(i+1))*3→news[t]?=some F[(i+1)*3+t]!:=by
  intro t ht
  rw[JJ,DN,AQ,DO F ((i+1)*3+t) ch,Bs ch]
 obtain⟨A,hA,gH⟩:∃A:Addr,(if cap=i+1 then some (⟨b,0,none⟩:Addr)else some ⟨b,(i+1)*3,none⟩)=some A∧Hid (∀t u,news[t]?=some u→w.drew.cell? (A.add t)=some u):=by
  by_cases h:cap=i+1
  ·refine⟨⟨b,0,none⟩,by simp[h],fun t u hu=>?_⟩
   have h0:news.length=0:=by rw[CB];omega
   rw[List.length_eq_zero_iff.1 h0]at hu
   simp at hu
  ·refine⟨⟨b,(i+1)*3,none⟩,by simp[h],fun t u hu=>?_⟩
   have ht:t<(n-(i+1))*3:=by
    have:=(Aw.1 hu).1
    rwa [CB]at this
   rw[FN t ht]at hu
   rw[Addr.add_lit]
   have:=(hH ((i+1)*3+t) ch).1
   rw[Bi]at this
   exact this.trans hu
 have s1:Hid (news.length=(n-(i+1))*3):=CB
 have s2:Hid (∀u∈news,u.oneCell'=true):=by
  intro u hu
  rw[JJ]at hu
  exact h1 u (Jd hu)
 have s3:Hid (∀t,t<news.length→(w.drew.cell? ⟨b,0+i*3+t,none⟩).isSome=true∧w.drew.frozen? ⟨b,0+i*3+t,none⟩=false):=by
  intro t ht
  rw[CB]at ht
  have:=hH (i*3+t) ch
  rw[G3]
  exact⟨by show(w.cell? _).isSome=true;rw[this.1];rfl,this.2⟩
 obtain⟨W1,hW1⟩:∃W1,W1=w.drew.setCells b (0+i*3) news:=⟨_,rfl⟩
 have rR : W1=putRow id (Sort.ahead w 1) b 0 (lay F (i*3) news):=by
  have:=putRow_setCells id (Sort.ahead w 1) b 0 news F (i*3) ch
  rw[putRow_self id (Sort.ahead w 1) b 0 F (holds_ahead id w 1 b 0 F hH),HL]at this
  rw[hW1,←this]
  rfl
 have hH1:Holds id W1 b 0 (lay F (i*3) news):=by rw[rR];exact holds_putRow id _ b 0 F _ (holds_ahead id w 1 b 0 F hH) (Lib.lay_size _ _ _)
 have JU:(storeCells ⟨b,0+(n-1)*3,none⟩ nl 0).run Tryz.prog W1=.ok () (W1.setCells b (0+(n-1)*3) nl):=by
  have:=run_storeCells_cells (P:=Tryz.prog) b (0+(n-1)*3) nl 0 W1 (fun j hj=>by
   have hj:j<3:=hj
   have:=hH1 ((n-1)*3+j) (by rw[Lib.lay_size];omega)
   rw[show 0+(n-1)*3+0+j=0+((n-1)*3+j) by omega,this.1];rfl) (fun j hj=>by
   have hj:j<3:=hj
   have:=hH1 ((n-1)*3+j) (by rw[Lib.lay_size];omega)
   rw[show 0+(n-1)*3+0+j=0+((n-1)*3+j) by omega];exact this.2) (fun v hv=>by
   simp only[AF,MD,or_false]at hv
   rcases hv with rfl | rfl | rfl<;>rfl)
  exact this
 have hcl:∀ty c,(Builtin.clear_ #[168] ty #[.slice (some ⟨b,(n-1)*3,none⟩) 1 c]).run Tryz.prog W1=.ok (.tuple #[]) (W1.setCells b (0+(n-1)*3) nl):=fun ty c=>by
  have hv:=Tryz.zeroValue198
  rw[Bi]at JU⊢
  have hz:(Builtin.zeroCells (Value.agg #[Value.string { data:=#[] },Value.bool false,Value.slice none 0 0]).cells 1).toList=nl:=by kernel_rfl
  simp[Builtin.clear_,run_underlying Tryz.underlying168,hv,hz,JU]
 have AeT:∀ty,(Builtin.clear_ #[168] ty #[.slice (some ⟨b,(i+(n-(i+1)))*3,none⟩) (n-(i+(n-(i+1)))) (cap-(i+(n-(i+1))))]).run Tryz.prog W1=.ok (.tuple #[]) (W1.setCells b (0+(n-1)*3) nl):=fun ty=>by
  have e1:i+(n-(i+1))=n-1:=by omega
  have e2:n-(n-1)=1:=by omega
  rw[e1,e2];exact hcl ty _
 have X:Aside (W1=putRow id (Sort.ahead w 1) b 0 (lay F (i*3) news)):=rR
 have hW:Hid (W1=w.drew.setCells b (0+i*3) news):=hW1
 have Y:Aside (news=F.toList.drop ((i+1)*3)):=JJ
 have Z:Aside (news.length=(n-(i+1))*3):=CB
 have vN:i≤cap:=by omega
 have hjc:i+1≤cap:=by omega
 have mixed:=Go.Eng.hm
 have hb1:(0:Int)≤(i:Int)+1:=by omega
 have Uy:(i:Int)+1≤(n:Int):=by omega
 clear hW1 rR hH1 hH FN JJ CB JU hcl
 go_enter Tryz.func212,Tryz.ntmps212
 go_wp2_with fail
 go_region_law_o (refine step_append_room rfl (.tmp 22) (.tmp 25) 168 rfl 198 i0 3 Tryz.underlying168 hi0 sv b 0 i cap (by simp[Act.eval,Act.put]) A (n-(i+1)) (cap-(i+1)) news (by simp[Act.eval,Act.put]) s1.out gH.out s2.out ch s3.out ?_;rw[←hW.out])
 go_wp2
 go_ret
 refine⟨by rw[show i+(n-(i+1))=n-1 by omega];rfl,?_⟩
 rw[X.out]
 have e1:=Y.out
 have e2:=Z.out
 rw[←e1]
 have:=putRow_setCells id (Sort.ahead w 1) b 0 nl (lay F (i*3) news) ((n-1)*3) (by rw[Lib.lay_size];show _+3≤_;omega)
 rw[HL,Bi]at this
 exact this
abbrev bp:List AV:=[Go.Eng.vs ⟨#[]⟩,vb false,Ce]
theorem zE(l:List Tm)(i:Nat)(hi:i<l.length) :
  A1 Tryz.prog 212 [.msl 1000 l.length,vi i,vi ((i:Int)+1)] (Ak [(1000,.arr 3 (l.map AO))] Af) fun r h'=>r=.msl 2000 (l.length-1)∧h'=Ak [(1000,.dead),(2000,.arr 3 ((l.eraseIdx i).map AO))] Af:=by
 have hE:GD Tryz.prog 212:=iX 212 Tryz.func212 Wk rfl
 have CB:(l.eraseIdx i).length=l.length-1:=List.length_eraseIdx_of_lt hi
 have HT:=Wj (P:=Tryz.prog) (f:=212) (es:=l.map AO) (sz:=3) (rest:=[.int .i64 i,.int .i64 ((i:Int)+1)]) (n':=l.length-1) (Q:=fun F7=>F7=(l.eraseIdx i).map AO++[bp]) hE (fun e=>by
  rw[Er]at e;subst e;simp at hi) (by rw[A8];omega) ?_
 ·rw[A8]at HT
  refine⟨hE,fun g w vals q1 q2 q3=>(HT.2 g w vals q1 q2 q3).mono fun _ _ ⟨v,r,h',g',e1,⟨e2,F7,p1,p2⟩,rest⟩=>⟨v,r,h',g',e1,⟨e2,by rw[p2,p1,FJ (by rw[A8,CB];exact Ao _),Au (by rw[A8,CB];exact Ao _)]⟩,rest⟩⟩
 ·intro g w b cap F hr hF hH hb hc
  rw[A8]at hF hc⊢
  have hu:∀e∈l.map AO,e.length=3:=fun e he=>by
   obtain⟨t,_,rfl⟩:=Am.1 he;rfl
  refine(jR w b cap i l.length F hF hi hc hH hr.2.1).mono ?_
  rintro e w' ⟨rfl,rfl⟩
  refine⟨rfl,_,_,1,#[],?_,rfl,?_,fun cs hcs=>?_,fun g w hr=>?_,rfl⟩
  ·rw[Lib.lay_size,Lib.lay_size]
  ·rw[Ad,A8,CB,AG];omega
  ·rcases AY.1 hcs with h | h
   ·obtain⟨t,_,rfl⟩:=Am.1 h;rfl
   ·rw[Ar.1 h];rfl
  ·rw[sI F i l.length hF hi nl rfl,List.eraseIdx_eq_take_drop_succ,Cn,As,Cn,SX,List.map_drop,←L0 _ i hu,←PW _ (i+1) hu]
   refine CU.append (CU.append (hr.take _) (hr.drop _)) ?_
   exact NT g w FQ nl fun x hx=>by
    simp only[AF,MD,or_false]at hx
    rcases hx with rfl | rfl | rfl<;>rfl
end Go.Eng
namespace Go.Eng
open Go.Proofs
variable {nm:ByteArray→ByteArray}{l r c:List Tm}{t:Tm}{α:Type}{i k:Nat}(a:List Tm)(s:ByteArray)(b:List Tm)
theorem uJ(l:List Tm)(hl:Cy l)(DM:l≠[]):A1 Tryz.prog 213 [sl AO l] (Ak [] Af) fun r h'=>r=.msl 2000 l.length∧h'=Ak [(2000,.arr 3 (l.map AO))] Af:=by
 refine BW (KV (pla [(5,3)] [])) [(5,2000)] rfl Co hm rfl Tryz.func213 Wk rfl (Nz rfl) Wk rfl ?_;have GQ:Cf 3 (l.map AO)∧([]:List (List AV)).length=0∧(([]:List (List AV)).length+(l.map AO).length)*48≤140737488355328∧([]:List (List AV)).length+(l.map AO).length≤9223372036854775807:=by
  refine⟨DW (enc:=AO) (n:=3) (fun _=>rfl) l,rfl,?_,?_⟩<;>simp only[Ax,Lm]<;>unfold Cy at hl<;>omega
 refine Yi ?_ ?_
 ·intro _;refine Yi GQ ?_;have e1:AV.msl 2000 (([]:List (List AV)).length+(l.map AO).length)=.msl 2000 l.length:=by simp
  refine Xi (.msl 2000 (([]:List (List AV)).length+(l.map AO).length)) (Yi (.refl _) (Yi e1 ?_))
  rfl
 ·intro h;have h:l.map AO=[]:=h;exact absurd (Er.1 h) DM
theorem rv(x:Tm)(p:ByteArray):PC 211 [.agg (AO x),.cptr [vs p]] (vb (decide (x.path=p))):=by
 refine Ps D3 Tryz.func211 rfl (Nz rfl) (Yi ?_ ?_)
 ·intro h;have h:x.path=p:=h;rw[Aq h];exact .refl _
 ·intro h;have h:¬x.path=p:=h;rw[Ap h];exact .refl _
theorem Oc{p:ByteArray}:∀{c:List Tm} {i:Nat},(EV c).Nodup→∀(hi:i<c.length),c[i].path=p→c.eraseIdx i=Gf c p
 |t::c,0,hn,_,h=>by
  have h:t.path=p:=h;unfold EV at hn;rw[AJ,Df]at hn;unfold Gf;rw[CE,Ae (by simp[h])];show c=_;rw[List.filter_eq_self.2 fun u hu=>by
   have:u.path≠p:=fun e=>hn.1 (h▸e▸Am.2 ⟨u,hu,rfl⟩)
   simp[this]]
 |t::c,i+1,hn,hi,h=>by
  have hi:i<c.length:=by simpa using hi
  have h:c[i].path=p:=h;unfold EV at hn;rw[AJ,Df]at hn
  have:t.path≠p:=fun e=>hn.1 (by rw[e,←h];exact Am.2 ⟨_,Aj hi,rfl⟩)
  have ih:=Oc hn.2 hi h;unfold Gf at ih⊢;rw[List.eraseIdx_cons_succ,CE,Al (by simp[this]),ih]
theorem Rm(hl:Cy l)(h:Db l=some c):Cy c:=by
 have h1:=OV l l.length (Ao _);rw[Dp]at h1;have h2:c=(Fv l).filter fun t=>!G5 t:=by
  unfold Db at h;split at h
  ·cases h
  ·exact(Cr h).symm
 have h3:c.length≤(Fv l).length:=by rw[h2];exact BC _ _
 have h4:(Fv l).length=(DH l).length:=by
  have:=(Pt (IA (Iu l)) (IA (IH (EN l)))).2 (J0 l)
  exact this.length_eq.symm
 unfold Cy at hl⊢;omega
abbrev o9:AV:=.tup [.agg bp,Ce,vb false]
abbrev qI:Q0:=⟨[3],[],[],[],[],[],[],[],[(30,0),(34,1)],[],[]⟩
theorem jA(l:List Tm)(p:ByteArray)(hl:Cy l)(hs:∀t∈l,Cy t.set)(hn:FS l p=none):PC 182 [sl AO l,vs p] o9:=by
 have hc:=xO l hl hs;unfold FS at hn;cases e:Db l with
 |none =>
  have e1:Hk l=.tup [sl AO [],vb false]:=by unfold Hk RH;rw[e];rfl
  rw[e1]at hc;have hi:=nL (FB.ptr [vs p]) [] (fun x=>decide (x.path=p)) (fun x _=>rv x p) B0;refine Ps qI Tryz.func182 rfl (Nz rfl) (Xi .pure (Xi _ (Yi (hc) (Xi .pure (Xi _ (Yi (hi) (Yi (Nz rfl) (yN ?_))))))));exact .refl _
 |some c =>
  rw[e]at hn;have hn:(match Dz c p with | none=>none | some t=>some (t,Gf c p))=none:=hn;have vK:Dz c p=none:=by
   cases h:Dz c p with
   |none=>rfl
   |some t=>rw[h]at hn;cases hn
  have e1:Hk l=.tup [sl AO c,vb true]:=by unfold Hk RH;rw[e];rfl
  rw[e1]at hc;have vH:=Rm hl e;have hi:=nL (FB.ptr [vs p]) c (fun x=>decide (x.path=p)) (fun x _=>rv x p) (by unfold Cy at vH;omega);have hid:Lc (fun x:Tm=>decide (x.path=p)) c 0=-1:=by
   rcases Qh (p:=fun x:Tm=>decide (x.path=p)) c 0 with ⟨h1,_⟩ | ⟨i,x,_,_,h3⟩
   ·exact h1
   ·unfold Dz at vK;rw[h3]at vK;cases vK
  rw[hid]at hi;refine Ps qI Tryz.func182 rfl (Nz rfl) (Xi .pure (Xi _ (Yi (hc) (Xi .pure (Xi _ (Yi (hi) (Yi ?_ ?_)))))))
  ·intro _;refine Yi (Nz rfl) (yN ?_);exact .refl _
  ·intro h;exact absurd (show(-1:Int)<0 by decide) h
abbrev sP:Q0:=⟨[3],[],[],[],[],[],[],[],[(30,0),(34,2)],[],[]⟩
theorem jB(l:List Tm)(p:ByteArray)(hl:Cy l)(hs:∀t∈l,Cy t.set)(hn:FS l p=some (t,r)) :
  A1 Tryz.prog 182 [sl AO l,vs p] (Ak [] Af) fun v h'=>v=.tup [.agg (AO t),.msl 2000 r.length,vb true]∧h'=Ak [(2000,.arr 3 (r.map AO))] Af:=by
 have hc:=xO l hl hs;unfold FS at hn;cases e:Db l with
 |none=>rw[e]at hn;cases hn
 |some c =>
  rw[e]at hn;have hn:(match Dz c p with | none=>none | some t=>some (t,Gf c p))=some (t,r):=hn;have kG:Dz c p=some t∧Gf c p=r:=by
   cases h:Dz c p with
   |none=>rw[h]at hn;cases hn
   |some t=>rw[h]at hn;cases hn;exact Zr
  have e1:Hk l=.tup [sl AO c,vb true]:=by unfold Hk RH;rw[e];rfl
  rw[e1]at hc;have vH:=Rm hl e;have hi:=nL (FB.ptr [vs p]) c (fun x=>decide (x.path=p)) (fun x _=>rv x p) (by unfold Cy at vH;omega);rcases Qh (p:=fun x:Tm=>decide (x.path=p)) c 0 with ⟨_,h2⟩ | ⟨i,x,h1,h2,h3⟩
  ·unfold Dz at kG;rw[h2]at kG;cases kG.1
  have hx:x=t:=by
   have:=kG.1
   unfold Dz at this;rw[h3]at this;exact Cr this
  subst hx;rw[h1,Jv]at hi;obtain⟨vN,hie⟩:=Aw.1 h2;have her:c.eraseIdx i=r:=by
   rw[←kG.2];exact Oc (IH (Fk e)) vN (by rw[hie];exact HC kG.1)
  have ya:c.length-1=r.length:=by rw[←her,List.length_eraseIdx_of_lt vN]
  have DM:c≠[]:=fun h=>by subst h;simp at vN
  have AeY:c.length≤1073741824:=vH;refine BW (KV sP) [(13400,2000)] rfl Co hm rfl Tryz.func182 Wk rfl (Nz rfl) Wk rfl (Xi .pure (Xi _ (Yi (hc) (Xi .pure (Xi _ (Yi (hi) (Yi ?_ ?_)))))))
  ·intro h;have h:(i:Int)<0:=h;omega
  intro _;have hg:(c.map AO)[((i:Nat):Int).toNat]?=some (AO x):=by rw[A7,AL,h2];rfl
  refine Xi (AO x) (Yi (Yi (Nn i) hg) (Yi rfl (yN (Xi c.length (Xi 3 (Xi (c.map AO) (Yi rfl (Yi (uJ c vH DM) (Yi (Ii i ch) (Xi (c.length-1) (Xi ((c.eraseIdx i).map AO) (Yi rfl (Yi (zE c i vN) (yN (Yi Wk (yN ?_))))))))))))))));have e2:AV.tup [.agg (AO x),.msl 2000 (c.length-1),vb true]=.tup [.agg (AO x),.msl 2000 r.length,vb true]:=by rw[ya]
  have e3:Ak [(2000,HO.arr 3 ((c.eraseIdx i).map AO))] Af=Ak [(2000,.arr 3 (r.map AO))] Af:=by rw[her]
  exact Xi _ (Yi (.refl _) (Yi e2 e3))
abbrev eI:Q0:=⟨[],[],[],[],[],[],[],[],[],[(24,9),(30,12)],[2,3,5,6]⟩
abbrev s7(p:ByteArray):AV:=.tup [sl AO (BO a b p).1,vi (BO a b p).2]
theorem Xt{p:ByteArray}(h:FS l p=some (t,r)):∃c,Db l=some c∧t∈c∧r=Gf c p:=by
 unfold FS at h;cases e:Db l with
 |none=>rw[e]at h;cases h
 |some c =>
  rw[e]at h;have h:(match Dz c p with | none=>none | some t=>some (t,Gf c p))=some (t,r):=h;cases e2:Dz c p with
  |none=>rw[e2]at h;cases h
  |some u=>rw[e2]at h;cases h;exact⟨c,rfl,FG e2,rfl⟩
theorem Xu{p:ByteArray}(hl:Cy l)(h:FS l p=some (t,r)):Cy t.set∧Cy r∧∀u∈r,Cy u.set:=by
 obtain⟨c,h1,h2,rfl⟩:=Xt h;have hs:=Fk h1;refine⟨PR (hs.canon t h2),?_,fun u hu=>PR (hs.canon u (BM.1 hu).1)⟩
 have:=Rm hl h1
 have h3:(Gf c p).length≤c.length:=BC _ _;unfold Cy at *;omega
theorem jE(h:Db l=some c):c.length≤l.length:=by
 have h1:=OV l l.length (Ao _);rw[Dp]at h1;have h2:c=(Fv l).filter fun t=>!G5 t:=by
  unfold Db at h;split at h
  ·cases h
  ·exact(Cr h).symm
 have h3:c.length≤(Fv l).length:=by rw[h2];exact BC _ _
 have h4:(Fv l).length=(DH l).length:=by
  have:=(Pt (IA (Iu l)) (IA (IH (EN l)))).2 (J0 l)
  exact this.length_eq.symm
 omega
theorem Xv{p:ByteArray}(h:FS l p=some (t,r)):r.length≤l.length:=by
 obtain⟨c,h1,h2,rfl⟩:=Xt h;have h3:(Gf c p).length≤c.length:=BC _ _
 have:=jE h1
 omega
theorem fY(a b:Bb):Cy (QO a b):=by
 unfold Cy;have:=IT (bj a b);omega
theorem zr(p:ByteArray)(ha:a.length≤500000000)(hb:b.length≤500000000)(hsa:∀t∈a,Cy t.set)(oG:∀t∈b,Cy t.set):PC 128 [sl AO a,sl AO b,vs p] (s7 a b p):=by
 have vG:Cy a:=by unfold Cy;omega
 have rX:Cy b:=by unfold Cy;omega
 have er:∀{l:List Tm} {e:Int},BO a b p=(l,e)→s7 a b p=.tup [sl AO l,vi e]:=fun h=>by unfold s7;rw[h]
 have e0:GF (.tup [Ce,vi 1]) (.tup [.slice .none [],vi 1]):=GF.tup ⟨.nil,.refl _,trivial⟩;cases h1:FS a p with
 |none =>
  have hr:BO a b p=([],1):=by unfold BO;rw[h1]
  have c1:=jA a p vG hsa h1;cases h2:FS b p with
  |none =>
   have c2:=jA b p rX oG h2;refine Ps eI Tryz.func128 rfl (Nz rfl) (Xi .pure (Xi _ (Yi (c1) (yN (Xi ⟨[(1,sl AO b),(2,vs p),(8,.ref 8 0),(9,Ce),(10,vb false)],[(8,.cells bp)],Af⟩ (Yi ⟨Z5,Z1,Fh,Tv⟩ (Xi .pure (Xi _ (Yi (c2) (yN (Xi ⟨[(8,.ref 8 0),(9,Ce),(10,vb false),(11,.ref 11 0),(12,Ce),(13,vb false)],[(8,.cells bp),(11,.cells bp)],Af⟩ (Yi ⟨Z6,Z2,Fh,Tv⟩ ?_))))))))))))
   exact e0.trans (.of_eq (er hr).symm)
  |some q2 =>
   obtain⟨t2,r2⟩:=q2;have c2:=jB b p rX oG h2;refine Ps eI Tryz.func128 rfl (Nz rfl) (Xi .pure (Xi _ (Yi (c1) (yN (Xi ⟨[(1,sl AO b),(2,vs p),(8,.ref 8 0),(9,Ce),(10,vb false)],[(8,.cells bp)],Af⟩ (Yi ⟨Z5,Z1,Fh,Tv⟩ ?_))))))
   have z2:r2.length=(r2.map AO).length:=by rw[Lm]
   refine Xi (.gen [] 1) (Yi rfl (c2.imp ?_));intro v2 g2 q2;have q21:=q2.1;have q22:=q2.2;subst q21;subst q22;refine yN (Xi ⟨[(8,.ref 8 0),(9,Ce),(10,vb false),(11,.ref 11 0),(12,.msl 12600 r2.length),(13,vb true)],[(8,.cells bp),(11,.cells (AO t2)),(12600,.arr 3 (r2.map AO))],Af⟩ (Yi ⟨Z6,Z3,Fh,Tv⟩ (Yi z2 ?_)));exact e0.trans (.of_eq (er hr).symm)
 |some q1 =>
  obtain⟨t1,r1⟩:=q1;have c1:=jB a p vG hsa h1;obtain⟨f1,f2,f3⟩:=Xu vG h1;cases h2:FS b p with
  |none =>
   have hr:BO a b p=([],1):=by unfold BO;rw[h1,h2]
   have c2:=jA b p rX oG h2;refine Ps eI Tryz.func128 rfl (Nz rfl) (Xi (.gen [] 1) (Yi rfl (c1.imp ?_)));intro v1 g1 q1;have q11:=q1.1;have py:=q1.2;subst q11;subst py;refine yN (Xi ⟨[(1,sl AO b),(2,vs p),(8,.ref 8 0),(9,.msl 11900 r1.length),(10,vb true)],[(8,.cells (AO t1)),(11900,.arr 3 (r1.map AO))],Af⟩ (Yi ⟨Z5,Z2,Fh,Tv⟩ ?_))
   have z1:r1.length=(r1.map AO).length:=by rw[Lm]
   refine Yi z1 (Xi .pure (Xi _ (Yi (c2) (yN (Xi ⟨[(8,.ref 8 0),(9,.slice (.id 11900 3) (r1.map AO)),(10,vb true),(11,.ref 11 0),(12,Ce),(13,vb false)],[(8,.cells (AO t1)),(11,.cells bp),(11900,.tok 3 (r1.map AO).length)],Af⟩ (Yi ⟨Z6,Z3,Fh,Tv⟩ ?_))))))
   exact e0.trans (.of_eq (er hr).symm)
  |some q2 =>
   obtain⟨t2,r2⟩:=q2;have c2:=jB b p rX oG h2;obtain⟨g1,g2,g3⟩:=Xu rX h2;refine Ps eI Tryz.func128 rfl (Nz rfl) (Xi (.gen [] 1) (Yi rfl (c1.imp ?_)));intro v1 g1 q1;have q11:=q1.1;have py:=q1.2;subst q11;subst py;refine yN (Xi ⟨[(1,sl AO b),(2,vs p),(8,.ref 8 0),(9,.msl 11900 r1.length),(10,vb true)],[(8,.cells (AO t1)),(11900,.arr 3 (r1.map AO))],Af⟩ (Yi ⟨Z5,Z2,Fh,Tv⟩ ?_))
   have z1:r1.length=(r1.map AO).length:=by rw[Lm]
   have z2:r2.length=(r2.map AO).length:=by rw[Lm]
   refine Yi z1 (Xi (.gen [] 1) (Yi rfl (c2.imp ?_)));intro v2 g2 q2;have q21:=q2.1;have q22:=q2.2;subst q21;subst q22;refine yN (Xi ⟨[(8,.ref 8 0),(9,.slice (.id 11900 3) (r1.map AO)),(10,vb true),(11,.ref 11 0),(12,.msl 12600 r2.length),(13,vb true)],[(8,.cells (AO t1)),(11,.cells (AO t2)),(11900,.tok 3 (r1.map AO).length),(12600,.arr 3 (r2.map AO))],Af⟩ (Yi ⟨Z6,Z4,Fh,Tv⟩ (Yi z2 (Xi ⟨[(8,.ref 8 0),(9,.slice (.id 11900 3) (r1.map AO)),(11,.ref 11 0),(12,.slice (.id 12600 3) (r2.map AO))],[(8,.cells (AO t1)),(11,.cells (AO t2)),(11900,.tok 3 (r1.map AO).length),(12600,.tok 3 (r2.map AO).length)],Af⟩ (Yi ⟨Z4,Z4,Fh,Tv⟩ ?_)))))
   have l1:=Xv h1;have l2:=Xv h2;have b1:Cf 3 (r2.map AO)∧(r1.map AO).length=(r1.map AO).length∧((r1.map AO).length+(r2.map AO).length)*48≤140737488355328∧(r1.map AO).length+(r2.map AO).length≤9223372036854775807 :=
    ⟨DW (enc:=AO) (n:=3) (fun _=>rfl) r2,rfl,by rw[Lm,Lm];omega,by rw[Lm,Lm];omega⟩
   refine Yi b1 (Yi (Nz rfl) (yN (Xi _ (Yi (zx t1 t2 f1 g1) ?_))));have b2:Cf 3 [AO (Dw t1 t2)]∧(r1.map AO++r2.map AO).length=(r1.map AO).length+(r2.map AO).length∧((r1.map AO++r2.map AO).length+[AO (Dw t1 t2)].length)*48≤140737488355328∧(r1.map AO++r2.map AO).length+[AO (Dw t1 t2)].length≤9223372036854775807 :=
    ⟨⟨rfl,trivial⟩,by rw[Ad],by rw[Ad,Lm,Lm,AG];omega,by rw[Ad,Lm,Lm,AG];omega⟩
   refine Yi b2 ?_;have oo:=xO (r1++r2++[Dw t1 t2]) (by unfold Cy;simp only[Ad,AG];omega) (fun u hu=>by
    rcases AY.1 hu with hu | hu
    ·rcases AY.1 hu with hu | hu
     ·exact f3 u hu
     ·exact g3 u hu
    ·rw[Ar.1 hu];exact fY _ _)
   have e1:sl AO (r1++r2++[Dw t1 t2])=.slice .none (r1.map AO++r2.map AO++[AO (Dw t1 t2)]):=by simp
   have hc1:PC 183 [.slice .none (r1.map AO++r2.map AO++[AO (Dw t1 t2)])] (Hk (r1++r2++[Dw t1 t2])):=e1▸oo;cases tQ:Db (r1++r2++[Dw t1 t2])with
   |none =>
    have hr:BO a b p=([],8):=by unfold BO;rw[h1,h2];dsimp only;rw[tQ]
    have ec:Hk (r1++r2++[Dw t1 t2])=.tup [sl AO [],vb false]:=by unfold Hk RH;rw[tQ];rfl
    have hc:PC 183 [.slice .none (r1.map AO++r2.map AO++[AO (Dw t1 t2)])] (.tup [sl AO [],vb false]):=ec▸hc1;have e8:GF (.tup [Ce,vi 8]) (.tup [.slice .none [],vi 8]):=GF.tup ⟨.nil,.refl _,trivial⟩;refine Xi _ (Yi (hc) (Yi Wk (Xi ⟨[(14,sl AO []),(15,vb false)],[],Af⟩ (Yi ⟨Z2,Tv,Fh,Tv⟩ ?_))))
    exact e8.trans (.of_eq (er hr).symm)
   |some o =>
    have hr:BO a b p=(o,0):=by unfold BO;rw[h1,h2];dsimp only;rw[tQ]
    have ec:Hk (r1++r2++[Dw t1 t2])=.tup [sl AO o,vb true]:=by unfold Hk RH;rw[tQ];rfl
    have hc:PC 183 [.slice .none (r1.map AO++r2.map AO++[AO (Dw t1 t2)])] (.tup [sl AO o,vb true]):=ec▸hc1;refine Xi _ (Yi (hc) (Yi Wk (Xi ⟨[(14,sl AO o),(15,vb true)],[],Af⟩ (Yi ⟨Z2,Tv,Fh,Tv⟩ ?_))))
    exact .of_eq (er hr).symm
def dC(h s:Nat→HO):Nat→Bool
 |0=>true
 |n+1=>(match h (1000+n)with |.free=>true |_=>(match s (1000+n)with |.free=>false |_=>true))&&dC h s n
theorem Uj{h s:Nat→HO}:∀{n:Nat},dC h s n=true→∀j,j<n→h (1000+j)≠.free→s (1000+j)≠.free
 |n+1,hd,j,hj,hn=>by
  simp only[dC,Ai]at hd;rcases BY j n with h1 | h1
  ·exact Uj hd.2 j h1 hn
  ·have:j=n:=by omega
   subst this
   have:=hd.1
   intro e;split at this
   ·rename_i q;exact hn q
   ·rw[e]at this;cases this
theorem Bo{h s:Nat→HO}(hd:dC h s 1000=true):∀j,1000≤j→j<2000→h j≠.free→s j≠.free:=fun j h1 h2=>by
 have:=Uj hd (j-1000) ch
 rw[show 1000+(j-1000)=j by omega]at this;exact this
abbrev nh:List AV:=[vs ⟨#[]⟩,vi 0,vi 0,vi 0,Ce,vs ⟨#[]⟩,vs ⟨#[]⟩,vs ⟨#[]⟩,vb false]
abbrev My:Option Rl→AV
 |some r=>.tup [.agg (At r),vb true]
 |none=>.tup [.agg nh,vb false]
theorem jZ{p:α→Bool}{l:List α}(hi:i<l.length)(hb:∀j (hj:j<l.length),j<i→p l[j]=false)(h:p l[i]=true):l.find? p=some l[i]:=by
 rw[List.find?_eq_some_iff_getElem];exact⟨h,i,hi,rfl,fun j hj=>by rw[hb j ch hj];rfl⟩
theorem gg{p:α→Bool}{l:List α}(hb:∀j (hj:j<l.length),p l[j]=false):l.find? p=none:=by
 rw[DC];intro x hx;obtain⟨j,hj,rfl⟩:=BZ hx;rw[hb j hj];decide
theorem pv(v:Ver):0≤plc v∧plc v<1000000:=by
 unfold plc;cases h:Cj v with
 |true=>exact Kn h
 |false=>simp
abbrev qS(t:List Tm):Prop:=t.length≤500000000∧∀u∈t,Cy u.set
theorem uD:PC 113 [vs s] (vb false):=by
 refine Ps D3 Tryz.func113 rfl (Nz rfl) (Yi ?_ ?_)
 ·intro h;exact absurd rfl (show s≠s from h)
 ·intro _;exact .refl _
theorem uH(z:Int):PC 167 [vi z] (vb false):=by
 refine Ps D3 Tryz.func167 rfl (Nz rfl) (Yi ?_ ?_)
 ·intro h;exact absurd rfl (show z≠z from h)
 ·intro _;exact .refl _
theorem zf(a b:ByteArray):PC 84 [vs a,vs b] (vi (Jy a b)):=by
 refine Ps D3 Tryz.func84 rfl (Nz rfl) (Xi .pure (Xi _ (Yi (uD a) (Xi .pure (Xi _ (Yi (uD b) (Yi ?_ ?_)))))))
 ·intro h;have h:Op.bytesLess a.toList b.toList=true:=h;exact .of_eq (Ab vi (show(-1:Int)=Jy a b by unfold Jy;rw[Al (by rw[Ed];exact h)]))
 ·intro h;have h:¬Op.bytesLess a.toList b.toList=true:=h;refine Yi ?_ ?_
  ·intro h2;have h2:Op.bytesLess b.toList a.toList=true:=h2;exact .of_eq (Ab vi (show(1:Int)=Jy a b by unfold Jy;rw[Ae (by rw[Ed];exact h),Al (by rw[Ed];exact h2)]))
  ·intro h2;have h2:¬Op.bytesLess b.toList a.toList=true:=h2;exact .of_eq (Ab vi (show(0:Int)=Jy a b by unfold Jy;rw[Ae (by rw[Ed];exact h),Ae (by rw[Ed];exact h2)]))
theorem rl(a b:Int):PC 114 [vi a,vi b] (vi (Fs a b)):=by
 refine Ps D3 Tryz.func114 rfl (Nz rfl) (Xi .pure (Xi _ (Yi (uH a) (Xi .pure (Xi _ (Yi (uH b) (Yi ?_ ?_)))))))
 ·intro h;have h:a<b:=h;exact .of_eq (Ab vi (show(-1:Int)=Fs a b by unfold Fs;rw[Al h]))
 ·intro h;have h:¬a<b:=h;refine Yi ?_ ?_
  ·intro h2;have h2:b<a:=h2;exact .of_eq (Ab vi (show(1:Int)=Fs a b by unfold Fs;rw[Ae h,Al h2]))
  ·intro h2;have h2:¬b<a:=h2;exact .of_eq (Ab vi (show(0:Int)=Fs a b by unfold Fs;rw[Ae h,Ae h2]))
theorem ze(a b:Int):PC 83 [.slice .none [[vi a],[vi b]]] (vi (if a≠0 then a else b)):=by
 refine Ps D3 Tryz.func83 rfl (Nz rfl) (Xi {i:Nat // i≤2∧(0<i→a=0)∧(1<i→b=0)} (Xi (fun i=>⟨[(3,vi 0),(6,.slice .none [[vi a],[vi b]]),(7,vi 2),(8,vi i.1)],[],Af⟩) (Xi (fun i=>2-i.1) (Yi (Xi ⟨0,by omega,by omega,by omega⟩ ?_) ?_))))
 ·exact⟨Z4,Tv,Fh,Tv⟩
 intro⟨i,h1,h2,h3⟩;refine Yi ?_ ?_
 ·intro h;have h:(i:Int)<2:=h
  match i,h1,h2,h3,h with
  |0,h1,h2,h3,h =>
   refine Xi [vi a] (Yi (Yi (BK _) rfl) (Yi rfl (Yi ?_ ?_)))
   ·intro h4;have h4:a≠0:=h4;exact .of_eq (Ab vi (Al h4).symm)
   ·intro h4;have h4:¬a≠0:=h4;refine Yi (Ii 0 ch) (Xi ⟨1,by omega,fun _=>by omega,fun q=>absurd q Cl⟩ ?_);exact⟨by show 2-1<2-0;decide,Z4,Tv,Fh,Tv⟩
  |1,h1,h2,h3,h =>
   have ha:=h2 Cl;refine Xi [vi b] (Yi (Yi (by show(0:Int)≤1;decide) rfl) (Yi rfl (Yi ?_ ?_)))
   ·intro h4;exact .of_eq (Ab vi (Ae ch).symm)
   ·intro h4;have h4:¬b≠0:=h4;refine Yi (Ii 1 ch) (Xi ⟨2,by omega,fun _=>ha,fun q=>by omega⟩ ?_);exact⟨by show 2-2<2-1;decide,Z4,Tv,Fh,Tv⟩
  |i+2,h1,h2,h3,h=>omega
 ·intro h;have h:¬(i:Int)<2:=h;have ha:=h2 ch;have hb:=h3 ch;exact .of_eq (Ab vi (show(0:Int)=if a≠0 then a else b by rw[Ae ch,hb]))
theorem Ub(a b:Ver)(i:Nat)(hi:i<3)(h:∀j,j<i→Fs (part a j) (part b j)=0)(hn:Fs (part a i) (part b i)≠0):IU a b=Fs (part a i) (part b i):=by
 unfold IU
 match i,hi,h,hn with
 |0,_,_,hn=>exact Al hn
 |1,_,h,hn =>
  have h0:Fs a.a b.a=0:=h 0 Cl;rw[Ae ch];exact Al hn
 |2,_,h,hn =>
  have h0:Fs a.a b.a=0:=h 0 Cl;have h1:Fs a.b b.b=0:=h 1 Cl;rw[Ae ch,Ae ch];rfl
theorem jM(a b:Ver)(h:∀j,j<3→Fs (part a j) (part b j)=0):IU a b=0:=by
 unfold IU;have h0:Fs a.a b.a=0:=h 0 Cl;have h1:Fs a.b b.b=0:=h 1 Cl;have h2:Fs a.c b.c=0:=h 2 Cl;rw[Ae ch,Ae ch,h2]
theorem zg(a b:Ver):PC 85 [.agg (Fu a),.agg (Fu b)] (vi (IU a b)):=by
 refine Ps D3 Tryz.func85 rfl (Nz rfl) (yN (Xi _ (Yi (ri a) (yN (Xi _ (Yi (ri b) (Yi (Nz rfl) (yN (Yi Wk (Xi {i:Nat // i≤3∧∀j,j<i→Fs (part a j) (part b j)=0} (Xi (fun i=>⟨[(5,.ref 5 0),(6,.ref 6 0),(13,vi i.1)],[(5,.cells (Fu a)),(6,.cells (Fu b))],Af⟩) (Xi (fun i=>3-i.1) (Yi (Xi ⟨0,by omega,fun j h=>by omega⟩ ?_) ?_)))))))))))))
 ·exact⟨Z3,Z2,Fh,Tv⟩
 intro⟨i,h1,h2⟩;refine Yi ?_ ?_
 ·intro h;have h:(i:Int)<3:=h;have next:Fs (part a i) (part b i)=0→∀j,j<i+1→Fs (part a j) (part b j)=0:=fun hz j hj=>by
   rcases BY j i with q | q
   ·exact h2 j q
   ·have:j=i:=by omega
    subst this;exact hz
  match i,h1,h2,h,next with
  |0,h1,h2,h,next =>
   refine Yi ⟨by show(0:Int)≤0;decide,by show(0:Int)<3;decide⟩ ?_;refine Yi ⟨by show(0:Int)≤0;decide,by show(0:Int)<3;decide⟩ ?_;refine Xi _ (Yi (rl (part a 0) (part b 0)) (Yi Wk (Yi ?_ ?_)))
   ·intro h4;have h4:Fs (part a 0) (part b 0)≠0:=h4;exact .of_eq (Ab vi (Ub a b 0 Cl h2 h4).symm)
   ·intro h4;have h4:¬Fs (part a 0) (part b 0)≠0:=h4;refine Yi (Ii 0 ch) (Xi ⟨1,by omega,next (GT h4)⟩ ?_)
    exact⟨by show 3-1<3-0;decide,Z3,Z2,Fh,Tv⟩
  |1,h1,h2,h,next =>
   refine Yi ⟨by show(0:Int)≤1;decide,by show(1:Int)<3;decide⟩ ?_;refine Yi ⟨by show(0:Int)≤1;decide,by show(1:Int)<3;decide⟩ ?_;refine Xi _ (Yi (rl (part a 1) (part b 1)) (Yi Wk (Yi ?_ ?_)))
   ·intro h4;have h4:Fs (part a 1) (part b 1)≠0:=h4;exact .of_eq (Ab vi (Ub a b 1 Cl h2 h4).symm)
   ·intro h4;have h4:¬Fs (part a 1) (part b 1)≠0:=h4;refine Yi (Ii 1 ch) (Xi ⟨2,by omega,next (GT h4)⟩ ?_)
    exact⟨by show 3-2<3-1;decide,Z3,Z2,Fh,Tv⟩
  |2,h1,h2,h,next =>
   refine Yi ⟨by show(0:Int)≤2;decide,by show(2:Int)<3;decide⟩ ?_;refine Yi ⟨by show(0:Int)≤2;decide,by show(2:Int)<3;decide⟩ ?_;refine Xi _ (Yi (rl (part a 2) (part b 2)) (Yi Wk (Yi ?_ ?_)))
   ·intro h4;have h4:Fs (part a 2) (part b 2)≠0:=h4;exact .of_eq (Ab vi (Ub a b 2 Cl h2 h4).symm)
   ·intro h4;have h4:¬Fs (part a 2) (part b 2)≠0:=h4;refine Yi (Ii 2 ch) (Xi ⟨3,by omega,next (GT h4)⟩ ?_)
    exact⟨by show 3-3<3-2;decide,Z3,Z2,Fh,Tv⟩
  |i+3,h1,h2,h,next=>omega
 ·intro h;have h:¬(i:Int)<3:=h;exact .of_eq (Ab vi (jM a b fun j hj=>h2 j ch).symm)
theorem uv(a b:Rl):PC 60 [.agg (At a),.agg (At b)] (vi (Dv a b)):=by
 refine Ps D3 Tryz.func60 rfl (Nz rfl) (Xi _ (Yi (zf a.path b.path) (Yi (Nz rfl) (yN (Xi _ (Yi (zg a.ver b.ver) (Xi _ (Yi (ze (Jy a.path b.path) (IU a.ver b.ver)) (Yi Wk ?_)))))))));exact .refl _
abbrev Gi:Prop:=s.size≤1073741824
abbrev J8(q:Rq):Prop:=Cy q.set∧Gi q.path
abbrev Gv(r:Rl):Prop:=Gi r.path∧∀q∈r.reqs,J8 q
abbrev UT(nm:ByteArray→ByteArray)(p:ByteArray):AV:=match Bu p with
 |some m=>.tup [vs (nm p),vi m,vi 0]
 |none=>.tup [vs ⟨#[]⟩,vi 0,vi 4]
abbrev VK(nm:ByteArray→ByteArray):Prop:=∀p:ByteArray,Gi p→PC 81 [vs p] (UT nm p)
theorem VK.none(h:VK nm){p:ByteArray}(hp:Gi p)(e:Bu p=.none):PC 81 [vs p] (.tup [vs ⟨#[]⟩,vi 0,vi 4]):=by
 have:=h p hp;unfold UT at this;rw[e]at this;exact this
theorem VK.some(h:VK nm){p:ByteArray}{m:Int}(hp:Gi p)(e:Bu p=.some m):PC 81 [vs p] (.tup [vs (nm p),vi m,vi 0]):=by
 have:=h p hp;unfold UT at this;rw[e]at this;exact this
theorem uw(hL:VK nm)(q:Rq)(hq:Cy q.set)(hp:Gi q.path):PC 112 [.agg (AH q),.v (.pointer none)] (vi (GK none q)):=by
 cases VG:Bu q.path with
 |none =>
  have e:(4:Int)=GK none q:=by unfold GK;rw[VG];rfl
  have hl:=hL.none hp VG;refine Ps D3 Tryz.func112 rfl (Nz rfl) (Xi .pure (Xi _ (Yi (hl) (Yi ?_ ?_))))
  ·intro _;exact .of_eq (Ab vi e)
  ·intro h;exact absurd (show(4:Int)≠0 by decide) h
 |some m =>
  have er:GK none q=if(q.set.isEmpty||!decide (q.set=canon q.set)||false)=true then 1 else 0:=by unfold GK;rw[VG];rfl
  have hl:=hL.some hp VG;have hc:=Y5 q.set hq;have he:=uA q.set (canon q.set) hq;have Rr:∀{n:Int},n=(q.set.map Ag).length→n=0→q.set.isEmpty=true:=fun h1 h2=>by
   rw[Lm]at h1;rw[Gp];exact AK ch
  have kN:¬((q.set.map Ag).length:Int)=0→q.set.isEmpty=false:=fun h=>by
   cases hqs:q.set with
   |nil=>rw[hqs]at h;exact absurd rfl h
   |cons a l=>rfl
  rcases Bt (decide (q.set=canon q.set))with h2 | h2
  ·rw[h2]at he;refine Ps (H1 []) Tryz.func112 rfl (Nz rfl) (Xi .pure (Xi _ (Yi (hl) (Yi ?_ ?_))))
   ·intro h;exact absurd rfl h
   intro _;refine Yi ?_ ?_
   ·intro h;have h:((q.set.map Ag).length:Int)=0:=h;have e:(1:Int)=GK none q:=by rw[er,Rr rfl h];rfl
    refine Yi Wk ?_;exact .of_eq (Ab vi e)
   intro h;have h:¬((q.set.map Ag).length:Int)=0:=h;have hn:=kN h;refine Xi _ (Yi (hc) (Xi _ (Yi (he) (Yi Wk ?_))));have e:(0:Int)=GK none q:=by rw[er,hn,h2];rfl
   exact .of_eq (Ab vi e)
  ·rw[h2]at he;refine Ps (H1 []) Tryz.func112 rfl (Nz rfl) (Xi .pure (Xi _ (Yi (hl) (Yi ?_ ?_))))
   ·intro h;exact absurd rfl h
   intro _;refine Yi ?_ ?_
   ·intro h;have h:((q.set.map Ag).length:Int)=0:=h;have e:(1:Int)=GK none q:=by rw[er,Rr rfl h];rfl
    refine Yi Wk ?_;exact .of_eq (Ab vi e)
   intro h;have h:¬((q.set.map Ag).length:Int)=0:=h;have hn:=kN h;refine Xi _ (Yi (hc) (Xi _ (Yi (he) (Yi Wk ?_))));have e:(1:Int)=GK none q:=by rw[er,hn,h2];rfl
   exact .of_eq (Ab vi e)
theorem ux(hL:VK nm)(q b:Rq)(hq:Cy q.set)(hp:Gi q.path):PC 112 [.agg (AH q),.cptr (AH b)] (vi (GK (some b.path) q)):=by
 cases VG:Bu q.path with
 |none =>
  have e:(4:Int)=GK (some b.path) q:=by unfold GK;rw[VG];rfl
  have hl:=hL.none hp VG;refine Ps D3 Tryz.func112 rfl (Nz rfl) (Xi .pure (Xi _ (Yi (hl) (Yi ?_ ?_))))
  ·intro _;exact .of_eq (Ab vi e)
  ·intro h;exact absurd (show(4:Int)≠0 by decide) h
 |some m =>
  have er:GK (some b.path) q=if(q.set.isEmpty||!decide (q.set=canon q.set)||!DL b.path q.path)=true then 1 else 0:=by unfold GK;rw[VG];rfl
  have hl:=hL.some hp VG;have hc:=Y5 q.set hq;have he:=uA q.set (canon q.set) hq;have Rr:∀{n:Int},n=(q.set.map Ag).length→n=0→q.set.isEmpty=true:=fun h1 h2=>by
   rw[Lm]at h1;rw[Gp];exact AK ch
  have kN:¬((q.set.map Ag).length:Int)=0→q.set.isEmpty=false:=fun h=>by
   cases hqs:q.set with
   |nil=>rw[hqs]at h;exact absurd rfl h
   |cons a l=>rfl
  rcases Bt (decide (q.set=canon q.set))with h2 | h2
  ·rw[h2]at he;refine Ps (H1 []) Tryz.func112 rfl (Nz rfl) (Xi .pure (Xi _ (Yi (hl) (Yi ?_ ?_))))
   ·intro h;exact absurd rfl h
   intro _;refine Yi ?_ ?_
   ·intro h;have h:((q.set.map Ag).length:Int)=0:=h;have e:(1:Int)=GK (some b.path) q:=by rw[er,Rr rfl h];rfl
    refine Yi Wk ?_;exact .of_eq (Ab vi e)
   intro h;have h:¬((q.set.map Ag).length:Int)=0:=h;have hn:=kN h;refine Xi _ (Yi (hc) (Xi _ (Yi (he) (Yi ?_ ?_))))
   ·intro h3;have h3:Op.bytesLess b.path.toList q.path.toList=false:=h3;refine Yi Wk ?_;have e:(1:Int)=GK (some b.path) q:=by rw[er,hn,h2,Ed,h3];rfl
    exact .of_eq (Ab vi e)
   ·intro h3;have h3:¬Op.bytesLess b.path.toList q.path.toList=false:=h3;have h3:Op.bytesLess b.path.toList q.path.toList=true:=by simpa using h3
    refine Yi Wk ?_;have e:(0:Int)=GK (some b.path) q:=by rw[er,hn,h2,Ed,h3];rfl
    exact .of_eq (Ab vi e)
  ·rw[h2]at he;refine Ps (H1 []) Tryz.func112 rfl (Nz rfl) (Xi .pure (Xi _ (Yi (hl) (Yi ?_ ?_))))
   ·intro h;exact absurd rfl h
   intro _;refine Yi ?_ ?_
   ·intro h;have h:((q.set.map Ag).length:Int)=0:=h;have e:(1:Int)=GK (some b.path) q:=by rw[er,Rr rfl h];rfl
    refine Yi Wk ?_;exact .of_eq (Ab vi e)
   intro h;have h:¬((q.set.map Ag).length:Int)=0:=h;have hn:=kN h;refine Xi _ (Yi (hc) (Xi _ (Yi (he) (Yi Wk ?_))));have e:(1:Int)=GK (some b.path) q:=by rw[er,hn,h2];rfl
   exact .of_eq (Ab vi e)
abbrev NA(l:List Rq)(k:Nat):List AV:=((l.map AH)[k]?).getD []
abbrev ur(l:List Rq):Nat→AV
 |0=>.v (.pointer none)
 |k+1=>.cptr (NA l k)
abbrev If(l:List Rq):Nat→Option ByteArray
 |0=>none
 |k+1=>(l[k]?).map (·.path)
theorem OD{l:List Rq}(h:k<l.length):NA l k=AH l[k]:=by
 unfold NA;rw[AL,Ge h];rfl
theorem MM{l:List Rq}(h:k<l.length):If l (k+1)=some l[k].path:=by
 show(l[k]?).map _=_;rw[Ge h];rfl
theorem c65(hL:VK nm)(l:List Rq)(hs:∀q∈l,J8 q):PC 82 [sl AH l] (vi (Bn l)):=by
 refine Ps (H1 []) Tryz.func82 rfl (Nz rfl) (Yi ?_ ?_)
 ·intro h;have h:(16:Int)<(l.map AH).length:=h;exact .of_eq (Ab vi (show(7:Int)=Bn l by unfold Bn;rw[Al (by rw[Lm]at h;omega)]))
 intro h;have h:¬(16:Int)<(l.map AH).length:=h;have hl:l.length≤16:=by rw[Lm]at h;omega
 have NY:Bn l=Ek none l:=by unfold Bn;rw[Ae ch]
 refine Xi {i:Nat // i≤l.length∧Ek none l=Ek (If l i) (l.drop i)} (Xi (fun i=>⟨[(0,sl AH l),(3,ur l i.1),(10,sl AH l),(11,vi (l.map AH).length),(12,vi i.1)],[],Af⟩) (Xi (fun i=>l.length-i.1) (Yi (Xi ⟨0,AA _,rfl⟩ ?_) ?_)))
 ·exact⟨Z5,Tv,Fh,Tv⟩
 intro⟨i,h1,h2⟩;refine Yi ?_ ?_
 ·intro h;have h:(i:Int)<(l.map AH).length:=h;have h:i<l.length:=by simpa using h
  have hg:l[i]?=some l[i]:=Ge h;have hd:l.drop i=l[i]::l.drop (i+1):=AP h;have hq:=hs l[i] (Aj h);have hc:PC 112 [.agg (AH l[i]),ur l i] (vi (GK (If l i) l[i])):=by
   cases i with
   |zero=>exact uw hL _ hq.1 hq.2
   |succ k =>
    rw[MM (by omega:k<l.length)];show PC 112 [_,.cptr (NA l k)] _;rw[OD (by omega:k<l.length)];exact ux hL _ _ hq.1 hq.2
  have H8:Ek none l=if GK (If l i) l[i]=0 then Ek (some l[i].path) (l.drop (i+1))else GK (If l i) l[i]:=by rw[h2,hd];rfl
  match i,h1,h2,h,hg,hd,hc,H8 with
  |0,h1,h2,h,hg,hd,hc,H8 =>
   refine Xi (AH l[0]) (Yi (Yi (by show(0:Int)≤((0:Nat):Int);omega) (by simp[hg])) (Yi rfl ?_));refine Yi (Nz rfl) (Yi (Nz rfl) (yN (Xi .pure (Xi _ (Yi (hc) (Yi ?_ ?_))))))
   ·intro h4;have h4:GK (If l (0)) l[0]≠0:=h4;exact .of_eq (Ab vi (show GK (If l (0)) l[0]=Bn l by rw[NY,H8,Ae h4]))
   ·intro h4;have h4:¬GK (If l (0)) l[0]≠0:=h4;refine Xi (AH l[0]) (Yi (Yi (by show(0:Int)≤((0:Nat):Int);omega) (by simp[hg])) (Yi rfl ?_));refine Yi (by show Bc (((0:Nat):Int)+1);unfold Bc;omega) ?_;refine Xi ⟨0+1,by omega,by rw[H8,Al (GT h4),MM h]⟩ ?_;have e1:AV.cptr (AH l[0])=.cptr (NA l (0)):=by rw[OD h]
    exact⟨by show l.length-(0+1)<l.length-(0);omega,⟨Zr,⟨e1,rfl⟩,Zr,Zr,Zr,Tv⟩,Tv,Fh,Tv⟩
  |k+1,h1,h2,h,hg,hd,hc,H8 =>
   refine Xi (AH l[k+1]) (Yi (Yi (by show(0:Int)≤((k+1:Nat):Int);omega) (by simp[hg])) (Yi rfl ?_));refine Yi (Nz rfl) (Yi (Nz rfl) (yN (Xi .pure (Xi _ (Yi (hc) (Yi ?_ ?_))))))
   ·intro h4;have h4:GK (If l (k+1)) l[k+1]≠0:=h4;exact .of_eq (Ab vi (show GK (If l (k+1)) l[k+1]=Bn l by rw[NY,H8,Ae h4]))
   ·intro h4;have h4:¬GK (If l (k+1)) l[k+1]≠0:=h4;refine Xi (AH l[k+1]) (Yi (Yi (by show(0:Int)≤((k+1:Nat):Int);omega) (by simp[hg])) (Yi rfl ?_));refine Yi (by show Bc (((k+1:Nat):Int)+1);unfold Bc;omega) ?_;refine Xi ⟨k+1+1,by omega,by rw[H8,Al (GT h4),MM h]⟩ ?_;have e1:AV.cptr (AH l[k+1])=.cptr (NA l (k+1)):=by rw[OD h]
    exact⟨by show l.length-(k+1+1)<l.length-(k+1);omega,⟨Zr,⟨e1,rfl⟩,Zr,Zr,Zr,Tv⟩,Tv,Fh,Tv⟩
 ·intro h;have h:¬(i:Int)<(l.map AH).length:=h;have h:¬i<l.length:=by simpa using h
  have e:(0:Int)=Bn l:=by rw[NY,h2,H3 ch];rfl
  exact .of_eq (Ab vi e)
abbrev jS(r:Rl):Nat→ByteArray
 |0=>r.arch
 |1=>r.ifc
 |_=>r.cert
theorem rF{r:Rl}(h:∀j,j<3→D1 (jS r j)=true):(D1 r.arch&&D1 r.ifc&&D1 r.cert)=true:=by
 have h0:D1 r.arch=true:=h 0 Cl;have h1:D1 r.ifc=true:=h 1 Cl;have h2:D1 r.cert=true:=h 2 Cl;rw[h0,h1,h2];rfl
theorem bT{r:Rl}(hi:i<3)(h:D1 (jS r i)=false):(D1 r.arch&&D1 r.ifc&&D1 r.cert)=false:=by
 match i,hi,h with
 |0,_,h=>have h:D1 r.arch=false:=h;rw[h];rfl
 |1,_,h=>have h:D1 r.ifc=false:=h;rw[h,Cz];rfl
 |2,_,h=>have h:D1 r.cert=false:=h;rw[h,Cz]
theorem yV(hL:VK nm)(r:Rl)(hr:Gv r):PC 58 [.agg (At r)] (vi (CW r)):=by
 cases VG:Bu r.path with
 |none =>
  have e:(4:Int)=CW r:=by unfold CW;rw[VG]
  have hl:=hL.none hr.1 VG;refine Ps D3 Tryz.func58 rfl (Nz rfl) (Xi .pure (Xi _ (Yi (hl) (Yi ?_ ?_))))
  ·intro _;exact .of_eq (Ab vi e)
  ·intro h;exact absurd (show(4:Int)≠0 by decide) h
 |some m =>
  have er:CW r=if(!Cj r.ver||!decide (r.ver.a=m))=true then 2 else if Bn r.reqs≠0 then Bn r.reqs else if(D1 r.arch&&D1 r.ifc&&D1 r.cert)=true then 0 else 1:=by unfold CW;rw[VG]
  have hl:=hL.some hr.1 VG;have hv:=re r.ver;have hc:=c65 hL r.reqs hr.2;rcases Bt (Cj r.ver)with h2 | h2
  ·rw[h2]at hv;refine Ps (H1 []) Tryz.func58 rfl (Nz rfl) (Xi .pure (Xi _ (Yi (hl) (Yi ?_ ?_))))
   ·intro h;exact absurd rfl h
   intro _;refine yN (Xi .pure (Xi _ (Yi (hv) (Yi ?_ ?_))))
   ·intro h;have h:r.ver.a≠m:=h;have e:(2:Int)=CW r:=by rw[er,h2,Ap h];rfl
    exact .of_eq (Ab vi e)
   intro h;have h:¬r.ver.a≠m:=h;have h3:r.ver.a=m:=GT h;have uU:CW r=if Bn r.reqs≠0 then Bn r.reqs else if(D1 r.arch&&D1 r.ifc&&D1 r.cert)=true then 0 else 1:=by rw[er,h2,Aq h3];rfl
   refine Xi .pure (Xi _ (Yi (hc) (Yi ?_ ?_)))
   ·intro h4;have h4:Bn r.reqs≠0:=h4;exact .of_eq (Ab vi (show Bn r.reqs=CW r by rw[uU,Al h4]))
   intro h4;have h4:¬Bn r.reqs≠0:=h4;have xR:CW r=if(D1 r.arch&&D1 r.ifc&&D1 r.cert)=true then 0 else 1:=by rw[uU,Ae h4]
   refine Xi {i:Nat // i≤3∧∀j,j<i→D1 (jS r j)=true} (Xi (fun i=>⟨[(41,.slice (.id 41 1) [[vs r.arch],[vs r.ifc],[vs r.cert]]),(42,vi 3),(43,vi i.1)],[(41,.tok 1 3)],Af⟩) (Xi (fun i=>3-i.1) (Yi (Xi ⟨0,by omega,fun j h=>by omega⟩ ?_) ?_)))
   ·exact⟨Z3,Z1,Fh,Tv⟩
   intro⟨i,i1,i2⟩;refine Yi ?_ ?_
   ·intro h;have h:(i:Int)<3:=h;have next:D1 (jS r i)=true→∀j,j<i+1→D1 (jS r j)=true:=fun hz j hj=>by
     rcases BY j i with q | q
     ·exact i2 j q
     ·have:j=i:=by omega
      subst this;exact hz
    match i,i1,i2,h,next with
    |0,i1,i2,h,next =>
     refine Xi [vs r.arch] (Yi (Yi (by show(0:Int)≤0;decide) rfl) (Yi rfl (Yi ?_ ?_)))
     ·intro h5;have h5:((r.arch.size:Nat):Int)≠0:=h5;refine Yi ?_ ?_
      ·intro h6;have h6:((r.arch.size:Nat):Int)≠32:=h6;have e:(1:Int)=CW r:=by rw[xR,bT (i:=0) Cl (show D1 r.arch=false by unfold D1;rw[Ap ch,Ap ch];rfl)];rfl
       exact .of_eq (Ab vi e)
      ·intro h6;have h6:¬((r.arch.size:Nat):Int)≠32:=h6;refine Yi (Ii 0 ch) (Xi ⟨1,by omega,next (show D1 r.arch=true by unfold D1;rw[Aq (by omega:r.arch.size=32),VJ])⟩ ?_)
       exact⟨by show 3-1<3-0;decide,Z3,Z1,Fh,Tv⟩
     ·intro h5;have h5:¬((r.arch.size:Nat):Int)≠0:=h5;refine Yi (Ii 0 ch) (Xi ⟨1,by omega,next (show D1 r.arch=true by unfold D1;rw[Aq (by omega:r.arch.size=0)];rfl)⟩ ?_)
      exact⟨by show 3-1<3-0;decide,Z3,Z1,Fh,Tv⟩
    |1,i1,i2,h,next =>
     refine Xi [vs r.ifc] (Yi (Yi (by show(0:Int)≤1;decide) rfl) (Yi rfl (Yi ?_ ?_)))
     ·intro h5;have h5:((r.ifc.size:Nat):Int)≠0:=h5;refine Yi ?_ ?_
      ·intro h6;have h6:((r.ifc.size:Nat):Int)≠32:=h6;have e:(1:Int)=CW r:=by rw[xR,bT (i:=1) Cl (show D1 r.ifc=false by unfold D1;rw[Ap ch,Ap ch];rfl)];rfl
       exact .of_eq (Ab vi e)
      ·intro h6;have h6:¬((r.ifc.size:Nat):Int)≠32:=h6;refine Yi (Ii 1 ch) (Xi ⟨2,by omega,next (show D1 r.ifc=true by unfold D1;rw[Aq (by omega:r.ifc.size=32),VJ])⟩ ?_)
       exact⟨by show 3-2<3-1;decide,Z3,Z1,Fh,Tv⟩
     ·intro h5;have h5:¬((r.ifc.size:Nat):Int)≠0:=h5;refine Yi (Ii 1 ch) (Xi ⟨2,by omega,next (show D1 r.ifc=true by unfold D1;rw[Aq (by omega:r.ifc.size=0)];rfl)⟩ ?_)
      exact⟨by show 3-2<3-1;decide,Z3,Z1,Fh,Tv⟩
    |2,i1,i2,h,next =>
     refine Xi [vs r.cert] (Yi (Yi (by show(0:Int)≤2;decide) rfl) (Yi rfl (Yi ?_ ?_)))
     ·intro h5;have h5:((r.cert.size:Nat):Int)≠0:=h5;refine Yi ?_ ?_
      ·intro h6;have h6:((r.cert.size:Nat):Int)≠32:=h6;have e:(1:Int)=CW r:=by rw[xR,bT (i:=2) Cl (show D1 r.cert=false by unfold D1;rw[Ap ch,Ap ch];rfl)];rfl
       exact .of_eq (Ab vi e)
      ·intro h6;have h6:¬((r.cert.size:Nat):Int)≠32:=h6;refine Yi (Ii 2 ch) (Xi ⟨3,by omega,next (show D1 r.cert=true by unfold D1;rw[Aq (by omega:r.cert.size=32),VJ])⟩ ?_)
       exact⟨by show 3-3<3-2;decide,Z3,Z1,Fh,Tv⟩
     ·intro h5;have h5:¬((r.cert.size:Nat):Int)≠0:=h5;refine Yi (Ii 2 ch) (Xi ⟨3,by omega,next (show D1 r.cert=true by unfold D1;rw[Aq (by omega:r.cert.size=0)];rfl)⟩ ?_)
      exact⟨by show 3-3<3-2;decide,Z3,Z1,Fh,Tv⟩
    |i+3,i1,i2,h,next=>omega
   ·intro h;have h:¬(i:Int)<3:=h;have e:(0:Int)=CW r:=by rw[xR,Al (rF fun j hj=>i2 j ch)]
    exact .of_eq (Ab vi e)
  ·rw[h2]at hv;have e:(2:Int)=CW r:=by rw[er,h2];rfl
   refine Ps (H1 []) Tryz.func58 rfl (Nz rfl) (Xi .pure (Xi _ (Yi (hl) (Yi ?_ ?_))))
   ·intro h;exact absurd rfl h
   intro _;refine yN (Xi .pure (Xi _ (Yi (hv) ?_)));exact .of_eq (Ab vi e)
theorem cU{cx:Cx}{st:St}{K:LS → Prop}(t:List (Nat×AV))(h:List (Nat×HO))(h1:yr st (LS.st ⟨t,h,Af⟩).h t)(h2:yq st (LS.st ⟨t,h,Af⟩).h h)(k:K ⟨t,h,Af⟩)
    (h3:match cx.ext with | false => True | true => ∀j,1000 ≤ j → j<2000 → st.h j ≠ .free → (LS.st ⟨t,h,Af⟩).h j ≠ .free := by first | exact trivial | exact Bo Wk):∃s,St.le cx st s ∧ K s := ⟨_,⟨h1,h2,fun _ => .inl rfl,h3⟩,k⟩
end Go.Eng
