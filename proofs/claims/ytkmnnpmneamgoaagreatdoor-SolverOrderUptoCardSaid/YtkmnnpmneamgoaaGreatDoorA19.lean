/- Lemmas for the claims of this seat, without a condition: part 19 (C23, C24, C25, C26, C27, C28, C29, C30, C31, C32, C33). -/
import Derived.Test.YtkmnnpmneamgoaaGreatDoorA18
import Derived.Shelf.Slices.Delete
namespace Go.Eng
open Go.Proofs
abbrev GL(l:List Tm):AV:=.tup [sl AA (PF l),vb (CJ l).isSome]
abbrev vN:O3:=⟨[],[],[(4,3)],[],[],[],[],[],[],[(25,4)],[4,7,10]⟩
abbrev RN(l:List Tm):HO:=.arr 3 (l.map AA)
abbrev Fk(l:List Tm):List Tm:=l.filter fun t=>!GB t
theorem ku{l:List Tm}{kv:Value×AV}{NM : List (Value×AV)}(h:(l.map Mx).Perm (kv::NM)):∃t r,kv=Mx t∧NM=r.map Mx∧l.Perm (t::r):=by
 obtain⟨ps,h1,h2⟩:=Mg h l rfl;cases ps with
 |nil=>cases h2
 |cons t r =>
  rw[AM,FF]at h2;exact⟨t,r,h2.1.symm,h2.2.symm,h1.symm⟩
theorem WF{l:List Tm}{t:Tm}(h:t∈CW l)(hn:HA t=true):CJ l=none:=by
 unfold CJ;rw[Aw (Bf.2 ⟨t,(I2 l t).1 h,hn⟩)]
theorem Yw{l done s:List Tm}(h:done.Perm (CW l))(hn:∀t∈done,HA t=false)(hp:s.Perm (Fk done))(hs:s.Pairwise fun x y=>FV y.path x.path=false):CJ l=some s:=by
 unfold CJ;rw[Am]
 ·congr 1
  exact(Pg _ (hp.trans (h.filter _)) hs).symm
 ·intro c;obtain⟨t,h1,h2⟩:=Bf.1 c
  have:=hn t (h.mem_iff.2 ((I2 l t).2 h1))
  rw[h2]at this;cases this
theorem ca(l:List Tm):(Fk l).length≤l.length:=By _ _
theorem rS(l:List Tm)(hl:Cv l)(hs:∀t∈l,Cv t.set):PC 192 [sl AA l] (GL l):=by
 have YU:l.length≤1073741824:=hl;have uU:(CW l).length≤l.length:=by have:=NE l l.length (Ak _);rwa [DU]at this
 refine Ps vN Tryz.func192 rfl (Nz rfl) ?_;refine Xi .pure (Xi _ (Yi (y9 l hl hs) ?_));refine Xi {p:List Tm×List Tm×Option (Value×AV) // (p.1++p.2.1).Perm (CW l)∧∀t∈p.1,HA t=false} (Xi (fun p=>⟨[(4,.msl 4 (Fk p.1.1).length),(9,.ref 9 0)],[(4,RN (Fk p.1.1)),(9,.iter ((CW l).map Mx) (p.1.2.1.map Mx) p.1.2.2)],Aa⟩) (Xi (fun p=>p.1.2.1.length) (Yi (Xi ⟨([],CW l,none),.refl _,fun t ht=>by cases ht⟩ ?_) ?_)))
 ·exact⟨Z2,Z2,Fh,Tv⟩
 intro⟨⟨done,rem,F2⟩,r1,r2⟩;have r1:(done++rem).Perm (CW l):=r1;have r2:∀t∈done,HA t=false:=r2;have hdl:done.length+rem.length≤l.length:=by have:=r1.length_eq;rw[Ac]at this;omega
 have dy:=ca done;refine Yi ?_ ?_
 ·intro hr;have hr:rem.map Mx=[]:=hr;have hr:rem=[]:=EE.1 hr;subst hr;rw[CP]at r1;refine Xi (.gen [(4,1000)] 0) (Yi rfl ((zd (Fk done) (by unfold Cv;omega)).to ?_));intro s hq;have UK:s.length=(Fk done).length:=hq.1.length_eq;have hc:=Yw r1 r2 hq.1 hq.2;refine Xi ⟨[(4,.msl 4 (Fk done).length)],[(4,RN s)],Aa⟩ (Yi ⟨Z1,Z1,Fh,Tv⟩ ?_)
  refine Yi (by rw[Lm,UK]) ?_;have e:AV.tup [sl AA s,vb true]=GL l:=by unfold GL PF;rw[hc];rfl
  exact .of_eq e
 ·intro kv NM hp;refine BC (ku hp) (fun t hp=>BC hp (fun r hp=>?_));have e1:=hp.1;have e2:=hp.2.1;subst e1;subst e2;have hp:=hp.2.2;have oH:t∈CW l:=r1.mem_iff.1 (Bo _ (hp.mem_iff.2 (Ab ..)));have vw:=OG l t oH;have x6:=Oh vw;refine Xi ⟨[(4,.msl 4 (Fk done).length),(9,.ref 9 0)],[(4,RN (Fk done)),(9,.iter ((CW l).map Mx) (r.map Mx) (some (Mx t)))],Aa⟩ (Yi ⟨Z2,Z2,Fh,Tv⟩ ?_)
  refine Yi (Nz rfl) (Yi (Nz rfl) ?_);have hv:PC 229 [.agg (AA t)] (vb (HA t)):=gq vw▸za t x6;have ha:PC 230 [.agg (AA t)] (vb (GB t)):=aV vw▸zb t x6;refine Cy (Bt (HA t)) (fun h=>?_) (fun h=>?_)
  ·rw[h]at hv;refine Xi .pure (Xi _ (Yi (hv) ?_));have hc:=WF oH h;have e:AV.tup [.slice .none [],vb false]=GL l:=by unfold GL PF;rw[hc];rfl
   have e0:GO (.tup [.v (.slice none 0 0),vb false]) (.tup [.slice .none [],vb false]):=GO.tup ⟨.nil,.refl _,trivial⟩;exact e0.trans (.of_eq e)
  ·rw[h]at hv;refine Xi .pure (Xi _ (Yi (hv) ?_));refine Xi ⟨[(4,.msl 4 (Fk done).length),(6,.ref 6 0),(9,.ref 9 0)],[(4,RN (Fk done)),(6,.cells (AA t)),(9,.iter ((CW l).map Mx) (r.map Mx) (some (Mx t)))],Aa⟩ (Yi ⟨Z3,Z3,Fh,Tv⟩ ?_)
   refine Yi (Nz rfl) ?_;have TK:((done++[t])++r).Perm (CW l):=by
    rw[BU];exact(List.Perm.append_left _ hp.symm).trans r1
   have xR:∀u∈done++[t],HA u=false:=fun u hu=>by
    rcases A2.1 hu with hu | hu
    ·exact r2 u hu
    ·rw[Ai.1 hu];exact h
   have hrl:r.length<rem.length:=by rw[hp.length_eq,Al];omega
   refine Cy (Bt (GB t)) (fun h2=>?_) (fun h2=>?_)
   rotate_left
   ·rw[h2]at ha;refine Xi .pure (Xi _ (Yi (ha) ?_));have Ei:BY 3 [AA t]∧((Fk done).map AA).length=(Fk done).length∧(((Fk done).map AA).length+[AA t].length)*48≤140737488355328∧((Fk done).map AA).length+[AA t].length≤9223372036854775807 :=
     ⟨⟨rfl,trivial⟩,by rw[Lm],by rw[Lm,As];omega,by rw[Lm,As];omega⟩
    refine Yi (Nz rfl) ?_;refine Yi Ei ?_;have hk:Fk (done++[t])=Fk done++[t]:=by unfold Fk;rw[EZ,Dp,Aw (by rw[h2];rfl)];rfl
    have e1:AV.msl 4 (((Fk done).map AA).length+[AA t].length)=.msl 4 (Fk (done++[t])).length:=by rw[hk];simp
    have e2:HO.arr 3 ((Fk done).map AA++[AA t])=RN (Fk (done++[t])):=by rw[hk];simp
    refine Xi ⟨(done++[t],r,some (Mx t)),TK,xR⟩ ?_;exact⟨hrl,⟨⟨e1,rfl⟩,Zr,Tv⟩,⟨⟨e2,rfl⟩,Zr,Tv⟩,Fh,Tv⟩
   ·rw[h2]at ha;refine Xi .pure (Xi _ (Yi (ha) ?_));have hk:Fk (done++[t])=Fk done:=by unfold Fk;rw[EZ,Dp,Am (by rw[h2];decide)];simp
    have e1:AV.msl 4 (Fk done).length=.msl 4 (Fk (done++[t])).length:=by rw[hk]
    have e2:RN (Fk done)=RN (Fk (done++[t])):=by rw[hk]
    refine Xi ⟨(done++[t],r,some (Mx t)),TK,xR⟩ ?_;exact⟨hrl,⟨⟨e1,rfl⟩,Zr,Tv⟩,⟨⟨e2,rfl⟩,Zr,Tv⟩,Fh,Tv⟩
end Go.Eng

namespace Go.Eng
open Go.Proofs
theorem mB(l:List Tm)(hl:Cv l)(hs:∀t∈l,Cv t.set):PC 187 [sl AA l] (sl AA (PF l)):=by
 refine Ps FC Tryz.func187 rfl (Nz rfl) ?_;refine Xi .pure (Xi _ (Yi (rS l hl hs) ?_));exact .refl _
theorem Pl(s:Bj):Cv (Ec s):=by
 unfold Cv;have:=HS (G8 s);omega
theorem mI{α:Type}(x:α):Cv [x]:=by unfold Cv;simp
theorem tL{α:Type}(x y:α):Cv [x,y]:=by unfold Cv;simp
theorem pm(q:Rq)(hq:Cv q.set):PC 133 [.agg (Ah q)] (sl AA (GJ q)):=by
 have hc:PC 187 [sl AA [Dy q]] (sl AA (GJ q)):=mB [Dy q] (mI _) fun t ht=>by rw[Ai.1 ht];exact Pl _
 refine Ps FC Tryz.func133 rfl (Nz rfl) ?_;refine Yi (Nz rfl) ?_;refine Xi .pure (Xi _ (Yi (pv q hq) ?_));refine Xi .pure (Xi _ (Yi (hc) ?_));exact .refl _
theorem pn(p:ByteArray)(pl:Int)(q:Rq)(hp:BQ (pl+1))(hq:Cv q.set):PC 134 [vs p,vi pl,.agg (Ah q)] (sl AA (C0 p pl q)):=by
 have hc:PC 187 [sl AA [⟨p,false,[(pl,pl+1)]⟩,Dy q]] (sl AA (C0 p pl q)):=mB [⟨p,false,[(pl,pl+1)]⟩,Dy q] (tL _ _) fun t ht=>by
  rcases AF.1 ht with rfl | ht
  ·exact mI _
  ·rw[Ai.1 ht];exact Pl _
 refine Ps FC Tryz.func134 rfl (Nz rfl) ?_;refine Yi hp ?_;refine Yi (Nz rfl) ?_;refine Xi .pure (Xi _ (Yi (pv q hq) ?_));refine Xi .pure (Xi _ (Yi (hc) ?_));exact .refl _
theorem mw(p:ByteArray)(s:Bj)(hs:Cv s):PC 137 [vs p,sl Ap s] (sl AA (E5 p s)):=by
 have hc:PC 187 [sl AA [⟨p,false,Ec s⟩]] (sl AA (E5 p s)):=mB [⟨p,false,Ec s⟩] (mI _) fun t ht=>by rw[Ai.1 ht];exact Pl _
 refine Ps FC Tryz.func137 rfl (Nz rfl) ?_;refine Xi .pure (Xi _ (Yi (mh s hs) ?_));refine Xi .pure (Xi _ (Yi (hc) ?_));exact .refl _
end Go.Eng

namespace Go.Eng
open Go.Proofs Go.Shelf Go.RowKit Go.Lib Go.Sort
theorem ny(F:Array Value)(i n:Nat)(hF:F.size=n*3)(hi:i<n)(z:List Value)(hz:z.length=3):(lay (lay F (i*3) (F.toList.drop ((i+1)*3))) ((n-1)*3) z).toList=F.toList.take (i*3)++F.toList.drop ((i+1)*3)++z:=by
 have l1:(F.toList.take (i*3)).length=i*3:=by simp;omega
 have l2:(F.toList.drop ((i+1)*3)).length=(n-(i+1))*3:=by simp;omega
 apply Dc
 intro t
 rw[A4,lay_get? _ _ _ _ (by rw[Lib.lay_size];omega),lay_get? _ _ _ _ (by rw[l2];omega)]
 rw[hz,l2]
 by_cases c1:t<i*3
 ·rw[Am (by omega),Am (by omega),AX (by rw[Ac];omega),AX (by omega),Jt,Aw c1,A4]
 ·by_cases c2:t<(n-1)*3
  ·rw[Am (by omega),Aw (by omega),AX (by rw[Ac];omega),A3 (by omega),l1]
  ·rw[A3 (by rw[Ac];omega),Ac,l1,l2]
   by_cases c3:t<n*3
   ·rw[Aw (by omega)];congr 1;omega
   ·rw[Am (by omega),Am (by omega),TM (by omega),AZ (by omega)]
abbrev ja:List Value:=[.string ⟨#[]⟩,.bool false,.slice none 0 0]
set_option maxHeartbeats 4000000 in
set_option maxRecDepth 1000000 in
theorem ee(w:World)(b cap i n:Nat)(F:Array Value)(hF:F.size=n*3)(hi:i<n)(MN:n≤cap)(hH:Holds id w b 0 F)(h1:∀x∈F.toList,x.oneCell'=true) :
  Calls Tryz.prog 225 #[.slice (some ⟨b,0,none⟩) n cap,.int .i64 i,.int .i64 ((i:Int)+1)] w fun e w'=>e=.returned (.slice (some ⟨b,0,none⟩) (n-1) cap) ∧
   w'=putRow id (Sort.ahead w 1) b 0 (lay (lay F (i*3) (F.toList.drop ((i+1)*3))) ((n-1)*3) ja):=by
 obtain⟨i0,m0,qS⟩:∃i0,Tryz.prog.info? 208=some i0∧i0.size=3:=by
  obtain⟨i,z,h1,_,h2,_⟩:=Hl (P:=Tryz.prog) (T:=i7) BS (e:=208) (n:=2) (by kernel_rfl)
  exact⟨i,h1,h2.trans (by kernel_rfl)⟩
 obtain⟨news,IK⟩:∃news,news=F.toList.drop ((i+1)*3):=⟨_,rfl⟩
 have CM:news.length=(n-(i+1))*3:=by rw[IK];simp;omega
 have EB:∀t,t<(n-(i+1))*3→news[t]?=some F[(i+1)*3+t]!:=by
  intro t ht
  rw[IK,Du,A4,DH F ((i+1)*3+t) (by omega),Ba (by omega)]
 obtain⟨A,hA,bT⟩:∃A:Addr,(if cap=i+1 then some (⟨b,0,none⟩:Addr)else some ⟨b,(i+1)*3,none⟩)=some A∧Hid (∀t u,news[t]?=some u→w.drew.cell? (A.add t)=some u):=by
  by_cases h:cap=i+1
  ·refine⟨⟨b,0,none⟩,by simp[h],fun t u hu=>?_⟩
   have h0:news.length=0:=by rw[CM];omega
   rw[List.length_eq_zero_iff.1 h0]at hu
   simp at hu
  ·refine⟨⟨b,(i+1)*3,none⟩,by simp[h],fun t u hu=>?_⟩
   have ht:t<(n-(i+1))*3:=by
    have:=(At.1 hu).1
    rwa [CM]at this
   rw[EB t ht]at hu
   rw[Addr.add_lit]
   have:=(hH ((i+1)*3+t) (by omega)).1
   rw[Bd]at this
   exact this.trans hu
 have s1:Hid (news.length=(n-(i+1))*3):=CM
 have s2:Hid (∀u∈news,u.oneCell'=true):=by
  intro u hu
  rw[IK]at hu
  exact h1 u (Ia hu)
 have s3:Hid (∀t,t<news.length→(w.drew.cell? ⟨b,0+i*3+t,none⟩).isSome=true∧w.drew.frozen? ⟨b,0+i*3+t,none⟩=false):=by
  intro t ht
  rw[CM]at ht
  have:=hH (i*3+t) (by omega)
  rw[GA]
  exact⟨by show(w.cell? _).isSome=true;rw[this.1];rfl,this.2⟩
 obtain⟨W1,uh⟩:∃W1,W1=w.drew.setCells b (0+i*3) news:=⟨_,rfl⟩
 have mT : W1=putRow id (Sort.ahead w 1) b 0 (lay F (i*3) news):=by
  have:=putRow_setCells id (Sort.ahead w 1) b 0 news F (i*3) (by omega)
  rw[putRow_self id (Sort.ahead w 1) b 0 F (holds_ahead id w 1 b 0 F hH),LL]at this
  rw[uh,←this]
  rfl
 have tX:Holds id W1 b 0 (lay F (i*3) news):=by rw[mT];exact holds_putRow id _ b 0 F _ (holds_ahead id w 1 b 0 F hH) (Lib.lay_size _ _ _)
 have FK:(storeCells ⟨b,0+(n-1)*3,none⟩ ja 0).run Tryz.prog W1=.ok () (W1.setCells b (0+(n-1)*3) ja):=by
  have:=run_storeCells_cells (P:=Tryz.prog) b (0+(n-1)*3) ja 0 W1 (fun j hj=>by
   have hj:j<3:=hj
   have:=tX ((n-1)*3+j) (by rw[Lib.lay_size];omega)
   rw[show 0+(n-1)*3+0+j=0+((n-1)*3+j) by omega,this.1];rfl) (fun j hj=>by
   have hj:j<3:=hj
   have:=tX ((n-1)*3+j) (by rw[Lib.lay_size];omega)
   rw[show 0+(n-1)*3+0+j=0+((n-1)*3+j) by omega];exact this.2) (fun v hv=>by
   simp only[AF,Lx,or_false]at hv
   rcases hv with rfl | rfl | rfl<;>rfl)
  exact this
 have hcl:∀ty c,(Builtin.clear_ #[149] ty #[.slice (some ⟨b,(n-1)*3,none⟩) 1 c]).run Tryz.prog W1=.ok (.tuple #[]) (W1.setCells b (0+(n-1)*3) ja):=fun ty c=>by
  have hv:=Tryz.zeroValue208
  rw[Bd]at FK⊢
  have hz:(Builtin.zeroCells (Value.agg #[Value.string { data:=#[] },Value.bool false,Value.slice none 0 0]).cells 1).toList=ja:=by kernel_rfl
  simp[Builtin.clear_,run_underlying Tryz.underlying149,hv,hz,FK]
 have zG:∀ty,(Builtin.clear_ #[149] ty #[.slice (some ⟨b,(i+(n-(i+1)))*3,none⟩) (n-(i+(n-(i+1)))) (cap-(i+(n-(i+1))))]).run Tryz.prog W1=.ok (.tuple #[]) (W1.setCells b (0+(n-1)*3) ja):=fun ty=>by
  have e1:i+(n-(i+1))=n-1:=by omega
  have e2:n-(n-1)=1:=by omega
  rw[e1,e2];exact hcl ty _
 have X:Aside (W1=putRow id (Sort.ahead w 1) b 0 (lay F (i*3) news)):=mT
 have hW:Hid (W1=w.drew.setCells b (0+i*3) news):=uh
 have Y:Aside (news=F.toList.drop ((i+1)*3)):=IK
 have Z:Aside (news.length=(n-(i+1))*3):=CM
 have qo:i≤cap:=by omega
 have hjc:i+1≤cap:=by omega
 have mixed:=Go.Eng.hm
 have hb1:(0:Int)≤(i:Int)+1:=by omega
 have TX:(i:Int)+1≤(n:Int):=by omega
 clear uh mT tX hH EB IK CM FK hcl
 go_enter Tryz.func225,Tryz.ntmps225
 go_wp2_with fail
 go_region_law_o (refine step_append_room rfl (.tmp 22) (.tmp 25) 149 rfl 208 i0 3 Tryz.underlying149 m0 qS b 0 i cap (by simp[Act.eval,Act.put]) A (n-(i+1)) (cap-(i+1)) news (by simp[Act.eval,Act.put]) s1.out bT.out s2.out (by omega) s3.out ?_;rw[←hW.out])
 go_wp2
 go_ret
 refine⟨by rw[show i+(n-(i+1))=n-1 by omega];rfl,?_⟩
 rw[X.out]
 have e1:=Y.out
 have e2:=Z.out
 rw[←e1]
 have:=putRow_setCells id (Sort.ahead w 1) b 0 ja (lay F (i*3) news) ((n-1)*3) (by rw[Lib.lay_size];show _+3≤_;omega)
 rw[LL,Bd]at this
 exact this
abbrev Ud:List AV:=[Go.Eng.vs ⟨#[]⟩,vb false,.v (.slice none 0 0)]
theorem tw(l:List Tm)(i:Nat)(hi:i<l.length) :
  Bn Tryz.prog 225 [.msl 1000 l.length,vi i,vi ((i:Int)+1)] (Ad [(1000,.arr 3 (l.map AA))] Aa) fun r h'=>r=.msl 2000 (l.length-1)∧h'=Ad [(1000,.dead),(2000,.arr 3 ((l.eraseIdx i).map AA))] Aa:=by
 have hE:Gb Tryz.prog 225:=eB 225 Tryz.func225 (by kernel_rfl) rfl
 have CM:(l.eraseIdx i).length=l.length-1:=List.length_eraseIdx_of_lt hi
 have Ik:=aQ (P:=Tryz.prog) (f:=225) (es:=l.map AA) (sz:=3) (rest:=[.int .i64 i,.int .i64 ((i:Int)+1)]) (n':=l.length-1) (Q:=fun EA=>EA=(l.eraseIdx i).map AA++[Ud]) hE (fun e=>by
  rw[EE]at e;subst e;simp at hi) (by rw[Bp];omega) ?_
 ·rw[Bp]at Ik
  refine⟨hE,fun g w vals q1 q2 q3=>(Ik.2 g w vals q1 q2 q3).mono fun _ _ ⟨v,r,h',g',e1,⟨e2,EA,p1,p2⟩,rest⟩=>⟨v,r,h',g',e1,⟨e2,by rw[p2,p1,Fe (by rw[Bp,CM];exact Ak _),AI (by rw[Bp,CM];exact Ak _)]⟩,rest⟩⟩
 ·intro g w b cap F hr hF hH hb hc
  rw[Bp]at hF hc⊢
  have hu:∀e∈l.map AA,e.length=3:=fun e he=>by
   obtain⟨t,_,rfl⟩:=Ao.1 he;rfl
  refine(ee w b cap i l.length F hF hi hc hH hr.2.1).mono ?_
  rintro e w' ⟨rfl,rfl⟩
  refine⟨rfl,_,_,1,#[],?_,rfl,?_,fun cs hcs=>?_,fun g w hr=>?_,rfl⟩
  ·rw[Lib.lay_size,Lib.lay_size]
  ·rw[Ac,Bp,CM,As];omega
  ·rcases A2.1 hcs with h | h
   ·obtain⟨t,_,rfl⟩:=Ao.1 h;rfl
   ·rw[Ai.1 h];rfl
  ·rw[ny F i l.length hF hi ja rfl,List.eraseIdx_eq_take_drop_succ,Ct,AB,Ct,List.map_take,List.map_drop,←IU _ i hu,←Om _ (i+1) hu]
   refine CE.append (CE.append (hr.take _) (hr.drop _)) ?_
   exact PM g w E8 ja fun x hx=>by
    simp only[AF,Lx,or_false]at hx
    rcases hx with rfl | rfl | rfl<;>rfl
end Go.Eng

namespace Go.Eng
open Go.Proofs
theorem px(l:List Tm)(hl:Cv l)(Dn:l≠[]):Bn Tryz.prog 226 [sl AA l] (Ad [] Aa) fun r h'=>r=.msl 2000 l.length∧h'=Ad [(2000,.arr 3 (l.map AA))] Aa:=by
 refine BD (Iv (yd [(5,3)] [])) [(5,2000)] rfl BS hm rfl Tryz.func226 (by kernel_rfl) rfl (Nz rfl) (by kernel_rfl) rfl ?_;have Ei:BY 3 (l.map AA)∧([]:List (List AV)).length=0∧(([]:List (List AV)).length+(l.map AA).length)*48≤140737488355328∧([]:List (List AV)).length+(l.map AA).length≤9223372036854775807:=by
  refine⟨Es (enc:=AA) (n:=3) (fun _=>rfl) l,rfl,?_,?_⟩<;>simp only[Ar,Lm]<;>unfold Cv at hl<;>omega
 refine Yi ?_ ?_
 ·intro _;refine Yi Ei ?_;have e1:AV.msl 2000 (([]:List (List AV)).length+(l.map AA).length)=.msl 2000 l.length:=by simp
  refine Xi (.msl 2000 (([]:List (List AV)).length+(l.map AA).length)) (Yi (.refl _) (Yi e1 ?_))
  rfl
 ·intro h;have h:l.map AA=[]:=h;exact absurd (EE.1 h) Dn
theorem mD(x:Tm)(p:ByteArray):PC 224 [.agg (AA x),.cptr [vs p]] (vb (decide (x.path=p))):=by
 refine Ps FC Tryz.func224 rfl (Nz rfl) ?_;refine Yi ?_ ?_
 ·intro h;have h:x.path=p:=h;rw[AE h];exact .refl _
 ·intro h;have h:¬x.path=p:=h;rw[AD h];exact .refl _
theorem M3{p:ByteArray}:∀{c:List Tm} {i:Nat},(En c).Nodup→∀(hi:i<c.length),c[i].path=p→c.eraseIdx i=FO c p
 |t::c,0,hn,_,h=>by
  have h:t.path=p:=h;unfold En at hn;rw[AM,CQ]at hn;unfold FO;rw[Dp,Am (by simp[h])];show c=_;rw[List.filter_eq_self.2 fun u hu=>by
   have:u.path≠p:=fun e=>hn.1 (h▸e▸Ao.2 ⟨u,hu,rfl⟩)
   simp[this]]
 |t::c,i+1,hn,hi,h=>by
  have hi:i<c.length:=by simpa using hi
  have h:c[i].path=p:=h;unfold En at hn;rw[AM,CQ]at hn
  have:t.path≠p:=fun e=>hn.1 (by rw[e,←h];exact Ao.2 ⟨_,AC hi,rfl⟩)
  have ih:=M3 hn.2 hi h;unfold FO at ih⊢;rw[List.eraseIdx_cons_succ,Dp,Aw (by simp[this]),ih]
theorem Pk{l c:List Tm}(hl:Cv l)(h:CJ l=some c):Cv c:=by
 have h1:=NE l l.length (Ak _);rw[DU]at h1;have h2:c=(EV l).filter fun t=>!GB t:=by
  unfold CJ at h;split at h
  ·cases h
  ·exact(CC h).symm
 have h3:c.length≤(EV l).length:=by rw[h2];exact By _ _
 have h4:(EV l).length=(CW l).length:=by
  have:=(List.perm_ext_iff_of_nodup (HB (Hz l)) (HB (HF (Ed l)))).2 (I2 l)
  exact this.length_eq.symm
 unfold Cv at hl⊢;omega
abbrev ky:AV:=.tup [.agg Ud,.v (.slice none 0 0),vb false]
abbrev lP:O3:=⟨[3],[],[],[],[],[],[],[],[(30,0),(34,1)],[],[3]⟩
theorem dU(l:List Tm)(p:ByteArray)(hl:Cv l)(hs:∀t∈l,Cv t.set)(hn:Fw l p=none):PC 191 [sl AA l,vs p] ky:=by
 have hc:=rS l hl hs;unfold Fw at hn;cases e:CJ l with
 |none =>
  have e1:GL l=.tup [sl AA [],vb false]:=by unfold GL PF;rw[e];rfl
  rw[e1]at hc;have hi:=jo (ER.ptr [vs p]) [] (fun x=>decide (x.path=p)) (fun x _=>mD x p) (by simp);refine Ps lP Tryz.func191 rfl (Nz rfl) ?_;refine Xi .pure (Xi _ (Yi (hc) ?_));refine Xi .pure (Xi _ (Yi (hi) ?_));refine Xi ⟨[(4,.ref 4 0),(7,sl AA []),(8,vb false),(9,vi (-1))],[(4,.cells Ud)],Aa⟩ (Yi ⟨Z4,Z1,Fh,Tv⟩ ?_)
  refine Yi (Nz rfl) (Yi (Nz rfl) ?_);exact .refl _
 |some c =>
  rw[e]at hn;have hn:(match Dg c p with | none=>none | some t=>some (t,FO c p))=none:=hn;have qm:Dg c p=none:=by
   cases h:Dg c p with
   |none=>rfl
   |some t=>rw[h]at hn;cases hn
  have e1:GL l=.tup [sl AA c,vb true]:=by unfold GL PF;rw[e];rfl
  rw[e1]at hc;have qk:=Pk hl e;have hi:=jo (ER.ptr [vs p]) c (fun x=>decide (x.path=p)) (fun x _=>mD x p) (by unfold Cv at qk;omega);have hid:Jz (fun x:Tm=>decide (x.path=p)) c 0=-1:=by
   rcases L7 (p:=fun x:Tm=>decide (x.path=p)) c 0 with ⟨h1,_⟩ | ⟨i,x,_,_,h3⟩
   ·exact h1
   ·unfold Dg at qm;rw[h3]at qm;cases qm
  rw[hid]at hi;refine Ps lP Tryz.func191 rfl (Nz rfl) ?_;refine Xi .pure (Xi _ (Yi (hc) ?_));refine Xi .pure (Xi _ (Yi (hi) ?_));refine Xi ⟨[(4,.ref 4 0),(7,sl AA c),(8,vb true),(9,vi (-1))],[(4,.cells Ud)],Aa⟩ (Yi ⟨Z4,Z1,Fh,Tv⟩ ?_)
  refine Yi ?_ ?_
  ·intro _;refine Yi (Nz rfl) (Yi (Nz rfl) ?_);exact .refl _
  ·intro h;exact absurd (show(-1:Int)<0 by decide) h
abbrev nK:O3:=⟨[3],[],[],[],[],[],[],[],[(30,0),(34,2)],[],[]⟩
theorem dV(l:List Tm)(p:ByteArray)(hl:Cv l)(hs:∀t∈l,Cv t.set){t:Tm}{r:List Tm}(hn:Fw l p=some (t,r)) :
  Bn Tryz.prog 191 [sl AA l,vs p] (Ad [] Aa) fun v h'=>v=.tup [.agg (AA t),.msl 2000 r.length,vb true]∧h'=Ad [(2000,.arr 3 (r.map AA))] Aa:=by
 have hc:=rS l hl hs;unfold Fw at hn;cases e:CJ l with
 |none=>rw[e]at hn;cases hn
 |some c =>
  rw[e]at hn;have hn:(match Dg c p with | none=>none | some t=>some (t,FO c p))=some (t,r):=hn;have fw:Dg c p=some t∧FO c p=r:=by
   cases h:Dg c p with
   |none=>rw[h]at hn;cases hn
   |some t=>rw[h]at hn;cases hn;exact Zr
  have e1:GL l=.tup [sl AA c,vb true]:=by unfold GL PF;rw[e];rfl
  rw[e1]at hc;have qk:=Pk hl e;have hi:=jo (ER.ptr [vs p]) c (fun x=>decide (x.path=p)) (fun x _=>mD x p) (by unfold Cv at qk;omega);rcases L7 (p:=fun x:Tm=>decide (x.path=p)) c 0 with ⟨_,h2⟩ | ⟨i,x,h1,h2,h3⟩
  ·unfold Dg at fw;rw[h2]at fw;cases fw.1
  have hx:x=t:=by
   have:=fw.1
   unfold Dg at this;rw[h3]at this;exact CC this
  subst hx;rw[h1,Kb]at hi;obtain⟨qo,zO⟩:=At.1 h2;have xE:c.eraseIdx i=r:=by
   rw[←fw.2];exact M3 (HF (EJ e)) qo (by rw[zO];exact G3 fw.1)
  have ly:c.length-1=r.length:=by rw[←xE,List.length_eraseIdx_of_lt qo]
  have Dn:c≠[]:=fun h=>by subst h;simp at qo
  have zL:c.length≤1073741824:=qk;refine BD (Iv nK) [(13400,2000)] rfl BS hm rfl Tryz.func191 (by kernel_rfl) rfl (Nz rfl) (by kernel_rfl) rfl ?_;refine Xi .pure (Xi _ (Yi (hc) ?_));refine Xi .pure (Xi _ (Yi (hi) ?_));refine Yi ?_ ?_
  ·intro h;have h:(i:Int)<0:=h;omega
  intro _;have hg:(c.map AA)[((i:Nat):Int).toNat]?=some (AA x):=by rw[BT,AH,h2];rfl
  refine Xi (AA x) (Yi (Yi (Nn i) hg) (Yi rfl (Yi (Nz rfl) ?_)));refine Xi c.length (Xi 3 (Xi (c.map AA) (Yi rfl (Yi (px c qk Dn) ?_))));refine Yi (Ii i (by omega)) ?_;refine Xi (c.length-1) (Xi ((c.eraseIdx i).map AA) (Yi rfl (Yi (tw c i qo) ?_)));refine Yi (Nz rfl) ?_;refine Yi (by kernel_rfl) ?_;refine Yi (Nz rfl) ?_;have e2:AV.tup [.agg (AA x),.msl 2000 (c.length-1),vb true]=.tup [.agg (AA x),.msl 2000 r.length,vb true]:=by rw[ly]
  have e3:Ad [(2000,HO.arr 3 ((c.eraseIdx i).map AA))] Aa=Ad [(2000,.arr 3 (r.map AA))] Aa:=by rw[xE]
  exact Xi _ (Yi (.refl _) (Yi e2 e3))
end Go.Eng

namespace Go.Eng
open Go.Proofs
abbrev au:O3:=⟨[],[],[],[],[],[],[],[],[],[(24,9),(30,12)],[2,3,5,6]⟩
abbrev nP(a b:List Tm)(p:ByteArray):AV:=.tup [sl AA (A7 a b p).1,vi (A7 a b p).2]
theorem U8{l r:List Tm}{p:ByteArray}{t:Tm}(h:Fw l p=some (t,r)):∃c,CJ l=some c∧t∈c∧r=FO c p:=by
 unfold Fw at h;cases e:CJ l with
 |none=>rw[e]at h;cases h
 |some c =>
  rw[e]at h;have h:(match Dg c p with | none=>none | some t=>some (t,FO c p))=some (t,r):=h;cases e2:Dg c p with
  |none=>rw[e2]at h;cases h
  |some u=>rw[e2]at h;cases h;exact⟨c,rfl,Fb e2,rfl⟩
theorem U9{l r:List Tm}{p:ByteArray}{t:Tm}(hl:Cv l)(h:Fw l p=some (t,r)):Cv t.set∧Cv r∧∀u∈r,Cv u.set:=by
 obtain⟨c,h1,h2,rfl⟩:=U8 h;have hs:=EJ h1;refine⟨Oh (hs.canon t h2),?_,fun u hu=>Oh (hs.canon u (BA.1 hu).1)⟩
 have:=Pk hl h1
 have h3:(FO c p).length≤c.length:=By _ _;unfold Cv at *;omega
theorem dY{l c:List Tm}(h:CJ l=some c):c.length≤l.length:=by
 have h1:=NE l l.length (Ak _);rw[DU]at h1;have h2:c=(EV l).filter fun t=>!GB t:=by
  unfold CJ at h;split at h
  ·cases h
  ·exact(CC h).symm
 have h3:c.length≤(EV l).length:=by rw[h2];exact By _ _
 have h4:(EV l).length=(CW l).length:=by
  have:=(List.perm_ext_iff_of_nodup (HB (Hz l)) (HB (HF (Ed l)))).2 (I2 l)
  exact this.length_eq.symm
 omega
theorem Va{l r:List Tm}{p:ByteArray}{t:Tm}(h:Fw l p=some (t,r)):r.length≤l.length:=by
 obtain⟨c,h1,h2,rfl⟩:=U8 h;have h3:(FO c p).length≤c.length:=By _ _
 have:=dY h1
 omega
theorem bz(a b:Bj):Cv (OZ a b):=by
 unfold Cv;have:=HS (X7 a b);omega
theorem pp(a b:List Tm)(p:ByteArray)(ha:a.length≤500000000)(hb:b.length≤500000000)(qM:∀t∈a,Cv t.set)(j7:∀t∈b,Cv t.set):PC 138 [sl AA a,sl AA b,vs p] (nP a b p):=by
 have lw:Cv a:=by unfold Cv;omega
 have iQ:Cv b:=by unfold Cv;omega
 have er:∀{l:List Tm} {e:Int},A7 a b p=(l,e)→nP a b p=.tup [sl AA l,vi e]:=fun h=>by unfold nP;rw[h]
 have e0:GO (.tup [.v (.slice none 0 0),vi 1]) (.tup [.slice .none [],vi 1]):=GO.tup ⟨.nil,.refl _,trivial⟩;cases h1:Fw a p with
 |none =>
  have hr:A7 a b p=([],1):=by unfold A7;rw[h1]
  have c1:=dU a p lw qM h1;cases h2:Fw b p with
  |none =>
   have c2:=dU b p iQ j7 h2;refine Ps au Tryz.func138 rfl (Nz rfl) ?_;refine Xi .pure (Xi _ (Yi (c1) ?_));refine Yi (Nz rfl) ?_;refine Xi ⟨[(1,sl AA b),(2,vs p),(8,.ref 8 0),(9,.v (.slice none 0 0)),(10,vb false)],[(8,.cells Ud)],Aa⟩ (Yi ⟨Z5,Z1,Fh,Tv⟩ ?_)
   refine Xi .pure (Xi _ (Yi (c2) ?_));refine Yi (Nz rfl) ?_;refine Xi ⟨[(8,.ref 8 0),(9,.v (.slice none 0 0)),(10,vb false),(11,.ref 11 0),(12,.v (.slice none 0 0)),(13,vb false)],[(8,.cells Ud),(11,.cells Ud)],Aa⟩ (Yi ⟨Z6,Z2,Fh,Tv⟩ ?_)
   exact e0.trans (.of_eq (er hr).symm)
  |some q2 =>
   obtain⟨t2,r2⟩:=q2;have c2:=dV b p iQ j7 h2;refine Ps au Tryz.func138 rfl (Nz rfl) ?_;refine Xi .pure (Xi _ (Yi (c1) ?_));refine Yi (Nz rfl) ?_;refine Xi ⟨[(1,sl AA b),(2,vs p),(8,.ref 8 0),(9,.v (.slice none 0 0)),(10,vb false)],[(8,.cells Ud)],Aa⟩ (Yi ⟨Z5,Z1,Fh,Tv⟩ ?_)
   have z2:r2.length=(r2.map AA).length:=by rw[Lm]
   refine Xi (.gen [] 1) (Yi rfl (c2.imp ?_));intro v2 g2 q2;have nO:=q2.1;have iY:=q2.2;subst nO;subst iY;refine Yi (Nz rfl) ?_;refine Xi ⟨[(8,.ref 8 0),(9,.v (.slice none 0 0)),(10,vb false),(11,.ref 11 0),(12,.msl 12600 r2.length),(13,vb true)],[(8,.cells Ud),(11,.cells (AA t2)),(12600,.arr 3 (r2.map AA))],Aa⟩ (Yi ⟨Z6,Z3,Fh,Tv⟩ ?_)
   refine Yi z2 ?_;exact e0.trans (.of_eq (er hr).symm)
 |some q1 =>
  obtain⟨t1,r1⟩:=q1;have c1:=dV a p lw qM h1;obtain⟨f1,f2,f3⟩:=U9 lw h1;cases h2:Fw b p with
  |none =>
   have hr:A7 a b p=([],1):=by unfold A7;rw[h1,h2]
   have c2:=dU b p iQ j7 h2;refine Ps au Tryz.func138 rfl (Nz rfl) ?_;refine Xi (.gen [] 1) (Yi rfl (c1.imp ?_));intro v1 g1 q1;have Tj:=q1.1;have LJ:=q1.2;subst Tj;subst LJ;refine Yi (Nz rfl) ?_;refine Xi ⟨[(1,sl AA b),(2,vs p),(8,.ref 8 0),(9,.msl 11900 r1.length),(10,vb true)],[(8,.cells (AA t1)),(11900,.arr 3 (r1.map AA))],Aa⟩ (Yi ⟨Z5,Z2,Fh,Tv⟩ ?_)
   have z1:r1.length=(r1.map AA).length:=by rw[Lm]
   refine Yi z1 ?_;refine Xi .pure (Xi _ (Yi (c2) ?_));refine Yi (Nz rfl) ?_;refine Xi ⟨[(8,.ref 8 0),(9,.slice (.id 11900 3) (r1.map AA)),(10,vb true),(11,.ref 11 0),(12,.v (.slice none 0 0)),(13,vb false)],[(8,.cells (AA t1)),(11,.cells Ud),(11900,.tok 3 (r1.map AA).length)],Aa⟩ (Yi ⟨Z6,Z3,Fh,Tv⟩ ?_)
   exact e0.trans (.of_eq (er hr).symm)
  |some q2 =>
   obtain⟨t2,r2⟩:=q2;have c2:=dV b p iQ j7 h2;obtain⟨g1,g2,g3⟩:=U9 iQ h2;refine Ps au Tryz.func138 rfl (Nz rfl) ?_;refine Xi (.gen [] 1) (Yi rfl (c1.imp ?_));intro v1 g1 q1;have Tj:=q1.1;have LJ:=q1.2;subst Tj;subst LJ;refine Yi (Nz rfl) ?_;refine Xi ⟨[(1,sl AA b),(2,vs p),(8,.ref 8 0),(9,.msl 11900 r1.length),(10,vb true)],[(8,.cells (AA t1)),(11900,.arr 3 (r1.map AA))],Aa⟩ (Yi ⟨Z5,Z2,Fh,Tv⟩ ?_)
   have z1:r1.length=(r1.map AA).length:=by rw[Lm]
   have z2:r2.length=(r2.map AA).length:=by rw[Lm]
   refine Yi z1 ?_;refine Xi (.gen [] 1) (Yi rfl (c2.imp ?_));intro v2 g2 q2;have nO:=q2.1;have iY:=q2.2;subst nO;subst iY;refine Yi (Nz rfl) ?_;refine Xi ⟨[(8,.ref 8 0),(9,.slice (.id 11900 3) (r1.map AA)),(10,vb true),(11,.ref 11 0),(12,.msl 12600 r2.length),(13,vb true)],[(8,.cells (AA t1)),(11,.cells (AA t2)),(11900,.tok 3 (r1.map AA).length),(12600,.arr 3 (r2.map AA))],Aa⟩ (Yi ⟨Z6,Z4,Fh,Tv⟩ ?_)
   refine Yi z2 ?_;refine Xi ⟨[(8,.ref 8 0),(9,.slice (.id 11900 3) (r1.map AA)),(11,.ref 11 0),(12,.slice (.id 12600 3) (r2.map AA))],[(8,.cells (AA t1)),(11,.cells (AA t2)),(11900,.tok 3 (r1.map AA).length),(12600,.tok 3 (r2.map AA).length)],Aa⟩ (Yi ⟨Z4,Z4,Fh,Tv⟩ ?_)
   have l1:=Va h1;have l2:=Va h2;have b1:BY 3 (r2.map AA)∧(r1.map AA).length=(r1.map AA).length∧((r1.map AA).length+(r2.map AA).length)*48≤140737488355328∧(r1.map AA).length+(r2.map AA).length≤9223372036854775807 :=
    ⟨Es (enc:=AA) (n:=3) (fun _=>rfl) r2,rfl,by rw[Lm,Lm];omega,by rw[Lm,Lm];omega⟩
   refine Yi b1 ?_;refine Yi (Nz rfl) (Yi (Nz rfl) ?_);refine Xi _ (Yi (tp t1 t2 f1 g1) ?_);have b2:BY 3 [AA (De t1 t2)]∧(r1.map AA++r2.map AA).length=(r1.map AA).length+(r2.map AA).length∧((r1.map AA++r2.map AA).length+[AA (De t1 t2)].length)*48≤140737488355328∧(r1.map AA++r2.map AA).length+[AA (De t1 t2)].length≤9223372036854775807 :=
    ⟨⟨rfl,trivial⟩,by rw[Ac],by rw[Ac,Lm,Lm,As];omega,by rw[Ac,Lm,Lm,As];omega⟩
   refine Yi b2 ?_;have dv:=rS (r1++r2++[De t1 t2]) (by unfold Cv;simp only[Ac,As];omega) (fun u hu=>by
    rcases A2.1 hu with hu | hu
    ·rcases A2.1 hu with hu | hu
     ·exact f3 u hu
     ·exact g3 u hu
    ·rw[Ai.1 hu];exact bz _ _)
   have e1:sl AA (r1++r2++[De t1 t2])=.slice .none (r1.map AA++r2.map AA++[AA (De t1 t2)]):=by simp
   have xw:PC 192 [.slice .none (r1.map AA++r2.map AA++[AA (De t1 t2)])] (GL (r1++r2++[De t1 t2])):=e1▸dv;cases ox:CJ (r1++r2++[De t1 t2])with
   |none =>
    have hr:A7 a b p=([],8):=by unfold A7;rw[h1,h2];dsimp only;rw[ox]
    have ec:GL (r1++r2++[De t1 t2])=.tup [sl AA [],vb false]:=by unfold GL PF;rw[ox];rfl
    have hc:PC 192 [.slice .none (r1.map AA++r2.map AA++[AA (De t1 t2)])] (.tup [sl AA [],vb false]):=ec▸xw;have e8:GO (.tup [.v (.slice none 0 0),vi 8]) (.tup [.slice .none [],vi 8]):=GO.tup ⟨.nil,.refl _,trivial⟩;refine Xi _ (Yi (hc) ?_);refine Yi (by kernel_rfl) ?_;refine Xi ⟨[(14,sl AA []),(15,vb false)],[],Aa⟩ (Yi ⟨Z2,Tv,Fh,Tv⟩ ?_)
    exact e8.trans (.of_eq (er hr).symm)
   |some o =>
    have hr:A7 a b p=(o,0):=by unfold A7;rw[h1,h2];dsimp only;rw[ox]
    have ec:GL (r1++r2++[De t1 t2])=.tup [sl AA o,vb true]:=by unfold GL PF;rw[ox];rfl
    have hc:PC 192 [.slice .none (r1.map AA++r2.map AA++[AA (De t1 t2)])] (.tup [sl AA o,vb true]):=ec▸xw;refine Xi _ (Yi (hc) ?_);refine Yi (by kernel_rfl) ?_;refine Xi ⟨[(14,sl AA o),(15,vb true)],[],Aa⟩ (Yi ⟨Z2,Tv,Fh,Tv⟩ ?_)
    exact .of_eq (er hr).symm
end Go.Eng

namespace Go.Eng
open Go.Proofs
def ZK(h s:Nat→HO):Nat→Bool
 |0=>true
 |n+1=>(match h (1000+n)with |.free=>true |_=>(match s (1000+n)with |.free=>false |_=>true))&&ZK h s n
theorem Sg{h s:Nat→HO}:∀{n:Nat},ZK h s n=true→∀j,j<n→h (1000+j)≠.free→s (1000+j)≠.free
 |n+1,hd,j,hj,hn=>by
  simp only[ZK,Af]at hd;rcases DV j n with h1 | h1
  ·exact Sg hd.2 j h1 hn
  ·have:j=n:=by omega
   subst this
   have:=hd.1
   intro e;split at this
   ·rename_i q;exact hn q
   ·rw[e]at this;cases this
theorem Aj{h s:Nat→HO}(hd:ZK h s 1000=true):∀j,1000≤j→j<2000→h j≠.free→s j≠.free:=fun j h1 h2=>by
 have:=Sg hd (j-1000) (by omega)
 rw[show 1000+(j-1000)=j by omega]at this;exact this
abbrev js(x:List Rl)(ifs:List (List AV))(roots:List Rq)(d:List (List Tm)):List AV:=[sl A5 x,.slice .none ifs,sl Ah roots,.slice (.id 1001 1) (d.map AG)]
abbrev Iu(x:List Rl)(ifs:List (List AV))(roots:List Rq)(d:List (List Tm)):HO:=.cells (js x ifs roots d)
abbrev IE(d:List (List Tm)):HO:=.tok 1 (d.map AG).length
abbrev MZ(x:List Rl)(ifs:List (List AV))(roots:List Rq)(d:List (List Tm)):List (Nat×HO):=[(1000,Iu x ifs roots d),(1001,IE d)]
abbrev Uc:List AV:=[vs ⟨#[]⟩,vi 0,vi 0,vi 0,.v (.slice none 0 0),vs ⟨#[]⟩,vs ⟨#[]⟩,vs ⟨#[]⟩,vb false]
abbrev QG:Option Rl→AV
 |some r=>.tup [.agg (A5 r),vb true]
 |none=>.tup [.agg Uc,vb false]
theorem eH{α:Type}{p:α→Bool}{l:List α}{i:Nat}(hi:i<l.length)(hb:∀j (hj:j<l.length),j<i→p l[j]=false)(h:p l[i]=true):l.find? p=some l[i]:=by
 rw[List.find?_eq_some_iff_getElem];exact⟨h,i,hi,rfl,fun j hj=>by rw[hb j (by omega) hj];rfl⟩
theorem bC{α:Type}{p:α→Bool}{l:List α}(hb:∀j (hj:j<l.length),p l[j]=false):l.find? p=none:=by
 rw[DO];intro x hx;obtain⟨j,hj,rfl⟩:=ED hx;rw[hb j hj];decide
theorem tf(x:List Rl)(ifs:List (List AV))(roots:List Rq)(d:List (List Tm))(p:ByteArray)(pl:Int)(hx:Cv x) :
  Bn Tryz.prog 221 [.ref 1000 0,vs p,vi pl] (Ad (MZ x ifs roots d) Aa) fun r h'=>r=QG (FM x p pl)∧h'=Ad (MZ x ifs roots d) Aa:=by
 unfold Cv at hx;refine BD (Iv (EL [4])) [(1000,1000),(1001,1001)] rfl BS hm rfl Tryz.func221 (by kernel_rfl) rfl (Nz rfl) (by kernel_rfl) rfl ?_;refine Xi {i:Nat // i≤x.length∧∀j (hj:j<x.length),j<i→(decide (x[j].path=p)&&decide (plc x[j].ver=pl))=false} (Xi (fun i=>⟨[(1,vs p),(2,vi pl),(6,.ref 6 0),(16,sl A5 x),(17,vi (x.map A5).length),(18,vi i.1)],[(6,.cells Uc),(1000,Iu x ifs roots d),(1001,IE d)],Aa⟩) (Xi (fun i=>x.length-i.1) (Yi (Xi ⟨0,AS _,fun j _ h=>by omega⟩ ?_) ?_)))
 ·exact⟨Z6,Z3,Fh,Aj (by kernel_rfl)⟩
 intro⟨i,h1,h2⟩;refine Yi ?_ ?_
 ·intro h;have h:(i:Int)<(x.map A5).length:=h;have h:i<x.length:=by simpa using h
  have hg:x[i]?=some x[i]:=Ge h;refine Xi (A5 x[i]) (Yi (Yi (Nn i) (by simp[hg])) (Yi rfl ?_));refine Yi (Nz rfl) (Yi (Nz rfl) ?_);refine Xi ⟨[(1,vs p),(2,vi pl),(6,.ref 6 0),(9,.ref 9 0),(16,sl A5 x),(17,vi (x.map A5).length),(18,vi i)],[(6,.cells Uc),(9,.cells (A5 x[i])),(1000,Iu x ifs roots d),(1001,IE d)],Aa⟩ (Yi ⟨Z7,Z4,Fh,Aj (by kernel_rfl)⟩ ?_)
  refine Yi (Nz rfl) ?_;refine Xi .pure (Xi _ (Yi (pz x[i].ver) ?_));have next:(decide (x[i].path=p)&&decide (plc x[i].ver=pl))=false→∀j (hj:j<x.length),j<i+1→(decide (x[j].path=p)&&decide (plc x[j].ver=pl))=false:=fun hf j hj MO=>by
   rcases DV j i with q | q
   ·exact h2 j hj q
   ·have:j=i:=by omega
    subst this;exact hf
  refine Yi ?_ ?_
  ·intro hp;have hp:x[i].path=p:=hp;refine Yi ?_ ?_
   ·intro hq;have hq:plc x[i].ver=pl:=hq;have hr:FM x p pl=some x[i]:=eH h (fun j hj MO=>h2 j hj MO) (by rw[AE hp,AE hq];rfl);refine Yi (Nz rfl) (Yi (Nz rfl) (Yi (Nz rfl) ?_));have e:AV.tup [.agg (A5 x[i]),vb true]=QG (FM x p pl):=by rw[hr]
    exact Xi _ (Yi (.refl _) (Yi e rfl))
   ·intro hq;have hq:¬plc x[i].ver=pl:=hq;refine Yi (Ii i (by omega)) ?_;refine Xi ⟨i+1,by omega,next (by rw[AD hq,DN])⟩ ?_
    exact⟨Dl x.length i (by omega),Z6,Z3,Fh,Aj (by kernel_rfl)⟩
  ·intro hp;have hp:¬x[i].path=p:=hp;refine Yi (Ii i (by omega)) ?_;refine Xi ⟨i+1,by omega,next (by rw[AD hp,Bool.false_and])⟩ ?_
   exact⟨Dl x.length i (by omega),Z6,Z3,Fh,Aj (by kernel_rfl)⟩
 ·intro h;have h:¬(i:Int)<(x.map A5).length:=h;have h:¬i<x.length:=by simpa using h
  have hr:FM x p pl=none:=bC fun j hj=>h2 j hj (by omega);have e:AV.tup [.agg Uc,vb false]=QG (FM x p pl):=by rw[hr]
  refine Yi (Nz rfl) (Yi (Nz rfl) ?_);exact Xi _ (Yi (.refl _) (Yi e rfl))
end Go.Eng

namespace Go.Eng
open Go.Proofs
abbrev LC:Option (List Tm)→AV
 |some t=>.tup [sl AA t,vb true]
 |none=>.tup [sl AA [],vb false]
theorem K9:GO (.tup [.v (.slice none 0 0),vb false]) (LC none):=GO.tup ⟨.nil,.refl _,trivial⟩
theorem OM{α:Type}{l:List α}{i:Int}(h:i<0):Fr l i=none:=by unfold Fr;rw[Aw h]
theorem OK{α:Type}{l:List α}{i:Int}(h:(l.length:Int)≤i):Fr l i=none:=by
 unfold Fr;rw[Am (by omega),AZ (by omega)]
theorem Rp{α:Type}{l:List α}{i:Int}(h0:¬i<0)(h:¬(l.length:Int)≤i):∃x,Fr l i=some x∧l[i.toNat]?=some x∧x∈l:=by
 have hl:i.toNat<l.length:=by omega
 exact⟨l[i.toNat],by unfold Fr;rw[Am h0,Ge hl],Ge hl,AC hl⟩
theorem sZ(x:List Rl)(ifs:List (List AV))(roots:List Rq)(d:List (List Tm))(i:Nf)(hr:∀q∈roots,Cv q.set) :
  Bn Tryz.prog 179 [.ref 1000 0,.agg (AU i)] (Ad (MZ x ifs roots d) Aa) fun r h'=>r=LC ((Fr roots i.number).map GJ)∧h'=Ad (MZ x ifs roots d) Aa:=by
 refine BD (Iv FC) [(1000,1000),(1001,1001)] rfl BS hm rfl Tryz.func179 (by kernel_rfl) rfl (Nz rfl) (by kernel_rfl) rfl ?_;have T9:Fr roots i.number=none→AV.tup [sl AA [],vb false]=LC ((Fr roots i.number).map GJ):=fun h=>by rw[h];rfl
 refine Yi ?_ ?_
 ·intro h;have h:i.number<0:=h;have e:=T9 (OM h);refine Yi (by kernel_rfl) ?_;exact Xi _ (Yi K9 (Yi e rfl))
 ·intro h;have h:¬i.number<0:=h;refine Yi ?_ ?_
  ·intro h2;have h2:((roots.map Ah).length:Int)≤i.number:=h2;have e:=T9 (OK (by rw[Lm]at h2;exact h2));refine Yi (by kernel_rfl) ?_;exact Xi _ (Yi K9 (Yi e rfl))
  ·intro h2;have h2:¬((roots.map Ah).length:Int)≤i.number:=h2;refine Yi (by kernel_rfl) ?_;refine BC (Rp h (by rw[Lm]at h2;exact h2)) (fun q hq=>?_);have hg:(roots.map Ah)[i.number.toNat]?=some (Ah q):=Dr hq.2.1;refine Xi (Ah q) (Yi (Yi (by show(0:Int)≤i.number;omega) hg) (Yi rfl (Yi (Nz rfl) ?_)));refine Xi _ (Yi (pm q (hr q hq.2.2)) ?_);refine Yi (by kernel_rfl) ?_;have e:AV.tup [sl AA (GJ q),vb true]=LC ((Fr roots i.number).map GJ):=by rw[hq.1];rfl
   exact Xi _ (Yi (.refl _) (Yi e rfl))
end Go.Eng

namespace Go.Eng
open Go.Proofs
theorem aw(v:Ver):0≤plc v∧plc v<1000000:=by
 unfold plc;cases h:CL v with
 |true=>exact Jl h
 |false=>simp
theorem gZ{x:List Rl}{p:ByteArray}{pl:Int}{r:Rl}(h:FM x p pl=some r):r∈x∧r.path=p∧plc r.ver=pl:=by
 unfold FM at h;have h1:=D7 h;simp only[Af,Az]at h1;exact⟨B6 h,h1.1,h1.2⟩
theorem ai{l:List Tm}(h:¬(0:Int)<(l.map AA).length):AV.tup [sl AA l,vb false]=LC (Ro l):=by
 cases l with
 |nil=>rfl
 |cons a l=>exact absurd (by rw[Lm,Al];omega) h
theorem XJ{l:List Tm}(h:(0:Int)<(l.map AA).length):AV.tup [sl AA l,vb true]=LC (Ro l):=by
 cases l with
 |nil=>exact absurd h (by decide)
 |cons a l=>rfl
abbrev QX(x:List Rl)(i:Nf):Option (List Tm):=match FM x i.path i.place with
 |none=>none
 |some r=>match Fr r.reqs i.number with
  |none=>none
  |some q=>Ro (C0 i.path i.place q)
theorem s5(x:List Rl)(ifs:List (List AV))(roots:List Rq)(d:List (List Tm))(i:Nf)(hx:Cv x)(hr:∀r∈x,∀q∈r.reqs,Cv q.set) :
  Bn Tryz.prog 181 [.ref 1000 0,.agg (AU i)] (Ad (MZ x ifs roots d) Aa) fun r h'=>r=LC (QX x i)∧h'=Ad (MZ x ifs roots d) Aa:=by
 have hc:=tf x ifs roots d i.path i.place hx;cases h1:FM x i.path i.place with
 |none =>
  rw[h1]at hc;have e:AV.tup [sl AA [],vb false]=LC (QX x i):=by unfold QX;rw[h1]
  refine BD (Iv (EL [2])) [(1000,1000),(1001,1001)] rfl BS hm rfl Tryz.func181 (by kernel_rfl) rfl (Nz rfl) (by kernel_rfl) rfl ?_;refine Xi (.gen [(1000,1000),(1001,1001)] 0) (Yi rfl (hc.imp ?_));intro v1 g1 q1;have Tj:=q1.1;have LJ:=q1.2;subst Tj;subst LJ;refine Yi (Nz rfl) ?_;refine Xi ⟨[(0,.ref 1000 0),(3,.ref 3 0),(6,.ref 6 0),(7,vb false)],[(3,.cells (AU i)),(6,.cells Uc),(1000,Iu x ifs roots d),(1001,IE d)],Aa⟩ (Yi ⟨Z4,Z4,Fh,Aj (by kernel_rfl)⟩ ?_)
  exact Xi _ (Yi K9 (Yi e rfl))
 |some r =>
  rw[h1]at hc;obtain⟨m1,m2,m3⟩:=gZ h1;have oD:=aw r.ver;rw[m3]at oD;have er:QX x i=match Fr r.reqs i.number with | none=>none | some q=>Ro (C0 i.path i.place q):=by unfold QX;rw[h1]
  have T9:Fr r.reqs i.number=none→AV.tup [sl AA [],vb false]=LC (QX x i):=fun h=>by rw[er,h]
  refine BD (Iv (EL [2,4,5])) [(1000,1000),(1001,1001)] rfl BS hm rfl Tryz.func181 (by kernel_rfl) rfl (Nz rfl) (by kernel_rfl) rfl ?_;refine Xi (.gen [(1000,1000),(1001,1001)] 0) (Yi rfl (hc.imp ?_));intro v1 g1 q1;have Tj:=q1.1;have LJ:=q1.2;subst Tj;subst LJ;refine Yi (Nz rfl) ?_;refine Xi ⟨[(0,.ref 1000 0),(3,.ref 3 0),(6,.ref 6 0),(7,vb true)],[(3,.cells (AU i)),(6,.cells (A5 r)),(1000,Iu x ifs roots d),(1001,IE d)],Aa⟩ (Yi ⟨Z4,Z4,Fh,Aj (by kernel_rfl)⟩ ?_)
  refine Yi ?_ ?_
  ·intro h;have h:i.number<0:=h;have e:=T9 (OM h);exact Xi _ (Yi K9 (Yi e rfl))
  ·intro h;have h:¬i.number<0:=h;refine Yi ?_ ?_
   ·intro h2;have h2:((r.reqs.map Ah).length:Int)≤i.number:=h2;have e:=T9 (OK (by rw[Lm]at h2;exact h2));exact Xi _ (Yi K9 (Yi e rfl))
   ·intro h2;have h2:¬((r.reqs.map Ah).length:Int)≤i.number:=h2;refine BC (Rp h (by rw[Lm]at h2;exact h2)) (fun q hq=>?_);have hg:(r.reqs.map Ah)[i.number.toNat]?=some (Ah q):=Dr hq.2.1;refine Xi ⟨[(3,.ref 3 0),(6,.ref 6 0)],[(3,.cells (AU i)),(6,.cells (A5 r)),(1000,Iu x ifs roots d),(1001,IE d)],Aa⟩ (Yi ⟨Z2,Z4,Fh,Aj (by kernel_rfl)⟩ ?_)
    refine Xi (Ah q) (Yi (Yi (by show(0:Int)≤i.number;omega) hg) (Yi rfl (Yi (Nz rfl) ?_)));refine Xi _ (Yi (pn i.path i.place q (by unfold BQ;omega) (hr r m1 q hq.2.2)) ?_);refine Yi (by kernel_rfl) ?_;have eq:QX x i=Ro (C0 i.path i.place q):=by rw[er,hq.1]
    refine Xi ⟨[(8,sl AA (C0 i.path i.place q))],[(1000,Iu x ifs roots d),(1001,IE d)],Aa⟩ (Yi ⟨Z1,Z2,Fh,Aj (by kernel_rfl)⟩ ?_)
    refine Yi ?_ ?_
    ·intro h3;have h3:(0:Int)<((C0 i.path i.place q).map AA).length:=h3;have e:AV.tup [sl AA (C0 i.path i.place q),vb true]=LC (QX x i):=by rw[eq];exact XJ h3
     exact Xi _ (Yi (.refl _) (Yi e rfl))
    ·intro h3;have h3:¬(0:Int)<((C0 i.path i.place q).map AA).length:=h3;have e:AV.tup [sl AA (C0 i.path i.place q),vb false]=LC (QX x i):=by rw[eq];exact ai h3
     exact Xi _ (Yi (.refl _) (Yi e rfl))
end Go.Eng

namespace Go.Eng
open Go.Proofs
abbrev aN(t:List Tm):Prop:=t.length≤500000000∧∀u∈t,Cv u.set
theorem kQ{a b:List Tm}{p:ByteArray}(h:(A7 a b p).2≠0):(A7 a b p).1=[]:=by
 unfold A7 at h⊢;split at h
 ·split at h
  ·exact absurd rfl h
  ·rfl
 ·rfl
abbrev OR(d:List (List Tm))(i:Nf):Option (List Tm):=match Fr d i.left,Fr d i.right with
 |some a,some b=>if(A7 a b i.path).2=0 then some (A7 a b i.path).1 else none
 |_,_=>none
theorem hZ{d:List (List Tm)}{i:Nf}(h:Fr d i.left=none):OR d i=none:=by unfold OR;rw[h]
theorem ia{d:List (List Tm)}{i:Nf}(h:Fr d i.right=none):OR d i=none:=by unfold OR;rw[h];split<;>first | rfl | (rename_i e;cases e)
theorem s9(x:List Rl)(ifs:List (List AV))(roots:List Rq)(d:List (List Tm))(i:Nf)(hi:∀t∈d,aN t) :
  Bn Tryz.prog 185 [.ref 1000 0,.agg (AU i)] (Ad (MZ x ifs roots d) Aa) fun r h'=>r=LC (OR d i)∧h'=Ad (MZ x ifs roots d) Aa:=by
 have T9:OR d i=none→AV.tup [sl AA [],vb false]=LC (OR d i):=fun h=>by rw[h]
 refine BD (Iv (EL [2,4,5])) [(1000,1000),(1001,1001)] rfl BS hm rfl Tryz.func185 (by kernel_rfl) rfl (Nz rfl) (by kernel_rfl) rfl ?_;refine Xi ⟨[(0,.ref 1000 0),(3,.ref 3 0),(6,vi (d.map AG).length)],[(3,.cells (AU i)),(1000,Iu x ifs roots d),(1001,IE d)],Aa⟩ (Yi ⟨Z3,Z3,Fh,Aj (by kernel_rfl)⟩ ?_)
 refine Yi ?_ ?_
 ·intro h;have h:i.left<0:=h;have e:=T9 (hZ (OM h));exact Xi _ (Yi K9 (Yi e rfl))
 intro h;have h:¬i.left<0:=h;refine Yi ?_ ?_
 ·intro h2;have h2:((d.map AG).length:Int)≤i.left:=h2;have e:=T9 (hZ (OK (by rw[Lm]at h2;exact h2)));exact Xi _ (Yi K9 (Yi e rfl))
 intro h2;have h2:¬((d.map AG).length:Int)≤i.left:=h2;refine Yi ?_ ?_
 ·intro h3;have h3:i.right<0:=h3;have e:=T9 (ia (OM h3));exact Xi _ (Yi K9 (Yi e rfl))
 intro h3;have h3:¬i.right<0:=h3;refine Yi ?_ ?_
 ·intro h4;have h4:((d.map AG).length:Int)≤i.right:=h4;have e:=T9 (ia (OK (by rw[Lm]at h4;exact h4)));exact Xi _ (Yi K9 (Yi e rfl))
 intro h4;have h4:¬((d.map AG).length:Int)≤i.right:=h4;refine BC (Rp h (by rw[Lm]at h2;exact h2)) (fun a ha=>?_);refine BC (Rp h3 (by rw[Lm]at h4;exact h4)) (fun b hb=>?_);have ga:(d.map AG)[i.left.toNat]?=some (AG a):=Dr ha.2.1;have gb:(d.map AG)[i.right.toNat]?=some (AG b):=Dr hb.2.1;have lw:=hi a ha.2.2;have iQ:=hi b hb.2.2;have hc:=pp a b i.path lw.1 iQ.1 lw.2 iQ.2;have er:OR d i=if(A7 a b i.path).2=0 then some (A7 a b i.path).1 else none:=by unfold OR;rw[ha.1,hb.1]
 refine Xi ⟨[(0,.ref 1000 0),(3,.ref 3 0)],[(3,.cells (AU i)),(1000,Iu x ifs roots d),(1001,IE d)],Aa⟩ (Yi ⟨Z2,Z3,Fh,Aj (by kernel_rfl)⟩ ?_)
 refine Xi (AG a) (Yi (Yi (by show(0:Int)≤i.left;omega) ga) (Yi rfl ?_));refine Xi (AG b) (Yi (Yi (by show(0:Int)≤i.right;omega) gb) (Yi rfl ?_));refine Xi _ (Yi (hc) ?_);refine Yi (by kernel_rfl) ?_;refine Xi ⟨[(7,sl AA (A7 a b i.path).1),(8,vi (A7 a b i.path).2)],[(1000,Iu x ifs roots d),(1001,IE d)],Aa⟩ (Yi ⟨Z2,Z2,Fh,Aj (by kernel_rfl)⟩ ?_)
 refine Yi ?_ ?_
 ·intro h5;have h5:(A7 a b i.path).2=0:=h5;have e:AV.tup [sl AA (A7 a b i.path).1,vb true]=LC (OR d i):=by rw[er,Aw h5]
  exact Xi _ (Yi (.refl _) (Yi e rfl))
 ·intro h5;have h5:¬(A7 a b i.path).2=0:=h5;have e:AV.tup [sl AA (A7 a b i.path).1,vb false]=LC (OR d i):=by rw[er,Am h5,kQ h5]
  exact Xi _ (Yi (.refl _) (Yi e rfl))
end Go.Eng

namespace Go.Eng
open Go.Proofs
theorem mp(i:Nf):PC 178 [.agg (AU i)] (.agg (AU { i with number:=0 })):=by
 refine Ps FC Tryz.func178 rfl (Nz rfl) ?_;refine Yi (Nz rfl) (Yi (Nz rfl) (Yi (Nz rfl) (Yi (Nz rfl) ?_)));exact .refl _
theorem mq(i:Nf):PC 180 [.agg (AU i)] (.agg (AU { i with path:=mt,place:=0,number:=0 })):=by
 refine Ps FC Tryz.func180 rfl (Nz rfl) ?_;refine Yi (Nz rfl) (Yi (Nz rfl) (Yi (Nz rfl) (Yi (Nz rfl) (Yi (Nz rfl) (Yi (Nz rfl) ?_)))));exact .refl _
theorem mr(i:Nf):PC 182 [.agg (AU i)] (.agg (AU { i with path:=mt })):=by
 refine Ps FC Tryz.func182 rfl (Nz rfl) ?_;refine Yi (Nz rfl) (Yi (Nz rfl) (Yi (Nz rfl) (Yi (Nz rfl) ?_)));exact .refl _
theorem mu(i:Nf):PC 184 [.agg (AU i)] (.agg (AU { i with path:=mt,left:=0,right:=0 })):=by
 refine Ps FC Tryz.func184 rfl (Nz rfl) ?_;refine Yi (Nz rfl) (Yi (Nz rfl) (Yi (Nz rfl) (Yi (Nz rfl) (Yi (Nz rfl) (Yi (Nz rfl) ?_)))));exact .refl _
theorem QQ:PC 129 [] (.agg [.v (GC 178),.v (GC 179),.v (GC 180),.v (GC 181),.v (GC 182),.v (GC 183),.v (GC 184),.v (GC 185)]):=by
 refine Ps FC Tryz.func129 rfl (Nz rfl) ?_;refine Yi (Nz rfl) (Yi (Nz rfl) ?_);exact .refl _
end Go.Eng

namespace Go.Eng
open Go.Proofs
theorem pk(s:ByteArray):PC 214 [vs s] (vb false):=by
 refine Ps FC Tryz.func214 rfl (Nz rfl) ?_;refine Yi ?_ ?_
 ·intro h;exact absurd rfl (show s≠s from h)
 ·intro _;exact .refl _
theorem pt(z:Int):PC 249 [vi z] (vb false):=by
 refine Ps FC Tryz.func249 rfl (Nz rfl) ?_;refine Yi ?_ ?_
 ·intro h;exact absurd rfl (show z≠z from h)
 ·intro _;exact .refl _
theorem sX(a b:ByteArray):PC 165 [vs a,vs b] (vi (Od a b)):=by
 refine Ps FC Tryz.func165 rfl (Nz rfl) ?_;refine Xi .pure (Xi _ (Yi (pk a) ?_));refine Xi .pure (Xi _ (Yi (pk b) ?_));refine Yi ?_ ?_
 ·intro h;have h:Op.bytesLess a.toList b.toList=true:=h;exact .of_eq (Ae vi (show(-1:Int)=Od a b by unfold Od;rw[Aw (by rw[G1];exact h)]))
 ·intro h;have h:¬Op.bytesLess a.toList b.toList=true:=h;refine Yi ?_ ?_
  ·intro h2;have h2:Op.bytesLess b.toList a.toList=true:=h2;exact .of_eq (Ae vi (show(1:Int)=Od a b by unfold Od;rw[Am (by rw[G1];exact h),Aw (by rw[G1];exact h2)]))
  ·intro h2;have h2:¬Op.bytesLess b.toList a.toList=true:=h2;exact .of_eq (Ae vi (show(0:Int)=Od a b by unfold Od;rw[Am (by rw[G1];exact h),Am (by rw[G1];exact h2)]))
theorem mv(a b:Int):PC 215 [vi a,vi b] (vi (Gn a b)):=by
 refine Ps FC Tryz.func215 rfl (Nz rfl) ?_;refine Xi .pure (Xi _ (Yi (pt a) ?_));refine Xi .pure (Xi _ (Yi (pt b) ?_));refine Yi ?_ ?_
 ·intro h;have h:a<b:=h;exact .of_eq (Ae vi (show(-1:Int)=Gn a b by unfold Gn;rw[Aw h]))
 ·intro h;have h:¬a<b:=h;refine Yi ?_ ?_
  ·intro h2;have h2:b<a:=h2;exact .of_eq (Ae vi (show(1:Int)=Gn a b by unfold Gn;rw[Am h,Aw h2]))
  ·intro h2;have h2:¬b<a:=h2;exact .of_eq (Ae vi (show(0:Int)=Gn a b by unfold Gn;rw[Am h,Am h2]))
theorem sW(a b:Int):PC 164 [.slice .none [[vi a],[vi b]]] (vi (if a≠0 then a else b)):=by
 refine Ps FC Tryz.func164 rfl (Nz rfl) ?_;refine Xi {i:Nat // i≤2∧(0<i→a=0)∧(1<i→b=0)} (Xi (fun i=>⟨[(3,vi 0),(6,.slice .none [[vi a],[vi b]]),(7,vi 2),(8,vi i.1)],[],Aa⟩) (Xi (fun i=>2-i.1) (Yi (Xi ⟨0,by omega,by omega,by omega⟩ ?_) ?_)))
 ·exact⟨Z4,Tv,Fh,Tv⟩
 intro⟨i,h1,h2,h3⟩;refine Yi ?_ ?_
 ·intro h;have h:(i:Int)<2:=h
  match i,h1,h2,h3,h with
  |0,h1,h2,h3,h =>
   refine Xi [vi a] (Yi (Yi (BP _) rfl) (Yi rfl ?_));refine Yi ?_ ?_
   ·intro h4;have h4:a≠0:=h4;exact .of_eq (Ae vi (Aw h4).symm)
   ·intro h4;have h4:¬a≠0:=h4;refine Yi (Ii 0 (by omega)) ?_;refine Xi ⟨1,by omega,fun _=>by omega,fun q=>absurd q (by decide)⟩ ?_;exact⟨by show 2-1<2-0;decide,Z4,Tv,Fh,Tv⟩
  |1,h1,h2,h3,h =>
   have ha:=h2 (by decide);refine Xi [vi b] (Yi (Yi (by show(0:Int)≤1;decide) rfl) (Yi rfl ?_));refine Yi ?_ ?_
   ·intro h4;exact .of_eq (Ae vi (Am (by omega)).symm)
   ·intro h4;have h4:¬b≠0:=h4;refine Yi (Ii 1 (by omega)) ?_;refine Xi ⟨2,by omega,fun _=>ha,fun q=>by omega⟩ ?_;exact⟨by show 2-2<2-1;decide,Z4,Tv,Fh,Tv⟩
  |i+2,h1,h2,h3,h=>omega
 ·intro h;have h:¬(i:Int)<2:=h;have ha:=h2 (by omega);have hb:=h3 (by omega);exact .of_eq (Ae vi (show(0:Int)=if a≠0 then a else b by rw[Am (by omega),hb]))
theorem RZ(a b:Ver)(i:Nat)(hi:i<3)(h:∀j,j<i→Gn (part a j) (part b j)=0)(hn:Gn (part a i) (part b i)≠0):RY a b=Gn (part a i) (part b i):=by
 unfold RY
 match i,hi,h,hn with
 |0,_,_,hn=>exact Aw hn
 |1,_,h,hn =>
  have h0:Gn a.a b.a=0:=h 0 (by decide);rw[Am (by omega)];exact Aw hn
 |2,_,h,hn =>
  have h0:Gn a.a b.a=0:=h 0 (by decide);have h1:Gn a.b b.b=0:=h 1 (by decide);rw[Am (by omega),Am (by omega)];rfl
theorem d7(a b:Ver)(h:∀j,j<3→Gn (part a j) (part b j)=0):RY a b=0:=by
 unfold RY;have h0:Gn a.a b.a=0:=h 0 (by decide);have h1:Gn a.b b.b=0:=h 1 (by decide);have h2:Gn a.c b.c=0:=h 2 (by decide);rw[Am (by omega),Am (by omega),h2]
theorem sY(a b:Ver):PC 166 [.agg (Ix a),.agg (Ix b)] (vi (RY a b)):=by
 refine Ps FC Tryz.func166 rfl (Nz rfl) ?_;refine Yi (Nz rfl) ?_;refine Xi _ (Yi (mn a) ?_);refine Yi (Nz rfl) ?_;refine Xi _ (Yi (mn b) ?_);refine Yi (Nz rfl) (Yi (Nz rfl) ?_);refine Yi (by kernel_rfl) ?_;refine Xi {i:Nat // i≤3∧∀j,j<i→Gn (part a j) (part b j)=0} (Xi (fun i=>⟨[(5,.ref 5 0),(6,.ref 6 0),(13,vi i.1)],[(5,.cells (Ix a)),(6,.cells (Ix b))],Aa⟩) (Xi (fun i=>3-i.1) (Yi (Xi ⟨0,by omega,fun j h=>by omega⟩ ?_) ?_)))
 ·exact⟨Z3,Z2,Fh,Tv⟩
 intro⟨i,h1,h2⟩;refine Yi ?_ ?_
 ·intro h;have h:(i:Int)<3:=h;have next:Gn (part a i) (part b i)=0→∀j,j<i+1→Gn (part a j) (part b j)=0:=fun hz j hj=>by
   rcases DV j i with q | q
   ·exact h2 j q
   ·have:j=i:=by omega
    subst this;exact hz
  match i,h1,h2,h,next with
  |0,h1,h2,h,next =>
   refine Yi ⟨by show(0:Int)≤0;decide,by show(0:Int)<3;decide⟩ ?_;refine Yi ⟨by show(0:Int)≤0;decide,by show(0:Int)<3;decide⟩ ?_;refine Xi _ (Yi (mv (part a 0) (part b 0)) ?_);refine Yi (by kernel_rfl) ?_;refine Yi ?_ ?_
   ·intro h4;have h4:Gn (part a 0) (part b 0)≠0:=h4;exact .of_eq (Ae vi (RZ a b 0 (by decide) h2 h4).symm)
   ·intro h4;have h4:¬Gn (part a 0) (part b 0)≠0:=h4;refine Yi (Ii 0 (by omega)) ?_;refine Xi ⟨1,by omega,next (Ef h4)⟩ ?_
    exact⟨by show 3-1<3-0;decide,Z3,Z2,Fh,Tv⟩
  |1,h1,h2,h,next =>
   refine Yi ⟨by show(0:Int)≤1;decide,by show(1:Int)<3;decide⟩ ?_;refine Yi ⟨by show(0:Int)≤1;decide,by show(1:Int)<3;decide⟩ ?_;refine Xi _ (Yi (mv (part a 1) (part b 1)) ?_);refine Yi (by kernel_rfl) ?_;refine Yi ?_ ?_
   ·intro h4;have h4:Gn (part a 1) (part b 1)≠0:=h4;exact .of_eq (Ae vi (RZ a b 1 (by decide) h2 h4).symm)
   ·intro h4;have h4:¬Gn (part a 1) (part b 1)≠0:=h4;refine Yi (Ii 1 (by omega)) ?_;refine Xi ⟨2,by omega,next (Ef h4)⟩ ?_
    exact⟨by show 3-2<3-1;decide,Z3,Z2,Fh,Tv⟩
  |2,h1,h2,h,next =>
   refine Yi ⟨by show(0:Int)≤2;decide,by show(2:Int)<3;decide⟩ ?_;refine Yi ⟨by show(0:Int)≤2;decide,by show(2:Int)<3;decide⟩ ?_;refine Xi _ (Yi (mv (part a 2) (part b 2)) ?_);refine Yi (by kernel_rfl) ?_;refine Yi ?_ ?_
   ·intro h4;have h4:Gn (part a 2) (part b 2)≠0:=h4;exact .of_eq (Ae vi (RZ a b 2 (by decide) h2 h4).symm)
   ·intro h4;have h4:¬Gn (part a 2) (part b 2)≠0:=h4;refine Yi (Ii 2 (by omega)) ?_;refine Xi ⟨3,by omega,next (Ef h4)⟩ ?_
    exact⟨by show 3-3<3-2;decide,Z3,Z2,Fh,Tv⟩
  |i+3,h1,h2,h,next=>omega
 ·intro h;have h:¬(i:Int)<3:=h;exact .of_eq (Ae vi (d7 a b fun j hj=>h2 j (by omega)).symm)
end Go.Eng
