/- Lemmas 17. -/
import Derived.Test.YtkmnnpmneamgoaaGreatDoorPA16
import Derived.Test.YtkmnnpmneamgoaaGreatDoorPA13
import Derived.Shelf.Slices.Delete
namespace Go.Eng
open Go.Proofs
variable {α:Type}(p:ByteArray)(l:List Tm)(x:α)(s:AH)
abbrev Ih:AV:=.tup [sl Ad (BT l),vb (A3 l).isSome]
abbrev AcY:Md:=⟨[],[],[(4,3)],[],[],[],[],[],[],[(25,4)],[]⟩
abbrev dg:HO:=.arr 3 (l.map Ad)
abbrev G8:List Tm:=l.filter fun t=>!FB t
theorem qr{l:List Tm}{kv:Value×AV}{PG : List (Value×AV)}(h:(l.map T3).Perm (kv::PG)):∃t r,kv=T3 t/\PG=r.map T3/\l.Perm (t::r):=by
 obtain⟨ps,h1,h2⟩:=MM h l rfl;cases ps<;>grind
theorem Ys{l:List Tm}{t:Tm}(h:t∈Ds l)(hn:F4 t=true):A3 l=none:=by
 grind [A3,Ji]
theorem bh{l done s:List Tm}(h:done.Perm (Ds l))(hn:∀t∈done,F4 t=false)(hp:s.Perm (G8 done))(hs:s.Pairwise fun x y=>Fp y.path x.path=false):A3 l=some s:=by
 unfold A3;rw[AI]
 .congr 1
  exact(Qd _ (hp.trans (h.filter _)) hs).symm
 grind [Ji]
theorem gY:(G8 l).length<=l.length:=Dz _ _
theorem zf(hl:BL l)(hs:∀t∈l,BL t.set):PC 192 [sl Ad l] (Ih l):=by
 have bK:l.length<=1073741824:=hl;have zC:(Ds l).length<=l.length:=by grind [Om,List.take_length]
 refine Ps AcY Tryz.func192 rfl (Nz rfl) (Xi .pure (Xi _ (Yi (c57 l hl hs) (Xi {p:List Tm×List Tm×Option (Value×AV) // (p.1++p.2.1).Perm (Ds l)/\∀t∈p.1,F4 t=false} (Xi (fun p=>⟨[(4,.msl 4 (G8 p.1.1).length),(9,.ref 9 0)],[(4,dg (G8 p.1.1)),(9,.iter ((Ds l).map T3) (p.1.2.1.map T3) p.1.2.2)],Ae⟩) (Xi (fun p=>p.1.2.1.length) (Yi (Xi ⟨([],Ds l,none),.refl _,fun t ht=>by cases ht⟩ ?_) ?_)))))))
 .exact⟨Z2,Z2,Fh,Tv⟩
 intro⟨⟨done,rem,Ej⟩,r1,r2⟩;have r1:(done++rem).Perm (Ds l):=r1;have hdl:done.length+rem.length<=l.length:=by grind [List.length_append,List.Perm.length_eq]
 have lD:=gY done;refine Yi ?_ ?_
 .intro hr;have hr:rem=[]:=FQ.1 hr;subst hr;rw[DV]at r1;refine Xi (.gen [(4,1000)] 0) (Yi rfl ((c61 (G8 done) aa0).to ?_));intro s hq;have Zc:s.length=(G8 done).length:=hq.1.length_eq;have hc:=bh r1 r2 hq.1 hq.2;refine Yi (by simp_all) ?_;have e:AV.tup [sl Ad s,vb true]=Ih l:=by grind [BT]
  exact .of_eq e
 .intro kv PG hp;refine Al (qr hp) (fun t hp=>Al hp (fun r hp=>?_));have e1:=hp.1;have e2:=hp.2.1;subst e1;subst e2;have hp:=hp.2.2;have rV:t∈Ds l:=r1.mem_iff.1 (B8 _ (hp.mem_iff.2 (Ah ..)));have zE:=Pq l t rV;have htf:=Is zE;refine Yi (Nz rfl) (yN ?_);have hv:PC 229 [.agg (Ad t)] (vb (F4 t)):=mn zE▸c59 t htf;have ha:PC 230 [.agg (Ad t)] (vb (FB t)):=fB zE▸c60 t htf;refine AA (Bt (F4 t)) (fun h=>?_) (fun h=>?_)
  .rw[h]at hv;refine Xi .pure (Xi _ (Yi (hv) ?_));have hc:=Ys rV h;have e:AV.tup [.slice .none [],vb false]=Ih l:=by grind [BT]
   have e0:Ea (.tup [nzA,vb false]) (.tup [.slice .none [],vb false]):=Ea.tup ⟨.nil,.refl _,trivial⟩;exact e0.trans (.of_eq e)
  .rw[h]at hv;refine Xi .pure (Xi _ (Yi (hv) (yN ?_)));have dS:((done++[t])++r).Perm (Ds l):=by
    grind
   have hnv:∀u∈done++[t],F4 u=false:=fun u hu=>by
    grind
   have Jh:r.length<rem.length:=by grind [List.length_cons,List.Perm.length_eq]
   refine AA (Bt (FB t)) (fun h2=>?_) (fun h2=>?_)
   rotate_left
   .rw[h2]at ha;refine Xi .pure (Xi _ (Yi (ha) ?_));have CO:A7 3 [Ad t]/\((G8 done).map Ad).length=(G8 done).length/\(((G8 done).map Ad).length+[Ad t].length)*48<=140737488355328/\((G8 done).map Ad).length+[Ad t].length<=9223372036854775807:=
     ⟨⟨rfl,trivial⟩,by simp_all,by grind,by grind⟩
    refine yN (Yi CO ?_);have hk:G8 (done++[t])=G8 done++[t]:=by simp_all
    have e1:AV.msl 4 (((G8 done).map Ad).length+[Ad t].length)=.msl 4 (G8 (done++[t])).length:=by simp_all
    have e2:HO.arr 3 ((G8 done).map Ad++[Ad t])=dg (G8 (done++[t])):=by simp_all
    refine Xi ⟨(done++[t],r,some (T3 t)),dS,hnv⟩ ?_;exact⟨Jh,⟨⟨e1,rfl⟩,Zr,Tv⟩,⟨⟨e2,rfl⟩,Zr,Tv⟩,Fh,Tv⟩
   .rw[h2]at ha;refine Xi .pure (Xi _ (Yi (ha) ?_));have hk:G8 (done++[t])=G8 done:=by simp_all
    have e1:AV.msl 4 (G8 done).length=.msl 4 (G8 (done++[t])).length:=by rw[hk]
    have e2:dg (G8 done)=dg (G8 (done++[t])):=by rw[hk]
    refine Xi ⟨(done++[t],r,some (T3 t)),dS,hnv⟩ ?_;exact⟨Jh,⟨⟨e1,rfl⟩,Zr,Tv⟩,⟨⟨e2,rfl⟩,Zr,Tv⟩,Fh,Tv⟩
theorem sP(hl:BL l)(hs:∀t∈l,BL t.set):PC 187 [sl Ad l] (sl Ad (BT l)):=by
 refine Ps De Tryz.func187 rfl (Nz rfl) (Xi .pure (Xi _ (Yi (zf l hl hs) ?_)));exact .refl _
theorem Ql:BL (BU s):=by
 grind [E6,GP]
theorem wK:BL [x]:=by simp_all
theorem Abe(y:α):BL [x,y]:=by simp_all
theorem wl(q:Rq)(hq:BL q.set):PC 133 [.agg (Ac q)] (sl Ad (GF q)):=by
 have hc:PC 187 [sl Ad [Du q]] (sl Ad (GF q)):=sP [Du q] (wK _) fun t ht=>by rw[AD.1 ht];exact Ql _
 refine Ps De Tryz.func133 rfl (Nz rfl) (yN (Xi .pure (Xi _ (Yi (ww q hq) (Xi .pure (Xi _ (Yi (hc) ?_)))))));exact .refl _
theorem wm(pl:Int)(q:Rq)(hp:As (pl+1))(hq:BL q.set):PC 134 [vs p,vi pl,.agg (Ac q)] (sl Ad (BJ p pl q)):=by
 have hc:PC 187 [sl Ad [⟨p,false,[(pl,pl+1)]⟩,Du q]] (sl Ad (BJ p pl q)):=sP [⟨p,false,[(pl,pl+1)]⟩,Du q] (Abe _ _) fun t ht=>by
  rcases AF.1 ht with rfl | ht
  .simp_all
  .rw[AD.1 ht];exact Ql _
 refine Ps De Tryz.func134 rfl (Nz rfl) (Yi hp (yN (Xi .pure (Xi _ (Yi (ww q hq) (Xi .pure (Xi _ (Yi (hc) ?_))))))));exact .refl _
theorem sK(hs:BL s):PC 137 [vs p,sl Ab s] (sl Ad (D6 p s)):=by
 have hc:PC 187 [sl Ad [⟨p,false,BU s⟩]] (sl Ad (D6 p s)):=sP [⟨p,false,BU s⟩] (wK _) fun t ht=>by grind [Ql]
 refine Ps De Tryz.func137 rfl (Nz rfl) (Xi .pure (Xi _ (Yi (sr s hs) (Xi .pure (Xi _ (Yi (hc) ?_))))));exact .refl _
end Go.Eng
namespace Go.Eng
open Go.Proofs Go.Shelf Go.RowKit Go.Lib Go.Sort
theorem ug(F:Array Value)(i n:Nat)(hF:F.size=n*3)(hi:i<n)(z:List Value)(hz:z.length=3):(lay (lay F (i*3) (F.toList.drop ((i+1)*3))) ((n-1)*3) z).toList=F.toList.take (i*3)++F.toList.drop ((i+1)*3)++z:=by
 have l1:(F.toList.take (i*3)).length=i*3:=by simp;omega
 have l2:(F.toList.drop ((i+1)*3)).length=(n-(i+1))*3:=by simp;omega
 apply CR
 intro t
 rw[CB,lay_get? _ _ _ _ (by rw[Lib.lay_size];omega),lay_get? _ _ _ _ (by rw[l2];omega)]
 rw[hz,l2]
 by_cases c1:t<i*3
 .rw[AI aa0,AI aa0,D1 (by rw[Ay];omega),D1 aa0,List.getElem?_take,AX c1,CB]
 .by_cases c2:t<(n-1)*3
  .rw[AI aa0,AX aa0,D1 (by rw[Ay];omega),BQ aa0,l1]
  .rw[BQ (by rw[Ay];omega),Ay,l1,l2]
   by_cases c3:t<n*3
   .rw[AX aa0];congr 1;omega
   .rw[AI aa0,AI aa0,Array.getElem?_eq_none aa0,List.getElem?_eq_none aa0]
abbrev oq:List Value:=[.string ⟨#[]⟩,.bool false,.slice none 0 0]
set_option maxHeartbeats 4000000 in
set_option maxRecDepth 1000000 in
theorem kn(w:World)(b cap i n:Nat)(F:Array Value)(hF:F.size=n*3)(hi:i<n)(KH:n<=cap)(hH:Holds id w b 0 F)(h1:∀x∈F.toList,x.oneCell'=true) :
  Calls Tryz.prog 225 #[.slice (some ⟨b,0,none⟩) n cap,.int .i64 i,.int .i64 ((i:Int)+1)] w fun e w'=>e=.returned (.slice (some ⟨b,0,none⟩) (n-1) cap) /\
   w'=putRow id (Sort.ahead w 1) b 0 (lay (lay F (i*3) (F.toList.drop ((i+1)*3))) ((n-1)*3) oq):=by
 obtain⟨i0,tw,tX⟩:∃i0,Tryz.prog.info? 208=some i0/\i0.size=3:=by
  obtain⟨i,z,h1,_,h2,_⟩:=HT (P:=Tryz.prog) (T:=nK) Bz (e:=208) (n:=2) aa3
  exact⟨i,h1,h2.trans aa3⟩
 obtain⟨news,I0⟩:∃news,news=F.toList.drop ((i+1)*3):=⟨_,rfl⟩
 have CD:news.length=(n-(i+1))*3:=by rw[I0];simp;omega
 have Fu:∀t,t<(n-(i+1))*3->news[t]?=some F[(i+1)*3+t]!:=by
  intro t ht
  rw[I0,F9,CB,getElem!_pos F ((i+1)*3+t) aa0,CK aa0]
 obtain⟨A,hA,tR⟩:∃A:Addr,(if cap=i+1 then some (⟨b,0,none⟩:Addr)else some ⟨b,(i+1)*3,none⟩)=some A/\Hid (∀t u,news[t]?=some u->w.drew.cell? (A.add t)=some u):=by
  by_cases h:cap=i+1
  .refine⟨⟨b,0,none⟩,by simp[h],fun t u hu=>?_⟩
   have h0:news.length=0:=by rw[CD];omega
   rw[List.length_eq_zero_iff.1 h0]at hu
   simp at hu
  .refine⟨⟨b,(i+1)*3,none⟩,by simp[h],fun t u hu=>?_⟩
   have ht:t<(n-(i+1))*3:=by
    have:=(Bb.1 hu).1
    rwa [CD]at this
   rw[Fu t ht]at hu
   rw[Addr.add_lit]
   have:=(hH ((i+1)*3+t) aa0).1
   rw[HI]at this
   exact this.trans hu
 have s1:Hid (news.length=(n-(i+1))*3):=CD
 have s2:Hid (∀u∈news,u.oneCell'=true):=by
  intro u hu
  rw[I0]at hu
  exact h1 u (Iw hu)
 have s3:Hid (∀t,t<news.length->(w.drew.cell? ⟨b,0+i*3+t,none⟩).isSome=true/\w.drew.frozen? ⟨b,0+i*3+t,none⟩=false):=by
  intro t ht
  rw[CD]at ht
  have:=hH (i*3+t) aa0
  rw[Nat.add_assoc]
  exact⟨by show(w.cell? _).isSome=true;rw[this.1];rfl,this.2⟩
 obtain⟨W1,hW1⟩:∃W1,W1=w.drew.setCells b (0+i*3) news:=⟨_,rfl⟩
 have ti : W1=putRow id (Sort.ahead w 1) b 0 (lay F (i*3) news):=by
  have:=putRow_setCells id (Sort.ahead w 1) b 0 news F (i*3) aa0
  rw[putRow_self id (Sort.ahead w 1) b 0 F (holds_ahead id w 1 b 0 F hH),Re]at this
  rw[hW1,<-this]
  rfl
 have hH1:Holds id W1 b 0 (lay F (i*3) news):=by rw[ti];exact holds_putRow id _ b 0 F _ (holds_ahead id w 1 b 0 F hH) (Lib.lay_size _ _ _)
 have Gw:(storeCells ⟨b,0+(n-1)*3,none⟩ oq 0).run Tryz.prog W1=.ok () (W1.setCells b (0+(n-1)*3) oq):=by
  have:=run_storeCells_cells (P:=Tryz.prog) b (0+(n-1)*3) oq 0 W1 (fun j hj=>by
   have hj:j<3:=hj
   have:=hH1 ((n-1)*3+j) (by rw[Lib.lay_size];omega)
   rw[show 0+(n-1)*3+0+j=0+((n-1)*3+j) by omega,this.1];rfl) (fun j hj=>by
   have hj:j<3:=hj
   have:=hH1 ((n-1)*3+j) (by rw[Lib.lay_size];omega)
   rw[show 0+(n-1)*3+0+j=0+((n-1)*3+j) by omega];exact this.2) (fun v hv=>by
   simp only[AF,L1,or_false]at hv
   rcases hv with rfl | rfl | rfl<;>rfl)
  exact this
 have hcl:∀ty c,(Builtin.clear_ #[149] ty #[.slice (some ⟨b,(n-1)*3,none⟩) 1 c]).run Tryz.prog W1=.ok (.tuple #[]) (W1.setCells b (0+(n-1)*3) oq):=fun ty c=>by
  have hv:=Tryz.zeroValue208
  rw[HI]at Gw⊢
  have hz:(Builtin.zeroCells (Value.agg #[Value.string { data:=#[] },Value.bool false,Value.slice none 0 0]).cells 1).toList=oq:=by kernel_rfl
  simp[Builtin.clear_,run_underlying Tryz.underlying149,hv,hz,Gw]
 have Ah5:∀ty,(Builtin.clear_ #[149] ty #[.slice (some ⟨b,(i+(n-(i+1)))*3,none⟩) (n-(i+(n-(i+1)))) (cap-(i+(n-(i+1))))]).run Tryz.prog W1=.ok (.tuple #[]) (W1.setCells b (0+(n-1)*3) oq):=fun ty=>by
  have e1:i+(n-(i+1))=n-1:=by omega
  have e2:n-(n-1)=1:=by omega
  rw[e1,e2];exact hcl ty _
 have X:Aside (W1=putRow id (Sort.ahead w 1) b 0 (lay F (i*3) news)):=ti
 have hW:Hid (W1=w.drew.setCells b (0+i*3) news):=hW1
 have Y:Aside (news=F.toList.drop ((i+1)*3)):=I0
 have Z:Aside (news.length=(n-(i+1))*3):=CD
 have hic:i<=cap:=by omega
 have hjc:i+1<=cap:=by omega
 have mixed:=Go.Eng.hm
 have hb1:(0:Int)<=(i:Int)+1:=by omega
 have nZ:(i:Int)+1<=(n:Int):=by omega
 clear hW1 ti hH1 hH Fu I0 CD Gw hcl
 go_enter Tryz.func225,Tryz.ntmps225
 go_wp2_with fail
 go_region_law_o (refine step_append_room rfl (.tmp 22) (.tmp 25) 149 rfl 208 i0 3 Tryz.underlying149 tw tX b 0 i cap (by simp[Act.eval,Act.put]) A (n-(i+1)) (cap-(i+1)) news (by simp[Act.eval,Act.put]) s1.out tR.out s2.out aa0 s3.out ?_;rw[<-hW.out])
 go_wp2
 go_ret
 refine⟨by rw[show i+(n-(i+1))=n-1 by omega];rfl,?_⟩
 rw[X.out]
 have e1:=Y.out
 have e2:=Z.out
 rw[<-e1]
 have:=putRow_setCells id (Sort.ahead w 1) b 0 oq (lay F (i*3) news) ((n-1)*3) (by rw[Lib.lay_size];show _+3<=_;omega)
 rw[Re,HI]at this
 exact this
abbrev aA:List AV:=[Go.Eng.vs ⟨#[]⟩,vb false,nzA]
theorem AaQ(l:List Tm)(i:Nat)(hi:i<l.length) :
  A6 Tryz.prog 225 [.msl 1000 l.length,vi i,vi ((i:Int)+1)] (Af [(1000,.arr 3 (l.map Ad))] Ae) fun r h'=>r=.msl 2000 (l.length-1)/\h'=Af [(1000,.dead),(2000,.arr 3 ((l.eraseIdx i).map Ad))] Ae:=by
 have hE:Gr Tryz.prog 225:=ku 225 Tryz.func225 aa3 rfl
 have CD:(l.eraseIdx i).length=l.length-1:=List.length_eraseIdx_of_lt hi
 have KI:=fo (P:=Tryz.prog) (f:=225) (es:=l.map Ad) (sz:=3) (rest:=[.int .i64 i,.int .i64 ((i:Int)+1)]) (n':=l.length-1) (Q:=fun E7=>E7=(l.eraseIdx i).map Ad++[aA]) hE (fun e=>by
  rw[FQ]at e;subst e;simp at hi) (by rw[BR];omega) ?_
 .rw[BR]at KI
  refine⟨hE,fun g w vals q1 q2 q3=>(KI.2 g w vals q1 q2 q3).mono fun _ _ ⟨v,r,h',g',e1,⟨e2,E7,p1,p2⟩,rest⟩=>⟨v,r,h',g',e1,⟨e2,by rw[p2,p1,Mh (by rw[BR,CD];exact Ao _),Bd (by rw[BR,CD];exact Ao _)]⟩,rest⟩⟩
 .intro g w b cap F hr hF hH hb hc
  rw[BR]at hF hc⊢
  have hu:∀e∈l.map Ad,e.length=3:=fun e he=>by
   obtain⟨t,_,rfl⟩:=Ar.1 he;rfl
  refine(kn w b cap i l.length F hF hi hc hH hr.2.1).mono ?_
  rintro e w' ⟨rfl,rfl⟩
  refine⟨rfl,_,_,1,#[],?_,rfl,?_,fun cs hcs=>?_,fun g w hr=>?_,rfl⟩
  .rw[Lib.lay_size,Lib.lay_size]
  .rw[Ay,BR,CD,AO];omega
  .rcases Bc.1 hcs with h | h
   .obtain⟨t,_,rfl⟩:=Ar.1 h;rfl
   .rw[AD.1 h];rfl
  .rw[ug F i l.length hF hi oq rfl,List.eraseIdx_eq_take_drop_succ,Df,BD,Df,List.map_take,List.map_drop,<-Jb _ i hu,<-O8 _ (i+1) hu]
   refine Ca.append (Ca.append (hr.take _) (hr.drop _)) ?_
   exact QL g w Fs oq fun x hx=>by
    simp only[AF,L1,or_false]at hx
    rcases hx with rfl | rfl | rfl<;>rfl
end Go.Eng
namespace Go.Eng
open Go.Proofs
variable {nm:ByteArray->ByteArray}{l r:List Tm}{α:Type}{c:List Tm}{t:Tm}{k:Nat}(x:List Rl)(a:List Tm)(ifs:List (List AV))(s:ByteArray)(roots:List Rq)(b:List Tm)(d:List (List Tm))(i:Nf)
theorem wx(l:List Tm)(hl:BL l)(D8:l≠[]):A6 Tryz.prog 226 [sl Ad l] (Af [] Ae) fun r h'=>r=.msl 2000 l.length/\h'=Af [(2000,.arr 3 (l.map Ad))] Ae:=by
 refine Bi (IB (pla [(5,3)] [])) [(5,2000)] rfl Bz hm rfl Tryz.func226 aa3 rfl (Nz rfl) aa3 rfl ?_;have CO:A7 3 (l.map Ad)/\([]:List (List AV)).length=0/\(([]:List (List AV)).length+(l.map Ad).length)*48<=140737488355328/\([]:List (List AV)).length+(l.map Ad).length<=9223372036854775807:=by
  grind [Cn]
 refine Yi ?_ ?_
 .intro _;refine Yi CO ?_;have e1:AV.msl 2000 (([]:List (List AV)).length+(l.map Ad).length)=.msl 2000 l.length:=by simp
  refine Xi (.msl 2000 (([]:List (List AV)).length+(l.map Ad).length)) (Yi (.refl _) (Yi e1 ?_))
  rfl
 .intro h;exact absurd (FQ.1 h) D8
theorem sQ(x:Tm)(p:ByteArray):PC 224 [.agg (Ad x),.cptr [vs p]] (vb (decide (x.path=p))):=by
 refine Ps De Tryz.func224 rfl (Nz rfl) (Yi ?_ ?_)
 .intro h;rw[Bs h];exact .refl _
 .intro h;rw[AP h];exact .refl _
theorem NG{p:ByteArray}:∀{c:List Tm} {i:Nat},(ET c).Nodup->∀(hi:i<c.length),c[i].path=p->c.eraseIdx i=AE c p
 |t::c,0,hn,_,h=>by
  grind [ET,AE,List.filter_eq_self]
 |t::c,i+1,hn,hi,h=>by
  have hi:i<c.length:=by grind
  have h:c[i].path=p:=h;unfold ET at hn;rw[Bv,GK]at hn
  have:t.path≠p:=fun e=>hn.1 (by simp_all)
  have ih:=NG hn.2 hi h
  grind [AE]
theorem Qk(hl:BL l)(h:A3 l=some c):BL c:=by
 have h1:=Om l l.length (Ao _);rw[F3]at h1;have h2:c=(CX l).filter fun t=>!FB t:=by
  grind [A3]
 have h3:c.length<=(CX l).length:=by grind
 have h4:(CX l).length=(Ds l).length:=by
  grind [List.perm_ext_iff_of_nodup,MG,H3,H9,DE,Ji,List.Perm.length_eq]
 omega
abbrev qu:AV:=.tup [.agg aA,nzA,vb false]
abbrev r5:Md:=⟨[3],[],[],[],[],[],[],[],[(30,0),(34,1)],[],[]⟩
theorem jX(l:List Tm)(p:ByteArray)(hl:BL l)(hs:∀t∈l,BL t.set)(hn:DS l p=none):PC 191 [sl Ad l,vs p] qu:=by
 have hc:=zf l hl hs;unfold DS at hn;cases e:A3 l with
 |none=>
  have e1:Ih l=.tup [sl Ad [],vb false]:=by grind [BT]
  rw[e1]at hc;have hi:=oL (DP.ptr [vs p]) [] (fun x=>decide (x.path=p)) (fun x _=>sQ x p) aa1;refine Ps r5 Tryz.func191 rfl (Nz rfl) (Xi .pure (Xi _ (Yi (hc) (Xi .pure (Xi _ (Yi (hi) (Yi (Nz rfl) (yN ?_))))))));exact .refl _
 |some c=>
  rw[e]at hn;have hn:(match Dj c p with | none=>none | some t=>some (t,AE c p))=none:=hn;have hfn:Dj c p=none:=by
   grind
  have e1:Ih l=.tup [sl Ad c,vb true]:=by grind [BT]
  rw[e1]at hc;have pP:=Qk hl e;have hi:=oL (DP.ptr [vs p]) c (fun x=>decide (x.path=p)) (fun x _=>sQ x p) aa0;have hid:KJ (fun x:Tm=>decide (x.path=p)) c 0=-1:=by
   grind [MA,Dj]
  rw[hid]at hi;refine Ps r5 Tryz.func191 rfl (Nz rfl) (Xi .pure (Xi _ (Yi (hc) (Xi .pure (Xi _ (Yi (hi) (Yi ?_ ?_)))))))
  .intro _;refine Yi (Nz rfl) (yN ?_);exact .refl _
  .intro h;exact absurd (show(-1:Int)<0 by decide) h
abbrev uq:Md:=⟨[3],[],[],[],[],[],[],[],[(30,0),(34,2)],[],[]⟩
theorem jY(l:List Tm)(p:ByteArray)(hl:BL l)(hs:∀t∈l,BL t.set)(hn:DS l p=some (t,r)) :
  A6 Tryz.prog 191 [sl Ad l,vs p] (Af [] Ae) fun v h'=>v=.tup [.agg (Ad t),.msl 2000 r.length,vb true]/\h'=Af [(2000,.arr 3 (r.map Ad))] Ae:=by
 have hc:=zf l hl hs;unfold DS at hn;cases e:A3 l with
 |none=>simp_all
 |some c=>
  rw[e]at hn;have hn:(match Dj c p with | none=>none | some t=>some (t,AE c p))=some (t,r):=hn;have vl:Dj c p=some t/\AE c p=r:=by
   grind
  have e1:Ih l=.tup [sl Ad c,vb true]:=by grind [BT]
  rw[e1]at hc;have pP:=Qk hl e;have hi:=oL (DP.ptr [vs p]) c (fun x=>decide (x.path=p)) (fun x _=>sQ x p) aa0;rcases MA (p:=fun x:Tm=>decide (x.path=p)) c 0 with ⟨_,h2⟩ | ⟨i,x,h1,h2,h3⟩
  .grind [Dj]
  have hx:x=t:=by
   grind [Dj]
  subst hx;rw[h1,IL]at hi;obtain⟨hic,hie⟩:=Bb.1 h2;have her:c.eraseIdx i=r:=by
   rw[<-vl.2];exact NG (H9 (EZ e)) hic (by grind)
  have rN:c.length-1=r.length:=by grind
  have D8:c≠[]:=fun h=>by simp_all
  have Aha:c.length<=1073741824:=pP;refine Bi (IB uq) [(13400,2000)] rfl Bz hm rfl Tryz.func191 aa3 rfl (Nz rfl) aa3 rfl (Xi .pure (Xi _ (Yi (hc) (Xi .pure (Xi _ (Yi (hi) (Yi ?_ ?_)))))))
  .intro h;omega
  intro _;have hg:(c.map Ad)[((i:Nat):Int).toNat]?=some (Ad x):=by simp_all
  refine Xi (Ad x) (Yi (Yi aa0 hg) (Yi rfl (yN (Xi c.length (Xi 3 (Xi (c.map Ad) (Yi rfl (Yi (wx c pP D8) (Yi (by grind [As]) (Xi (c.length-1) (Xi ((c.eraseIdx i).map Ad) (Yi rfl (Yi (AaQ c i hic) (yN (Yi aa3 (yN ?_))))))))))))))));have e2:AV.tup [.agg (Ad x),.msl 2000 (c.length-1),vb true]=.tup [.agg (Ad x),.msl 2000 r.length,vb true]:=by rw[rN]
  have e3:Af [(2000,HO.arr 3 ((c.eraseIdx i).map Ad))] Ae=Af [(2000,.arr 3 (r.map Ad))] Ae:=by rw[her]
  exact Xi _ (Yi (.refl _) (Yi e2 e3))
abbrev eH:Md:=⟨[],[],[],[],[],[],[],[],[],[(24,9),(30,12)],[2,3,5,6]⟩
abbrev yD(p:ByteArray):AV:=.tup [sl Ad (AQ a b p).1,vi (AQ a b p).2]
theorem Wz{p:ByteArray}(h:DS l p=some (t,r)):∃c,A3 l=some c/\t∈c/\r=AE c p:=by
 grind [DS,G1]
theorem WA{p:ByteArray}(hl:BL l)(h:DS l p=some (t,r)):BL t.set/\BL r/\∀u∈r,BL u.set:=by
 obtain⟨c,h1,h2,rfl⟩:=Wz h;have hs:=EZ h1
 grind [Is,Qk,AE,BM.canon]
theorem j8(h:A3 l=some c):c.length<=l.length:=by
 have h1:=Om l l.length (Ao _);rw[F3]at h1;have h2:c=(CX l).filter fun t=>!FB t:=by
  grind [A3]
 have h3:c.length<=(CX l).length:=by grind
 grind [List.perm_ext_iff_of_nodup,MG,H3,H9,DE,Ji,List.Perm.length_eq]
theorem WB{p:ByteArray}(h:DS l p=some (t,r)):r.length<=l.length:=by
 obtain⟨c,h1,h2,rfl⟩:=Wz h;have h3:(AE c p).length<=c.length:=Dz _ _
 have:=j8 h1
 omega
theorem gm(a b:AH):BL (EQ a b):=by
 grind [E6,aw]
theorem wq(p:ByteArray)(ha:a.length<=500000000)(hb:b.length<=500000000)(hsa:∀t∈a,BL t.set)(x9:∀t∈b,BL t.set):PC 138 [sl Ad a,sl Ad b,vs p] (yD a b p):=by
 have rI:BL a:=by omega
 have n8:BL b:=by omega
 have er:∀{l:List Tm} {e:Int},AQ a b p=(l,e)->yD a b p=.tup [sl Ad l,vi e]:=fun h=>by simp_all
 have e0:Ea (.tup [nzA,vi 1]) (.tup [.slice .none [],vi 1]):=Ea.tup ⟨.nil,.refl _,trivial⟩;cases h1:DS a p with
 |none=>
  have hr:AQ a b p=([],1):=by grind [AQ]
  have c1:=jX a p rI hsa h1;cases h2:DS b p with
  |none=>
   have c2:=jX b p n8 x9 h2;refine Ps eH Tryz.func138 rfl (Nz rfl) (Xi .pure (Xi _ (Yi (c1) (yN (Xi ⟨[(1,sl Ad b),(2,vs p),(8,.ref 8 0),(9,nzA),(10,vb false)],[(8,.cells aA)],Ae⟩ (Yi ⟨Z5,Z1,Fh,Tv⟩ (Xi .pure (Xi _ (Yi (c2) (yN (Xi ⟨[(8,.ref 8 0),(9,nzA),(10,vb false),(11,.ref 11 0),(12,nzA),(13,vb false)],[(8,.cells aA),(11,.cells aA)],Ae⟩ (Yi ⟨Z6,Z2,Fh,Tv⟩ ?_))))))))))))
   exact e0.trans (.of_eq (er hr).symm)
  |some q2=>
   obtain⟨t2,r2⟩:=q2;have c2:=jY b p n8 x9 h2;refine Ps eH Tryz.func138 rfl (Nz rfl) (Xi .pure (Xi _ (Yi (c1) (yN (Xi ⟨[(1,sl Ad b),(2,vs p),(8,.ref 8 0),(9,nzA),(10,vb false)],[(8,.cells aA)],Ae⟩ (Yi ⟨Z5,Z1,Fh,Tv⟩ ?_))))))
   have z2:r2.length=(r2.map Ad).length:=by simp_all
   refine Xi (.gen [] 1) (Yi rfl (c2.imp ?_));intro v2 g2 q2;have uu:=q2.1;have zJ:=q2.2;subst uu;subst zJ;refine yN (Xi ⟨[(8,.ref 8 0),(9,nzA),(10,vb false),(11,.ref 11 0),(12,.msl 12600 r2.length),(13,vb true)],[(8,.cells aA),(11,.cells (Ad t2)),(12600,.arr 3 (r2.map Ad))],Ae⟩ (Yi ⟨Z6,Z3,Fh,Tv⟩ (Yi z2 ?_)));exact e0.trans (.of_eq (er hr).symm)
 |some q1=>
  obtain⟨t1,r1⟩:=q1;have c1:=jY a p rI hsa h1;obtain⟨f1,f2,f3⟩:=WA rI h1;cases h2:DS b p with
  |none=>
   have hr:AQ a b p=([],1):=by grind [AQ]
   have c2:=jX b p n8 x9 h2;refine Ps eH Tryz.func138 rfl (Nz rfl) (Xi (.gen [] 1) (Yi rfl (c1.imp ?_)));intro v1 g1 q1;have Uw:=q1.1;have LB:=q1.2;subst Uw;subst LB;refine yN (Xi ⟨[(1,sl Ad b),(2,vs p),(8,.ref 8 0),(9,.msl 11900 r1.length),(10,vb true)],[(8,.cells (Ad t1)),(11900,.arr 3 (r1.map Ad))],Ae⟩ (Yi ⟨Z5,Z2,Fh,Tv⟩ ?_))
   have z1:r1.length=(r1.map Ad).length:=by simp_all
   refine Yi z1 (Xi .pure (Xi _ (Yi (c2) (yN (Xi ⟨[(8,.ref 8 0),(9,.slice (.id 11900 3) (r1.map Ad)),(10,vb true),(11,.ref 11 0),(12,nzA),(13,vb false)],[(8,.cells (Ad t1)),(11,.cells aA),(11900,.tok 3 (r1.map Ad).length)],Ae⟩ (Yi ⟨Z6,Z3,Fh,Tv⟩ ?_))))))
   exact e0.trans (.of_eq (er hr).symm)
  |some q2=>
   obtain⟨t2,r2⟩:=q2;have c2:=jY b p n8 x9 h2;obtain⟨g1,g2,g3⟩:=WA n8 h2;refine Ps eH Tryz.func138 rfl (Nz rfl) (Xi (.gen [] 1) (Yi rfl (c1.imp ?_)));intro v1 g1 q1;have Uw:=q1.1;have LB:=q1.2;subst Uw;subst LB;refine yN (Xi ⟨[(1,sl Ad b),(2,vs p),(8,.ref 8 0),(9,.msl 11900 r1.length),(10,vb true)],[(8,.cells (Ad t1)),(11900,.arr 3 (r1.map Ad))],Ae⟩ (Yi ⟨Z5,Z2,Fh,Tv⟩ ?_))
   have z1:r1.length=(r1.map Ad).length:=by simp_all
   have z2:r2.length=(r2.map Ad).length:=by grind
   refine Yi z1 (Xi (.gen [] 1) (Yi rfl (c2.imp ?_)));intro v2 g2 q2;have uu:=q2.1;have zJ:=q2.2;subst uu;subst zJ;refine yN (Xi ⟨[(8,.ref 8 0),(9,.slice (.id 11900 3) (r1.map Ad)),(10,vb true),(11,.ref 11 0),(12,.msl 12600 r2.length),(13,vb true)],[(8,.cells (Ad t1)),(11,.cells (Ad t2)),(11900,.tok 3 (r1.map Ad).length),(12600,.arr 3 (r2.map Ad))],Ae⟩ (Yi ⟨Z6,Z4,Fh,Tv⟩ (Yi z2 (Xi ⟨[(8,.ref 8 0),(9,.slice (.id 11900 3) (r1.map Ad)),(11,.ref 11 0),(12,.slice (.id 12600 3) (r2.map Ad))],[(8,.cells (Ad t1)),(11,.cells (Ad t2)),(11900,.tok 3 (r1.map Ad).length),(12600,.tok 3 (r2.map Ad).length)],Ae⟩ (Yi ⟨Z4,Z4,Fh,Tv⟩ ?_)))))
   have l1:=WB h1;have l2:=WB h2;have b1:A7 3 (r2.map Ad)/\(r1.map Ad).length=(r1.map Ad).length/\((r1.map Ad).length+(r2.map Ad).length)*48<=140737488355328/\(r1.map Ad).length+(r2.map Ad).length<=9223372036854775807:=
    ⟨Cn (enc:=Ad) (n:=3) (fun _=>rfl) r2,rfl,by omega,by omega⟩
   refine Yi b1 (Yi (Nz rfl) (yN (Xi _ (Yi (AaJ t1 t2 f1 g1) ?_))));have b2:A7 3 [Ad (CG t1 t2)]/\(r1.map Ad++r2.map Ad).length=(r1.map Ad).length+(r2.map Ad).length/\((r1.map Ad++r2.map Ad).length+[Ad (CG t1 t2)].length)*48<=140737488355328/\(r1.map Ad++r2.map Ad).length+[Ad (CG t1 t2)].length<=9223372036854775807:=
    ⟨⟨rfl,trivial⟩,by grind,by grind,by grind⟩
   refine Yi b2 ?_;have pG:=zf (r1++r2++[CG t1 t2]) (by grind) (fun u hu=>by
    rcases Bc.1 hu with hu | hu
    .grind
    .rw[AD.1 hu];exact gm _ _)
   have e1:sl Ad (r1++r2++[CG t1 t2])=.slice .none (r1.map Ad++r2.map Ad++[Ad (CG t1 t2)]):=by simp
   have rD:PC 192 [.slice .none (r1.map Ad++r2.map Ad++[Ad (CG t1 t2)])] (Ih (r1++r2++[CG t1 t2])):=e1▸pG;cases zu:A3 (r1++r2++[CG t1 t2])with
   |none=>
    have hr:AQ a b p=([],8):=by grind [AQ]
    have ec:Ih (r1++r2++[CG t1 t2])=.tup [sl Ad [],vb false]:=by grind [BT]
    have hc:PC 192 [.slice .none (r1.map Ad++r2.map Ad++[Ad (CG t1 t2)])] (.tup [sl Ad [],vb false]):=ec▸rD;have e8:Ea (.tup [nzA,vi 8]) (.tup [.slice .none [],vi 8]):=Ea.tup ⟨.nil,.refl _,trivial⟩;refine Xi _ (Yi (hc) (Yi aa3 (Xi ⟨[(14,sl Ad []),(15,vb false)],[],Ae⟩ (Yi ⟨Z2,Tv,Fh,Tv⟩ ?_))))
    exact e8.trans (.of_eq (er hr).symm)
   |some o=>
    have hr:AQ a b p=(o,0):=by grind [AQ]
    have ec:Ih (r1++r2++[CG t1 t2])=.tup [sl Ad o,vb true]:=by grind [BT]
    have hc:PC 192 [.slice .none (r1.map Ad++r2.map Ad++[Ad (CG t1 t2)])] (.tup [sl Ad o,vb true]):=ec▸rD;refine Xi _ (Yi (hc) (Yi aa3 (Xi ⟨[(14,sl Ad o),(15,vb true)],[],Ae⟩ (Yi ⟨Z2,Tv,Fh,Tv⟩ ?_))))
    exact .of_eq (er hr).symm
def dy(h s:Nat->HO):Nat->Bool
 |0=>true
 |n+1=>(match h (1000+n)with |.free=>true |_=>(match s (1000+n)with |.free=>false |_=>true))&&dy h s n
theorem Tj{h s:Nat->HO}:∀{n:Nat},dy h s n=true->∀j,j<n->h (1000+j)≠.free->s (1000+j)≠.free
 |n+1,hd,j,hj,hn=>by
  simp only[dy,Aj]at hd;rcases El j n with h1 | h1
  .exact Tj hd.2 j h1 hn
  grind
theorem Bg{h s:Nat->HO}(hd:dy h s 1000=true):∀j,1000<=j->j<2000->h j≠.free->s j≠.free:=fun j h1 h2=>by
 have:=Tj hd (j-1000) aa0
 simp_all
abbrev oU:List AV:=[sl Am x,.slice .none ifs,sl Ac roots,.slice (.id 1001 1) (d.map Aq)]
abbrev IP:HO:=.cells (oU x ifs roots d)
abbrev IV:HO:=.tok 1 (d.map Aq).length
abbrev ND:List (Nat×HO):=[(1000,IP x ifs roots d),(1001,IV d)]
abbrev X6:List AV:=[vs ⟨#[]⟩,vi 0,vi 0,vi 0,nzA,vs ⟨#[]⟩,vs ⟨#[]⟩,vs ⟨#[]⟩,vb false]
abbrev H4:Option Rl->AV
 |some r=>.tup [.agg (Am r),vb true]
 |none=>.tup [.agg X6,vb false]
theorem Tr{p:α->Bool}{l:List α}{i:Nat}(hi:i<l.length)(hb:∀j (hj:j<l.length),j<i->p l[j]=false)(h:p l[i]=true):l.find? p=some l[i]:=by
 grind [List.find?_eq_some_iff_getElem]
theorem Qn{p:α->Bool}{l:List α}(hb:∀j (hj:j<l.length),p l[j]=false):l.find? p=none:=by
 grind [List.getElem_of_mem]
theorem AaA(p:ByteArray)(pl:Int)(hx:BL x) :
  A6 Tryz.prog 221 [.ref 1000 0,vs p,vi pl] (Af (ND x ifs roots d) Ae) fun r h'=>r=H4 (Di x p pl)/\h'=Af (ND x ifs roots d) Ae:=by
 unfold BL at hx;refine Bi (IB (Dw [4])) [(1000,1000),(1001,1001)] rfl Bz hm rfl Tryz.func221 aa3 rfl (Nz rfl) aa3 rfl (Xi {i:Nat // i<=x.length/\∀j (hj:j<x.length),j<i->(decide (x[j].path=p)&&decide (plc x[j].ver=pl))=false} (Xi (fun i=>⟨[(1,vs p),(2,vi pl),(6,.ref 6 0),(16,sl Am x),(17,vi (x.map Am).length),(18,vi i.1)],[(6,.cells X6),(1000,IP x ifs roots d),(1001,IV d)],Ae⟩) (Xi (fun i=>x.length-i.1) (Yi (Xi ⟨0,Ap _,fun j _ h=>by omega⟩ ?_) ?_))))
 .exact⟨Z6,Z3,Fh,Bg aa3⟩
 intro⟨i,h1,h2⟩;refine Yi ?_ ?_
 .intro h;have h:(i:Int)<(x.map Am).length:=h;have h:i<x.length:=by simp_all
  have hg:x[i]?=some x[i]:=Ge h;refine Xi (Am x[i]) (Yi (Yi aa0 (by simp_all)) (Yi rfl ?_));refine Yi (Nz rfl) (yN (Xi ⟨[(1,vs p),(2,vi pl),(6,.ref 6 0),(9,.ref 9 0),(16,sl Am x),(17,vi (x.map Am).length),(18,vi i)],[(6,.cells X6),(9,.cells (Am x[i])),(1000,IP x ifs roots d),(1001,IV d)],Ae⟩ (Yi ⟨Z7,Z4,Fh,Bg aa3⟩ (yN (Xi .pure (Xi _ (Yi (uU x[i].ver) ?_)))))));have next:(decide (x[i].path=p)&&decide (plc x[i].ver=pl))=false->∀j (hj:j<x.length),j<i+1->(decide (x[j].path=p)&&decide (plc x[j].ver=pl))=false:=fun hf j hj Hg=>by
   grind
  refine Yi ?_ ?_
  .intro hp;have hp:x[i].path=p:=hp;refine Yi ?_ ?_
   .intro hq;have hq:plc x[i].ver=pl:=hq;have hr:Di x p pl=some x[i]:=Tr h (fun j hj Hg=>h2 j hj Hg) (by simp_all);refine Yi (Nz rfl) (Yi (Nz rfl) (yN ?_));have e:AV.tup [.agg (Am x[i]),vb true]=H4 (Di x p pl):=by rw[hr]
    exact Xi _ (Yi (.refl _) (Yi e rfl))
   .intro hq;have hq:¬plc x[i].ver=pl:=hq;refine Yi (by grind [As]) (Xi ⟨i+1,by omega,next (by simp_all)⟩ ?_)
    exact⟨by grind,Z6,Z3,Fh,Bg aa3⟩
  .intro hp;have hp:¬x[i].path=p:=hp;refine Yi (by grind [As]) (Xi ⟨i+1,by omega,next (by simp_all)⟩ ?_)
   exact⟨by grind,Z6,Z3,Fh,Bg aa3⟩
 .intro h;have h:¬(i:Int)<(x.map Am).length:=h;have h:¬i<x.length:=by simp_all
  have hr:Di x p pl=none:=Qn fun j hj=>h2 j hj aa0;have e:AV.tup [.agg X6,vb false]=H4 (Di x p pl):=by rw[hr]
  refine Yi (Nz rfl) (yN ?_);exact Xi _ (Yi (.refl _) (Yi e rfl))
abbrev L9:Option (List Tm)->AV
 |some t=>.tup [sl Ad t,vb true]
 |none=>.tup [sl Ad [],vb false]
theorem Lu:Ea (.tup [nzA,vb false]) (L9 none):=Ea.tup ⟨.nil,.refl _,trivial⟩
theorem Pz{l:List α}{i:Int}(h:i<0):DG l i=none:=by grind [DG]
theorem Pv{l:List α}{i:Int}(h:(l.length:Int)<=i):DG l i=none:=by
 grind [DG]
theorem Sr{l:List α}{i:Int}(h0:¬i<0)(h:¬(l.length:Int)<=i):∃x,DG l i=some x/\l[i.toNat]?=some x/\x∈l:=by
 have hl:i.toNat<l.length:=by omega
 exact⟨l[i.toNat],by grind [DG],Ge hl,Ak hl⟩
theorem Aao(hr:∀q∈roots,BL q.set) :
  A6 Tryz.prog 179 [.ref 1000 0,.agg (AG i)] (Af (ND x ifs roots d) Ae) fun r h'=>r=L9 ((DG roots i.number).map GF)/\h'=Af (ND x ifs roots d) Ae:=by
 refine Bi (IB De) [(1000,1000),(1001,1001)] rfl Bz hm rfl Tryz.func179 aa3 rfl (Nz rfl) aa3 rfl ?_;have Vo:DG roots i.number=none->AV.tup [sl Ad [],vb false]=L9 ((DG roots i.number).map GF):=fun h=>by simp_all
 refine Yi ?_ ?_
 .intro h;have h:i.number<0:=h;have e:=Vo (Pz h);refine Yi aa3 ?_;exact Xi _ (Yi Lu (Yi e rfl))
 .intro h;have h:¬i.number<0:=h;refine Yi ?_ ?_
  .intro h2;have h2:((roots.map Ac).length:Int)<=i.number:=h2;have e:=Vo (Pv (by simp_all));refine Yi aa3 ?_;exact Xi _ (Yi Lu (Yi e rfl))
  .intro h2;have h2:¬((roots.map Ac).length:Int)<=i.number:=h2;refine Yi aa3 (Al (Sr h (by rw[Lm]at h2;exact h2)) (fun q hq=>?_));have hg:(roots.map Ac)[i.number.toNat]?=some (Ac q):=Bk hq.2.1;refine Xi (Ac q) (Yi (Yi aa0 hg) (Yi rfl (yN (Xi _ (Yi (wl q (hr q hq.2.2)) (Yi aa3 ?_))))));have e:AV.tup [sl Ad (GF q),vb true]=L9 ((DG roots i.number).map GF):=by simp_all
   exact Xi _ (Yi (.refl _) (Yi e rfl))
theorem Sw(v:Ver):0<=plc v/\plc v<1000000:=by
 unfold plc;cases h:BK v with
 |true=>exact JC h
 |false=>simp
theorem m7{x:List Rl}{p:ByteArray}{pl:Int}{r:Rl}(h:Di x p pl=some r):r∈x/\r.path=p/\plc r.ver=pl:=by
 grind [Di]
theorem d6(h:¬(0:Int)<(l.map Ad).length):AV.tup [sl Ad l,vb false]=L9 (Oo l):=by
 cases l with
 |nil=>rfl
 |cons a l=>simp_all
theorem ZK(h:(0:Int)<(l.map Ad).length):AV.tup [sl Ad l,vb true]=L9 (Oo l):=by
 cases l with
 |nil=>simp_all
 |cons a l=>rfl
abbrev Vq:Option (List Tm):=match Di x i.path i.place with
 |none=>none
 |some r=>match DG r.reqs i.number with
  |none=>none
  |some q=>Oo (BJ i.path i.place q)
theorem Aap(hx:BL x)(hr:∀r∈x,∀q∈r.reqs,BL q.set) :
  A6 Tryz.prog 181 [.ref 1000 0,.agg (AG i)] (Af (ND x ifs roots d) Ae) fun r h'=>r=L9 (Vq x i)/\h'=Af (ND x ifs roots d) Ae:=by
 have hc:=AaA x ifs roots d i.path i.place hx;cases h1:Di x i.path i.place with
 |none=>
  rw[h1]at hc;have e:AV.tup [sl Ad [],vb false]=L9 (Vq x i):=by grind
  refine Bi (IB (Dw [2])) [(1000,1000),(1001,1001)] rfl Bz hm rfl Tryz.func181 aa3 rfl (Nz rfl) aa3 rfl (Xi (.gen [(1000,1000),(1001,1001)] 0) (Yi rfl (hc.imp ?_)));intro v1 g1 q1;have Uw:=q1.1;have LB:=q1.2;subst Uw;subst LB;refine yN (Xi ⟨[(0,.ref 1000 0),(3,.ref 3 0),(6,.ref 6 0),(7,vb false)],[(3,.cells (AG i)),(6,.cells X6),(1000,IP x ifs roots d),(1001,IV d)],Ae⟩ (Yi ⟨Z4,Z4,Fh,Bg aa3⟩ ?_))
  exact Xi _ (Yi Lu (Yi e rfl))
 |some r=>
  rw[h1]at hc;obtain⟨m1,m2,m3⟩:=m7 h1;have oa:=Sw r.ver;rw[m3]at oa;have er:Vq x i=match DG r.reqs i.number with | none=>none | some q=>Oo (BJ i.path i.place q):=by grind
  have Vo:DG r.reqs i.number=none->AV.tup [sl Ad [],vb false]=L9 (Vq x i):=fun h=>by simp_all
  refine Bi (IB (Dw [2,4,5])) [(1000,1000),(1001,1001)] rfl Bz hm rfl Tryz.func181 aa3 rfl (Nz rfl) aa3 rfl (Xi (.gen [(1000,1000),(1001,1001)] 0) (Yi rfl (hc.imp ?_)));intro v1 g1 q1;have Uw:=q1.1;have LB:=q1.2;subst Uw;subst LB;refine yN (Xi ⟨[(0,.ref 1000 0),(3,.ref 3 0),(6,.ref 6 0),(7,vb true)],[(3,.cells (AG i)),(6,.cells (Am r)),(1000,IP x ifs roots d),(1001,IV d)],Ae⟩ (Yi ⟨Z4,Z4,Fh,Bg aa3⟩ (Yi ?_ ?_)))
  .intro h;have h:i.number<0:=h;have e:=Vo (Pz h);exact Xi _ (Yi Lu (Yi e rfl))
  .intro h;have h:¬i.number<0:=h;refine Yi ?_ ?_
   .intro h2;have h2:((r.reqs.map Ac).length:Int)<=i.number:=h2;have e:=Vo (Pv (by simp_all));exact Xi _ (Yi Lu (Yi e rfl))
   .intro h2;have h2:¬((r.reqs.map Ac).length:Int)<=i.number:=h2;refine Al (Sr h (by rw[Lm]at h2;exact h2)) (fun q hq=>?_);have hg:(r.reqs.map Ac)[i.number.toNat]?=some (Ac q):=Bk hq.2.1;refine Xi ⟨[(3,.ref 3 0),(6,.ref 6 0)],[(3,.cells (AG i)),(6,.cells (Am r)),(1000,IP x ifs roots d),(1001,IV d)],Ae⟩ (Yi ⟨Z2,Z4,Fh,Bg aa3⟩ (Xi (Ac q) (Yi (Yi aa0 hg) (Yi rfl (yN (Xi _ (Yi (wm i.path i.place q (by grind [As]) (hr r m1 q hq.2.2)) (Yi aa3 ?_))))))));have eq:Vq x i=Oo (BJ i.path i.place q):=by simp_all
    refine Xi ⟨[(8,sl Ad (BJ i.path i.place q))],[(1000,IP x ifs roots d),(1001,IV d)],Ae⟩ (Yi ⟨Z1,Z2,Fh,Bg aa3⟩ (Yi ?_ ?_))
    .intro h3;have h3:(0:Int)<((BJ i.path i.place q).map Ad).length:=h3;have e:AV.tup [sl Ad (BJ i.path i.place q),vb true]=L9 (Vq x i):=by grind [ZK]
     exact Xi _ (Yi (.refl _) (Yi e rfl))
    .intro h3;have h3:¬(0:Int)<((BJ i.path i.place q).map Ad).length:=h3;have e:AV.tup [sl Ad (BJ i.path i.place q),vb false]=L9 (Vq x i):=by grind [d6]
     exact Xi _ (Yi (.refl _) (Yi e rfl))
abbrev U4(t:List Tm):Prop:=t.length<=500000000/\∀u∈t,BL u.set
theorem eP{a b:List Tm}{p:ByteArray}(h:(AQ a b p).2≠0):(AQ a b p).1=[]:=by
 grind [AQ]
abbrev UD:Option (List Tm):=match DG d i.left,DG d i.right with
 |some a,some b=>if(AQ a b i.path).2=0 then some (AQ a b i.path).1 else none
 |_,_=>none
theorem m9{d:List (List Tm)}{i:Nf}(h:DG d i.left=none):UD d i=none:=by grind
theorem na{d:List (List Tm)}{i:Nf}(h:DG d i.right=none):UD d i=none:=by grind
theorem Aar(hi:∀t∈d,U4 t) :
  A6 Tryz.prog 185 [.ref 1000 0,.agg (AG i)] (Af (ND x ifs roots d) Ae) fun r h'=>r=L9 (UD d i)/\h'=Af (ND x ifs roots d) Ae:=by
 have Vo:UD d i=none->AV.tup [sl Ad [],vb false]=L9 (UD d i):=fun h=>by rw[h]
 refine Bi (IB (Dw [2,4,5])) [(1000,1000),(1001,1001)] rfl Bz hm rfl Tryz.func185 aa3 rfl (Nz rfl) aa3 rfl (Xi ⟨[(0,.ref 1000 0),(3,.ref 3 0),(6,vi (d.map Aq).length)],[(3,.cells (AG i)),(1000,IP x ifs roots d),(1001,IV d)],Ae⟩ (Yi ⟨Z3,Z3,Fh,Bg aa3⟩ (Yi ?_ ?_)))
 .intro h;have h:i.left<0:=h;have e:=Vo (m9 (Pz h));exact Xi _ (Yi Lu (Yi e rfl))
 intro h;have h:¬i.left<0:=h;refine Yi ?_ ?_
 .intro h2;have h2:((d.map Aq).length:Int)<=i.left:=h2;have e:=Vo (m9 (Pv (by simp_all)));exact Xi _ (Yi Lu (Yi e rfl))
 intro h2;have h2:¬((d.map Aq).length:Int)<=i.left:=h2;refine Yi ?_ ?_
 .intro h3;have h3:i.right<0:=h3;have e:=Vo (na (Pz h3));exact Xi _ (Yi Lu (Yi e rfl))
 intro h3;have h3:¬i.right<0:=h3;refine Yi ?_ ?_
 .intro h4;have h4:((d.map Aq).length:Int)<=i.right:=h4;have e:=Vo (na (Pv (by simp_all)));exact Xi _ (Yi Lu (Yi e rfl))
 intro h4;have h4:¬((d.map Aq).length:Int)<=i.right:=h4;refine Al (Sr h (by rw[Lm]at h2;exact h2)) (fun a ha=>?_);refine Al (Sr h3 (by rw[Lm]at h4;exact h4)) (fun b hb=>?_);have ga:(d.map Aq)[i.left.toNat]?=some (Aq a):=Bk ha.2.1;have gb:(d.map Aq)[i.right.toNat]?=some (Aq b):=Bk hb.2.1;have rI:=hi a ha.2.2;have n8:=hi b hb.2.2;have hc:=wq a b i.path rI.1 n8.1 rI.2 n8.2;have er:UD d i=if(AQ a b i.path).2=0 then some (AQ a b i.path).1 else none:=by grind
 refine Xi ⟨[(0,.ref 1000 0),(3,.ref 3 0)],[(3,.cells (AG i)),(1000,IP x ifs roots d),(1001,IV d)],Ae⟩ (Yi ⟨Z2,Z3,Fh,Bg aa3⟩ (Xi (Aq a) (Yi (Yi aa0 ga) (Yi rfl (Xi (Aq b) (Yi (Yi aa0 gb) (Yi rfl (Xi _ (Yi (hc) (Yi aa3 (Xi ⟨[(7,sl Ad (AQ a b i.path).1),(8,vi (AQ a b i.path).2)],[(1000,IP x ifs roots d),(1001,IV d)],Ae⟩ (Yi ⟨Z2,Z2,Fh,Bg aa3⟩ (Yi ?_ ?_)))))))))))))
 .intro h5;have h5:(AQ a b i.path).2=0:=h5;have e:AV.tup [sl Ad (AQ a b i.path).1,vb true]=L9 (UD d i):=by simp_all
  exact Xi _ (Yi (.refl _) (Yi e rfl))
 .intro h5;have h5:¬(AQ a b i.path).2=0:=h5;have e:AV.tup [sl Ad (AQ a b i.path).1,vb false]=L9 (UD d i):=by grind [eP]
  exact Xi _ (Yi (.refl _) (Yi e rfl))
theorem sD:PC 178 [.agg (AG i)] (.agg (AG { i with number:=0 })):=by
 refine Ps De Tryz.func178 rfl (Nz rfl) (Yi (Nz rfl) (Yi (Nz rfl) (Yi (Nz rfl) (yN ?_))));exact .refl _
theorem sE:PC 180 [.agg (AG i)] (.agg (AG { i with path:=mt,place:=0,number:=0 })):=by
 refine Ps De Tryz.func180 rfl (Nz rfl) (Yi (Nz rfl) (Yi (Nz rfl) (Yi (Nz rfl) (Yi (Nz rfl) (Yi (Nz rfl) (yN ?_))))));exact .refl _
theorem sF:PC 182 [.agg (AG i)] (.agg (AG { i with path:=mt })):=by
 refine Ps De Tryz.func182 rfl (Nz rfl) (Yi (Nz rfl) (Yi (Nz rfl) (Yi (Nz rfl) (yN ?_))));exact .refl _
theorem sG:PC 184 [.agg (AG i)] (.agg (AG { i with path:=mt,left:=0,right:=0 })):=by
 refine Ps De Tryz.func184 rfl (Nz rfl) (Yi (Nz rfl) (Yi (Nz rfl) (Yi (Nz rfl) (Yi (Nz rfl) (Yi (Nz rfl) (yN ?_))))));exact .refl _
theorem RP:PC 129 [] (.agg [.v (Hf 178),.v (Hf 179),.v (Hf 180),.v (Hf 181),.v (Hf 182),.v (Hf 183),.v (Hf 184),.v (Hf 185)]):=by
 refine Ps De Tryz.func129 rfl (Nz rfl) (Yi (Nz rfl) (yN ?_));exact .refl _
theorem wk:PC 214 [vs s] (vb false):=by
 refine Ps De Tryz.func214 rfl (Nz rfl) (Yi ?_ ?_)
 .intro h;exact absurd rfl (show s≠s from h)
 .intro _;exact .refl _
theorem wv(z:Int):PC 249 [vi z] (vb false):=by
 refine Ps De Tryz.func249 rfl (Nz rfl) (Yi ?_ ?_)
 .intro h;exact absurd rfl (show z≠z from h)
 .intro _;exact .refl _
theorem Aam(a b:ByteArray):PC 165 [vs a,vs b] (vi (Lc a b)):=by
 refine Ps De Tryz.func165 rfl (Nz rfl) (Xi .pure (Xi _ (Yi (wk a) (Xi .pure (Xi _ (Yi (wk b) (Yi ?_ ?_)))))))
 .intro h;exact .of_eq (Aa vi (show(-1:Int)=Lc a b by grind [Lc,Ew]))
 .intro h;refine Yi ?_ ?_
  .intro h2;exact .of_eq (Aa vi (show(1:Int)=Lc a b by grind [Lc,Ew]))
  .intro h2;exact .of_eq (Aa vi (show(0:Int)=Lc a b by grind [Lc,Ew]))
theorem sJ(a b:Int):PC 215 [vi a,vi b] (vi (Gd a b)):=by
 refine Ps De Tryz.func215 rfl (Nz rfl) (Xi .pure (Xi _ (Yi (wv a) (Xi .pure (Xi _ (Yi (wv b) (Yi ?_ ?_)))))))
 .intro h;exact .of_eq (Aa vi (show(-1:Int)=Gd a b by grind [Gd]))
 .intro h;refine Yi ?_ ?_
  .intro h2;exact .of_eq (Aa vi (show(1:Int)=Gd a b by grind [Gd]))
  .intro h2;exact .of_eq (Aa vi (show(0:Int)=Gd a b by grind [Gd]))
theorem Aal(a b:Int):PC 164 [.slice .none [[vi a],[vi b]]] (vi (if a≠0 then a else b)):=by
 refine Ps De Tryz.func164 rfl (Nz rfl) (Xi {i:Nat // i<=2/\(0<i->a=0)/\(1<i->b=0)} (Xi (fun i=>⟨[(3,vi 0),(6,.slice .none [[vi a],[vi b]]),(7,vi 2),(8,vi i.1)],[],Ae⟩) (Xi (fun i=>2-i.1) (Yi (Xi ⟨0,by omega,by omega,by omega⟩ ?_) ?_))))
 .exact⟨Z4,Tv,Fh,Tv⟩
 intro⟨i,h1,h2,h3⟩;refine Yi ?_ ?_
 .intro h;have h:(i:Int)<2:=h
  match i,h1,h2,h3,h with
  |0,h1,h2,h3,h=>
   refine Xi [vi a] (Yi (Yi (Ce _) rfl) (Yi rfl (Yi ?_ ?_)))
   .intro h4;exact .of_eq (Aa vi (AX h4).symm)
   .intro h4;refine Yi (by grind [As]) (Xi ⟨1,by omega,fun _=>by omega,fun q=>absurd q aa2⟩ ?_);exact⟨by simp_all,Z4,Tv,Fh,Tv⟩
  |1,h1,h2,h3,h=>
   have ha:=h2 aa2;refine Xi [vi b] (Yi (Yi aa0 rfl) (Yi rfl (Yi ?_ ?_)))
   .intro h4;exact .of_eq (Aa vi (AI aa0).symm)
   .intro h4;refine Yi (by grind [As]) (Xi ⟨2,by omega,fun _=>ha,fun q=>by omega⟩ ?_);exact⟨by simp_all,Z4,Tv,Fh,Tv⟩
  |i+2,h1,h2,h3,h=>omega
 .intro h;have h:¬(i:Int)<2:=h;have ha:=h2 aa0;have hb:=h3 aa0;exact .of_eq (Aa vi (show(0:Int)=if a≠0 then a else b by omega))
theorem SZ(a b:Ver)(i:Nat)(hi:i<3)(h:∀j,j<i->Gd (part a j) (part b j)=0)(hn:Gd (part a i) (part b i)≠0):I6 a b=Gd (part a i) (part b i):=by
 unfold I6
 match i,hi,h,hn with
 |0,_,_,hn=>exact AX hn
 |1,_,h,hn=>
  have h0:Gd a.a b.a=0:=h 0 aa2;rw[AI aa0];exact AX hn
 |2,_,h,hn=>
  have h0:Gd a.a b.a=0:=h 0 aa2;have h1:Gd a.b b.b=0:=h 1 aa2;rw[AI aa0,AI aa0];rfl
theorem kj(a b:Ver)(h:∀j,j<3->Gd (part a j) (part b j)=0):I6 a b=0:=by
 unfold I6;have h0:Gd a.a b.a=0:=h 0 aa2;have h1:Gd a.b b.b=0:=h 1 aa2;have h2:Gd a.c b.c=0:=h 2 aa2;omega
theorem Aan(a b:Ver):PC 166 [.agg (ES a),.agg (ES b)] (vi (I6 a b)):=by
 refine Ps De Tryz.func166 rfl (Nz rfl) (yN (Xi _ (Yi (sA a) (yN (Xi _ (Yi (sA b) (Yi (Nz rfl) (yN (Yi aa3 (Xi {i:Nat // i<=3/\∀j,j<i->Gd (part a j) (part b j)=0} (Xi (fun i=>⟨[(5,.ref 5 0),(6,.ref 6 0),(13,vi i.1)],[(5,.cells (ES a)),(6,.cells (ES b))],Ae⟩) (Xi (fun i=>3-i.1) (Yi (Xi ⟨0,by omega,fun j h=>by omega⟩ ?_) ?_)))))))))))))
 .exact⟨Z3,Z2,Fh,Tv⟩
 intro⟨i,h1,h2⟩;refine Yi ?_ ?_
 .intro h;have h:(i:Int)<3:=h;have next:Gd (part a i) (part b i)=0->∀j,j<i+1->Gd (part a j) (part b j)=0:=fun hz j hj=>by
   grind
  match i,h1,h2,h,next with
  |0,h1,h2,h,next=>
   refine Yi ⟨by omega,by omega⟩ ?_;refine Yi ⟨by omega,by omega⟩ ?_;refine Xi _ (Yi (sJ (part a 0) (part b 0)) (Yi aa3 (Yi ?_ ?_)))
   .intro h4;exact .of_eq (Aa vi (SZ a b 0 aa2 h2 h4).symm)
   .intro h4;refine Yi (by grind [As]) (Xi ⟨1,by omega,next (GL h4)⟩ ?_)
    exact⟨by simp_all,Z3,Z2,Fh,Tv⟩
  |1,h1,h2,h,next=>
   refine Yi ⟨by omega,by omega⟩ ?_;refine Yi ⟨by omega,by omega⟩ ?_;refine Xi _ (Yi (sJ (part a 1) (part b 1)) (Yi aa3 (Yi ?_ ?_)))
   .intro h4;exact .of_eq (Aa vi (SZ a b 1 aa2 h2 h4).symm)
   .intro h4;refine Yi (by grind [As]) (Xi ⟨2,by omega,next (GL h4)⟩ ?_)
    exact⟨by simp_all,Z3,Z2,Fh,Tv⟩
  |2,h1,h2,h,next=>
   refine Yi ⟨by omega,by omega⟩ ?_;refine Yi ⟨by omega,by omega⟩ ?_;refine Xi _ (Yi (sJ (part a 2) (part b 2)) (Yi aa3 (Yi ?_ ?_)))
   .intro h4;exact .of_eq (Aa vi (SZ a b 2 aa2 h2 h4).symm)
   .intro h4;have h4:¬Gd (part a 2) (part b 2)≠0:=h4;refine Yi (by grind [As]) (Xi ⟨3,by omega,next (GL h4)⟩ ?_)
    exact⟨by simp_all,Z3,Z2,Fh,Tv⟩
  |i+3,h1,h2,h,next=>omega
 .intro h;have h:¬(i:Int)<3:=h;exact .of_eq (Aa vi (kj a b fun j hj=>h2 j aa0).symm)
theorem Aa4(a b:Rl):PC 114 [.agg (Am a),.agg (Am b)] (vi (IA a b)):=by
 refine Ps De Tryz.func114 rfl (Nz rfl) (Xi _ (Yi (Aam a.path b.path) (Yi (Nz rfl) (yN (Xi _ (Yi (Aan a.ver b.ver) (Xi _ (Yi (Aal (Lc a.path b.path) (I6 a.ver b.ver)) (Yi aa3 ?_)))))))));exact .refl _
abbrev F1:Prop:=s.size<=1073741824
abbrev HP(q:Rq):Prop:=BL q.set/\F1 q.path
abbrev E4(r:Rl):Prop:=F1 r.path/\∀q∈r.reqs,HP q
abbrev Zz(nm:ByteArray->ByteArray)(p:ByteArray):AV:=match Bj p with
 |some m=>.tup [vs (nm p),vi m,vi 0]
 |none=>.tup [vs ⟨#[]⟩,vi 0,vi 4]
abbrev U5(nm:ByteArray->ByteArray):Prop:=∀p:ByteArray,F1 p->PC 163 [vs p] (Zz nm p)
theorem U5.none(h:U5 nm){p:ByteArray}(hp:F1 p)(e:Bj p=.none):PC 163 [vs p] (.tup [vs ⟨#[]⟩,vi 0,vi 4]):=by
 grind
theorem U5.some(h:U5 nm){p:ByteArray}{m:Int}(hp:F1 p)(e:Bj p=.some m):PC 163 [vs p] (.tup [vs (nm p),vi m,vi 0]):=by
 grind
theorem vW(hL:U5 nm)(q:Rq)(hq:BL q.set)(hp:F1 q.path):PC 115 [.agg (Ac q),.v (.pointer none)] (vi (Hd none q)):=by
 cases dS:Bj q.path with
 |none=>
  have e:(4:Int)=Hd none q:=by grind [Hd]
  have hl:=hL.none hp dS;refine Ps De Tryz.func115 rfl (Nz rfl) (Xi .pure (Xi _ (Yi (hl) (Yi ?_ ?_))))
  .intro _;exact .of_eq (Aa vi e)
  .intro h;exact absurd (show(4:Int)≠0 by decide) h
 |some m=>
  have er:Hd none q=if(q.set.isEmpty||!decide (q.set=canon q.set)||false)=true then 1 else 0:=by grind [Hd]
  have hl:=hL.some hp dS;have hc:=Yp q.set hq;have he:=wb q.set (canon q.set) hq;have pO:∀{n:Int},n=(q.set.map Ab).length->n=0->q.set.isEmpty=true:=fun h1 h2=>by
   rw[Lm]at h1;rw[L0];exact Aw aa0
  have lG:¬((q.set.map Ab).length:Int)=0->q.set.isEmpty=false:=fun h=>by
   simp_all
  rcases Bt (decide (q.set=canon q.set))with h2 | h2
  .rw[h2]at he;refine Ps (Dw []) Tryz.func115 rfl (Nz rfl) (Xi .pure (Xi _ (Yi (hl) (Yi ?_ ?_))))
   .intro h;exact absurd rfl h
   intro _;refine Yi ?_ ?_
   .intro h;have e:(1:Int)=Hd none q:=by grind
    refine Yi aa3 ?_;exact .of_eq (Aa vi e)
   intro h;have hn:=lG h;refine Xi _ (Yi (hc) (Xi _ (Yi (he) (Yi aa3 ?_))));have e:(0:Int)=Hd none q:=by grind
   exact .of_eq (Aa vi e)
  .rw[h2]at he;refine Ps (Dw []) Tryz.func115 rfl (Nz rfl) (Xi .pure (Xi _ (Yi (hl) (Yi ?_ ?_))))
   .intro h;exact absurd rfl h
   intro _;refine Yi ?_ ?_
   .intro h;have e:(1:Int)=Hd none q:=by simp_all
    refine Yi aa3 ?_;exact .of_eq (Aa vi e)
   intro h;have hn:=lG h;refine Xi _ (Yi (hc) (Xi _ (Yi (he) (Yi aa3 ?_))));have e:(1:Int)=Hd none q:=by simp_all
   exact .of_eq (Aa vi e)
theorem vX(hL:U5 nm)(q b:Rq)(hq:BL q.set)(hp:F1 q.path):PC 115 [.agg (Ac q),.cptr (Ac b)] (vi (Hd (some b.path) q)):=by
 cases dS:Bj q.path with
 |none=>
  have e:(4:Int)=Hd (some b.path) q:=by grind [Hd]
  have hl:=hL.none hp dS;refine Ps De Tryz.func115 rfl (Nz rfl) (Xi .pure (Xi _ (Yi (hl) (Yi ?_ ?_))))
  .intro _;exact .of_eq (Aa vi e)
  .intro h;exact absurd (show(4:Int)≠0 by decide) h
 |some m=>
  have er:Hd (some b.path) q=if(q.set.isEmpty||!decide (q.set=canon q.set)||!Fp b.path q.path)=true then 1 else 0:=by grind [Hd]
  have hl:=hL.some hp dS;have hc:=Yp q.set hq;have he:=wb q.set (canon q.set) hq;have pO:∀{n:Int},n=(q.set.map Ab).length->n=0->q.set.isEmpty=true:=fun h1 h2=>by
   rw[Lm]at h1;rw[L0];exact Aw aa0
  have lG:¬((q.set.map Ab).length:Int)=0->q.set.isEmpty=false:=fun h=>by
   simp_all
  rcases Bt (decide (q.set=canon q.set))with h2 | h2
  .rw[h2]at he;refine Ps (Dw []) Tryz.func115 rfl (Nz rfl) (Xi .pure (Xi _ (Yi (hl) (Yi ?_ ?_))))
   .intro h;exact absurd rfl h
   intro _;refine Yi ?_ ?_
   .intro h;have e:(1:Int)=Hd (some b.path) q:=by grind
    refine Yi aa3 ?_;exact .of_eq (Aa vi e)
   intro h;have hn:=lG h;refine Xi _ (Yi (hc) (Xi _ (Yi (he) (Yi ?_ ?_))))
   .intro h3;refine Yi aa3 ?_;have e:(1:Int)=Hd (some b.path) q:=by grind [Ew]
    exact .of_eq (Aa vi e)
   .intro h3;have h3:Op.bytesLess b.path.toList q.path.toList=true:=by grind
    refine Yi aa3 ?_;have e:(0:Int)=Hd (some b.path) q:=by grind [Ew]
    exact .of_eq (Aa vi e)
  .rw[h2]at he;refine Ps (Dw []) Tryz.func115 rfl (Nz rfl) (Xi .pure (Xi _ (Yi (hl) (Yi ?_ ?_))))
   .intro h;exact absurd rfl h
   intro _;refine Yi ?_ ?_
   .intro h;have e:(1:Int)=Hd (some b.path) q:=by simp_all
    refine Yi aa3 ?_;exact .of_eq (Aa vi e)
   intro h;have hn:=lG h;refine Xi _ (Yi (hc) (Xi _ (Yi (he) (Yi aa3 ?_))));have e:(1:Int)=Hd (some b.path) q:=by simp_all
   exact .of_eq (Aa vi e)
abbrev OV(l:List Rq)(k:Nat):List AV:=((l.map Ac)[k]?).getD []
abbrev vT(l:List Rq):Nat->AV
 |0=>.v (.pointer none)
 |k+1=>.cptr (OV l k)
abbrev Jo(l:List Rq):Nat->Option ByteArray
 |0=>none
 |k+1=>(l[k]?).map (·.path)
theorem bi{l:List Rq}(h:k<l.length):OV l k=Ac l[k]:=by
 grind
theorem Yl{l:List Rq}(h:k<l.length):Jo l (k+1)=some l[k].path:=by
 simp_all
theorem c65(hL:U5 nm)(l:List Rq)(hs:∀q∈l,HP q):PC 60 [sl Ac l] (vi (AL l)):=by
 refine Ps (Dw []) Tryz.func60 rfl (Nz rfl) (Yi ?_ ?_)
 .intro h;exact .of_eq (Aa vi (show(7:Int)=AL l by grind [AL]))
 intro h;have hl:l.length<=16:=by grind
 have TM:AL l=D2 none l:=by grind [AL]
 refine Xi {i:Nat // i<=l.length/\D2 none l=D2 (Jo l i) (l.drop i)} (Xi (fun i=>⟨[(0,sl Ac l),(3,vT l i.1),(10,sl Ac l),(11,vi (l.map Ac).length),(12,vi i.1)],[],Ae⟩) (Xi (fun i=>l.length-i.1) (Yi (Xi ⟨0,Ap _,rfl⟩ ?_) ?_)))
 .exact⟨Z5,Tv,Fh,Tv⟩
 intro⟨i,h1,h2⟩;refine Yi ?_ ?_
 .intro h;have h:i<l.length:=by simp_all
  have hg:l[i]?=some l[i]:=Ge h;have hd:l.drop i=l[i]::l.drop (i+1):=Ba h;have hq:=hs l[i] (Ak h);have hc:PC 115 [.agg (Ac l[i]),vT l i] (vi (Hd (Jo l i) l[i])):=by
   cases i with
   |zero=>exact vW hL _ hq.1 hq.2
   |succ k=>
    rw[Yl (by omega:k<l.length)];show PC 115 [_,.cptr (OV l k)] _;rw[bi (by omega:k<l.length)];exact vX hL _ _ hq.1 hq.2
  have IE:D2 none l=if Hd (Jo l i) l[i]=0 then D2 (some l[i].path) (l.drop (i+1))else Hd (Jo l i) l[i]:=by rw[h2,hd];rfl
  match i,h1,h2,h,hg,hd,hc,IE with
  |0,h1,h2,h,hg,hd,hc,IE=>
   refine Xi (Ac l[0]) (Yi (Yi aa0 (by grind)) (Yi rfl (Yi (Nz rfl) (Yi (Nz rfl) (yN (Xi .pure (Xi _ (Yi (hc) (Yi ?_ ?_)))))))))
   .intro h4;exact .of_eq (Aa vi (show Hd (Jo l (0)) l[0]=AL l by omega))
   .intro h4;refine Xi (Ac l[0]) (Yi (Yi aa0 (by grind)) (Yi rfl (Yi (by grind [As]) (Xi ⟨0+1,by omega,by grind⟩ ?_))));have e1:AV.cptr (Ac l[0])=.cptr (OV l (0)):=by grind
    exact⟨by show l.length-(0+1)<l.length-(0);omega,⟨Zr,⟨e1,rfl⟩,Zr,Zr,Zr,Tv⟩,Tv,Fh,Tv⟩
  |k+1,h1,h2,h,hg,hd,hc,IE=>
   refine Xi (Ac l[k+1]) (Yi (Yi aa0 (by simp[hg])) (Yi rfl ?_));refine Yi (Nz rfl) (Yi (Nz rfl) (yN (Xi .pure (Xi _ (Yi (hc) (Yi ?_ ?_))))))
   .intro h4;exact .of_eq (Aa vi (show Hd (Jo l (k+1)) l[k+1]=AL l by omega))
   .intro h4;refine Xi (Ac l[k+1]) (Yi (Yi aa0 (by simp[hg])) (Yi rfl ?_));refine Yi (by show As (((k+1:Nat):Int)+1);unfold As;omega) ?_;refine Xi ⟨k+1+1,by omega,by grind⟩ ?_;have e1:AV.cptr (Ac l[k+1])=.cptr (OV l (k+1)):=by grind
    exact⟨by show l.length-(k+1+1)<l.length-(k+1);omega,⟨Zr,⟨e1,rfl⟩,Zr,Zr,Zr,Tv⟩,Tv,Fh,Tv⟩
 .intro h;have h:¬i<l.length:=by simp_all
  have e:(0:Int)=AL l:=by rw[TM,h2,HF aa0];rfl
  exact .of_eq (Aa vi e)
theorem cU{cx:Cx}{st:St}{K:LS -> Prop}(t:List (Nat×AV))(h:List (Nat×HO))(h1:zH st (LS.st ⟨t,h,Ae⟩).h t)(h2:zG st (LS.st ⟨t,h,Ae⟩).h h)(k:K ⟨t,h,Ae⟩)
    (h3:match cx.ext with | false => True | true => ∀j,1000 <= j -> j<2000 -> st.h j ≠ .free -> (LS.st ⟨t,h,Ae⟩).h j ≠ .free := by first | exact trivial | exact Bg aa3):∃s,St.le cx st s /\ K s := ⟨_,⟨h1,h2,fun _ => .inl rfl,h3⟩,k⟩
end Go.Eng
