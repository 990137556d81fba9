/- Lemmas 16. -/
import Derived.Test.YtkjhcikodmiceaaGreatDoorMA15
import Derived.Shelf.Slices.Delete
namespace Go.Eng
open Go.Proofs Go.Proofs.Tryz
variable {α:Type}(p:CS)(l:List Tm)(x:α)(s:AN)
abbrev IG:AV:=.tup [sl M (H l),I (Bj l).isSome]
abbrev AfT:Ns:=⟨[],[],[(4,3)],[],[],[],[],[],[],[(25,4)],[]⟩
abbrev gu:HO:=.arr 3 (l.map M)
abbrev Hh:List Tm:=l.filter fun t=>!Fx t
theorem sK{l:List Tm}{kv:Value×AV}{QR : List (Value×AV)}(h:(l.map U9).Perm (kv::QR)):∃t r,kv=U9 t/\QR=r.map U9/\l.Perm (t::r):=by
 obtain⟨ps,h1,h2⟩:=Na h l rfl;cases ps<;>grind
theorem am{l:List Tm}{t:Tm}(h:t∈DF l)(hn:F7 t=true):Bj l=none:=by
 grind [Bj,JU]
theorem dF{l done s:List Tm}(h:done.Perm (DF l))(hn:∀t∈done,F7 t=false)(hp:s.Perm (Hh done))(hs:s.Pairwise fun x y=>Ek y.path x.path=false):Bj l=some s:=by
 unfold Bj;rw[AL]
 .congr 1
  exact(Rk _ (hp.trans (h.filter _)) hs).symm
 grind [JU]
theorem kr:(Hh l).length<=l.length:=Er _ _
theorem c29(hl:BF l)(hs:∀t∈l,BF t.set):PC 297 [sl M l] (IG l):=by
 have kb:l.length<=1073741824:=hl;have hml:(DF l).length<=l.length:=by grind [Pe,List.take_length]
 refine Ps AfT func297 rfl C4 (C1 (U (c57 l hl hs) (Z {p:List Tm×List Tm×Option (Value×AV) // (p.1++p.2.1).Perm (DF l)/\∀t∈p.1,F7 t=false} (Z (fun p=>⟨[(4,.msl 4 (Hh p.1.1).length),(9,.ref 9 0)],[(4,gu (Hh p.1.1)),(9,.iter ((DF l).map U9) (p.1.2.1.map U9) p.1.2.2)],Af⟩) (Z (fun p=>p.1.2.1.length) (J (Z ⟨([],DF l,none),.refl _,fun t ht=>by cases ht⟩ ?_) ?_))))))
 .exact⟨Z2,Z2,Fh,W⟩
 intro⟨⟨done,rem,Ew⟩,r1,r2⟩;have r1:(done++rem).Perm (DF l):=r1;have hdl:done.length+rem.length<=l.length:=by grind [List.length_append,List.Perm.length_eq]
 have r9:=kr done;refine J ?_ ?_
 .intro hr;have hr:rem=[]:=FQ.1 hr;subst hr;rw[Ey]at r1;refine Z (.gen [(4,1000)] 0) (J rfl ((c61 (Hh done) Wk).to ?_));intro s hq;have Xk:s.length=(Hh done).length:=hq.1.length_eq;have hc:=dF r1 r2 hq.1 hq.2;refine J aa0 ?_;have e:AV.tup [sl M s,I true]=IG l:=by grind [H]
  exact .of_eq e
 .intro kv QR hp;refine Al (sK hp) (fun t hp=>Al hp (fun r hp=>?_));have e1:=hp.1;have e2:=hp.2.1;subst e1;subst e2;have hp:=hp.2.2;have yy:t∈DF l:=r1.mem_iff.1 (Cb _ (hp.mem_iff.2 (Ah ..)));have htc:=Qz l t yy;have htf:=IX htc;refine J C4 (yN ?_);have hv:PC 348 [.agg (M t)] (I (F7 t)):=oQ htc▸c59 t htf;have ha:PC 349 [.agg (M t)] (I (Fx t)):=jh htc▸c60 t htf;refine Ay (Bt (F7 t)) (fun h=>?_) (fun h=>?_)
  .rw[h]at hv;refine C1 (U (hv) ?_);have hc:=am yy h;have e:AV.tup [.slice .none [],I false]=IG l:=by grind [H]
   have e0:CD (.tup [BY,I false]) (.tup [.slice .none [],I false]):=CD.tup ⟨.nil,.refl _,trivial⟩;exact e0.trans (.of_eq e)
  .rw[h]at hv;refine C1 (U (hv) (yN ?_));have g8:((done++[t])++r).Perm (DF l):=by
    grind
   have hnv:∀u∈done++[t],F7 u=false:=fun u hu=>by
    grind
   have hrl:r.length<rem.length:=by grind [List.length_cons,List.Perm.length_eq]
   refine Ay (Bt (Fx t)) (fun h2=>?_) (fun h2=>?_)
   rotate_left
   .rw[h2]at ha;refine C1 (U (ha) ?_);have De:A7 3 [M t]/\((Hh done).map M).length=(Hh done).length/\(((Hh done).map M).length+[M t].length)*48<=140737488355328/\((Hh done).map M).length+[M t].length<=9223372036854775807:=
     ⟨⟨rfl,trivial⟩,by simp_all,by grind,by grind⟩
    refine yN (J De ?_);have hk:Hh (done++[t])=Hh done++[t]:=aa0
    have e1:AV.msl 4 (((Hh done).map M).length+[M t].length)=.msl 4 (Hh (done++[t])).length:=aa0
    have e2:HO.arr 3 ((Hh done).map M++[M t])=gu (Hh (done++[t])):=aa0
    refine Z ⟨(done++[t],r,some (U9 t)),g8,hnv⟩ ?_;exact⟨hrl,⟨⟨e1,rfl⟩,X,W⟩,⟨⟨e2,rfl⟩,X,W⟩,Fh,W⟩
   .rw[h2]at ha;refine C1 (U (ha) ?_);have hk:Hh (done++[t])=Hh done:=aa0
    have e1:AV.msl 4 (Hh done).length=.msl 4 (Hh (done++[t])).length:=by rw[hk]
    have e2:gu (Hh done)=gu (Hh (done++[t])):=by rw[hk]
    refine Z ⟨(done++[t],r,some (U9 t)),g8,hnv⟩ ?_;exact⟨hrl,⟨⟨e1,rfl⟩,X,W⟩,⟨⟨e2,rfl⟩,X,W⟩,Fh,W⟩
theorem vX(hl:BF l)(hs:∀t∈l,BF t.set):PC 292 [sl M l] (sl M (H l)):=by
 refine Ps Dc func292 rfl C4 (C1 (U (c29 l hl hs) ?_));exact .refl _
theorem Rs:BF (BW s):=by
 grind [Fb,GT]
theorem zB:BF [x]:=aa0
theorem Aee(y:α):BF [x,y]:=aa0
theorem ze(q:Rq)(hq:BF q.set):PC 225 [.agg (Ac q)] (sl M (GE q)):=by
 have hc:PC 292 [sl M [DG q]] (sl M (GE q)):=vX [DG q] (zB _) fun t ht=>by rw[AI.1 ht];exact Rs _
 refine Ps Dc func225 rfl C4 (yN (C1 (U (zl q hq) (C1 (U (hc) ?_)))));exact .refl _
theorem zf(pl:Int)(q:Rq)(hp:Au (pl+1))(hq:BF q.set):PC 226 [vs p,G pl,.agg (Ac q)] (sl M (BU p pl q)):=by
 have hc:PC 292 [sl M [⟨p,false,[(pl,pl+1)]⟩,DG q]] (sl M (BU p pl q)):=vX [⟨p,false,[(pl,pl+1)]⟩,DG q] (Aee _ _) fun t ht=>by
  rcases AM.1 ht with rfl | ht
  .simp_all
  .rw[AI.1 ht];exact Rs _
 refine Ps Dc func226 rfl C4 (J hp (yN (C1 (U (zl q hq) (C1 (U (hc) ?_))))));exact .refl _
theorem vS(hs:BF s):PC 229 [vs p,sl Y s] (sl M (Eh p s)):=by
 have hc:PC 292 [sl M [⟨p,false,BW s⟩]] (sl M (Eh p s)):=vX [⟨p,false,BW s⟩] (zB _) fun t ht=>by grind [Rs]
 refine Ps Dc func229 rfl C4 (C1 (U (vD s hs) (C1 (U (hc) ?_))));exact .refl _
end Go.Eng
namespace Go.Eng
open Go.Proofs Go.Proofs.Tryz Go.Shelf Go.RowKit Go.Lib Go.Sort
theorem xi(F:Array Value)(i n:Nat)(hF:F.size=n*3)(hi:i<n)(z:List Value)(hz:z.length=3):(lay (lay F (i*3) (F.toList.drop ((i+1)*3))) ((n-1)*3) z).toList=F.toList.take (i*3)++F.toList.drop ((i+1)*3)++z:=by
 have l1:(F.toList.take (i*3)).length=i*3:=by simp;omega
 have l2:(F.toList.drop ((i+1)*3)).length=(n-(i+1))*3:=by simp;omega
 apply C3
 intro t
 rw[CM,lay_get? _ _ _ _ (by rw[Lib.lay_size];omega),lay_get? _ _ _ _ (by rw[l2];omega)]
 rw[hz,l2]
 by_cases c1:t<i*3
 .rw[AL Wk,AL Wk,Ee (by rw[AD];omega),Ee Wk,List.getElem?_take,A1 c1,CM]
 .by_cases c2:t<(n-1)*3
  .rw[AL Wk,A1 Wk,Ee (by rw[AD];omega),BO Wk,l1]
  .rw[BO (by rw[AD];omega),AD,l1,l2]
   by_cases c3:t<n*3
   .rw[A1 Wk];congr 1;omega
   .rw[AL Wk,AL Wk,Array.getElem?_eq_none Wk,List.getElem?_eq_none Wk]
abbrev qH:List Value:=[.string ⟨#[]⟩,.bool false,.slice none 0 0]
set_option maxHeartbeats 4000000 in
set_option maxRecDepth 1000000 in
theorem mR(w:World)(b cap i n:Nat)(F:Array Value)(hF:F.size=n*3)(hi:i<n)(Qp:n<=cap)(hH:Holds id w b 0 F)(h1:∀x∈F.toList,x.oneCell'=true) :
  Calls prog 344 #[.slice (some ⟨b,0,none⟩) n cap,.int .i64 i,.int .i64 ((i:Int)+1)] w fun e w'=>e=.returned (.slice (some ⟨b,0,none⟩) (n-1) cap) /\
   w'=putRow id (Sort.ahead w 1) b 0 (lay (lay F (i*3) (F.toList.drop ((i+1)*3))) ((n-1)*3) qH):=by
 obtain⟨i0,hi0,wZ⟩:∃i0,prog.info? 325=some i0/\i0.size=3:=by
  obtain⟨i,z,h1,_,h2,_⟩:=Ij (P:=prog) (T:=tQ) BA (e:=325) (n:=2) aa4
  exact⟨i,h1,h2.trans aa4⟩
 obtain⟨news,Jy⟩:∃news,news=F.toList.drop ((i+1)*3):=⟨_,rfl⟩
 have CN:news.length=(n-(i+1))*3:=by rw[Jy];simp;omega
 have F5:∀t,t<(n-(i+1))*3->news[t]?=some F[(i+1)*3+t]!:=by
  intro t ht
  rw[Jy,Gf,CM,OS F ((i+1)*3+t) Wk,DA Wk]
 obtain⟨A,hA,wV⟩:∃A:Addr,(if cap=i+1 then some (⟨b,0,none⟩:Addr)else some ⟨b,(i+1)*3,none⟩)=some A/\Hid (∀t u,news[t]?=some u->w.drew.cell? (A.add t)=some u):=by
  by_cases h:cap=i+1
  .refine⟨⟨b,0,none⟩,by simp[h],fun t u hu=>?_⟩
   have h0:news.length=0:=by rw[CN];omega
   rw[List.length_eq_zero_iff.1 h0]at hu
   simp at hu
  .refine⟨⟨b,(i+1)*3,none⟩,by simp[h],fun t u hu=>?_⟩
   have ht:t<(n-(i+1))*3:=by
    have:=(Bg.1 hu).1
    rwa [CN]at this
   rw[F5 t ht]at hu
   rw[Addr.add_lit]
   have:=(hH ((i+1)*3+t) Wk).1
   rw[H7]at this
   exact this.trans hu
 have s1:Hid (news.length=(n-(i+1))*3):=CN
 have s2:Hid (∀u∈news,u.oneCell'=true):=by
  intro u hu
  rw[Jy]at hu
  exact h1 u (I1 hu)
 have s3:Hid (∀t,t<news.length->(w.drew.cell? ⟨b,0+i*3+t,none⟩).isSome=true/\w.drew.frozen? ⟨b,0+i*3+t,none⟩=false):=by
  intro t ht
  rw[CN]at ht
  have:=hH (i*3+t) Wk
  rw[Nat.add_assoc]
  exact⟨by show(w.cell? _).isSome=true;rw[this.1];rfl,this.2⟩
 obtain⟨W1,uv⟩:∃W1,W1=w.drew.setCells b (0+i*3) news:=⟨_,rfl⟩
 have wy : W1=putRow id (Sort.ahead w 1) b 0 (lay F (i*3) news):=by
  have:=putRow_setCells id (Sort.ahead w 1) b 0 news F (i*3) Wk
  rw[putRow_self id (Sort.ahead w 1) b 0 F (holds_ahead id w 1 b 0 F hH),Ks]at this
  rw[uv,<-this]
  rfl
 have hH1:Holds id W1 b 0 (lay F (i*3) news):=by rw[wy];exact holds_putRow id _ b 0 F _ (holds_ahead id w 1 b 0 F hH) (Lib.lay_size _ _ _)
 have Iz:(storeCells ⟨b,0+(n-1)*3,none⟩ qH 0).run prog W1=.ok () (W1.setCells b (0+(n-1)*3) qH):=by
  have:=run_storeCells_cells (P:=prog) b (0+(n-1)*3) qH 0 W1 (fun j hj=>by
   have hj:j<3:=hj
   have:=hH1 ((n-1)*3+j) (by rw[Lib.lay_size];omega)
   rw[show 0+(n-1)*3+0+j=0+((n-1)*3+j) by omega,this.1];rfl) (fun j hj=>by
   have hj:j<3:=hj
   have:=hH1 ((n-1)*3+j) (by rw[Lib.lay_size];omega)
   rw[show 0+(n-1)*3+0+j=0+((n-1)*3+j) by omega];exact this.2) (fun v hv=>by
   simp only[AM,Mq,or_false]at hv
   rcases hv with rfl | rfl | rfl<;>rfl)
  exact this
 have hcl:∀ty c,(Builtin.clear_ #[258] ty #[.slice (some ⟨b,(n-1)*3,none⟩) 1 c]).run prog W1=.ok (.tuple #[]) (W1.setCells b (0+(n-1)*3) qH):=fun ty c=>by
  have hv:=zeroValue325
  rw[H7]at Iz⊢
  have hz:(Builtin.zeroCells (Value.agg #[Value.string { data:=#[] },Value.bool false,Value.slice none 0 0]).cells 1).toList=qH:=by kernel_rfl
  simp[Builtin.clear_,run_underlying underlying258,hv,hz,Iz]
 have Akp:∀ty,(Builtin.clear_ #[258] ty #[.slice (some ⟨b,(i+(n-(i+1)))*3,none⟩) (n-(i+(n-(i+1)))) (cap-(i+(n-(i+1))))]).run prog W1=.ok (.tuple #[]) (W1.setCells b (0+(n-1)*3) qH):=fun ty=>by
  have e1:i+(n-(i+1))=n-1:=Wk
  have e2:n-(n-1)=1:=Wk
  rw[e1,e2];exact hcl ty _
 have X:Aside (W1=putRow id (Sort.ahead w 1) b 0 (lay F (i*3) news)):=wy
 have hW:Hid (W1=w.drew.setCells b (0+i*3) news):=uv
 have Y:Aside (news=F.toList.drop ((i+1)*3)):=Jy
 have Z:Aside (news.length=(n-(i+1))*3):=CN
 have hic:i<=cap:=Wk
 have hjc:i+1<=cap:=Wk
 have mixed:=Go.Eng.hm
 have hb1:(0:Int)<=(i:Int)+1:=Wk
 have qv:(i:Int)+1<=(n:Int):=Wk
 clear uv wy hH1 hH F5 Jy CN Iz hcl
 go_enter func344,ntmps344
 go_wp2_with fail
 go_region_law_o (refine step_append_room rfl (.tmp 22) (.tmp 25) 258 rfl 325 i0 3 underlying258 hi0 wZ b 0 i cap (by simp[Act.eval,Act.put]) A (n-(i+1)) (cap-(i+1)) news (by simp[Act.eval,Act.put]) s1.out wV.out s2.out Wk s3.out ?_;rw[<-hW.out])
 go_wp2
 go_ret
 refine⟨by rw[show i+(n-(i+1))=n-1 by omega];rfl,?_⟩
 rw[X.out]
 have e1:=Y.out
 have e2:=Z.out
 rw[<-e1]
 have:=putRow_setCells id (Sort.ahead w 1) b 0 qH (lay F (i*3) news) ((n-1)*3) (by rw[Lib.lay_size];show _+3<=_;omega)
 rw[Ks,H7]at this
 exact this
abbrev cS:List AV:=[Go.Eng.vs ⟨#[]⟩,I false,BY]
theorem AdS(l:List Tm)(i:Nat)(hi:i<l.length) :
  A6 prog 344 [.msl 1000 l.length,G i,G ((i:Int)+1)] (Ai [(1000,.arr 3 (l.map M))] Af) fun r h'=>r=.msl 2000 (l.length-1)/\h'=Ai [(1000,.dead),(2000,.arr 3 ((l.eraseIdx i).map M))] Af:=by
 have hE:Gt prog 344:=jG 344 func344 aa4 rfl
 have CN:(l.eraseIdx i).length=l.length-1:=List.length_eraseIdx_of_lt hi
 have Jx:=WI (P:=prog) (f:=344) (es:=l.map M) (sz:=3) (rest:=[.int .i64 i,.int .i64 ((i:Int)+1)]) (n':=l.length-1) (Q:=fun FX=>FX=(l.eraseIdx i).map M++[cS]) hE (fun e=>by
  rw[FQ]at e;subst e;simp at hi) (by rw[BG];omega) ?_
 .rw[BG]at Jx
  refine⟨hE,fun g w vals q1 q2 q3=>(Jx.2 g w vals q1 q2 q3).mono fun _ _ ⟨v,r,h',g',e1,⟨e2,FX,p1,p2⟩,rest⟩=>⟨v,r,h',g',e1,⟨e2,by rw[p2,p1,List.take_append_of_le_length (by rw[BG,CN];exact Ao _),A3 (by rw[BG,CN];exact Ao _)]⟩,rest⟩⟩
 .intro g w b cap F hr hF hH hb hc
  rw[BG]at hF hc⊢
  have hu:∀e∈l.map M,e.length=3:=fun e he=>by
   obtain⟨t,_,rfl⟩:=Ar.1 he;rfl
  refine(mR w b cap i l.length F hF hi hc hH hr.2.1).mono ?_
  rintro e w' ⟨rfl,rfl⟩
  refine⟨rfl,_,_,1,#[],?_,rfl,?_,fun cs hcs=>?_,fun g w hr=>?_,rfl⟩
  .rw[Lib.lay_size,Lib.lay_size]
  .rw[AD,BG,CN,A8];omega
  .rcases Bc.1 hcs with h | h
   .obtain⟨t,_,rfl⟩:=Ar.1 h;rfl
   .rw[AI.1 h];rfl
  .rw[xi F i l.length hF hi qH rfl,List.eraseIdx_eq_take_drop_succ,Ej,Bl,Ej,List.map_take,List.map_drop,<-LN _ i hu,<-Qg _ (i+1) hu]
   refine Ci.append (Ci.append (hr.take _) (hr.drop _)) ?_
   exact NW g w FK qH fun x hx=>by
    simp only[AM,Mq,or_false]at hx
    rcases hx with rfl | rfl | rfl<;>rfl
end Go.Eng
namespace Go.Eng
open Go.Proofs Go.Proofs.Tryz
variable {nm:CS->CS}{l r:List Tm}{α:Type}{c:List Tm}{t:Tm}{k:Nat}(x:List Rl)(a:List Tm)(ifs:C0)(s:CS)(roots:List Rq)(b:List Tm)(d:List (List Tm))(i:Nf)
theorem zm(l:List Tm)(hl:BF l)(ER:l≠[]):A6 prog 345 [sl M l] (Ai [] Af) fun r h'=>r=.msl 2000 l.length/\h'=Ai [(2000,.arr 3 (l.map M))] Af:=by
 refine Bi (IU (pla [(5,3)] [])) [(5,2000)] rfl BA hm rfl func345 aa4 rfl C4 aa4 rfl ?_;have De:A7 3 (l.map M)/\([]:C0).length=0/\(([]:C0).length+(l.map M).length)*48<=140737488355328/\([]:C0).length+(l.map M).length<=9223372036854775807:=by
  grind [B8]
 refine J ?_ ?_
 .intro _;refine J De ?_;have e1:AV.msl 2000 (([]:C0).length+(l.map M).length)=.msl 2000 l.length:=aa1
  refine Z (.msl 2000 (([]:C0).length+(l.map M).length)) (J (.refl _) (J e1 ?_))
  rfl
 .intro h;exact absurd (FQ.1 h) ER
theorem vY(x:Tm)(p:CS):PC 343 [.agg (M x),.cptr [vs p]] (I (decide (x.path=p))):=by
 refine Ps Dc func343 rfl C4 (J ?_ ?_)
 .intro h;rw[Ax h];exact .refl _
 .intro h;rw[At h];exact .refl _
theorem Oh{p:CS}:∀{c:List Tm} {i:Nat},(E5 c).Nodup->∀(hi:i<c.length),c[i].path=p->c.eraseIdx i=AH c p
 |t::c,0,hn,_,h=>by
  grind [E5,AH,List.filter_eq_self]
 |t::c,i+1,hn,hi,h=>by
  have hi:i<c.length:=aa2
  have h:c[i].path=p:=h;unfold E5 at hn;rw[Bo,GL]at hn
  have:t.path≠p:=fun e=>hn.1 aa0
  have ih:=Oh hn.2 hi h
  grind [AH]
theorem Rr(hl:BF l)(h:Bj l=some c):BF c:=by
 have h1:=Pe l l.length (Ao _);rw[Hu]at h1;have h2:c=(Ds l).filter fun t=>!Fx t:=by
  grind [Bj]
 have h3:c.length<=(Ds l).length:=aa2
 have h4:(Ds l).length=(DF l).length:=by
  grind [List.perm_ext_iff_of_nodup,M5,It,Iy,DT,JU,List.Perm.length_eq]
 omega
abbrev sN:AV:=.tup [.agg cS,BY,I false]
abbrev u7:Ns:=⟨[3],[],[],[],[],[],[],[],[(30,0),(34,1)],[],[]⟩
theorem my(l:List Tm)(p:CS)(hl:BF l)(hs:∀t∈l,BF t.set)(hn:D1 l p=none):PC 296 [sl M l,vs p] sN:=by
 have hc:=c29 l hl hs;unfold D1 at hn;cases e:Bj l with
 |none=>
  have e1:IG l=.tup [sl M [],I false]:=by grind [H]
  rw[e1]at hc;have hi:=rc (Dh.ptr [vs p]) [] (fun x=>decide (x.path=p)) (fun x _=>vY x p) aa1;refine Ps u7 func296 rfl C4 (C1 (U (hc) (C1 (U (hi) (J C4 (yN ?_))))));exact .refl _
 |some c=>
  rw[e]at hn;have hn:(match Dw c p with | none=>none | some t=>some (t,AH c p))=none:=hn;have hfn:Dw c p=none:=by
   grind
  have e1:IG l=.tup [sl M c,I true]:=by grind [H]
  rw[e1]at hc;have uC:=Rr hl e;have hi:=rc (Dh.ptr [vs p]) c (fun x=>decide (x.path=p)) (fun x _=>vY x p) Wk;have hid:KT (fun x:Tm=>decide (x.path=p)) c 0=-1:=by
   grind [MX,Dw]
  rw[hid]at hi;refine Ps u7 func296 rfl C4 (C1 (U (hc) (C1 (U (hi) (J ?_ ?_)))))
  .intro _;refine J C4 (yN ?_);exact .refl _
  .intro h;exact absurd (show(-1:Int)<0 by decide) h
abbrev xq:Ns:=⟨[3],[],[],[],[],[],[],[],[(30,0),(34,2)],[],[]⟩
theorem mz(l:List Tm)(p:CS)(hl:BF l)(hs:∀t∈l,BF t.set)(hn:D1 l p=some (t,r)) :
  A6 prog 296 [sl M l,vs p] (Ai [] Af) fun v h'=>v=.tup [.agg (M t),.msl 2000 r.length,I true]/\h'=Ai [(2000,.arr 3 (r.map M))] Af:=by
 have hc:=c29 l hl hs;unfold D1 at hn;cases e:Bj l with
 |none=>simp_all
 |some c=>
  rw[e]at hn;have hn:(match Dw c p with | none=>none | some t=>some (t,AH c p))=some (t,r):=hn;have yn:Dw c p=some t/\AH c p=r:=by
   grind
  have e1:IG l=.tup [sl M c,I true]:=by grind [H]
  rw[e1]at hc;have uC:=Rr hl e;have hi:=rc (Dh.ptr [vs p]) c (fun x=>decide (x.path=p)) (fun x _=>vY x p) Wk;rcases MX (p:=fun x:Tm=>decide (x.path=p)) c 0 with ⟨_,h2⟩ | ⟨i,x,h1,h2,h3⟩
  .grind [Dw]
  have hx:x=t:=by
   grind [Dw]
  subst hx;rw[h1,GP]at hi;obtain⟨hic,hie⟩:=Bg.1 h2;have her:c.eraseIdx i=r:=by
   rw[<-yn.2];exact Oh (Iy (E7 e)) hic aa2
  have hlr:c.length-1=r.length:=aa2
  have ER:c≠[]:=fun h=>by simp_all
  have Akx:c.length<=1073741824:=uC;refine Bi (IU xq) [(13400,2000)] rfl BA hm rfl func296 aa4 rfl C4 aa4 rfl (C1 (U (hc) (C1 (U (hi) (J ?_ ?_)))))
  .intro h;omega
  intro _;have hg:(c.map M)[((i:Nat):Int).toNat]?=some (M x):=aa0
  refine Z (M x) (J (J Wk hg) (J rfl (yN (Z c.length (Z 3 (Z (c.map M) (J rfl (J (zm c uC ER) (J (by grind [Au]) (Z (c.length-1) (Z ((c.eraseIdx i).map M) (J rfl (J (AdS c i hic) (yN (J aa4 (yN ?_))))))))))))))));have e2:AV.tup [.agg (M x),.msl 2000 (c.length-1),I true]=.tup [.agg (M x),.msl 2000 r.length,I true]:=by rw[hlr]
  have e3:Ai [(2000,HO.arr 3 ((c.eraseIdx i).map M))] Af=Ai [(2000,.arr 3 (r.map M))] Af:=by rw[her]
  exact U (.refl _) (J e2 e3)
abbrev iE:Ns:=⟨[],[],[],[],[],[],[],[],[],[(24,9),(30,12)],[2,3,5,6]⟩
abbrev Abl(p:CS):AV:=.tup [sl M (AU a b p).1,G (AU a b p).2]
theorem XP{p:CS}(h:D1 l p=some (t,r)):∃c,Bj l=some c/\t∈c/\r=AH c p:=by
 grind [D1,Ha]
theorem XQ{p:CS}(hl:BF l)(h:D1 l p=some (t,r)):BF t.set/\BF r/\∀u∈r,BF u.set:=by
 obtain⟨c,h1,h2,rfl⟩:=XP h;have hs:=E7 h1
 grind [IX,Rr,AH,BL.canon]
theorem mD(h:Bj l=some c):c.length<=l.length:=by
 have h1:=Pe l l.length (Ao _);rw[Hu]at h1;have h2:c=(Ds l).filter fun t=>!Fx t:=by
  grind [Bj]
 have h3:c.length<=(Ds l).length:=aa2
 grind [List.perm_ext_iff_of_nodup,M5,It,Iy,DT,JU,List.Perm.length_eq]
theorem XR{p:CS}(h:D1 l p=some (t,r)):r.length<=l.length:=by
 obtain⟨c,h1,h2,rfl⟩:=XP h;have h3:(AH c p).length<=c.length:=Er _ _
 have:=mD h1
 omega
theorem jJ(a b:AN):BF (E3 a b):=by
 grind [Fb,cN]
theorem zh(p:CS)(ha:a.length<=500000000)(hb:b.length<=500000000)(hsa:∀t∈a,BF t.set)(hsb:∀t∈b,BF t.set):PC 230 [sl M a,sl M b,vs p] (Abl a b p):=by
 have uB:BF a:=Wk
 have qx:BF b:=Wk
 have er:∀{l:List Tm} {e:Int},AU a b p=(l,e)->Abl a b p=.tup [sl M l,G e]:=fun h=>by simp_all
 have e0:CD (.tup [BY,G 1]) (.tup [.slice .none [],G 1]):=CD.tup ⟨.nil,.refl _,trivial⟩;cases h1:D1 a p with
 |none=>
  have hr:AU a b p=([],1):=by grind [AU]
  have c1:=my a p uB hsa h1;cases h2:D1 b p with
  |none=>
   have c2:=my b p qx hsb h2;refine Ps iE func230 rfl C4 (C1 (U (c1) (yN (Z ⟨[(1,sl M b),(2,vs p),(8,.ref 8 0),(9,BY),(10,I false)],[(8,.cells cS)],Af⟩ (J ⟨Z5,Z1,Fh,W⟩ (C1 (U (c2) (yN (Z ⟨[(8,.ref 8 0),(9,BY),(10,I false),(11,.ref 11 0),(12,BY),(13,I false)],[(8,.cells cS),(11,.cells cS)],Af⟩ (J ⟨Z6,Z2,Fh,W⟩ ?_))))))))))
   exact e0.trans (.of_eq (er hr).symm)
  |some q2=>
   obtain⟨t2,r2⟩:=q2;have c2:=mz b p qx hsb h2;refine Ps iE func230 rfl C4 (C1 (U (c1) (yN (Z ⟨[(1,sl M b),(2,vs p),(8,.ref 8 0),(9,BY),(10,I false)],[(8,.cells cS)],Af⟩ (J ⟨Z5,Z1,Fh,W⟩ ?_)))))
   have z2:r2.length=(r2.map M).length:=aa0
   refine Z (.gen [] 1) (J rfl (c2.imp ?_));intro v2 g2 q2;have xC:=q2.1;have q22:=q2.2;subst xC;subst q22;refine yN (Z ⟨[(8,.ref 8 0),(9,BY),(10,I false),(11,.ref 11 0),(12,.msl 12600 r2.length),(13,I true)],[(8,.cells cS),(11,.cells (M t2)),(12600,.arr 3 (r2.map M))],Af⟩ (J ⟨Z6,Z3,Fh,W⟩ (J z2 ?_)));exact e0.trans (.of_eq (er hr).symm)
 |some q1=>
  obtain⟨t1,r1⟩:=q1;have c1:=mz a p uB hsa h1;obtain⟨f1,f2,f3⟩:=XQ uB h1;cases h2:D1 b p with
  |none=>
   have hr:AU a b p=([],1):=by grind [AU]
   have c2:=my b p qx hsb h2;refine Ps iE func230 rfl C4 (Z (.gen [] 1) (J rfl (c1.imp ?_)));intro v1 g1 q1;have VD:=q1.1;have QO:=q1.2;subst VD;subst QO;refine yN (Z ⟨[(1,sl M b),(2,vs p),(8,.ref 8 0),(9,.msl 11900 r1.length),(10,I true)],[(8,.cells (M t1)),(11900,.arr 3 (r1.map M))],Af⟩ (J ⟨Z5,Z2,Fh,W⟩ ?_))
   have z1:r1.length=(r1.map M).length:=aa0
   refine J z1 (C1 (U (c2) (yN (Z ⟨[(8,.ref 8 0),(9,.slice (.id 11900 3) (r1.map M)),(10,I true),(11,.ref 11 0),(12,BY),(13,I false)],[(8,.cells (M t1)),(11,.cells cS),(11900,.tok 3 (r1.map M).length)],Af⟩ (J ⟨Z6,Z3,Fh,W⟩ ?_)))))
   exact e0.trans (.of_eq (er hr).symm)
  |some q2=>
   obtain⟨t2,r2⟩:=q2;have c2:=mz b p qx hsb h2;obtain⟨g1,g2,g3⟩:=XQ qx h2;refine Ps iE func230 rfl C4 (Z (.gen [] 1) (J rfl (c1.imp ?_)));intro v1 g1 q1;have VD:=q1.1;have QO:=q1.2;subst VD;subst QO;refine yN (Z ⟨[(1,sl M b),(2,vs p),(8,.ref 8 0),(9,.msl 11900 r1.length),(10,I true)],[(8,.cells (M t1)),(11900,.arr 3 (r1.map M))],Af⟩ (J ⟨Z5,Z2,Fh,W⟩ ?_))
   have z1:r1.length=(r1.map M).length:=aa0
   have z2:r2.length=(r2.map M).length:=aa2
   refine J z1 (Z (.gen [] 1) (J rfl (c2.imp ?_)));intro v2 g2 q2;have xC:=q2.1;have q22:=q2.2;subst xC;subst q22;refine yN (Z ⟨[(8,.ref 8 0),(9,.slice (.id 11900 3) (r1.map M)),(10,I true),(11,.ref 11 0),(12,.msl 12600 r2.length),(13,I true)],[(8,.cells (M t1)),(11,.cells (M t2)),(11900,.tok 3 (r1.map M).length),(12600,.arr 3 (r2.map M))],Af⟩ (J ⟨Z6,Z4,Fh,W⟩ (J z2 (Z ⟨[(8,.ref 8 0),(9,.slice (.id 11900 3) (r1.map M)),(11,.ref 11 0),(12,.slice (.id 12600 3) (r2.map M))],[(8,.cells (M t1)),(11,.cells (M t2)),(11900,.tok 3 (r1.map M).length),(12600,.tok 3 (r2.map M).length)],Af⟩ (J ⟨Z4,Z4,Fh,W⟩ ?_)))))
   have l1:=XR h1;have l2:=XR h2;have b1:A7 3 (r2.map M)/\(r1.map M).length=(r1.map M).length/\((r1.map M).length+(r2.map M).length)*48<=140737488355328/\(r1.map M).length+(r2.map M).length<=9223372036854775807:=
    ⟨B8 (enc:=M) (n:=3) (fun _=>rfl) r2,rfl,by omega,by omega⟩
   refine J b1 (J C4 (yN (U (AdL t1 t2 f1 g1) ?_)));have b2:A7 3 [M (CP t1 t2)]/\(r1.map M++r2.map M).length=(r1.map M).length+(r2.map M).length/\((r1.map M++r2.map M).length+[M (CP t1 t2)].length)*48<=140737488355328/\(r1.map M++r2.map M).length+[M (CP t1 t2)].length<=9223372036854775807:=
    ⟨⟨rfl,trivial⟩,by grind,by grind,by grind⟩
   refine J b2 ?_;have hc0:=c29 (r1++r2++[CP t1 t2]) aa2 (fun u hu=>by
    rcases Bc.1 hu with hu | hu
    .grind
    .rw[AI.1 hu];exact jJ _ _)
   have e1:sl M (r1++r2++[CP t1 t2])=.slice .none (r1.map M++r2.map M++[M (CP t1 t2)]):=aa1
   have uw:PC 297 [.slice .none (r1.map M++r2.map M++[M (CP t1 t2)])] (IG (r1++r2++[CP t1 t2])):=e1▸hc0;cases hcn:Bj (r1++r2++[CP t1 t2])with
   |none=>
    have hr:AU a b p=([],8):=by grind [AU]
    have ec:IG (r1++r2++[CP t1 t2])=.tup [sl M [],I false]:=by grind [H]
    have hc:PC 297 [.slice .none (r1.map M++r2.map M++[M (CP t1 t2)])] (.tup [sl M [],I false]):=ec▸uw;have e8:CD (.tup [BY,G 8]) (.tup [.slice .none [],G 8]):=CD.tup ⟨.nil,.refl _,trivial⟩;refine U (hc) (J aa4 (Z ⟨[(14,sl M []),(15,I false)],[],Af⟩ (J ⟨Z2,W,Fh,W⟩ ?_)))
    exact e8.trans (.of_eq (er hr).symm)
   |some o=>
    have hr:AU a b p=(o,0):=by grind [AU]
    have ec:IG (r1++r2++[CP t1 t2])=.tup [sl M o,I true]:=by grind [H]
    have hc:PC 297 [.slice .none (r1.map M++r2.map M++[M (CP t1 t2)])] (.tup [sl M o,I true]):=ec▸uw;refine U (hc) (J aa4 (Z ⟨[(14,sl M o),(15,I true)],[],Af⟩ (J ⟨Z2,W,Fh,W⟩ ?_)))
    exact .of_eq (er hr).symm
def gI(h s:Nat->HO):Nat->Bool
 |0=>true
 |n+1=>(match h (1000+n)with |.free=>true |_=>(match s (1000+n)with |.free=>false |_=>true))&&gI h s n
theorem Us{h s:Nat->HO}:∀{n:Nat},gI h s n=true->∀j,j<n->h (1000+j)≠.free->s (1000+j)≠.free
 |n+1,hd,j,hj,hn=>by
  simp only[gI,Aq]at hd;rcases B9 j n with h1 | h1
  .exact Us hd.2 j h1 hn
  grind
theorem A2{h s:Nat->HO}(hd:gI h s 1000=true):∀j,1000<=j->j<2000->h j≠.free->s j≠.free:=fun j h1 h2=>by
 have:=Us hd (j-1000) Wk
 simp_all
abbrev rk:List AV:=[sl V x,.slice .none ifs,sl Ac roots,.slice (.id 1001 1) (d.map F)]
abbrev Jk:HO:=.cells (rk x ifs roots d)
abbrev Jq:HO:=.tok 1 (d.map F).length
abbrev Oe:List (Nat×HO):=[(1000,Jk x ifs roots d),(1001,Jq d)]
abbrev ZM:List AV:=[vs ⟨#[]⟩,G 0,G 0,G 0,BY,vs ⟨#[]⟩,vs ⟨#[]⟩,vs ⟨#[]⟩,I false]
abbrev Hi:Option Rl->AV
 |some r=>.tup [.agg (V r),I true]
 |none=>.tup [.agg ZM,I false]
theorem Uy{p:α->Bool}{l:List α}{i:Nat}(hi:i<l.length)(hb:∀j (hj:j<l.length),j<i->p l[j]=false)(h:p l[i]=true):l.find? p=some l[i]:=by
 grind [List.find?_eq_some_iff_getElem]
theorem Ru{p:α->Bool}{l:List α}(hb:∀j (hj:j<l.length),p l[j]=false):l.find? p=none:=by
 grind [List.getElem_of_mem]
theorem AdE(p:CS)(pl:Int)(hx:BF x) :
  A6 prog 358 [.ref 1000 0,vs p,G pl] (Ai (Oe x ifs roots d) Af) fun r h'=>r=Hi (Dt x p pl)/\h'=Ai (Oe x ifs roots d) Af:=by
 unfold BF at hx;refine Bi (IU (DJ [4])) [(1000,1000),(1001,1001)] rfl BA hm rfl func358 aa4 rfl C4 aa4 rfl (Z {i:Nat // i<=x.length/\∀j (hj:j<x.length),j<i->(decide (x[j].path=p)&&decide (plc x[j].ver=pl))=false} (Z (fun i=>⟨[(1,vs p),(2,G pl),(6,.ref 6 0),(16,sl V x),(17,G (x.map V).length),(18,G i.1)],[(6,.cells ZM),(1000,Jk x ifs roots d),(1001,Jq d)],Af⟩) (Z (fun i=>x.length-i.1) (J (Z ⟨0,Ak _,fun j _ h=>by omega⟩ ?_) ?_))))
 .exact⟨Z6,Z3,Fh,A2 aa4⟩
 intro⟨i,h1,h2⟩;refine J ?_ ?_
 .intro h;have h:(i:Int)<(x.map V).length:=h;have h:i<x.length:=aa0
  have hg:x[i]?=some x[i]:=Ge h;refine Z (V x[i]) (J (J Wk aa0) (J rfl ?_));refine J C4 (yN (Z ⟨[(1,vs p),(2,G pl),(6,.ref 6 0),(9,.ref 9 0),(16,sl V x),(17,G (x.map V).length),(18,G i)],[(6,.cells ZM),(9,.cells (V x[i])),(1000,Jk x ifs roots d),(1001,Jq d)],Af⟩ (J ⟨Z7,Z4,Fh,A2 aa4⟩ (yN (C1 (U (wa x[i].ver) ?_))))));have next:(decide (x[i].path=p)&&decide (plc x[i].ver=pl))=false->∀j (hj:j<x.length),j<i+1->(decide (x[j].path=p)&&decide (plc x[j].ver=pl))=false:=fun hf j hj F6=>by
   grind
  refine J ?_ ?_
  .intro hp;have hp:x[i].path=p:=hp;refine J ?_ ?_
   .intro hq;have hq:plc x[i].ver=pl:=hq;have hr:Dt x p pl=some x[i]:=Uy h (fun j hj F6=>h2 j hj F6) aa0;refine J C4 (J C4 (yN ?_));have e:AV.tup [.agg (V x[i]),I true]=Hi (Dt x p pl):=by rw[hr]
    exact U (.refl _) (J e rfl)
   .intro hq;have hq:¬plc x[i].ver=pl:=hq;refine J (by grind [Au]) (Z ⟨i+1,by omega,next aa0⟩ ?_)
    exact⟨by grind,Z6,Z3,Fh,A2 aa4⟩
  .intro hp;have hp:¬x[i].path=p:=hp;refine J (by grind [Au]) (Z ⟨i+1,by omega,next aa0⟩ ?_)
   exact⟨by grind,Z6,Z3,Fh,A2 aa4⟩
 .intro h;have h:¬(i:Int)<(x.map V).length:=h;have h:¬i<x.length:=aa0
  have hr:Dt x p pl=none:=Ru fun j hj=>h2 j hj Wk;have e:AV.tup [.agg ZM,I false]=Hi (Dt x p pl):=by rw[hr]
  refine J C4 (yN ?_);exact U (.refl _) (J e rfl)
abbrev Mw:Option (List Tm)->AV
 |some t=>.tup [sl M t,I true]
 |none=>.tup [sl M [],I false]
theorem LX:CD (.tup [BY,I false]) (Mw none):=CD.tup ⟨.nil,.refl _,trivial⟩
theorem QI{l:List α}{i:Int}(h:i<0):DU l i=none:=by grind [DU]
theorem QE{l:List α}{i:Int}(h:(l.length:Int)<=i):DU l i=none:=by
 grind [DU]
theorem TF{l:List α}{i:Int}(h0:¬i<0)(h:¬(l.length:Int)<=i):∃x,DU l i=some x/\l[i.toNat]?=some x/\x∈l:=by
 have hl:i.toNat<l.length:=Wk
 exact⟨l[i.toNat],by grind [DU],Ge hl,Ag hl⟩
theorem Adt(hr:∀q∈roots,BF q.set) :
  A6 prog 315 [.ref 1000 0,.agg (AG i)] (Ai (Oe x ifs roots d) Af) fun r h'=>r=Mw ((DU roots i.number).map GE)/\h'=Ai (Oe x ifs roots d) Af:=by
 refine Bi (IU Dc) [(1000,1000),(1001,1001)] rfl BA hm rfl func315 aa4 rfl C4 aa4 rfl ?_;have Wy:DU roots i.number=none->AV.tup [sl M [],I false]=Mw ((DU roots i.number).map GE):=fun h=>by simp_all
 refine J ?_ ?_
 .intro h;have h:i.number<0:=h;have e:=Wy (QI h);refine J aa4 ?_;exact U LX (J e rfl)
 .intro h;have h:¬i.number<0:=h;refine J ?_ ?_
  .intro h2;have h2:((roots.map Ac).length:Int)<=i.number:=h2;have e:=Wy (QE aa0);refine J aa4 ?_;exact U LX (J e rfl)
  .intro h2;have h2:¬((roots.map Ac).length:Int)<=i.number:=h2;refine J aa4 (Al (TF h (by rw[Lm]at h2;exact h2)) (fun q hq=>?_));have hg:(roots.map Ac)[i.number.toNat]?=some (Ac q):=Br hq.2.1;refine Z (Ac q) (J (J Wk hg) (J rfl (yN (U (ze q (hr q hq.2.2)) (J aa4 ?_)))));have e:AV.tup [sl M (GE q),I true]=Mw ((DU roots i.number).map GE):=aa0
   exact U (.refl _) (J e rfl)
theorem TM(v:Ver):0<=plc v/\plc v<1000000:=by
 unfold plc;cases h:Bv v with
 |true=>exact Kf h
 |false=>simp
theorem pE{x:List Rl}{p:CS}{pl:Int}{r:Rl}(h:Dt x p pl=some r):r∈x/\r.path=p/\plc r.ver=pl:=by
 grind [Dt]
theorem iu(h:¬(0:Int)<(l.map M).length):AV.tup [sl M l,I false]=Mw (Ph l):=by
 cases l with
 |nil=>rfl
 |cons a l=>simp_all
theorem bU(h:(0:Int)<(l.map M).length):AV.tup [sl M l,I true]=Mw (Ph l):=by
 cases l with
 |nil=>simp_all
 |cons a l=>rfl
abbrev WA:Option (List Tm):=match Dt x i.path i.place with
 |none=>none
 |some r=>match DU r.reqs i.number with
  |none=>none
  |some q=>Ph (BU i.path i.place q)
theorem Adu(hx:BF x)(hr:∀r∈x,∀q∈r.reqs,BF q.set) :
  A6 prog 317 [.ref 1000 0,.agg (AG i)] (Ai (Oe x ifs roots d) Af) fun r h'=>r=Mw (WA x i)/\h'=Ai (Oe x ifs roots d) Af:=by
 have hc:=AdE x ifs roots d i.path i.place hx;cases h1:Dt x i.path i.place with
 |none=>
  rw[h1]at hc;have e:AV.tup [sl M [],I false]=Mw (WA x i):=aa2
  refine Bi (IU (DJ [2])) [(1000,1000),(1001,1001)] rfl BA hm rfl func317 aa4 rfl C4 aa4 rfl (Z (.gen [(1000,1000),(1001,1001)] 0) (J rfl (hc.imp ?_)));intro v1 g1 q1;have VD:=q1.1;have QO:=q1.2;subst VD;subst QO;refine yN (Z ⟨[(0,.ref 1000 0),(3,.ref 3 0),(6,.ref 6 0),(7,I false)],[(3,.cells (AG i)),(6,.cells ZM),(1000,Jk x ifs roots d),(1001,Jq d)],Af⟩ (J ⟨Z4,Z4,Fh,A2 aa4⟩ ?_))
  exact U LX (J e rfl)
 |some r=>
  rw[h1]at hc;obtain⟨m1,m2,m3⟩:=pE h1;have qA:=TM r.ver;rw[m3]at qA;have er:WA x i=match DU r.reqs i.number with | none=>none | some q=>Ph (BU i.path i.place q):=aa2
  have Wy:DU r.reqs i.number=none->AV.tup [sl M [],I false]=Mw (WA x i):=fun h=>by simp_all
  refine Bi (IU (DJ [2,4,5])) [(1000,1000),(1001,1001)] rfl BA hm rfl func317 aa4 rfl C4 aa4 rfl (Z (.gen [(1000,1000),(1001,1001)] 0) (J rfl (hc.imp ?_)));intro v1 g1 q1;have VD:=q1.1;have QO:=q1.2;subst VD;subst QO;refine yN (Z ⟨[(0,.ref 1000 0),(3,.ref 3 0),(6,.ref 6 0),(7,I true)],[(3,.cells (AG i)),(6,.cells (V r)),(1000,Jk x ifs roots d),(1001,Jq d)],Af⟩ (J ⟨Z4,Z4,Fh,A2 aa4⟩ (J ?_ ?_)))
  .intro h;have e:=Wy (QI h);exact U LX (J e rfl)
  .intro h;refine J ?_ ?_
   .intro h2;have e:=Wy (QE aa0);exact U LX (J e rfl)
   .intro h2;refine Al (TF h (by rw[Lm]at h2;exact h2)) (fun q hq=>?_);have hg:(r.reqs.map Ac)[i.number.toNat]?=some (Ac q):=Br hq.2.1;refine Z ⟨[(3,.ref 3 0),(6,.ref 6 0)],[(3,.cells (AG i)),(6,.cells (V r)),(1000,Jk x ifs roots d),(1001,Jq d)],Af⟩ (J ⟨Z2,Z4,Fh,A2 aa4⟩ (Z (Ac q) (J (J Wk hg) (J rfl (yN (U (zf i.path i.place q (by grind [Au]) (hr r m1 q hq.2.2)) (J aa4 ?_)))))));have eq:WA x i=Ph (BU i.path i.place q):=aa0
    refine Z ⟨[(8,sl M (BU i.path i.place q))],[(1000,Jk x ifs roots d),(1001,Jq d)],Af⟩ (J ⟨Z1,Z2,Fh,A2 aa4⟩ (J ?_ ?_))
    .intro h3;have e:AV.tup [sl M (BU i.path i.place q),I true]=Mw (WA x i):=by grind [bU]
     exact U (.refl _) (J e rfl)
    .intro h3;have e:AV.tup [sl M (BU i.path i.place q),I false]=Mw (WA x i):=by grind [iu]
     exact U (.refl _) (J e rfl)
abbrev Wg(t:List Tm):Prop:=t.length<=500000000/\∀u∈t,BF u.set
theorem iJ{a b:List Tm}{p:CS}(h:(AU a b p).2≠0):(AU a b p).1=[]:=by
 grind [AU]
abbrev VI:Option (List Tm):=match DU d i.left,DU d i.right with
 |some a,some b=>if(AU a b i.path).2=0 then some (AU a b i.path).1 else none
 |_,_=>none
theorem pG{d:List (List Tm)}{i:Nf}(h:DU d i.left=none):VI d i=none:=aa2
theorem pH{d:List (List Tm)}{i:Nf}(h:DU d i.right=none):VI d i=none:=aa2
theorem Adw(hi:∀t∈d,Wg t) :
  A6 prog 321 [.ref 1000 0,.agg (AG i)] (Ai (Oe x ifs roots d) Af) fun r h'=>r=Mw (VI d i)/\h'=Ai (Oe x ifs roots d) Af:=by
 have Wy:VI d i=none->AV.tup [sl M [],I false]=Mw (VI d i):=fun h=>by rw[h]
 refine Bi (IU (DJ [2,4,5])) [(1000,1000),(1001,1001)] rfl BA hm rfl func321 aa4 rfl C4 aa4 rfl (Z ⟨[(0,.ref 1000 0),(3,.ref 3 0),(6,G (d.map F).length)],[(3,.cells (AG i)),(1000,Jk x ifs roots d),(1001,Jq d)],Af⟩ (J ⟨Z3,Z3,Fh,A2 aa4⟩ (J ?_ ?_)))
 .intro h;have e:=Wy (pG (QI h));exact U LX (J e rfl)
 intro h;refine J ?_ ?_
 .intro h2;have e:=Wy (pG (QE aa0));exact U LX (J e rfl)
 intro h2;refine J ?_ ?_
 .intro h3;have e:=Wy (pH (QI h3));exact U LX (J e rfl)
 intro h3;refine J ?_ ?_
 .intro h4;have e:=Wy (pH (QE aa0));exact U LX (J e rfl)
 intro h4;refine Al (TF h (by rw[Lm]at h2;exact h2)) (fun a ha=>?_);refine Al (TF h3 (by rw[Lm]at h4;exact h4)) (fun b hb=>?_);have ga:(d.map F)[i.left.toNat]?=some (F a):=Br ha.2.1;have gb:(d.map F)[i.right.toNat]?=some (F b):=Br hb.2.1;have uB:=hi a ha.2.2;have qx:=hi b hb.2.2;have hc:=zh a b i.path uB.1 qx.1 uB.2 qx.2;have er:VI d i=if(AU a b i.path).2=0 then some (AU a b i.path).1 else none:=aa2
 refine Z ⟨[(0,.ref 1000 0),(3,.ref 3 0)],[(3,.cells (AG i)),(1000,Jk x ifs roots d),(1001,Jq d)],Af⟩ (J ⟨Z2,Z3,Fh,A2 aa4⟩ (Z (F a) (J (J Wk ga) (J rfl (Z (F b) (J (J Wk gb) (J rfl (U (hc) (J aa4 (Z ⟨[(7,sl M (AU a b i.path).1),(8,G (AU a b i.path).2)],[(1000,Jk x ifs roots d),(1001,Jq d)],Af⟩ (J ⟨Z2,Z2,Fh,A2 aa4⟩ (J ?_ ?_))))))))))))
 .intro h5;have e:AV.tup [sl M (AU a b i.path).1,I true]=Mw (VI d i):=aa0
  exact U (.refl _) (J e rfl)
 .intro h5;have e:AV.tup [sl M (AU a b i.path).1,I false]=Mw (VI d i):=by grind [iJ]
  exact U (.refl _) (J e rfl)
theorem vM:PC 314 [.agg (AG i)] (.agg (AG { i with number:=0 })):=by
 refine Ps Dc func314 rfl C4 (J C4 (J C4 (J C4 (yN ?_))));exact .refl _
theorem vN:PC 316 [.agg (AG i)] (.agg (AG { i with path:=R,place:=0,number:=0 })):=by
 refine Ps Dc func316 rfl C4 (J C4 (J C4 (J C4 (J C4 (J C4 (yN ?_))))));exact .refl _
theorem vO:PC 318 [.agg (AG i)] (.agg (AG { i with path:=R })):=by
 refine Ps Dc func318 rfl C4 (J C4 (J C4 (J C4 (yN ?_))));exact .refl _
theorem vP:PC 320 [.agg (AG i)] (.agg (AG { i with path:=R,left:=0,right:=0 })):=by
 refine Ps Dc func320 rfl C4 (J C4 (J C4 (J C4 (J C4 (J C4 (yN ?_))))));exact .refl _
theorem S8:PC 256 [] (.agg [.v (Hs 314),.v (Hs 315),.v (Hs 316),.v (Hs 317),.v (Hs 318),.v (Hs 319),.v (Hs 320),.v (Hs 321)]):=by
 refine Ps Dc func256 rfl C4 (J C4 (yN ?_));exact .refl _
theorem zd:PC 252 [vs s] (I false):=by
 refine Ps Dc func252 rfl C4 (J ?_ ?_)
 .intro h;exact absurd rfl (show s≠s from h)
 .intro _;exact .refl _
theorem zk(z:Int):PC 313 [G z] (I false):=by
 refine Ps Dc func313 rfl C4 (J ?_ ?_)
 .intro h;exact absurd rfl (show z≠z from h)
 .intro _;exact .refl _
theorem Adr(a b:CS):PC 175 [vs a,vs b] (G (JH a b)):=by
 refine Ps Dc func175 rfl C4 (C1 (U (zd a) (C1 (U (zd b) (J ?_ ?_)))))
 .intro h;exact E G (show(-1:Int)=JH a b by grind [JH,DZ])
 .intro h;refine J ?_ ?_
  .intro h2;exact E G (show(1:Int)=JH a b by grind [JH,DZ])
  .intro h2;exact E G (show(0:Int)=JH a b by grind [JH,DZ])
theorem vR(a b:Int):PC 253 [G a,G b] (G (Gk a b)):=by
 refine Ps Dc func253 rfl C4 (C1 (U (zk a) (C1 (U (zk b) (J ?_ ?_)))))
 .intro h;exact E G (show(-1:Int)=Gk a b by grind [Gk])
 .intro h;refine J ?_ ?_
  .intro h2;exact E G (show(1:Int)=Gk a b by grind [Gk])
  .intro h2;exact E G (show(0:Int)=Gk a b by grind [Gk])
theorem Adq(a b:Int):PC 174 [.slice .none [[G a],[G b]]] (G (if a≠0 then a else b)):=by
 refine Ps Dc func174 rfl C4 (Z {i:Nat // i<=2/\(0<i->a=0)/\(1<i->b=0)} (Z (fun i=>⟨[(3,G 0),(6,.slice .none [[G a],[G b]]),(7,G 2),(8,G i.1)],[],Af⟩) (Z (fun i=>2-i.1) (J (Z ⟨0,by omega,by omega,by omega⟩ ?_) ?_))))
 .exact⟨Z4,W,Fh,W⟩
 intro⟨i,h1,h2,h3⟩;refine J ?_ ?_
 .intro h;have h:(i:Int)<2:=h
  match i,h1,h2,h3,h with
  |0,h1,h2,h3,h=>
   refine Z [G a] (J (J (B4 _) rfl) (J rfl (J ?_ ?_)))
   .intro h4;exact E G (A1 h4).symm
   .intro h4;refine J (by grind [Au]) (Z ⟨1,by omega,fun _=>by omega,fun q=>absurd q aa3⟩ ?_);exact⟨by simp_all,Z4,W,Fh,W⟩
  |1,h1,h2,h3,h=>
   have ha:=h2 aa3;refine Z [G b] (J (J Wk rfl) (J rfl (J ?_ ?_)))
   .intro h4;exact E G (AL Wk).symm
   .intro h4;refine J (by grind [Au]) (Z ⟨2,by omega,fun _=>ha,fun q=>by omega⟩ ?_);exact⟨by simp_all,Z4,W,Fh,W⟩
  |i+2,h1,h2,h3,h=>omega
 .intro h;have h:¬(i:Int)<2:=h;have ha:=h2 Wk;have hb:=h3 Wk;exact E G (show(0:Int)=if a≠0 then a else b by omega)
theorem Ug(a b:Ver)(i:Nat)(hi:i<3)(h:∀j,j<i->Gk (part a j) (part b j)=0)(hn:Gk (part a i) (part b i)≠0):JI a b=Gk (part a i) (part b i):=by
 unfold JI
 match i,hi,h,hn with
 |0,_,_,hn=>exact A1 hn
 |1,_,h,hn=>
  have h0:Gk a.a b.a=0:=h 0 aa3;rw[AL Wk];exact A1 hn
 |2,_,h,hn=>
  have h0:Gk a.a b.a=0:=h 0 aa3;have h1:Gk a.b b.b=0:=h 1 aa3;rw[AL Wk,AL Wk];rfl
theorem mO(a b:Ver)(h:∀j,j<3->Gk (part a j) (part b j)=0):JI a b=0:=by
 unfold JI;have h0:Gk a.a b.a=0:=h 0 aa3;have h1:Gk a.b b.b=0:=h 1 aa3;have h2:Gk a.c b.c=0:=h 2 aa3;omega
theorem Ads(a b:Ver):PC 176 [.agg (Ez a),.agg (Ez b)] (G (JI a b)):=by
 refine Ps Dc func176 rfl C4 (yN (U (vK a) (yN (U (vK b) (J C4 (yN (J aa4 (Z {i:Nat // i<=3/\∀j,j<i->Gk (part a j) (part b j)=0} (Z (fun i=>⟨[(5,.ref 5 0),(6,.ref 6 0),(13,G i.1)],[(5,.cells (Ez a)),(6,.cells (Ez b))],Af⟩) (Z (fun i=>3-i.1) (J (Z ⟨0,by omega,fun j h=>by omega⟩ ?_) ?_)))))))))))
 .exact⟨Z3,Z2,Fh,W⟩
 intro⟨i,h1,h2⟩;refine J ?_ ?_
 .intro h;have h:(i:Int)<3:=h;have next:Gk (part a i) (part b i)=0->∀j,j<i+1->Gk (part a j) (part b j)=0:=fun hz j hj=>by
   grind
  match i,h1,h2,h,next with
  |0,h1,h2,h,next=>
   refine J ⟨by omega,by omega⟩ ?_;refine J ⟨by omega,by omega⟩ ?_;refine U (vR (part a 0) (part b 0)) (J aa4 (J ?_ ?_))
   .intro h4;exact E G (Ug a b 0 aa3 h2 h4).symm
   .intro h4;refine J (by grind [Au]) (Z ⟨1,by omega,next (GN h4)⟩ ?_)
    exact⟨by simp_all,Z3,Z2,Fh,W⟩
  |1,h1,h2,h,next=>
   refine J ⟨by omega,by omega⟩ ?_;refine J ⟨by omega,by omega⟩ ?_;refine U (vR (part a 1) (part b 1)) (J aa4 (J ?_ ?_))
   .intro h4;exact E G (Ug a b 1 aa3 h2 h4).symm
   .intro h4;refine J (by grind [Au]) (Z ⟨2,by omega,next (GN h4)⟩ ?_)
    exact⟨by simp_all,Z3,Z2,Fh,W⟩
  |2,h1,h2,h,next=>
   refine J ⟨by omega,by omega⟩ ?_;refine J ⟨by omega,by omega⟩ ?_;refine U (vR (part a 2) (part b 2)) (J aa4 (J ?_ ?_))
   .intro h4;exact E G (Ug a b 2 aa3 h2 h4).symm
   .intro h4;have h4:¬Gk (part a 2) (part b 2)≠0:=h4;refine J (by grind [Au]) (Z ⟨3,by omega,next (GN h4)⟩ ?_)
    exact⟨by simp_all,Z3,Z2,Fh,W⟩
  |i+3,h1,h2,h,next=>omega
 .intro h;have h:¬(i:Int)<3:=h;exact E G (mO a b fun j hj=>h2 j Wk).symm
theorem Ada(a b:Rl):PC 99 [.agg (V a),.agg (V b)] (G (I7 a b)):=by
 refine Ps Dc func99 rfl C4 (U (Adr a.path b.path) (J C4 (yN (U (Ads a.ver b.ver) (U (Adq (JH a.path b.path) (JI a.ver b.ver)) (J aa4 ?_))))));exact .refl _
abbrev Fp:Prop:=s.size<=1073741824
abbrev G5(q:Rq):Prop:=BF q.set/\Fp q.path
abbrev Eo(r:Rl):Prop:=Fp r.path/\∀q∈r.reqs,G5 q
abbrev Xv(nm:CS->CS)(p:CS):AV:=match AP p with
 |some m=>.tup [vs (nm p),G m,G 0]
 |none=>.tup [vs ⟨#[]⟩,G 0,G 4]
abbrev Wh(nm:CS->CS):Prop:=∀p:CS,Fp p->PC 66 [vs p] (Xv nm p)
theorem Wh.none(h:Wh nm){p:CS}(hp:Fp p)(e:AP p=.none):PC 66 [vs p] (.tup [vs ⟨#[]⟩,G 0,G 4]):=by
 grind
theorem Wh.some(h:Wh nm){p:CS}{m:Int}(hp:Fp p)(e:AP p=.some m):PC 66 [vs p] (.tup [vs (nm p),G m,G 0]):=by
 grind
theorem yU(hL:Wh nm)(q:Rq)(hq:BF q.set)(hp:Fp q.path):PC 177 [.agg (Ac q),.v (.pointer none)] (G (Hd none q)):=by
 cases g8:AP q.path with
 |none=>
  have e:(4:Int)=Hd none q:=by grind [Hd]
  have hl:=hL.none hp g8;refine Ps Dc func177 rfl C4 (C1 (U (hl) (J ?_ ?_)))
  .intro _;exact E G e
  .intro h;exact absurd (show(4:Int)≠0 by decide) h
 |some m=>
  have er:Hd none q=if(q.set.isEmpty||!decide (q.set=canon q.set)||false)=true then 1 else 0:=by grind [Hd]
  have hl:=hL.some hp g8;have hc:=af q.set hq;have he:=y0 q.set (canon q.set) hq;have r6:∀{n:Int},n=(q.set.map Y).length->n=0->q.set.isEmpty=true:=fun h1 h2=>by
   rw[Lm]at h1;rw[Jh];exact Az Wk
  have nV:¬((q.set.map Y).length:Int)=0->q.set.isEmpty=false:=fun h=>by
   simp_all
  rcases Bt (decide (q.set=canon q.set))with h2 | h2
  .rw[h2]at he;refine Ps (DJ []) func177 rfl C4 (C1 (U (hl) (J ?_ ?_)))
   .intro h;exact absurd rfl h
   intro _;refine J ?_ ?_
   .intro h;have e:(1:Int)=Hd none q:=aa2
    refine J aa4 ?_;exact E G e
   intro h;have hn:=nV h;refine U (hc) (U (he) (J aa4 ?_));have e:(0:Int)=Hd none q:=aa2
   exact E G e
  .rw[h2]at he;refine Ps (DJ []) func177 rfl C4 (C1 (U (hl) (J ?_ ?_)))
   .intro h;exact absurd rfl h
   intro _;refine J ?_ ?_
   .intro h;have e:(1:Int)=Hd none q:=aa0
    refine J aa4 ?_;exact E G e
   intro h;have hn:=nV h;refine U (hc) (U (he) (J aa4 ?_));have e:(1:Int)=Hd none q:=aa0
   exact E G e
theorem yV(hL:Wh nm)(q b:Rq)(hq:BF q.set)(hp:Fp q.path):PC 177 [.agg (Ac q),.cptr (Ac b)] (G (Hd (some b.path) q)):=by
 cases g8:AP q.path with
 |none=>
  have e:(4:Int)=Hd (some b.path) q:=by grind [Hd]
  have hl:=hL.none hp g8;refine Ps Dc func177 rfl C4 (C1 (U (hl) (J ?_ ?_)))
  .intro _;exact E G e
  .intro h;exact absurd (show(4:Int)≠0 by decide) h
 |some m=>
  have er:Hd (some b.path) q=if(q.set.isEmpty||!decide (q.set=canon q.set)||!Ek b.path q.path)=true then 1 else 0:=by grind [Hd]
  have hl:=hL.some hp g8;have hc:=af q.set hq;have he:=y0 q.set (canon q.set) hq;have r6:∀{n:Int},n=(q.set.map Y).length->n=0->q.set.isEmpty=true:=fun h1 h2=>by
   rw[Lm]at h1;rw[Jh];exact Az Wk
  have nV:¬((q.set.map Y).length:Int)=0->q.set.isEmpty=false:=fun h=>by
   simp_all
  rcases Bt (decide (q.set=canon q.set))with h2 | h2
  .rw[h2]at he;refine Ps (DJ []) func177 rfl C4 (C1 (U (hl) (J ?_ ?_)))
   .intro h;exact absurd rfl h
   intro _;refine J ?_ ?_
   .intro h;have e:(1:Int)=Hd (some b.path) q:=aa2
    refine J aa4 ?_;exact E G e
   intro h;have hn:=nV h;refine U (hc) (U (he) (J ?_ ?_))
   .intro h3;refine J aa4 ?_;have e:(1:Int)=Hd (some b.path) q:=by grind [DZ]
    exact E G e
   .intro h3;have h3:Op.bytesLess b.path.toList q.path.toList=true:=aa2
    refine J aa4 ?_;have e:(0:Int)=Hd (some b.path) q:=by grind [DZ]
    exact E G e
  .rw[h2]at he;refine Ps (DJ []) func177 rfl C4 (C1 (U (hl) (J ?_ ?_)))
   .intro h;exact absurd rfl h
   intro _;refine J ?_ ?_
   .intro h;have e:(1:Int)=Hd (some b.path) q:=aa0
    refine J aa4 ?_;exact E G e
   intro h;have hn:=nV h;refine U (hc) (U (he) (J aa4 ?_));have e:(1:Int)=Hd (some b.path) q:=aa0
   exact E G e
abbrev PP(l:List Rq)(k:Nat):List AV:=((l.map Ac)[k]?).getD []
abbrev yQ(l:List Rq):Nat->AV
 |0=>.v (.pointer none)
 |k+1=>.cptr (PP l k)
abbrev J3(l:List Rq):Nat->Option CS
 |0=>none
 |k+1=>(l[k]?).map (·.path)
theorem dG{l:List Rq}(h:k<l.length):PP l k=Ac l[k]:=by
 grind
theorem aa{l:List Rq}(h:k<l.length):J3 l (k+1)=some l[k].path:=by
 simp_all
theorem c65(hL:Wh nm)(l:List Rq)(hs:∀q∈l,G5 q):PC 100 [sl Ac l] (G (AK l)):=by
 refine Ps (DJ []) func100 rfl C4 (J ?_ ?_)
 .intro h;exact E G (show(7:Int)=AK l by grind [AK])
 intro h;have hl:l.length<=16:=aa2
 have UQ:AK l=DL none l:=by grind [AK]
 refine Z {i:Nat // i<=l.length/\DL none l=DL (J3 l i) (l.drop i)} (Z (fun i=>⟨[(0,sl Ac l),(3,yQ l i.1),(10,sl Ac l),(11,G (l.map Ac).length),(12,G i.1)],[],Af⟩) (Z (fun i=>l.length-i.1) (J (Z ⟨0,Ak _,rfl⟩ ?_) ?_)))
 .exact⟨Z5,W,Fh,W⟩
 intro⟨i,h1,h2⟩;refine J ?_ ?_
 .intro h;have h:i<l.length:=aa0
  have hg:l[i]?=some l[i]:=Ge h;have hd:l.drop i=l[i]::l.drop (i+1):=Bf h;have hq:=hs l[i] (Ag h);have hc:PC 177 [.agg (Ac l[i]),yQ l i] (G (Hd (J3 l i) l[i])):=by
   cases i with
   |zero=>exact yU hL _ hq.1 hq.2
   |succ k=>
    rw[aa (by omega:k<l.length)];show PC 177 [_,.cptr (PP l k)] _;rw[dG (by omega:k<l.length)];exact yV hL _ _ hq.1 hq.2
  have J7:DL none l=if Hd (J3 l i) l[i]=0 then DL (some l[i].path) (l.drop (i+1))else Hd (J3 l i) l[i]:=by rw[h2,hd];rfl
  match i,h1,h2,h,hg,hd,hc,J7 with
  |0,h1,h2,h,hg,hd,hc,J7=>
   refine Z (Ac l[0]) (J (J Wk aa2) (J rfl (J C4 (J C4 (yN (C1 (U (hc) (J ?_ ?_))))))))
   .intro h4;exact E G (show Hd (J3 l (0)) l[0]=AK l by omega)
   .intro h4;refine Z (Ac l[0]) (J (J Wk aa2) (J rfl (J (by grind [Au]) (Z ⟨0+1,by omega,by grind⟩ ?_))));have e1:AV.cptr (Ac l[0])=.cptr (PP l (0)):=aa2
    exact⟨by show l.length-(0+1)<l.length-(0);omega,⟨X,⟨e1,rfl⟩,X,X,X,W⟩,W,Fh,W⟩
  |k+1,h1,h2,h,hg,hd,hc,J7=>
   refine Z (Ac l[k+1]) (J (J Wk (by simp[hg])) (J rfl ?_));refine J C4 (J C4 (yN (C1 (U (hc) (J ?_ ?_)))))
   .intro h4;exact E G (show Hd (J3 l (k+1)) l[k+1]=AK l by omega)
   .intro h4;refine Z (Ac l[k+1]) (J (J Wk (by simp[hg])) (J rfl ?_));refine J (by show Au (((k+1:Nat):Int)+1);unfold Au;omega) ?_;refine Z ⟨k+1+1,by omega,by grind⟩ ?_;have e1:AV.cptr (Ac l[k+1])=.cptr (PP l (k+1)):=aa2
    exact⟨by show l.length-(k+1+1)<l.length-(k+1);omega,⟨X,⟨e1,rfl⟩,X,X,X,W⟩,W,Fh,W⟩
 .intro h;have h:¬i<l.length:=aa0
  have e:(0:Int)=AK l:=by rw[UQ,h2,H4 Wk];rfl
  exact E G e
theorem cU{cx:Cx}{st:St}{K:LS -> Prop}(t:List (Nat×AV))(h:List (Nat×HO))(h1:leT st (LS.st ⟨t,h,Af⟩).h t)(h2:leH st (LS.st ⟨t,h,Af⟩).h h)(k:K ⟨t,h,Af⟩)
    (h3:match cx.ext with | false => True | true => ∀j,1000 <= j -> j<2000 -> st.h j ≠ .free -> (LS.st ⟨t,h,Af⟩).h j ≠ .free:=by first | exact trivial | exact A2 aa4):∃s,St.le cx st s /\ K s:=⟨_,⟨h1,h2,fun _ => .inl rfl,h3⟩,k⟩
end Go.Eng
