/- Lemmas 16. -/
import Derived.Test.YtkjhcikodmiceaaGreatDoorVA15
import Derived.Test.YtkjhcikodmiceaaGreatDoorVA13
import Derived.Shelf.Slices.Delete
namespace Go.Eng
open Go.Proofs Go.Proofs.Tryz
variable {α:Type}(p:CS)(l:List Tm)(x:α)(s:AL)
abbrev Io:AV:=.tup [sl Ac (BU l),vb (A7 l).isSome]
abbrev AdQ:M5:=⟨[],[],[(4,3)],[],[],[],[],[],[],[(25,4)],[]⟩
abbrev dZ:HO:=.arr 3 (l.map Ac)
abbrev G4:List Tm:=l.filter fun t=>!Fx t
theorem qS{l:List Tm}{kv:Value×AV}{Ql : List (Value×AV)}(h:(l.map Uv).Perm (kv::Ql)):∃t r,kv=Uv t/\Ql=r.map Uv/\l.Perm (t::r):=by
 obtain⟨ps,h1,h2⟩:=MR h l rfl;cases ps<;>grind
theorem Zd{l:List Tm}{t:Tm}(h:t∈Dv l)(hn:F4 t=true):A7 l=none:=by
 grind [A7,Jy]
theorem cd{l done s:List Tm}(h:done.Perm (Dv l))(hn:∀t∈done,F4 t=false)(hp:s.Perm (G4 done))(hs:s.Pairwise fun x y=>Ez y.path x.path=false):A7 l=some s:=by
 unfold A7;rw[AN]
 .congr 1
  exact(QH _ (hp.trans (h.filter _)) hs).symm
 grind [Jy]
theorem iV:(G4 l).length<=l.length:=Fb _ _
theorem c29(hl:BO l)(hs:∀t∈l,BO t.set):PC 297 [sl Ac l] (Io l):=by
 have iG:l.length<=1073741824:=hl;have hml:(Dv l).length<=l.length:=by grind [OA,List.take_length]
 refine Ps AdQ func297 rfl (Nz rfl) (C1 (C2 (c57 l hl hs) (Xi {p:List Tm×List Tm×Option (Value×AV) // (p.1++p.2.1).Perm (Dv l)/\∀t∈p.1,F4 t=false} (Xi (fun p=>⟨[(4,.msl 4 (G4 p.1.1).length),(9,.ref 9 0)],[(4,dZ (G4 p.1.1)),(9,.iter ((Dv l).map Uv) (p.1.2.1.map Uv) p.1.2.2)],Af⟩) (Xi (fun p=>p.1.2.1.length) (Yi (Xi ⟨([],Dv l,none),.refl _,fun t ht=>by cases ht⟩ ?_) ?_))))))
 .exact⟨Z2,Z2,Fh,Tv⟩
 intro⟨⟨done,rem,Ef⟩,r1,r2⟩;have r1:(done++rem).Perm (Dv l):=r1;have hdl:done.length+rem.length<=l.length:=by grind [List.length_append,List.Perm.length_eq]
 have qr:=iV done;refine Yi ?_ ?_
 .intro hr;have hr:rem=[]:=FP.1 hr;subst hr;rw[Eg]at r1;refine Xi (.gen [(4,1000)] 0) (Yi rfl ((c61 (G4 done) Wk).to ?_));intro s hq;have Uh:s.length=(G4 done).length:=hq.1.length_eq;have hc:=cd r1 r2 hq.1 hq.2;refine Yi (by simp_all) ?_;have e:AV.tup [sl Ac s,vb true]=Io l:=by grind [BU]
  exact .of_eq e
 .intro kv Ql hp;refine Ao (qS hp) (fun t hp=>Ao hp (fun r hp=>?_));have e1:=hp.1;have e2:=hp.2.1;subst e1;subst e2;have hp:=hp.2.2;have wC:t∈Dv l:=r1.mem_iff.1 (B7 _ (hp.mem_iff.2 (Ag ..)));have htc:=PT l t wC;have htf:=IB htc;refine Yi (Nz rfl) (yN ?_);have hv:PC 348 [.agg (Ac t)] (vb (F4 t)):=mY htc▸c59 t htf;have ha:PC 349 [.agg (Ac t)] (vb (Fx t)):=gF htc▸c60 t htf;refine Ax (Bt (F4 t)) (fun h=>?_) (fun h=>?_)
  .rw[h]at hv;refine C1 (C2 (hv) ?_);have hc:=Zd wC h;have e:AV.tup [.slice .none [],vb false]=Io l:=by grind [BU]
   have e0:Cj (.tup [nzA,vb false]) (.tup [.slice .none [],vb false]):=Cj.tup ⟨.nil,.refl _,trivial⟩;exact e0.trans (.of_eq e)
  .rw[h]at hv;refine C1 (C2 (hv) (yN ?_));have fu:((done++[t])++r).Perm (Dv l):=by
    grind
   have hnv:∀u∈done++[t],F4 u=false:=fun u hu=>by
    grind
   have hrl:r.length<rem.length:=by grind [List.length_cons,List.Perm.length_eq]
   refine Ax (Bt (Fx t)) (fun h2=>?_) (fun h2=>?_)
   rotate_left
   .rw[h2]at ha;refine C1 (C2 (ha) ?_);have CY:Bh 3 [Ac t]/\((G4 done).map Ac).length=(G4 done).length/\(((G4 done).map Ac).length+[Ac t].length)*48<=140737488355328/\((G4 done).map Ac).length+[Ac t].length<=9223372036854775807:=
     ⟨⟨rfl,trivial⟩,by simp_all,by grind,by grind⟩
    refine yN (Yi CY ?_);have hk:G4 (done++[t])=G4 done++[t]:=by simp_all
    have e1:AV.msl 4 (((G4 done).map Ac).length+[Ac t].length)=.msl 4 (G4 (done++[t])).length:=by simp_all
    have e2:HO.arr 3 ((G4 done).map Ac++[Ac t])=dZ (G4 (done++[t])):=by simp_all
    refine Xi ⟨(done++[t],r,some (Uv t)),fu,hnv⟩ ?_;exact⟨hrl,⟨⟨e1,rfl⟩,Zr,Tv⟩,⟨⟨e2,rfl⟩,Zr,Tv⟩,Fh,Tv⟩
   .rw[h2]at ha;refine C1 (C2 (ha) ?_);have hk:G4 (done++[t])=G4 done:=by simp_all
    have e1:AV.msl 4 (G4 done).length=.msl 4 (G4 (done++[t])).length:=by rw[hk]
    have e2:dZ (G4 done)=dZ (G4 (done++[t])):=by rw[hk]
    refine Xi ⟨(done++[t],r,some (Uv t)),fu,hnv⟩ ?_;exact⟨hrl,⟨⟨e1,rfl⟩,Zr,Tv⟩,⟨⟨e2,rfl⟩,Zr,Tv⟩,Fh,Tv⟩
theorem tT(hl:BO l)(hs:∀t∈l,BO t.set):PC 292 [sl Ac l] (sl Ac (BU l)):=by
 refine Ps CX func292 rfl (Nz rfl) (C1 (C2 (c29 l hl hs) ?_));exact .refl _
theorem QN:BO (BV s):=by
 grind [E6,GL]
theorem xE:BO [x]:=by simp_all
theorem Ac9(y:α):BO [x,y]:=by simp_all
theorem xg(q:Rq)(hq:BO q.set):PC 225 [.agg (Ad q)] (sl Ac (Gy q)):=by
 have hc:PC 292 [sl Ac [Dw q]] (sl Ac (Gy q)):=tT [Dw q] (xE _) fun t ht=>by rw[AJ.1 ht];exact QN _
 refine Ps CX func225 rfl (Nz rfl) (yN (C1 (C2 (xn q hq) (C1 (C2 (hc) ?_)))));exact .refl _
theorem xh(pl:Int)(q:Rq)(hp:Au (pl+1))(hq:BO q.set):PC 226 [vs p,vi pl,.agg (Ad q)] (sl Ac (BM p pl q)):=by
 have hc:PC 292 [sl Ac [⟨p,false,[(pl,pl+1)]⟩,Dw q]] (sl Ac (BM p pl q)):=tT [⟨p,false,[(pl,pl+1)]⟩,Dw q] (Ac9 _ _) fun t ht=>by
  rcases AR.1 ht with rfl | ht
  .simp_all
  .rw[AJ.1 ht];exact QN _
 refine Ps CX func226 rfl (Nz rfl) (Yi hp (yN (C1 (C2 (xn q hq) (C1 (C2 (hc) ?_))))));exact .refl _
theorem tM(hs:BO s):PC 229 [vs p,sl Ab s] (sl Ac (D7 p s)):=by
 have hc:PC 292 [sl Ac [⟨p,false,BV s⟩]] (sl Ac (D7 p s)):=tT [⟨p,false,BV s⟩] (xE _) fun t ht=>by grind [QN]
 refine Ps CX func229 rfl (Nz rfl) (C1 (C2 (tu s hs) (C1 (C2 (hc) ?_))));exact .refl _
end Go.Eng
namespace Go.Eng
open Go.Proofs Go.Proofs.Tryz Go.Shelf Go.RowKit Go.Lib Go.Sort
theorem u9(F:Array Value)(i n:Nat)(hF:F.size=n*3)(hi:i<n)(z:List Value)(hz:z.length=3):(lay (lay F (i*3) (F.toList.drop ((i+1)*3))) ((n-1)*3) z).toList=F.toList.take (i*3)++F.toList.drop ((i+1)*3)++z:=by
 have l1:(F.toList.take (i*3)).length=i*3:=by simp;omega
 have l2:(F.toList.drop ((i+1)*3)).length=(n-(i+1))*3:=by simp;omega
 apply CU
 intro t
 rw[CF,lay_get? _ _ _ _ (by rw[Lib.lay_size];omega),lay_get? _ _ _ _ (by rw[l2];omega)]
 rw[hz,l2]
 by_cases c1:t<i*3
 .rw[AN Wk,AN Wk,D0 (by rw[AD];omega),D0 Wk,List.getElem?_take,A3 c1,CF]
 .by_cases c2:t<(n-1)*3
  .rw[AN Wk,A3 Wk,D0 (by rw[AD];omega),BQ Wk,l1]
  .rw[BQ (by rw[AD];omega),AD,l1,l2]
   by_cases c3:t<n*3
   .rw[A3 Wk];congr 1;omega
   .rw[AN Wk,AN Wk,Array.getElem?_eq_none Wk,List.getElem?_eq_none Wk]
abbrev oX:List Value:=[.string ⟨#[]⟩,.bool false,.slice none 0 0]
set_option maxHeartbeats 4000000 in
set_option maxRecDepth 1000000 in
theorem lj(w:World)(b cap i n:Nat)(F:Array Value)(hF:F.size=n*3)(hi:i<n)(MB:n<=cap)(hH:Holds id w b 0 F)(h1:∀x∈F.toList,x.oneCell'=true) :
  Calls Tryz.prog 344 #[.slice (some ⟨b,0,none⟩) n cap,.int .i64 i,.int .i64 ((i:Int)+1)] w fun e w'=>e=.returned (.slice (some ⟨b,0,none⟩) (n-1) cap) /\
   w'=putRow id (Sort.ahead w 1) b 0 (lay (lay F (i*3) (F.toList.drop ((i+1)*3))) ((n-1)*3) oX):=by
 obtain⟨i0,hi0,uP⟩:∃i0,Tryz.prog.info? 325=some i0/\i0.size=3:=by
  obtain⟨i,z,h1,_,h2,_⟩:=H2 (P:=Tryz.prog) (T:=rP) BI (e:=325) (n:=2) aa2
  exact⟨i,h1,h2.trans aa2⟩
 obtain⟨news,Jd⟩:∃news,news=F.toList.drop ((i+1)*3):=⟨_,rfl⟩
 have CL:news.length=(n-(i+1))*3:=by rw[Jd];simp;omega
 have F3:∀t,t<(n-(i+1))*3->news[t]?=some F[(i+1)*3+t]!:=by
  intro t ht
  rw[Jd,F8,CF,Ol F ((i+1)*3+t) Wk,Ds Wk]
 obtain⟨A,hA,uK⟩:∃A:Addr,(if cap=i+1 then some (⟨b,0,none⟩:Addr)else some ⟨b,(i+1)*3,none⟩)=some A/\Hid (∀t u,news[t]?=some u->w.drew.cell? (A.add t)=some u):=by
  by_cases h:cap=i+1
  .refine⟨⟨b,0,none⟩,by simp[h],fun t u hu=>?_⟩
   have h0:news.length=0:=by rw[CL];omega
   rw[List.length_eq_zero_iff.1 h0]at hu
   simp at hu
  .refine⟨⟨b,(i+1)*3,none⟩,by simp[h],fun t u hu=>?_⟩
   have ht:t<(n-(i+1))*3:=by
    have:=(Bf.1 hu).1
    rwa [CL]at this
   rw[F3 t ht]at hu
   rw[Addr.add_lit]
   have:=(hH ((i+1)*3+t) Wk).1
   rw[HN]at this
   exact this.trans hu
 have s1:Hid (news.length=(n-(i+1))*3):=CL
 have s2:Hid (∀u∈news,u.oneCell'=true):=by
  intro u hu
  rw[Jd]at hu
  exact h1 u (IF hu)
 have s3:Hid (∀t,t<news.length->(w.drew.cell? ⟨b,0+i*3+t,none⟩).isSome=true/\w.drew.frozen? ⟨b,0+i*3+t,none⟩=false):=by
  intro t ht
  rw[CL]at ht
  have:=hH (i*3+t) Wk
  rw[Nat.add_assoc]
  exact⟨by show(w.cell? _).isSome=true;rw[this.1];rfl,this.2⟩
 obtain⟨W1,sn⟩:∃W1,W1=w.drew.setCells b (0+i*3) news:=⟨_,rfl⟩
 have um : W1=putRow id (Sort.ahead w 1) b 0 (lay F (i*3) news):=by
  have:=putRow_setCells id (Sort.ahead w 1) b 0 news F (i*3) Wk
  rw[putRow_self id (Sort.ahead w 1) b 0 F (holds_ahead id w 1 b 0 F hH),Mi]at this
  rw[sn,<-this]
  rfl
 have hH1:Holds id W1 b 0 (lay F (i*3) news):=by rw[um];exact holds_putRow id _ b 0 F _ (holds_ahead id w 1 b 0 F hH) (Lib.lay_size _ _ _)
 have Jt:(storeCells ⟨b,0+(n-1)*3,none⟩ oX 0).run Tryz.prog W1=.ok () (W1.setCells b (0+(n-1)*3) oX):=by
  have:=run_storeCells_cells (P:=Tryz.prog) b (0+(n-1)*3) oX 0 W1 (fun j hj=>by
   have hj:j<3:=hj
   have:=hH1 ((n-1)*3+j) (by rw[Lib.lay_size];omega)
   rw[show 0+(n-1)*3+0+j=0+((n-1)*3+j) by omega,this.1];rfl) (fun j hj=>by
   have hj:j<3:=hj
   have:=hH1 ((n-1)*3+j) (by rw[Lib.lay_size];omega)
   rw[show 0+(n-1)*3+0+j=0+((n-1)*3+j) by omega];exact this.2) (fun v hv=>by
   simp only[AR,L8,or_false]at hv
   rcases hv with rfl | rfl | rfl<;>rfl)
  exact this
 have hcl:∀ty c,(Builtin.clear_ #[258] ty #[.slice (some ⟨b,(n-1)*3,none⟩) 1 c]).run Tryz.prog W1=.ok (.tuple #[]) (W1.setCells b (0+(n-1)*3) oX):=fun ty c=>by
  have hv:=zeroValue325
  rw[HN]at Jt⊢
  have hz:(Builtin.zeroCells (Value.agg #[Value.string { data:=#[] },Value.bool false,Value.slice none 0 0]).cells 1).toList=oX:=by kernel_rfl
  simp[Builtin.clear_,run_underlying underlying258,hv,hz,Jt]
 have Ai8:∀ty,(Builtin.clear_ #[258] ty #[.slice (some ⟨b,(i+(n-(i+1)))*3,none⟩) (n-(i+(n-(i+1)))) (cap-(i+(n-(i+1))))]).run Tryz.prog W1=.ok (.tuple #[]) (W1.setCells b (0+(n-1)*3) oX):=fun ty=>by
  have e1:i+(n-(i+1))=n-1:=by omega
  have e2:n-(n-1)=1:=by omega
  rw[e1,e2];exact hcl ty _
 have X:Aside (W1=putRow id (Sort.ahead w 1) b 0 (lay F (i*3) news)):=um
 have hW:Hid (W1=w.drew.setCells b (0+i*3) news):=sn
 have Y:Aside (news=F.toList.drop ((i+1)*3)):=Jd
 have Z:Aside (news.length=(n-(i+1))*3):=CL
 have hic:i<=cap:=by omega
 have hjc:i+1<=cap:=by omega
 have mixed:=Go.Eng.hm
 have hb1:(0:Int)<=(i:Int)+1:=by omega
 have oL:(i:Int)+1<=(n:Int):=by omega
 clear sn um hH1 hH F3 Jd CL Jt hcl
 go_enter func344,ntmps344
 go_wp2_with fail
 go_region_law_o (refine step_append_room rfl (.tmp 22) (.tmp 25) 258 rfl 325 i0 3 underlying258 hi0 uP b 0 i cap (by simp[Act.eval,Act.put]) A (n-(i+1)) (cap-(i+1)) news (by simp[Act.eval,Act.put]) s1.out uK.out s2.out Wk s3.out ?_;rw[<-hW.out])
 go_wp2
 go_ret
 refine⟨by rw[show i+(n-(i+1))=n-1 by omega];rfl,?_⟩
 rw[X.out]
 have e1:=Y.out
 have e2:=Z.out
 rw[<-e1]
 have:=putRow_setCells id (Sort.ahead w 1) b 0 oX (lay F (i*3) news) ((n-1)*3) (by rw[Lib.lay_size];show _+3<=_;omega)
 rw[Mi,HN]at this
 exact this
abbrev bA:List AV:=[Go.Eng.vs ⟨#[]⟩,vb false,nzA]
theorem AbL(l:List Tm)(i:Nat)(hi:i<l.length) :
  Bg Tryz.prog 344 [.msl 1000 l.length,vi i,vi ((i:Int)+1)] (Ai [(1000,.arr 3 (l.map Ac))] Af) fun r h'=>r=.msl 2000 (l.length-1)/\h'=Ai [(1000,.dead),(2000,.arr 3 ((l.eraseIdx i).map Ac))] Af:=by
 have hE:Gl Tryz.prog 344:=ie 344 func344 aa2 rfl
 have CL:(l.eraseIdx i).length=l.length-1:=List.length_eraseIdx_of_lt hi
 have Jc:=V3 (P:=Tryz.prog) (f:=344) (es:=l.map Ac) (sz:=3) (rest:=[.int .i64 i,.int .i64 ((i:Int)+1)]) (n':=l.length-1) (Q:=fun FU=>FU=(l.eraseIdx i).map Ac++[bA]) hE (fun e=>by
  rw[FP]at e;subst e;simp at hi) (by rw[BJ];omega) ?_
 .rw[BJ]at Jc
  refine⟨hE,fun g w vals q1 q2 q3=>(Jc.2 g w vals q1 q2 q3).mono fun _ _ ⟨v,r,h',g',e1,⟨e2,FU,p1,p2⟩,rest⟩=>⟨v,r,h',g',e1,⟨e2,by rw[p2,p1,List.take_append_of_le_length (by rw[BJ,CL];exact Ap _),A5 (by rw[BJ,CL];exact Ap _)]⟩,rest⟩⟩
 .intro g w b cap F hr hF hH hb hc
  rw[BJ]at hF hc⊢
  have hu:∀e∈l.map Ac,e.length=3:=fun e he=>by
   obtain⟨t,_,rfl⟩:=Ar.1 he;rfl
  refine(lj w b cap i l.length F hF hi hc hH hr.2.1).mono ?_
  rintro e w' ⟨rfl,rfl⟩
  refine⟨rfl,_,_,1,#[],?_,rfl,?_,fun cs hcs=>?_,fun g w hr=>?_,rfl⟩
  .rw[Lib.lay_size,Lib.lay_size]
  .rw[AD,BJ,CL,A6];omega
  .rcases Bi.1 hcs with h | h
   .obtain⟨t,_,rfl⟩:=Ar.1 h;rfl
   .rw[AJ.1 h];rfl
  .rw[u9 F i l.length hF hi oX rfl,List.eraseIdx_eq_take_drop_succ,D8,Bk,D8,List.map_take,List.map_drop,<-Ln _ i hu,<-Pz _ (i+1) hu]
   refine Cg.append (Cg.append (hr.take _) (hr.drop _)) ?_
   exact NC g w FN oX fun x hx=>by
    simp only[AR,L8,or_false]at hx
    rcases hx with rfl | rfl | rfl<;>rfl
end Go.Eng
namespace Go.Eng
open Go.Proofs Go.Proofs.Tryz
variable {nm:CS->CS}{l r:List Tm}{α:Type}{c:List Tm}{t:Tm}{k:Nat}(x:List Rl)(a:List Tm)(ifs:C0)(s:CS)(roots:List Rq)(b:List Tm)(d:List (List Tm))(i:Nf)
theorem xo(l:List Tm)(hl:BO l)(EG:l≠[]):Bg Tryz.prog 345 [sl Ac l] (Ai [] Af) fun r h'=>r=.msl 2000 l.length/\h'=Ai [(2000,.arr 3 (l.map Ac))] Af:=by
 refine Bj (I9 (pla [(5,3)] [])) [(5,2000)] rfl BI hm rfl func345 aa2 rfl (Nz rfl) aa2 rfl ?_;have CY:Bh 3 (l.map Ac)/\([]:C0).length=0/\(([]:C0).length+(l.map Ac).length)*48<=140737488355328/\([]:C0).length+(l.map Ac).length<=9223372036854775807:=by
  grind [Cm]
 refine Yi ?_ ?_
 .intro _;refine Yi CY ?_;have e1:AV.msl 2000 (([]:C0).length+(l.map Ac).length)=.msl 2000 l.length:=by simp
  refine Xi (.msl 2000 (([]:C0).length+(l.map Ac).length)) (Yi (.refl _) (Yi e1 ?_))
  rfl
 .intro h;exact absurd (FP.1 h) EG
theorem tU(x:Tm)(p:CS):PC 343 [.agg (Ac x),.cptr [vs p]] (vb (decide (x.path=p))):=by
 refine Ps CX func343 rfl (Nz rfl) (Yi ?_ ?_)
 .intro h;rw[Av h];exact .refl _
 .intro h;rw[Aq h];exact .refl _
theorem NT{p:CS}:∀{c:List Tm} {i:Nat},(EZ c).Nodup->∀(hi:i<c.length),c[i].path=p->c.eraseIdx i=AI c p
 |t::c,0,hn,_,h=>by
  grind [EZ,AI,List.filter_eq_self]
 |t::c,i+1,hn,hi,h=>by
  have hi:i<c.length:=by grind
  have h:c[i].path=p:=h;unfold EZ at hn;rw[Bo,GE]at hn
  have:t.path≠p:=fun e=>hn.1 (by simp_all)
  have ih:=NT hn.2 hi h
  grind [AI]
theorem QM(hl:BO l)(h:A7 l=some c):BO c:=by
 have h1:=OA l l.length (Ap _);rw[IW]at h1;have h2:c=(Db l).filter fun t=>!Fx t:=by
  grind [A7]
 have h3:c.length<=(Db l).length:=by grind
 have h4:(Db l).length=(Dv l).length:=by
  grind [List.perm_ext_iff_of_nodup,ML,Ia,Ih,DL,Jy,List.Perm.length_eq]
 omega
abbrev qU:AV:=.tup [.agg bA,nzA,vb false]
abbrev sW:M5:=⟨[3],[],[],[],[],[],[],[],[(30,0),(34,1)],[],[]⟩
theorem kO(l:List Tm)(p:CS)(hl:BO l)(hs:∀t∈l,BO t.set)(hn:DS l p=none):PC 296 [sl Ac l,vs p] qU:=by
 have hc:=c29 l hl hs;unfold DS at hn;cases e:A7 l with
 |none=>
  have e1:Io l=.tup [sl Ac [],vb false]:=by grind [BU]
  rw[e1]at hc;have hi:=pt (C3.ptr [vs p]) [] (fun x=>decide (x.path=p)) (fun x _=>tU x p) aa0;refine Ps sW func296 rfl (Nz rfl) (C1 (C2 (hc) (C1 (C2 (hi) (Yi (Nz rfl) (yN ?_))))));exact .refl _
 |some c=>
  rw[e]at hn;have hn:(match Dp c p with | none=>none | some t=>some (t,AI c p))=none:=hn;have hfn:Dp c p=none:=by
   grind
  have e1:Io l=.tup [sl Ac c,vb true]:=by grind [BU]
  rw[e1]at hc;have qn:=QM hl e;have hi:=pt (C3.ptr [vs p]) c (fun x=>decide (x.path=p)) (fun x _=>tU x p) Wk;have hid:J0 (fun x:Tm=>decide (x.path=p)) c 0=-1:=by
   grind [ME,Dp]
  rw[hid]at hi;refine Ps sW func296 rfl (Nz rfl) (C1 (C2 (hc) (C1 (C2 (hi) (Yi ?_ ?_)))))
  .intro _;refine Yi (Nz rfl) (yN ?_);exact .refl _
  .intro h;exact absurd (show(-1:Int)<0 by decide) h
abbrev vt:M5:=⟨[3],[],[],[],[],[],[],[],[(30,0),(34,2)],[],[]⟩
theorem kP(l:List Tm)(p:CS)(hl:BO l)(hs:∀t∈l,BO t.set)(hn:DS l p=some (t,r)) :
  Bg Tryz.prog 296 [sl Ac l,vs p] (Ai [] Af) fun v h'=>v=.tup [.agg (Ac t),.msl 2000 r.length,vb true]/\h'=Ai [(2000,.arr 3 (r.map Ac))] Af:=by
 have hc:=c29 l hl hs;unfold DS at hn;cases e:A7 l with
 |none=>simp_all
 |some c=>
  rw[e]at hn;have hn:(match Dp c p with | none=>none | some t=>some (t,AI c p))=some (t,r):=hn;have wq:Dp c p=some t/\AI c p=r:=by
   grind
  have e1:Io l=.tup [sl Ac c,vb true]:=by grind [BU]
  rw[e1]at hc;have qn:=QM hl e;have hi:=pt (C3.ptr [vs p]) c (fun x=>decide (x.path=p)) (fun x _=>tU x p) Wk;rcases ME (p:=fun x:Tm=>decide (x.path=p)) c 0 with ⟨_,h2⟩ | ⟨i,x,h1,h2,h3⟩
  .grind [Dp]
  have hx:x=t:=by
   grind [Dp]
  subst hx;rw[h1,GH]at hi;obtain⟨hic,hie⟩:=Bf.1 h2;have her:c.eraseIdx i=r:=by
   rw[<-wq.2];exact NT (Ih (E2 e)) hic (by grind)
  have hlr:c.length-1=r.length:=by grind
  have EG:c≠[]:=fun h=>by simp_all
  have Aif:c.length<=1073741824:=qn;refine Bj (I9 vt) [(13400,2000)] rfl BI hm rfl func296 aa2 rfl (Nz rfl) aa2 rfl (C1 (C2 (hc) (C1 (C2 (hi) (Yi ?_ ?_)))))
  .intro h;omega
  intro _;have hg:(c.map Ac)[((i:Nat):Int).toNat]?=some (Ac x):=by simp_all
  refine Xi (Ac x) (Yi (Yi Wk hg) (Yi rfl (yN (Xi c.length (Xi 3 (Xi (c.map Ac) (Yi rfl (Yi (xo c qn EG) (Yi (by grind [Au]) (Xi (c.length-1) (Xi ((c.eraseIdx i).map Ac) (Yi rfl (Yi (AbL c i hic) (yN (Yi aa2 (yN ?_))))))))))))))));have e2:AV.tup [.agg (Ac x),.msl 2000 (c.length-1),vb true]=.tup [.agg (Ac x),.msl 2000 r.length,vb true]:=by rw[hlr]
  have e3:Ai [(2000,HO.arr 3 ((c.eraseIdx i).map Ac))] Af=Ai [(2000,.arr 3 (r.map Ac))] Af:=by rw[her]
  exact C2 (.refl _) (Yi e2 e3)
abbrev fT:M5:=⟨[],[],[],[],[],[],[],[],[],[(24,9),(30,12)],[2,3,5,6]⟩
abbrev zw(p:CS):AV:=.tup [sl Ac (AU a b p).1,vi (AU a b p).2]
theorem W9{p:CS}(h:DS l p=some (t,r)):∃c,A7 l=some c/\t∈c/\r=AI c p:=by
 grind [DS,GZ]
theorem Xa{p:CS}(hl:BO l)(h:DS l p=some (t,r)):BO t.set/\BO r/\∀u∈r,BO u.set:=by
 obtain⟨c,h1,h2,rfl⟩:=W9 h;have hs:=E2 h1
 grind [IB,QM,AI,BN.canon]
theorem kS(h:A7 l=some c):c.length<=l.length:=by
 have h1:=OA l l.length (Ap _);rw[IW]at h1;have h2:c=(Db l).filter fun t=>!Fx t:=by
  grind [A7]
 have h3:c.length<=(Db l).length:=by grind
 grind [List.perm_ext_iff_of_nodup,ML,Ia,Ih,DL,Jy,List.Perm.length_eq]
theorem Xb{p:CS}(h:DS l p=some (t,r)):r.length<=l.length:=by
 obtain⟨c,h1,h2,rfl⟩:=W9 h;have h3:(AI c p).length<=c.length:=Fb _ _
 have:=kS h1
 omega
theorem ij(a b:AL):BO (EY a b):=by
 grind [E6,bu]
theorem xj(p:CS)(ha:a.length<=500000000)(hb:b.length<=500000000)(hsa:∀t∈a,BO t.set)(y0:∀t∈b,BO t.set):PC 230 [sl Ac a,sl Ac b,vs p] (zw a b p):=by
 have sw:BO a:=by omega
 have oO:BO b:=by omega
 have er:∀{l:List Tm} {e:Int},AU a b p=(l,e)->zw a b p=.tup [sl Ac l,vi e]:=fun h=>by simp_all
 have e0:Cj (.tup [nzA,vi 1]) (.tup [.slice .none [],vi 1]):=Cj.tup ⟨.nil,.refl _,trivial⟩;cases h1:DS a p with
 |none=>
  have hr:AU a b p=([],1):=by grind [AU]
  have c1:=kO a p sw hsa h1;cases h2:DS b p with
  |none=>
   have c2:=kO b p oO y0 h2;refine Ps fT func230 rfl (Nz rfl) (C1 (C2 (c1) (yN (Xi ⟨[(1,sl Ac b),(2,vs p),(8,.ref 8 0),(9,nzA),(10,vb false)],[(8,.cells bA)],Af⟩ (Yi ⟨Z5,Z1,Fh,Tv⟩ (C1 (C2 (c2) (yN (Xi ⟨[(8,.ref 8 0),(9,nzA),(10,vb false),(11,.ref 11 0),(12,nzA),(13,vb false)],[(8,.cells bA),(11,.cells bA)],Af⟩ (Yi ⟨Z6,Z2,Fh,Tv⟩ ?_))))))))))
   exact e0.trans (.of_eq (er hr).symm)
  |some q2=>
   obtain⟨t2,r2⟩:=q2;have c2:=kP b p oO y0 h2;refine Ps fT func230 rfl (Nz rfl) (C1 (C2 (c1) (yN (Xi ⟨[(1,sl Ac b),(2,vs p),(8,.ref 8 0),(9,nzA),(10,vb false)],[(8,.cells bA)],Af⟩ (Yi ⟨Z5,Z1,Fh,Tv⟩ ?_)))))
   have z2:r2.length=(r2.map Ac).length:=by simp_all
   refine Xi (.gen [] 1) (Yi rfl (c2.imp ?_));intro v2 g2 q2;have vC:=q2.1;have q22:=q2.2;subst vC;subst q22;refine yN (Xi ⟨[(8,.ref 8 0),(9,nzA),(10,vb false),(11,.ref 11 0),(12,.msl 12600 r2.length),(13,vb true)],[(8,.cells bA),(11,.cells (Ac t2)),(12600,.arr 3 (r2.map Ac))],Af⟩ (Yi ⟨Z6,Z3,Fh,Tv⟩ (Yi z2 ?_)));exact e0.trans (.of_eq (er hr).symm)
 |some q1=>
  obtain⟨t1,r1⟩:=q1;have c1:=kP a p sw hsa h1;obtain⟨f1,f2,f3⟩:=Xa sw h1;cases h2:DS b p with
  |none=>
   have hr:AU a b p=([],1):=by grind [AU]
   have c2:=kO b p oO y0 h2;refine Ps fT func230 rfl (Nz rfl) (Xi (.gen [] 1) (Yi rfl (c1.imp ?_)));intro v1 g1 q1;have UY:=q1.1;have Qj:=q1.2;subst UY;subst Qj;refine yN (Xi ⟨[(1,sl Ac b),(2,vs p),(8,.ref 8 0),(9,.msl 11900 r1.length),(10,vb true)],[(8,.cells (Ac t1)),(11900,.arr 3 (r1.map Ac))],Af⟩ (Yi ⟨Z5,Z2,Fh,Tv⟩ ?_))
   have z1:r1.length=(r1.map Ac).length:=by simp_all
   refine Yi z1 (C1 (C2 (c2) (yN (Xi ⟨[(8,.ref 8 0),(9,.slice (.id 11900 3) (r1.map Ac)),(10,vb true),(11,.ref 11 0),(12,nzA),(13,vb false)],[(8,.cells (Ac t1)),(11,.cells bA),(11900,.tok 3 (r1.map Ac).length)],Af⟩ (Yi ⟨Z6,Z3,Fh,Tv⟩ ?_)))))
   exact e0.trans (.of_eq (er hr).symm)
  |some q2=>
   obtain⟨t2,r2⟩:=q2;have c2:=kP b p oO y0 h2;obtain⟨g1,g2,g3⟩:=Xa oO h2;refine Ps fT func230 rfl (Nz rfl) (Xi (.gen [] 1) (Yi rfl (c1.imp ?_)));intro v1 g1 q1;have UY:=q1.1;have Qj:=q1.2;subst UY;subst Qj;refine yN (Xi ⟨[(1,sl Ac b),(2,vs p),(8,.ref 8 0),(9,.msl 11900 r1.length),(10,vb true)],[(8,.cells (Ac t1)),(11900,.arr 3 (r1.map Ac))],Af⟩ (Yi ⟨Z5,Z2,Fh,Tv⟩ ?_))
   have z1:r1.length=(r1.map Ac).length:=by simp_all
   have z2:r2.length=(r2.map Ac).length:=by grind
   refine Yi z1 (Xi (.gen [] 1) (Yi rfl (c2.imp ?_)));intro v2 g2 q2;have vC:=q2.1;have q22:=q2.2;subst vC;subst q22;refine yN (Xi ⟨[(8,.ref 8 0),(9,.slice (.id 11900 3) (r1.map Ac)),(10,vb true),(11,.ref 11 0),(12,.msl 12600 r2.length),(13,vb true)],[(8,.cells (Ac t1)),(11,.cells (Ac t2)),(11900,.tok 3 (r1.map Ac).length),(12600,.arr 3 (r2.map Ac))],Af⟩ (Yi ⟨Z6,Z4,Fh,Tv⟩ (Yi z2 (Xi ⟨[(8,.ref 8 0),(9,.slice (.id 11900 3) (r1.map Ac)),(11,.ref 11 0),(12,.slice (.id 12600 3) (r2.map Ac))],[(8,.cells (Ac t1)),(11,.cells (Ac t2)),(11900,.tok 3 (r1.map Ac).length),(12600,.tok 3 (r2.map Ac).length)],Af⟩ (Yi ⟨Z4,Z4,Fh,Tv⟩ ?_)))))
   have l1:=Xb h1;have l2:=Xb h2;have b1:Bh 3 (r2.map Ac)/\(r1.map Ac).length=(r1.map Ac).length/\((r1.map Ac).length+(r2.map Ac).length)*48<=140737488355328/\(r1.map Ac).length+(r2.map Ac).length<=9223372036854775807:=
    ⟨Cm (enc:=Ac) (n:=3) (fun _=>rfl) r2,rfl,by omega,by omega⟩
   refine Yi b1 (Yi (Nz rfl) (yN (C2 (AbE t1 t2 f1 g1) ?_)));have b2:Bh 3 [Ac (CJ t1 t2)]/\(r1.map Ac++r2.map Ac).length=(r1.map Ac).length+(r2.map Ac).length/\((r1.map Ac++r2.map Ac).length+[Ac (CJ t1 t2)].length)*48<=140737488355328/\(r1.map Ac++r2.map Ac).length+[Ac (CJ t1 t2)].length<=9223372036854775807:=
    ⟨⟨rfl,trivial⟩,by grind,by grind,by grind⟩
   refine Yi b2 ?_;have ya:=c29 (r1++r2++[CJ t1 t2]) (by grind) (fun u hu=>by
    rcases Bi.1 hu with hu | hu
    .grind
    .rw[AJ.1 hu];exact ij _ _)
   have e1:sl Ac (r1++r2++[CJ t1 t2])=.slice .none (r1.map Ac++r2.map Ac++[Ac (CJ t1 t2)]):=by simp
   have so:PC 297 [.slice .none (r1.map Ac++r2.map Ac++[Ac (CJ t1 t2)])] (Io (r1++r2++[CJ t1 t2])):=e1▸ya;cases hcn:A7 (r1++r2++[CJ t1 t2])with
   |none=>
    have hr:AU a b p=([],8):=by grind [AU]
    have ec:Io (r1++r2++[CJ t1 t2])=.tup [sl Ac [],vb false]:=by grind [BU]
    have hc:PC 297 [.slice .none (r1.map Ac++r2.map Ac++[Ac (CJ t1 t2)])] (.tup [sl Ac [],vb false]):=ec▸so;have e8:Cj (.tup [nzA,vi 8]) (.tup [.slice .none [],vi 8]):=Cj.tup ⟨.nil,.refl _,trivial⟩;refine C2 (hc) (Yi aa2 (Xi ⟨[(14,sl Ac []),(15,vb false)],[],Af⟩ (Yi ⟨Z2,Tv,Fh,Tv⟩ ?_)))
    exact e8.trans (.of_eq (er hr).symm)
   |some o=>
    have hr:AU a b p=(o,0):=by grind [AU]
    have ec:Io (r1++r2++[CJ t1 t2])=.tup [sl Ac o,vb true]:=by grind [BU]
    have hc:PC 297 [.slice .none (r1.map Ac++r2.map Ac++[Ac (CJ t1 t2)])] (.tup [sl Ac o,vb true]):=ec▸so;refine C2 (hc) (Yi aa2 (Xi ⟨[(14,sl Ac o),(15,vb true)],[],Af⟩ (Yi ⟨Z2,Tv,Fh,Tv⟩ ?_)))
    exact .of_eq (er hr).symm
def eQ(h s:Nat->HO):Nat->Bool
 |0=>true
 |n+1=>(match h (1000+n)with |.free=>true |_=>(match s (1000+n)with |.free=>false |_=>true))&&eQ h s n
theorem TM{h s:Nat->HO}:∀{n:Nat},eQ h s n=true->∀j,j<n->h (1000+j)≠.free->s (1000+j)≠.free
 |n+1,hd,j,hj,hn=>by
  simp only[eQ,Ak]at hd;rcases BR j n with h1 | h1
  .exact TM hd.2 j h1 hn
  grind
theorem Bn{h s:Nat->HO}(hd:eQ h s 1000=true):∀j,1000<=j->j<2000->h j≠.free->s j≠.free:=fun j h1 h2=>by
 have:=TM hd (j-1000) Wk
 simp_all
abbrev pD:List AV:=[sl Am x,.slice .none ifs,sl Ad roots,.slice (.id 1001 1) (d.map As)]
abbrev IY:HO:=.cells (pD x ifs roots d)
abbrev I4:HO:=.tok 1 (d.map As).length
abbrev NQ:List (Nat×HO):=[(1000,IY x ifs roots d),(1001,I4 d)]
abbrev YI:List AV:=[vs ⟨#[]⟩,vi 0,vi 0,vi 0,nzA,vs ⟨#[]⟩,vs ⟨#[]⟩,vs ⟨#[]⟩,vb false]
abbrev G5:Option Rl->AV
 |some r=>.tup [.agg (Am r),vb true]
 |none=>.tup [.agg YI,vb false]
theorem TS{p:α->Bool}{l:List α}{i:Nat}(hi:i<l.length)(hb:∀j (hj:j<l.length),j<i->p l[j]=false)(h:p l[i]=true):l.find? p=some l[i]:=by
 grind [List.find?_eq_some_iff_getElem]
theorem QP{p:α->Bool}{l:List α}(hb:∀j (hj:j<l.length),p l[j]=false):l.find? p=none:=by
 grind [List.getElem_of_mem]
theorem Abx(p:CS)(pl:Int)(hx:BO x) :
  Bg Tryz.prog 358 [.ref 1000 0,vs p,vi pl] (Ai (NQ x ifs roots d) Af) fun r h'=>r=G5 (Dj x p pl)/\h'=Ai (NQ x ifs roots d) Af:=by
 unfold BO at hx;refine Bj (I9 (DB [4])) [(1000,1000),(1001,1001)] rfl BI hm rfl func358 aa2 rfl (Nz rfl) aa2 rfl (Xi {i:Nat // i<=x.length/\∀j (hj:j<x.length),j<i->(decide (x[j].path=p)&&decide (plc x[j].ver=pl))=false} (Xi (fun i=>⟨[(1,vs p),(2,vi pl),(6,.ref 6 0),(16,sl Am x),(17,vi (x.map Am).length),(18,vi i.1)],[(6,.cells YI),(1000,IY x ifs roots d),(1001,I4 d)],Af⟩) (Xi (fun i=>x.length-i.1) (Yi (Xi ⟨0,Al _,fun j _ h=>by omega⟩ ?_) ?_))))
 .exact⟨Z6,Z3,Fh,Bn aa2⟩
 intro⟨i,h1,h2⟩;refine Yi ?_ ?_
 .intro h;have h:(i:Int)<(x.map Am).length:=h;have h:i<x.length:=by simp_all
  have hg:x[i]?=some x[i]:=Ge h;refine Xi (Am x[i]) (Yi (Yi Wk (by simp_all)) (Yi rfl ?_));refine Yi (Nz rfl) (yN (Xi ⟨[(1,vs p),(2,vi pl),(6,.ref 6 0),(9,.ref 9 0),(16,sl Am x),(17,vi (x.map Am).length),(18,vi i)],[(6,.cells YI),(9,.cells (Am x[i])),(1000,IY x ifs roots d),(1001,I4 d)],Af⟩ (Yi ⟨Z7,Z4,Fh,Bn aa2⟩ (yN (C1 (C2 (tX x[i].ver) ?_))))));have next:(decide (x[i].path=p)&&decide (plc x[i].ver=pl))=false->∀j (hj:j<x.length),j<i+1->(decide (x[j].path=p)&&decide (plc x[j].ver=pl))=false:=fun hf j hj GC=>by
   grind
  refine Yi ?_ ?_
  .intro hp;have hp:x[i].path=p:=hp;refine Yi ?_ ?_
   .intro hq;have hq:plc x[i].ver=pl:=hq;have hr:Dj x p pl=some x[i]:=TS h (fun j hj GC=>h2 j hj GC) (by simp_all);refine Yi (Nz rfl) (Yi (Nz rfl) (yN ?_));have e:AV.tup [.agg (Am x[i]),vb true]=G5 (Dj x p pl):=by rw[hr]
    exact C2 (.refl _) (Yi e rfl)
   .intro hq;have hq:¬plc x[i].ver=pl:=hq;refine Yi (by grind [Au]) (Xi ⟨i+1,by omega,next (by simp_all)⟩ ?_)
    exact⟨by grind,Z6,Z3,Fh,Bn aa2⟩
  .intro hp;have hp:¬x[i].path=p:=hp;refine Yi (by grind [Au]) (Xi ⟨i+1,by omega,next (by simp_all)⟩ ?_)
   exact⟨by grind,Z6,Z3,Fh,Bn aa2⟩
 .intro h;have h:¬(i:Int)<(x.map Am).length:=h;have h:¬i<x.length:=by simp_all
  have hr:Dj x p pl=none:=QP fun j hj=>h2 j hj Wk;have e:AV.tup [.agg YI,vb false]=G5 (Dj x p pl):=by rw[hr]
  refine Yi (Nz rfl) (yN ?_);exact C2 (.refl _) (Yi e rfl)
abbrev Mc:Option (List Tm)->AV
 |some t=>.tup [sl Ac t,vb true]
 |none=>.tup [sl Ac [],vb false]
theorem Lz:Cj (.tup [nzA,vb false]) (Mc none):=Cj.tup ⟨.nil,.refl _,trivial⟩
theorem Qc{l:List α}{i:Int}(h:i<0):DN l i=none:=by grind [DN]
theorem PY{l:List α}{i:Int}(h:(l.length:Int)<=i):DN l i=none:=by
 grind [DN]
theorem SV{l:List α}{i:Int}(h0:¬i<0)(h:¬(l.length:Int)<=i):∃x,DN l i=some x/\l[i.toNat]?=some x/\x∈l:=by
 have hl:i.toNat<l.length:=by omega
 exact⟨l[i.toNat],by grind [DN],Ge hl,Ah hl⟩
theorem Abm(hr:∀q∈roots,BO q.set) :
  Bg Tryz.prog 315 [.ref 1000 0,.agg (AG i)] (Ai (NQ x ifs roots d) Af) fun r h'=>r=Mc ((DN roots i.number).map Gy)/\h'=Ai (NQ x ifs roots d) Af:=by
 refine Bj (I9 CX) [(1000,1000),(1001,1001)] rfl BI hm rfl func315 aa2 rfl (Nz rfl) aa2 rfl ?_;have VN:DN roots i.number=none->AV.tup [sl Ac [],vb false]=Mc ((DN roots i.number).map Gy):=fun h=>by simp_all
 refine Yi ?_ ?_
 .intro h;have h:i.number<0:=h;have e:=VN (Qc h);refine Yi aa2 ?_;exact C2 Lz (Yi e rfl)
 .intro h;have h:¬i.number<0:=h;refine Yi ?_ ?_
  .intro h2;have h2:((roots.map Ad).length:Int)<=i.number:=h2;have e:=VN (PY (by simp_all));refine Yi aa2 ?_;exact C2 Lz (Yi e rfl)
  .intro h2;have h2:¬((roots.map Ad).length:Int)<=i.number:=h2;refine Yi aa2 (Ao (SV h (by rw[Lm]at h2;exact h2)) (fun q hq=>?_));have hg:(roots.map Ad)[i.number.toNat]?=some (Ad q):=Bq hq.2.1;refine Xi (Ad q) (Yi (Yi Wk hg) (Yi rfl (yN (C2 (xg q (hr q hq.2.2)) (Yi aa2 ?_)))));have e:AV.tup [sl Ac (Gy q),vb true]=Mc ((DN roots i.number).map Gy):=by simp_all
   exact C2 (.refl _) (Yi e rfl)
theorem S0(v:Ver):0<=plc v/\plc v<1000000:=by
 unfold plc;cases h:By v with
 |true=>exact JS h
 |false=>simp
theorem nO{x:List Rl}{p:CS}{pl:Int}{r:Rl}(h:Dj x p pl=some r):r∈x/\r.path=p/\plc r.ver=pl:=by
 grind [Dj]
theorem fK(h:¬(0:Int)<(l.map Ac).length):AV.tup [sl Ac l,vb false]=Mc (OE l):=by
 cases l with
 |nil=>rfl
 |cons a l=>simp_all
theorem aG(h:(0:Int)<(l.map Ac).length):AV.tup [sl Ac l,vb true]=Mc (OE l):=by
 cases l with
 |nil=>simp_all
 |cons a l=>rfl
abbrev VQ:Option (List Tm):=match Dj x i.path i.place with
 |none=>none
 |some r=>match DN r.reqs i.number with
  |none=>none
  |some q=>OE (BM i.path i.place q)
theorem Abn(hx:BO x)(hr:∀r∈x,∀q∈r.reqs,BO q.set) :
  Bg Tryz.prog 317 [.ref 1000 0,.agg (AG i)] (Ai (NQ x ifs roots d) Af) fun r h'=>r=Mc (VQ x i)/\h'=Ai (NQ x ifs roots d) Af:=by
 have hc:=Abx x ifs roots d i.path i.place hx;cases h1:Dj x i.path i.place with
 |none=>
  rw[h1]at hc;have e:AV.tup [sl Ac [],vb false]=Mc (VQ x i):=by grind
  refine Bj (I9 (DB [2])) [(1000,1000),(1001,1001)] rfl BI hm rfl func317 aa2 rfl (Nz rfl) aa2 rfl (Xi (.gen [(1000,1000),(1001,1001)] 0) (Yi rfl (hc.imp ?_)));intro v1 g1 q1;have UY:=q1.1;have Qj:=q1.2;subst UY;subst Qj;refine yN (Xi ⟨[(0,.ref 1000 0),(3,.ref 3 0),(6,.ref 6 0),(7,vb false)],[(3,.cells (AG i)),(6,.cells YI),(1000,IY x ifs roots d),(1001,I4 d)],Af⟩ (Yi ⟨Z4,Z4,Fh,Bn aa2⟩ ?_))
  exact C2 Lz (Yi e rfl)
 |some r=>
  rw[h1]at hc;obtain⟨m1,m2,m3⟩:=nO h1;have qw:=S0 r.ver;rw[m3]at qw;have er:VQ x i=match DN r.reqs i.number with | none=>none | some q=>OE (BM i.path i.place q):=by grind
  have VN:DN r.reqs i.number=none->AV.tup [sl Ac [],vb false]=Mc (VQ x i):=fun h=>by simp_all
  refine Bj (I9 (DB [2,4,5])) [(1000,1000),(1001,1001)] rfl BI hm rfl func317 aa2 rfl (Nz rfl) aa2 rfl (Xi (.gen [(1000,1000),(1001,1001)] 0) (Yi rfl (hc.imp ?_)));intro v1 g1 q1;have UY:=q1.1;have Qj:=q1.2;subst UY;subst Qj;refine yN (Xi ⟨[(0,.ref 1000 0),(3,.ref 3 0),(6,.ref 6 0),(7,vb true)],[(3,.cells (AG i)),(6,.cells (Am r)),(1000,IY x ifs roots d),(1001,I4 d)],Af⟩ (Yi ⟨Z4,Z4,Fh,Bn aa2⟩ (Yi ?_ ?_)))
  .intro h;have h:i.number<0:=h;have e:=VN (Qc h);exact C2 Lz (Yi e rfl)
  .intro h;have h:¬i.number<0:=h;refine Yi ?_ ?_
   .intro h2;have h2:((r.reqs.map Ad).length:Int)<=i.number:=h2;have e:=VN (PY (by simp_all));exact C2 Lz (Yi e rfl)
   .intro h2;have h2:¬((r.reqs.map Ad).length:Int)<=i.number:=h2;refine Ao (SV h (by rw[Lm]at h2;exact h2)) (fun q hq=>?_);have hg:(r.reqs.map Ad)[i.number.toNat]?=some (Ad q):=Bq hq.2.1;refine Xi ⟨[(3,.ref 3 0),(6,.ref 6 0)],[(3,.cells (AG i)),(6,.cells (Am r)),(1000,IY x ifs roots d),(1001,I4 d)],Af⟩ (Yi ⟨Z2,Z4,Fh,Bn aa2⟩ (Xi (Ad q) (Yi (Yi Wk hg) (Yi rfl (yN (C2 (xh i.path i.place q (by grind [Au]) (hr r m1 q hq.2.2)) (Yi aa2 ?_)))))));have eq:VQ x i=OE (BM i.path i.place q):=by simp_all
    refine Xi ⟨[(8,sl Ac (BM i.path i.place q))],[(1000,IY x ifs roots d),(1001,I4 d)],Af⟩ (Yi ⟨Z1,Z2,Fh,Bn aa2⟩ (Yi ?_ ?_))
    .intro h3;have h3:(0:Int)<((BM i.path i.place q).map Ac).length:=h3;have e:AV.tup [sl Ac (BM i.path i.place q),vb true]=Mc (VQ x i):=by grind [aG]
     exact C2 (.refl _) (Yi e rfl)
    .intro h3;have h3:¬(0:Int)<((BM i.path i.place q).map Ac).length:=h3;have e:AV.tup [sl Ac (BM i.path i.place q),vb false]=Mc (VQ x i):=by grind [fK]
     exact C2 (.refl _) (Yi e rfl)
abbrev Vw(t:List Tm):Prop:=t.length<=500000000/\∀u∈t,BO u.set
theorem fY{a b:List Tm}{p:CS}(h:(AU a b p).2≠0):(AU a b p).1=[]:=by
 grind [AU]
abbrev U4:Option (List Tm):=match DN d i.left,DN d i.right with
 |some a,some b=>if(AU a b i.path).2=0 then some (AU a b i.path).1 else none
 |_,_=>none
theorem nQ{d:List (List Tm)}{i:Nf}(h:DN d i.left=none):U4 d i=none:=by grind
theorem nR{d:List (List Tm)}{i:Nf}(h:DN d i.right=none):U4 d i=none:=by grind
theorem Abp(hi:∀t∈d,Vw t) :
  Bg Tryz.prog 321 [.ref 1000 0,.agg (AG i)] (Ai (NQ x ifs roots d) Af) fun r h'=>r=Mc (U4 d i)/\h'=Ai (NQ x ifs roots d) Af:=by
 have VN:U4 d i=none->AV.tup [sl Ac [],vb false]=Mc (U4 d i):=fun h=>by rw[h]
 refine Bj (I9 (DB [2,4,5])) [(1000,1000),(1001,1001)] rfl BI hm rfl func321 aa2 rfl (Nz rfl) aa2 rfl (Xi ⟨[(0,.ref 1000 0),(3,.ref 3 0),(6,vi (d.map As).length)],[(3,.cells (AG i)),(1000,IY x ifs roots d),(1001,I4 d)],Af⟩ (Yi ⟨Z3,Z3,Fh,Bn aa2⟩ (Yi ?_ ?_)))
 .intro h;have h:i.left<0:=h;have e:=VN (nQ (Qc h));exact C2 Lz (Yi e rfl)
 intro h;have h:¬i.left<0:=h;refine Yi ?_ ?_
 .intro h2;have h2:((d.map As).length:Int)<=i.left:=h2;have e:=VN (nQ (PY (by simp_all)));exact C2 Lz (Yi e rfl)
 intro h2;have h2:¬((d.map As).length:Int)<=i.left:=h2;refine Yi ?_ ?_
 .intro h3;have h3:i.right<0:=h3;have e:=VN (nR (Qc h3));exact C2 Lz (Yi e rfl)
 intro h3;have h3:¬i.right<0:=h3;refine Yi ?_ ?_
 .intro h4;have h4:((d.map As).length:Int)<=i.right:=h4;have e:=VN (nR (PY (by simp_all)));exact C2 Lz (Yi e rfl)
 intro h4;have h4:¬((d.map As).length:Int)<=i.right:=h4;refine Ao (SV h (by rw[Lm]at h2;exact h2)) (fun a ha=>?_);refine Ao (SV h3 (by rw[Lm]at h4;exact h4)) (fun b hb=>?_);have ga:(d.map As)[i.left.toNat]?=some (As a):=Bq ha.2.1;have gb:(d.map As)[i.right.toNat]?=some (As b):=Bq hb.2.1;have sw:=hi a ha.2.2;have oO:=hi b hb.2.2;have hc:=xj a b i.path sw.1 oO.1 sw.2 oO.2;have er:U4 d i=if(AU a b i.path).2=0 then some (AU a b i.path).1 else none:=by grind
 refine Xi ⟨[(0,.ref 1000 0),(3,.ref 3 0)],[(3,.cells (AG i)),(1000,IY x ifs roots d),(1001,I4 d)],Af⟩ (Yi ⟨Z2,Z3,Fh,Bn aa2⟩ (Xi (As a) (Yi (Yi Wk ga) (Yi rfl (Xi (As b) (Yi (Yi Wk gb) (Yi rfl (C2 (hc) (Yi aa2 (Xi ⟨[(7,sl Ac (AU a b i.path).1),(8,vi (AU a b i.path).2)],[(1000,IY x ifs roots d),(1001,I4 d)],Af⟩ (Yi ⟨Z2,Z2,Fh,Bn aa2⟩ (Yi ?_ ?_))))))))))))
 .intro h5;have h5:(AU a b i.path).2=0:=h5;have e:AV.tup [sl Ac (AU a b i.path).1,vb true]=Mc (U4 d i):=by simp_all
  exact C2 (.refl _) (Yi e rfl)
 .intro h5;have h5:¬(AU a b i.path).2=0:=h5;have e:AV.tup [sl Ac (AU a b i.path).1,vb false]=Mc (U4 d i):=by grind [fY]
  exact C2 (.refl _) (Yi e rfl)
theorem tE:PC 314 [.agg (AG i)] (.agg (AG { i with number:=0 })):=by
 refine Ps CX func314 rfl (Nz rfl) (Yi (Nz rfl) (Yi (Nz rfl) (Yi (Nz rfl) (yN ?_))));exact .refl _
theorem tG:PC 316 [.agg (AG i)] (.agg (AG { i with path:=mt,place:=0,number:=0 })):=by
 refine Ps CX func316 rfl (Nz rfl) (Yi (Nz rfl) (Yi (Nz rfl) (Yi (Nz rfl) (Yi (Nz rfl) (Yi (Nz rfl) (yN ?_))))));exact .refl _
theorem tH:PC 318 [.agg (AG i)] (.agg (AG { i with path:=mt })):=by
 refine Ps CX func318 rfl (Nz rfl) (Yi (Nz rfl) (Yi (Nz rfl) (Yi (Nz rfl) (yN ?_))));exact .refl _
theorem tJ:PC 320 [.agg (AG i)] (.agg (AG { i with path:=mt,left:=0,right:=0 })):=by
 refine Ps CX func320 rfl (Nz rfl) (Yi (Nz rfl) (Yi (Nz rfl) (Yi (Nz rfl) (Yi (Nz rfl) (Yi (Nz rfl) (yN ?_))))));exact .refl _
theorem Sp:PC 256 [] (.agg [.v (Hf 314),.v (Hf 315),.v (Hf 316),.v (Hf 317),.v (Hf 318),.v (Hf 319),.v (Hf 320),.v (Hf 321)]):=by
 refine Ps CX func256 rfl (Nz rfl) (Yi (Nz rfl) (yN ?_));exact .refl _
theorem xf:PC 252 [vs s] (vb false):=by
 refine Ps CX func252 rfl (Nz rfl) (Yi ?_ ?_)
 .intro h;exact absurd rfl (show s≠s from h)
 .intro _;exact .refl _
theorem xm(z:Int):PC 313 [vi z] (vb false):=by
 refine Ps CX func313 rfl (Nz rfl) (Yi ?_ ?_)
 .intro h;exact absurd rfl (show z≠z from h)
 .intro _;exact .refl _
theorem Abk(a b:CS):PC 175 [vs a,vs b] (vi (Jm a b)):=by
 refine Ps CX func175 rfl (Nz rfl) (C1 (C2 (xf a) (C1 (C2 (xf b) (Yi ?_ ?_)))))
 .intro h;exact .of_eq (Aa vi (show(-1:Int)=Jm a b by grind [Jm,D1]))
 .intro h;refine Yi ?_ ?_
  .intro h2;exact .of_eq (Aa vi (show(1:Int)=Jm a b by grind [Jm,D1]))
  .intro h2;exact .of_eq (Aa vi (show(0:Int)=Jm a b by grind [Jm,D1]))
theorem tL(a b:Int):PC 253 [vi a,vi b] (vi (Gc a b)):=by
 refine Ps CX func253 rfl (Nz rfl) (C1 (C2 (xm a) (C1 (C2 (xm b) (Yi ?_ ?_)))))
 .intro h;exact .of_eq (Aa vi (show(-1:Int)=Gc a b by grind [Gc]))
 .intro h;refine Yi ?_ ?_
  .intro h2;exact .of_eq (Aa vi (show(1:Int)=Gc a b by grind [Gc]))
  .intro h2;exact .of_eq (Aa vi (show(0:Int)=Gc a b by grind [Gc]))
theorem Abj(a b:Int):PC 174 [.slice .none [[vi a],[vi b]]] (vi (if a≠0 then a else b)):=by
 refine Ps CX func174 rfl (Nz rfl) (Xi {i:Nat // i<=2/\(0<i->a=0)/\(1<i->b=0)} (Xi (fun i=>⟨[(3,vi 0),(6,.slice .none [[vi a],[vi b]]),(7,vi 2),(8,vi i.1)],[],Af⟩) (Xi (fun i=>2-i.1) (Yi (Xi ⟨0,by omega,by omega,by omega⟩ ?_) ?_))))
 .exact⟨Z4,Tv,Fh,Tv⟩
 intro⟨i,h1,h2,h3⟩;refine Yi ?_ ?_
 .intro h;have h:(i:Int)<2:=h
  match i,h1,h2,h3,h with
  |0,h1,h2,h3,h=>
   refine Xi [vi a] (Yi (Yi (Cb _) rfl) (Yi rfl (Yi ?_ ?_)))
   .intro h4;exact .of_eq (Aa vi (A3 h4).symm)
   .intro h4;refine Yi (by grind [Au]) (Xi ⟨1,by omega,fun _=>by omega,fun q=>absurd q aa1⟩ ?_);exact⟨by simp_all,Z4,Tv,Fh,Tv⟩
  |1,h1,h2,h3,h=>
   have ha:=h2 aa1;refine Xi [vi b] (Yi (Yi Wk rfl) (Yi rfl (Yi ?_ ?_)))
   .intro h4;exact .of_eq (Aa vi (AN Wk).symm)
   .intro h4;refine Yi (by grind [Au]) (Xi ⟨2,by omega,fun _=>ha,fun q=>by omega⟩ ?_);exact⟨by simp_all,Z4,Tv,Fh,Tv⟩
  |i+2,h1,h2,h3,h=>omega
 .intro h;have h:¬(i:Int)<2:=h;have ha:=h2 Wk;have hb:=h3 Wk;exact .of_eq (Aa vi (show(0:Int)=if a≠0 then a else b by omega))
theorem Tz(a b:Ver)(i:Nat)(hi:i<3)(h:∀j,j<i->Gc (part a j) (part b j)=0)(hn:Gc (part a i) (part b i)≠0):Jn a b=Gc (part a i) (part b i):=by
 unfold Jn
 match i,hi,h,hn with
 |0,_,_,hn=>exact A3 hn
 |1,_,h,hn=>
  have h0:Gc a.a b.a=0:=h 0 aa1;rw[AN Wk];exact A3 hn
 |2,_,h,hn=>
  have h0:Gc a.a b.a=0:=h 0 aa1;have h1:Gc a.b b.b=0:=h 1 aa1;rw[AN Wk,AN Wk];rfl
theorem lg(a b:Ver)(h:∀j,j<3->Gc (part a j) (part b j)=0):Jn a b=0:=by
 unfold Jn;have h0:Gc a.a b.a=0:=h 0 aa1;have h1:Gc a.b b.b=0:=h 1 aa1;have h2:Gc a.c b.c=0:=h 2 aa1;omega
theorem Abl(a b:Ver):PC 176 [.agg (Ej a),.agg (Ej b)] (vi (Jn a b)):=by
 refine Ps CX func176 rfl (Nz rfl) (yN (C2 (tC a) (yN (C2 (tC b) (Yi (Nz rfl) (yN (Yi aa2 (Xi {i:Nat // i<=3/\∀j,j<i->Gc (part a j) (part b j)=0} (Xi (fun i=>⟨[(5,.ref 5 0),(6,.ref 6 0),(13,vi i.1)],[(5,.cells (Ej a)),(6,.cells (Ej b))],Af⟩) (Xi (fun i=>3-i.1) (Yi (Xi ⟨0,by omega,fun j h=>by omega⟩ ?_) ?_)))))))))))
 .exact⟨Z3,Z2,Fh,Tv⟩
 intro⟨i,h1,h2⟩;refine Yi ?_ ?_
 .intro h;have h:(i:Int)<3:=h;have next:Gc (part a i) (part b i)=0->∀j,j<i+1->Gc (part a j) (part b j)=0:=fun hz j hj=>by
   grind
  match i,h1,h2,h,next with
  |0,h1,h2,h,next=>
   refine Yi ⟨by omega,by omega⟩ ?_;refine Yi ⟨by omega,by omega⟩ ?_;refine C2 (tL (part a 0) (part b 0)) (Yi aa2 (Yi ?_ ?_))
   .intro h4;exact .of_eq (Aa vi (Tz a b 0 aa1 h2 h4).symm)
   .intro h4;refine Yi (by grind [Au]) (Xi ⟨1,by omega,next (GF h4)⟩ ?_)
    exact⟨by simp_all,Z3,Z2,Fh,Tv⟩
  |1,h1,h2,h,next=>
   refine Yi ⟨by omega,by omega⟩ ?_;refine Yi ⟨by omega,by omega⟩ ?_;refine C2 (tL (part a 1) (part b 1)) (Yi aa2 (Yi ?_ ?_))
   .intro h4;exact .of_eq (Aa vi (Tz a b 1 aa1 h2 h4).symm)
   .intro h4;refine Yi (by grind [Au]) (Xi ⟨2,by omega,next (GF h4)⟩ ?_)
    exact⟨by simp_all,Z3,Z2,Fh,Tv⟩
  |2,h1,h2,h,next=>
   refine Yi ⟨by omega,by omega⟩ ?_;refine Yi ⟨by omega,by omega⟩ ?_;refine C2 (tL (part a 2) (part b 2)) (Yi aa2 (Yi ?_ ?_))
   .intro h4;exact .of_eq (Aa vi (Tz a b 2 aa1 h2 h4).symm)
   .intro h4;have h4:¬Gc (part a 2) (part b 2)≠0:=h4;refine Yi (by grind [Au]) (Xi ⟨3,by omega,next (GF h4)⟩ ?_)
    exact⟨by simp_all,Z3,Z2,Fh,Tv⟩
  |i+3,h1,h2,h,next=>omega
 .intro h;have h:¬(i:Int)<3:=h;exact .of_eq (Aa vi (lg a b fun j hj=>h2 j Wk).symm)
theorem Ab3(a b:Rl):PC 99 [.agg (Am a),.agg (Am b)] (vi (IJ a b)):=by
 refine Ps CX func99 rfl (Nz rfl) (C2 (Abk a.path b.path) (Yi (Nz rfl) (yN (C2 (Abl a.ver b.ver) (C2 (Abj (Jm a.path b.path) (Jn a.ver b.ver)) (Yi aa2 ?_))))));exact .refl _
abbrev Fl:Prop:=s.size<=1073741824
abbrev IE(q:Rq):Prop:=BO q.set/\Fl q.path
abbrev Fk(r:Rl):Prop:=Fl r.path/\∀q∈r.reqs,IE q
abbrev WN(nm:CS->CS)(p:CS):AV:=match AT p with
 |some m=>.tup [vs (nm p),vi m,vi 0]
 |none=>.tup [vs ⟨#[]⟩,vi 0,vi 4]
abbrev Vy(nm:CS->CS):Prop:=∀p:CS,Fl p->PC 66 [vs p] (WN nm p)
theorem Vy.none(h:Vy nm){p:CS}(hp:Fl p)(e:AT p=.none):PC 66 [vs p] (.tup [vs ⟨#[]⟩,vi 0,vi 4]):=by
 grind
theorem Vy.some(h:Vy nm){p:CS}{m:Int}(hp:Fl p)(e:AT p=.some m):PC 66 [vs p] (.tup [vs (nm p),vi m,vi 0]):=by
 grind
theorem wW(hL:Vy nm)(q:Rq)(hq:BO q.set)(hp:Fl q.path):PC 177 [.agg (Ad q),.v (.pointer none)] (vi (Hd none q)):=by
 cases fu:AT q.path with
 |none=>
  have e:(4:Int)=Hd none q:=by grind [Hd]
  have hl:=hL.none hp fu;refine Ps CX func177 rfl (Nz rfl) (C1 (C2 (hl) (Yi ?_ ?_)))
  .intro _;exact .of_eq (Aa vi e)
  .intro h;exact absurd (show(4:Int)≠0 by decide) h
 |some m=>
  have er:Hd none q=if(q.set.isEmpty||!decide (q.set=canon q.set)||false)=true then 1 else 0:=by grind [Hd]
  have hl:=hL.some hp fu;have hc:=Za q.set hq;have he:=w8 q.set (canon q.set) hq;have ql:∀{n:Int},n=(q.set.map Ab).length->n=0->q.set.isEmpty=true:=fun h1 h2=>by
   rw[Lm]at h1;rw[IU];exact Ay Wk
  have mn:¬((q.set.map Ab).length:Int)=0->q.set.isEmpty=false:=fun h=>by
   simp_all
  rcases Bt (decide (q.set=canon q.set))with h2 | h2
  .rw[h2]at he;refine Ps (DB []) func177 rfl (Nz rfl) (C1 (C2 (hl) (Yi ?_ ?_)))
   .intro h;exact absurd rfl h
   intro _;refine Yi ?_ ?_
   .intro h;have e:(1:Int)=Hd none q:=by grind
    refine Yi aa2 ?_;exact .of_eq (Aa vi e)
   intro h;have hn:=mn h;refine C2 (hc) (C2 (he) (Yi aa2 ?_));have e:(0:Int)=Hd none q:=by grind
   exact .of_eq (Aa vi e)
  .rw[h2]at he;refine Ps (DB []) func177 rfl (Nz rfl) (C1 (C2 (hl) (Yi ?_ ?_)))
   .intro h;exact absurd rfl h
   intro _;refine Yi ?_ ?_
   .intro h;have e:(1:Int)=Hd none q:=by simp_all
    refine Yi aa2 ?_;exact .of_eq (Aa vi e)
   intro h;have hn:=mn h;refine C2 (hc) (C2 (he) (Yi aa2 ?_));have e:(1:Int)=Hd none q:=by simp_all
   exact .of_eq (Aa vi e)
theorem wX(hL:Vy nm)(q b:Rq)(hq:BO q.set)(hp:Fl q.path):PC 177 [.agg (Ad q),.cptr (Ad b)] (vi (Hd (some b.path) q)):=by
 cases fu:AT q.path with
 |none=>
  have e:(4:Int)=Hd (some b.path) q:=by grind [Hd]
  have hl:=hL.none hp fu;refine Ps CX func177 rfl (Nz rfl) (C1 (C2 (hl) (Yi ?_ ?_)))
  .intro _;exact .of_eq (Aa vi e)
  .intro h;exact absurd (show(4:Int)≠0 by decide) h
 |some m=>
  have er:Hd (some b.path) q=if(q.set.isEmpty||!decide (q.set=canon q.set)||!Ez b.path q.path)=true then 1 else 0:=by grind [Hd]
  have hl:=hL.some hp fu;have hc:=Za q.set hq;have he:=w8 q.set (canon q.set) hq;have ql:∀{n:Int},n=(q.set.map Ab).length->n=0->q.set.isEmpty=true:=fun h1 h2=>by
   rw[Lm]at h1;rw[IU];exact Ay Wk
  have mn:¬((q.set.map Ab).length:Int)=0->q.set.isEmpty=false:=fun h=>by
   simp_all
  rcases Bt (decide (q.set=canon q.set))with h2 | h2
  .rw[h2]at he;refine Ps (DB []) func177 rfl (Nz rfl) (C1 (C2 (hl) (Yi ?_ ?_)))
   .intro h;exact absurd rfl h
   intro _;refine Yi ?_ ?_
   .intro h;have e:(1:Int)=Hd (some b.path) q:=by grind
    refine Yi aa2 ?_;exact .of_eq (Aa vi e)
   intro h;have hn:=mn h;refine C2 (hc) (C2 (he) (Yi ?_ ?_))
   .intro h3;refine Yi aa2 ?_;have e:(1:Int)=Hd (some b.path) q:=by grind [D1]
    exact .of_eq (Aa vi e)
   .intro h3;have h3:Op.bytesLess b.path.toList q.path.toList=true:=by grind
    refine Yi aa2 ?_;have e:(0:Int)=Hd (some b.path) q:=by grind [D1]
    exact .of_eq (Aa vi e)
  .rw[h2]at he;refine Ps (DB []) func177 rfl (Nz rfl) (C1 (C2 (hl) (Yi ?_ ?_)))
   .intro h;exact absurd rfl h
   intro _;refine Yi ?_ ?_
   .intro h;have e:(1:Int)=Hd (some b.path) q:=by simp_all
    refine Yi aa2 ?_;exact .of_eq (Aa vi e)
   intro h;have hn:=mn h;refine C2 (hc) (C2 (he) (Yi aa2 ?_));have e:(1:Int)=Hd (some b.path) q:=by simp_all
   exact .of_eq (Aa vi e)
abbrev Pi(l:List Rq)(k:Nat):List AV:=((l.map Ad)[k]?).getD []
abbrev wT(l:List Rq):Nat->AV
 |0=>.v (.pointer none)
 |k+1=>.cptr (Pi l k)
abbrev JH(l:List Rq):Nat->Option CS
 |0=>none
 |k+1=>(l[k]?).map (·.path)
theorem cf{l:List Rq}(h:k<l.length):Pi l k=Ad l[k]:=by
 grind
theorem YX{l:List Rq}(h:k<l.length):JH l (k+1)=some l[k].path:=by
 simp_all
theorem c65(hL:Vy nm)(l:List Rq)(hs:∀q∈l,IE q):PC 100 [sl Ad l] (vi (AH l)):=by
 refine Ps (DB []) func100 rfl (Nz rfl) (Yi ?_ ?_)
 .intro h;exact .of_eq (Aa vi (show(7:Int)=AH l by grind [AH]))
 intro h;have hl:l.length<=16:=by grind
 have Uc:AH l=D2 none l:=by grind [AH]
 refine Xi {i:Nat // i<=l.length/\D2 none l=D2 (JH l i) (l.drop i)} (Xi (fun i=>⟨[(0,sl Ad l),(3,wT l i.1),(10,sl Ad l),(11,vi (l.map Ad).length),(12,vi i.1)],[],Af⟩) (Xi (fun i=>l.length-i.1) (Yi (Xi ⟨0,Al _,rfl⟩ ?_) ?_)))
 .exact⟨Z5,Tv,Fh,Tv⟩
 intro⟨i,h1,h2⟩;refine Yi ?_ ?_
 .intro h;have h:i<l.length:=by simp_all
  have hg:l[i]?=some l[i]:=Ge h;have hd:l.drop i=l[i]::l.drop (i+1):=Be h;have hq:=hs l[i] (Ah h);have hc:PC 177 [.agg (Ad l[i]),wT l i] (vi (Hd (JH l i) l[i])):=by
   cases i with
   |zero=>exact wW hL _ hq.1 hq.2
   |succ k=>
    rw[YX (by omega:k<l.length)];show PC 177 [_,.cptr (Pi l k)] _;rw[cf (by omega:k<l.length)];exact wX hL _ _ hq.1 hq.2
  have JL:D2 none l=if Hd (JH l i) l[i]=0 then D2 (some l[i].path) (l.drop (i+1))else Hd (JH l i) l[i]:=by rw[h2,hd];rfl
  match i,h1,h2,h,hg,hd,hc,JL with
  |0,h1,h2,h,hg,hd,hc,JL=>
   refine Xi (Ad l[0]) (Yi (Yi Wk (by grind)) (Yi rfl (Yi (Nz rfl) (Yi (Nz rfl) (yN (C1 (C2 (hc) (Yi ?_ ?_))))))))
   .intro h4;exact .of_eq (Aa vi (show Hd (JH l (0)) l[0]=AH l by omega))
   .intro h4;refine Xi (Ad l[0]) (Yi (Yi Wk (by grind)) (Yi rfl (Yi (by grind [Au]) (Xi ⟨0+1,by omega,by grind⟩ ?_))));have e1:AV.cptr (Ad l[0])=.cptr (Pi l (0)):=by grind
    exact⟨by show l.length-(0+1)<l.length-(0);omega,⟨Zr,⟨e1,rfl⟩,Zr,Zr,Zr,Tv⟩,Tv,Fh,Tv⟩
  |k+1,h1,h2,h,hg,hd,hc,JL=>
   refine Xi (Ad l[k+1]) (Yi (Yi Wk (by simp[hg])) (Yi rfl ?_));refine Yi (Nz rfl) (Yi (Nz rfl) (yN (C1 (C2 (hc) (Yi ?_ ?_)))))
   .intro h4;exact .of_eq (Aa vi (show Hd (JH l (k+1)) l[k+1]=AH l by omega))
   .intro h4;refine Xi (Ad l[k+1]) (Yi (Yi Wk (by simp[hg])) (Yi rfl ?_));refine Yi (by show Au (((k+1:Nat):Int)+1);unfold Au;omega) ?_;refine Xi ⟨k+1+1,by omega,by grind⟩ ?_;have e1:AV.cptr (Ad l[k+1])=.cptr (Pi l (k+1)):=by grind
    exact⟨by show l.length-(k+1+1)<l.length-(k+1);omega,⟨Zr,⟨e1,rfl⟩,Zr,Zr,Zr,Tv⟩,Tv,Fh,Tv⟩
 .intro h;have h:¬i<l.length:=by simp_all
  have e:(0:Int)=AH l:=by rw[Uc,h2,HJ Wk];rfl
  exact .of_eq (Aa vi e)
theorem cU{cx:Cx}{st:St}{K:LS -> Prop}(t:List (Nat×AV))(h:List (Nat×HO))(h1:leT st (LS.st ⟨t,h,Af⟩).h t)(h2:leH st (LS.st ⟨t,h,Af⟩).h h)(k:K ⟨t,h,Af⟩)
    (h3:match cx.ext with | false => True | true => ∀j,1000 <= j -> j<2000 -> st.h j ≠ .free -> (LS.st ⟨t,h,Af⟩).h j ≠ .free := by first | exact trivial | exact Bn aa2):∃s,St.le cx st s /\ K s := ⟨_,⟨h1,h2,fun _ => .inl rfl,h3⟩,k⟩
end Go.Eng
