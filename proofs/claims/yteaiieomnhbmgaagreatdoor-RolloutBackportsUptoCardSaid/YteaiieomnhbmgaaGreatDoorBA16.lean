/- Lemmas 16. -/
import Derived.Test.YteaiieomnhbmgaaGreatDoorBA15
import Derived.Shelf.Slices.Delete
namespace Go.Eng
open Go.Proofs Go.Proofs.Tryz Go.Shelf Go.RowKit Go.Lib Go.Sort
theorem xk(F:Array Value)(i n:Nat)(hF:F.size=n*3)(hi:i<n)(z:List Value)(hz:z.length=3):(lay (lay F (i*3) (F.toList.drop ((i+1)*3))) ((n-1)*3) z).toList=F.toList.take (i*3)++F.toList.drop ((i+1)*3)++z:=by
 have l1:(F.toList.take (i*3)).length=i*3:=by simp;omega
 have l2:(F.toList.drop ((i+1)*3)).length=(n-(i+1))*3:=by simp;omega
 apply Da
 intro t
 rw[CN,lay_get? _ _ _ _ (by rw[Lib.lay_size];omega),lay_get? _ _ _ _ (by rw[l2];omega)]
 rw[hz,l2]
 by_cases c1:t<i*3
 .rw[Az ch,Az ch,D1 (by rw[Ak];omega),D1 ch,List.getElem?_take,Ay c1,CN]
 .by_cases c2:t<(n-1)*3
  .rw[Az ch,Ay ch,D1 (by rw[Ak];omega),BR ch,l1]
  .rw[BR (by rw[Ak];omega),Ak,l1,l2]
   by_cases c3:t<n*3
   .rw[Ay ch];congr 1;omega
   .rw[Az ch,Az ch,Array.getElem?_eq_none ch,List.getElem?_eq_none ch]
abbrev qQ:List Value:=[.string ⟨#[]⟩,.bool false,.slice none 0 0]
set_option maxHeartbeats 4000000 in
set_option maxRecDepth 1000000 in
theorem mH(w:World)(b cap i n:Nat)(F:Array Value)(hF:F.size=n*3)(hi:i<n)(MQ:n<=cap)(hH:Holds id w b 0 F)(h1:∀x∈F.toList,x.oneCell'=true) :
  Calls Tryz.prog 344 #[.slice (some ⟨b,0,none⟩) n cap,.int .i64 i,.int .i64 ((i:Int)+1)] w fun e w'=>e=.returned (.slice (some ⟨b,0,none⟩) (n-1) cap) /\
   w'=putRow id (Sort.ahead w 1) b 0 (lay (lay F (i*3) (F.toList.drop ((i+1)*3))) ((n-1)*3) qQ):=by
 obtain⟨i0,uK,w8⟩:∃i0,Tryz.prog.info? 343=some i0/\i0.size=3:=by
  obtain⟨i,z,h1,_,h2,_⟩:=HM (P:=Tryz.prog) (T:=tG) Ck (e:=343) (n:=2) Wk
  exact⟨i,h1,h2.trans Wk⟩
 obtain⟨news,Jc⟩:∃news,news=F.toList.drop ((i+1)*3):=⟨_,rfl⟩
 have Dd:news.length=(n-(i+1))*3:=by rw[Jc];simp;omega
 have FQ:∀t,t<(n-(i+1))*3->news[t]?=some F[(i+1)*3+t]!:=by
  intro t ht
  rw[Jc,FW,CN,getElem!_pos F ((i+1)*3+t) ch,Cg ch]
 obtain⟨A,hA,w6⟩:∃A:Addr,(if cap=i+1 then some (⟨b,0,none⟩:Addr)else some ⟨b,(i+1)*3,none⟩)=some A/\Hid (∀t u,news[t]?=some u->w.drew.cell? (A.add t)=some u):=by
  by_cases h:cap=i+1
  .refine⟨⟨b,0,none⟩,by simp[h],fun t u hu=>?_⟩
   have h0:news.length=0:=by rw[Dd];omega
   rw[Fm.1 h0]at hu
   simp at hu
  .refine⟨⟨b,(i+1)*3,none⟩,by simp[h],fun t u hu=>?_⟩
   have ht:t<(n-(i+1))*3:=by
    have:=(Bf.1 hu).1
    rwa [Dd]at this
   rw[FQ t ht]at hu
   rw[Addr.add_lit]
   have:=(hH ((i+1)*3+t) ch).1
   rw[ET]at this
   exact this.trans hu
 have s1:Hid (news.length=(n-(i+1))*3):=Dd
 have s2:Hid (∀u∈news,u.oneCell'=true):=by
  intro u hu
  rw[Jc]at hu
  exact h1 u (IF hu)
 have s3:Hid (∀t,t<news.length->(w.drew.cell? ⟨b,0+i*3+t,none⟩).isSome=true/\w.drew.frozen? ⟨b,0+i*3+t,none⟩=false):=by
  intro t ht
  rw[Dd]at ht
  have:=hH (i*3+t) ch
  rw[Nat.add_assoc]
  exact⟨by show(w.cell? _).isSome=true;rw[this.1];rfl,this.2⟩
 obtain⟨W1,hW1⟩:∃W1,W1=w.drew.setCells b (0+i*3) news:=⟨_,rfl⟩
 have wC : W1=putRow id (Sort.ahead w 1) b 0 (lay F (i*3) news):=by
  have:=putRow_setCells id (Sort.ahead w 1) b 0 news F (i*3) ch
  rw[putRow_self id (Sort.ahead w 1) b 0 F (holds_ahead id w 1 b 0 F hH),Hl]at this
  rw[hW1,<-this]
  rfl
 have hH1:Holds id W1 b 0 (lay F (i*3) news):=by rw[wC];exact holds_putRow id _ b 0 F _ (holds_ahead id w 1 b 0 F hH) (Lib.lay_size _ _ _)
 have KR:(storeCells ⟨b,0+(n-1)*3,none⟩ qQ 0).run Tryz.prog W1=.ok () (W1.setCells b (0+(n-1)*3) qQ):=by
  have:=run_storeCells_cells (P:=Tryz.prog) b (0+(n-1)*3) qQ 0 W1 (fun j hj=>by
   have hj:j<3:=hj
   have:=hH1 ((n-1)*3+j) (by rw[Lib.lay_size];omega)
   rw[show 0+(n-1)*3+0+j=0+((n-1)*3+j) by omega,this.1];rfl) (fun j hj=>by
   have hj:j<3:=hj
   have:=hH1 ((n-1)*3+j) (by rw[Lib.lay_size];omega)
   rw[show 0+(n-1)*3+0+j=0+((n-1)*3+j) by omega];exact this.2) (fun v hv=>by
   simp only[AU,Mi,or_false]at hv
   rcases hv with rfl | rfl | rfl<;>rfl)
  exact this
 have hcl:∀ty c,(Builtin.clear_ #[283] ty #[.slice (some ⟨b,(n-1)*3,none⟩) 1 c]).run Tryz.prog W1=.ok (.tuple #[]) (W1.setCells b (0+(n-1)*3) qQ):=fun ty c=>by
  have hv:=zeroValue343
  rw[ET]at KR⊢
  have hz:(Builtin.zeroCells (Value.agg #[Value.string { data:=#[] },Value.bool false,Value.slice none 0 0]).cells 1).toList=qQ:=by kernel_rfl
  simp[Builtin.clear_,run_underlying underlying283,hv,hz,KR]
 have AjQ:∀ty,(Builtin.clear_ #[283] ty #[.slice (some ⟨b,(i+(n-(i+1)))*3,none⟩) (n-(i+(n-(i+1)))) (cap-(i+(n-(i+1))))]).run Tryz.prog W1=.ok (.tuple #[]) (W1.setCells b (0+(n-1)*3) qQ):=fun ty=>by
  have e1:i+(n-(i+1))=n-1:=by omega
  have e2:n-(n-1)=1:=by omega
  rw[e1,e2];exact hcl ty _
 have X:Aside (W1=putRow id (Sort.ahead w 1) b 0 (lay F (i*3) news)):=wC
 have hW:Hid (W1=w.drew.setCells b (0+i*3) news):=hW1
 have Y:Aside (news=F.toList.drop ((i+1)*3)):=Jc
 have Z:Aside (news.length=(n-(i+1))*3):=Dd
 have hic:i<=cap:=by omega
 have hjc:i+1<=cap:=by omega
 have mixed:=Go.Eng.hm
 have hb1:(0:Int)<=(i:Int)+1:=by omega
 have dK:(i:Int)+1<=(n:Int):=by omega
 clear hW1 wC hH1 hH FQ Jc Dd KR hcl
 go_enter func344,ntmps344
 go_wp2_with fail
 go_region_law_o (refine step_append_room rfl (.tmp 22) (.tmp 25) 283 rfl 343 i0 3 underlying283 uK w8 b 0 i cap (by simp[Act.eval,Act.put]) A (n-(i+1)) (cap-(i+1)) news (by simp[Act.eval,Act.put]) s1.out w6.out s2.out ch s3.out ?_;rw[<-hW.out])
 go_wp2
 go_ret
 refine⟨by rw[show i+(n-(i+1))=n-1 by omega];rfl,?_⟩
 rw[X.out]
 have e1:=Y.out
 have e2:=Z.out
 rw[<-e1]
 have:=putRow_setCells id (Sort.ahead w 1) b 0 qQ (lay F (i*3) news) ((n-1)*3) (by rw[Lib.lay_size];show _+3<=_;omega)
 rw[Hl,ET]at this
 exact this
abbrev cE:List AV:=[Go.Eng.vs ⟨#[]⟩,vb false,BE]
theorem Ae3(l:List Tm)(i:Nat)(hi:i<l.length) :
  AP Tryz.prog 344 [.msl 1000 l.length,vi i,vi ((i:Int)+1)] (Ai [(1000,.arr 3 (l.map AG))] Ac) fun r h'=>r=.msl 2000 (l.length-1)/\h'=Ai [(1000,.dead),(2000,.arr 3 ((l.eraseIdx i).map AG))] Ac:=by
 have hE:Fz Tryz.prog 344:=aq 344 func344 Wk rfl
 have Dd:(l.eraseIdx i).length=l.length-1:=List.length_eraseIdx_of_lt hi
 have Jb:=Wz (P:=Tryz.prog) (f:=344) (es:=l.map AG) (sz:=3) (rest:=[.int .i64 i,.int .i64 ((i:Int)+1)]) (n':=l.length-1) (Q:=fun FG=>FG=(l.eraseIdx i).map AG++[cE]) hE (fun e=>by
  rw[D6]at e;subst e;simp at hi) (by rw[BK];omega) ?_
 .rw[BK]at Jb
  refine⟨hE,fun g w vals q1 q2 q3=>(Jb.2 g w vals q1 q2 q3).mono fun _ _ ⟨v,r,h',g',e1,⟨e2,FG,p1,p2⟩,rest⟩=>⟨v,r,h',g',e1,⟨e2,by rw[p2,p1,Mw (by rw[BK,Dd];exact Ap _),Au (by rw[BK,Dd];exact Ap _)]⟩,rest⟩⟩
 .intro g w b cap F hr hF hH hb hc
  rw[BK]at hF hc⊢
  have hu:∀e∈l.map AG,e.length=3:=fun e he=>by
   obtain⟨t,_,rfl⟩:=Ax.1 he;rfl
  refine(mH w b cap i l.length F hF hi hc hH hr.2.1).mono ?_
  rintro e w' ⟨rfl,rfl⟩
  refine⟨rfl,_,_,1,#[],?_,rfl,?_,fun cs hcs=>?_,fun g w hr=>?_,rfl⟩
  .rw[Lib.lay_size,Lib.lay_size]
  .rw[Ak,BK,Dd,DJ];omega
  .rcases Bh.1 hcs with h | h
   .obtain⟨t,_,rfl⟩:=Ax.1 h;rfl
   .rw[AK.1 h];rfl
  .rw[xk F i l.length hF hi qQ rfl,List.eraseIdx_eq_take_drop_succ,CR,AF,CR,Mr,List.map_drop,<-LI _ i hu,<-PF _ (i+1) hu]
   refine Cs.append (Cs.append (hr.take _) (hr.drop _)) ?_
   exact NG g w Fp qQ fun x hx=>by
    simp only[AU,Mi,or_false]at hx
    rcases hx with rfl | rfl | rfl<;>rfl
end Go.Eng
namespace Go.Eng
open Go.Proofs Go.Proofs.Tryz
variable {nm:CS->CS}{l r:List Tm}{t:Tm}{α:Type}{k:Nat}(a:List Tm)(s:CS)(c:UInt8)(b:List Tm)(i:Nat)(p:CS)
theorem zG(l:List Tm)(hl:BJ l)(Ek:l≠[]):AP Tryz.prog 345 [sl AG l] (Ai [] Ac) fun r h'=>r=.msl 2000 l.length/\h'=Ai [(2000,.arr 3 (l.map AG))] Ac:=by
 refine BO (LB (pla [(5,3)] [])) [(5,2000)] rfl Ck hm rfl func345 Wk rfl (Nz rfl) Wk rfl ?_;have FZ:Bi 3 (l.map AG)/\([]:C0).length=0/\(([]:C0).length+(l.map AG).length)*48<=140737488355328/\([]:C0).length+(l.map AG).length<=9223372036854775807:=by
  grind [CJ]
 refine Yi ?_ ?_
 .intro _;refine Yi FZ ?_;have e1:AV.msl 2000 (([]:C0).length+(l.map AG).length)=.msl 2000 l.length:=by simp
  refine Xi (.msl 2000 (([]:C0).length+(l.map AG).length)) (Yi (.refl _) (Yi e1 ?_))
  rfl
 .intro h;exact absurd (D6.1 h) Ek
theorem wh(x:Tm)(p:CS):PC 343 [.agg (AG x),.cptr [vs p]] (vb (decide (x.path=p))):=by
 refine Ps C3 func343 rfl (Nz rfl) (Yi ?_ ?_)
 .intro h;rw[At h];exact .refl _
 .intro h;rw[Aj h];exact .refl _
theorem NT{p:CS}:∀{c:List Tm} {i:Nat},(EX c).Nodup->∀(hi:i<c.length),c[i].path=p->c.eraseIdx i=F5 c p
 |t::c,0,hn,_,h=>by
  grind [EX,F5,List.filter_eq_self]
 |t::c,i+1,hn,hi,h=>by
  have hi:i<c.length:=by grind
  have h:c[i].path=p:=h;unfold EX at hn;rw[BB,HI]at hn
  have:t.path≠p:=fun e=>hn.1 (by simp_all)
  have ih:=NT hn.2 hi h
  grind [F5]
theorem QN{c:List Tm}(hl:BJ l)(h:CX l=some c):BJ c:=by
 have h1:=OB l l.length (Ap _);rw[CA]at h1;have h2:c=(Fk l).filter fun t=>!G8 t:=by
  grind [CX]
 have h3:c.length<=(Fk l).length:=by grind
 have h4:(Fk l).length=(DA l).length:=by
  grind [List.perm_ext_iff_of_nodup,MY,HY,H8,Es,Jz,List.Perm.length_eq]
 omega
abbrev sP:AV:=.tup [.agg cE,BE,vb false]
abbrev ve:Qz:=⟨[3],[],[],[],[],[],[],[],[(30,0),(34,1)],[],[]⟩
theorem me(l:List Tm)(p:CS)(hl:BJ l)(hs:∀t∈l,BJ t.set)(hn:Fl l p=none):PC 311 [sl AG l,vs p] sP:=by
 have hc:=c29 l hl hs;unfold Fl at hn;cases e:CX l with
 |none=>
  have e1:Lv l=.tup [sl AG [],vb false]:=by grind [Rf]
  rw[e1]at hc;have hi:=rp (Ch.ptr [vs p]) [] (fun x=>decide (x.path=p)) (fun x _=>wh x p) B0;refine Ps ve func311 rfl (Nz rfl) (C1 (C2 (hc) (C1 (C2 (hi) (Yi (Nz rfl) (yN ?_))))));exact .refl _
 |some c=>
  rw[e]at hn;have hn:(match DC c p with | none=>none | some t=>some (t,F5 c p))=none:=hn;have hfn:DC c p=none:=by
   grind
  have e1:Lv l=.tup [sl AG c,vb true]:=by grind [Rf]
  rw[e1]at hc;have rY:=QN hl e;have hi:=rp (Ch.ptr [vs p]) c (fun x=>decide (x.path=p)) (fun x _=>wh x p) ch;have hid:Je (fun x:Tm=>decide (x.path=p)) c 0=-1:=by
   grind [PN,DC]
  rw[hid]at hi;refine Ps ve func311 rfl (Nz rfl) (C1 (C2 (hc) (C1 (C2 (hi) (Yi ?_ ?_)))))
  .intro _;refine Yi (Nz rfl) (yN ?_);exact .refl _
  .intro h;exact absurd (show(-1:Int)<0 by decide) h
abbrev xv:Qz:=⟨[3],[],[],[],[],[],[],[],[(30,0),(34,2)],[],[]⟩
theorem mf(l:List Tm)(p:CS)(hl:BJ l)(hs:∀t∈l,BJ t.set)(hn:Fl l p=some (t,r)) :
  AP Tryz.prog 311 [sl AG l,vs p] (Ai [] Ac) fun v h'=>v=.tup [.agg (AG t),.msl 2000 r.length,vb true]/\h'=Ai [(2000,.arr 3 (r.map AG))] Ac:=by
 have hc:=c29 l hl hs;unfold Fl at hn;cases e:CX l with
 |none=>simp_all
 |some c=>
  rw[e]at hn;have hn:(match DC c p with | none=>none | some t=>some (t,F5 c p))=some (t,r):=hn;have YM:DC c p=some t/\F5 c p=r:=by
   grind
  have e1:Lv l=.tup [sl AG c,vb true]:=by grind [Rf]
  rw[e1]at hc;have rY:=QN hl e;have hi:=rp (Ch.ptr [vs p]) c (fun x=>decide (x.path=p)) (fun x _=>wh x p) ch;rcases PN (p:=fun x:Tm=>decide (x.path=p)) c 0 with ⟨_,h2⟩ | ⟨i,x,h1,h2,h3⟩
  .grind [DC]
  have hx:x=t:=by
   grind [DC]
  subst hx;rw[h1,Em]at hi;obtain⟨hic,hie⟩:=Bf.1 h2;have her:c.eraseIdx i=r:=by
   rw[<-YM.2];exact NT (H8 (EZ e)) hic (by grind)
  have hlr:c.length-1=r.length:=by grind
  have Ek:c≠[]:=fun h=>by simp_all
  have AjY:c.length<=1073741824:=rY;refine BO (LB xv) [(13400,2000)] rfl Ck hm rfl func311 Wk rfl (Nz rfl) Wk rfl (C1 (C2 (hc) (C1 (C2 (hi) (Yi ?_ ?_)))))
  .intro h;omega
  intro _;have hg:(c.map AG)[((i:Nat):Int).toNat]?=some (AG x):=by simp_all
  refine Xi (AG x) (Yi (Yi ch hg) (Yi rfl (yN (Xi c.length (Xi 3 (Xi (c.map AG) (Yi rfl (Yi (zG c rY Ek) (Yi (by grind [Av]) (Xi (c.length-1) (Xi ((c.eraseIdx i).map AG) (Yi rfl (Yi (Ae3 c i hic) (yN (Yi Wk (yN ?_))))))))))))))));have e2:AV.tup [.agg (AG x),.msl 2000 (c.length-1),vb true]=.tup [.agg (AG x),.msl 2000 r.length,vb true]:=by rw[hlr]
  have e3:Ai [(2000,HO.arr 3 ((c.eraseIdx i).map AG))] Ac=Ai [(2000,.arr 3 (r.map AG))] Ac:=by rw[her]
  exact C2 (.refl _) (Yi e2 e3)
abbrev ia:Qz:=⟨[],[],[],[],[],[],[],[],[],[(24,9),(30,12)],[2,3,5,6]⟩
abbrev Abe:AV:=.tup [sl AG (BF a b p).1,vi (BF a b p).2]
theorem XN{p:CS}(h:Fl l p=some (t,r)):∃c,CX l=some c/\t∈c/\r=F5 c p:=by
 grind [Fl,GL]
theorem XO{p:CS}(hl:BJ l)(h:Fl l p=some (t,r)):BJ t.set/\BJ r/\∀u∈r,BJ u.set:=by
 obtain⟨c,h1,h2,rfl⟩:=XN h;have hs:=EZ h1
 grind [S7,QN,F5,BS.canon]
theorem mj{c:List Tm}(h:CX l=some c):c.length<=l.length:=by
 have h1:=OB l l.length (Ap _);rw[CA]at h1;have h2:c=(Fk l).filter fun t=>!G8 t:=by
  grind [CX]
 have h3:c.length<=(Fk l).length:=by grind
 grind [List.perm_ext_iff_of_nodup,MY,HY,H8,Es,Jz,List.Perm.length_eq]
theorem XP{p:CS}(h:Fl l p=some (t,r)):r.length<=l.length:=by
 obtain⟨c,h1,h2,rfl⟩:=XN h;have h3:(F5 c p).length<=c.length:=DI _ _
 have:=mj h1
 omega
theorem jw(a b:A1):BJ (Qs a b):=by
 grind [In,cu]
theorem AdR(ha:a.length<=500000000)(hb:b.length<=500000000)(hsa:∀t∈a,BJ t.set)(hsb:∀t∈b,BJ t.set):PC 262 [sl AG a,sl AG b,vs p] (Abe a b p):=by
 have hfa:BJ a:=by omega
 have wJ:BJ b:=by omega
 have er:∀{l:List Tm} {e:Int},BF a b p=(l,e)->Abe a b p=.tup [sl AG l,vi e]:=fun h=>by simp_all
 have e0:BM (.tup [BE,vi 1]) (.tup [.slice .none [],vi 1]):=BM.tup ⟨.nil,.refl _,trivial⟩;cases h1:Fl a p with
 |none=>
  have hr:BF a b p=([],1):=by grind [BF]
  have c1:=me a p hfa hsa h1;cases h2:Fl b p with
  |none=>
   have c2:=me b p wJ hsb h2;refine Ps ia func262 rfl (Nz rfl) (C1 (C2 (c1) (yN (Xi ⟨[(1,sl AG b),(2,vs p),(8,.ref 8 0),(9,BE),(10,vb false)],[(8,.cells cE)],Ac⟩ (Yi ⟨Z5,Z1,Fh,Tv⟩ (C1 (C2 (c2) (yN (Xi ⟨[(8,.ref 8 0),(9,BE),(10,vb false),(11,.ref 11 0),(12,BE),(13,vb false)],[(8,.cells cE),(11,.cells cE)],Ac⟩ (Yi ⟨Z6,Z2,Fh,Tv⟩ ?_))))))))))
   exact e0.trans (.of_eq (er hr).symm)
  |some q2=>
   obtain⟨t2,r2⟩:=q2;have c2:=mf b p wJ hsb h2;refine Ps ia func262 rfl (Nz rfl) (C1 (C2 (c1) (yN (Xi ⟨[(1,sl AG b),(2,vs p),(8,.ref 8 0),(9,BE),(10,vb false)],[(8,.cells cE)],Ac⟩ (Yi ⟨Z5,Z1,Fh,Tv⟩ ?_)))))
   have z2:r2.length=(r2.map AG).length:=by simp_all
   refine Xi (.gen [] 1) (Yi rfl (c2.imp ?_));intro v2 g2 q2;have q21:=q2.1;have q22:=q2.2;subst q21;subst q22;refine yN (Xi ⟨[(8,.ref 8 0),(9,BE),(10,vb false),(11,.ref 11 0),(12,.msl 12600 r2.length),(13,vb true)],[(8,.cells cE),(11,.cells (AG t2)),(12600,.arr 3 (r2.map AG))],Ac⟩ (Yi ⟨Z6,Z3,Fh,Tv⟩ (Yi z2 ?_)));exact e0.trans (.of_eq (er hr).symm)
 |some q1=>
  obtain⟨t1,r1⟩:=q1;have c1:=mf a p hfa hsa h1;obtain⟨f1,f2,f3⟩:=XO hfa h1;cases h2:Fl b p with
  |none=>
   have hr:BF a b p=([],1):=by grind [BF]
   have c2:=me b p wJ hsb h2;refine Ps ia func262 rfl (Nz rfl) (Xi (.gen [] 1) (Yi rfl (c1.imp ?_)));intro v1 g1 q1;have q11:=q1.1;have td:=q1.2;subst q11;subst td;refine yN (Xi ⟨[(1,sl AG b),(2,vs p),(8,.ref 8 0),(9,.msl 11900 r1.length),(10,vb true)],[(8,.cells (AG t1)),(11900,.arr 3 (r1.map AG))],Ac⟩ (Yi ⟨Z5,Z2,Fh,Tv⟩ ?_))
   have z1:r1.length=(r1.map AG).length:=by simp_all
   refine Yi z1 (C1 (C2 (c2) (yN (Xi ⟨[(8,.ref 8 0),(9,.slice (.id 11900 3) (r1.map AG)),(10,vb true),(11,.ref 11 0),(12,BE),(13,vb false)],[(8,.cells (AG t1)),(11,.cells cE),(11900,.tok 3 (r1.map AG).length)],Ac⟩ (Yi ⟨Z6,Z3,Fh,Tv⟩ ?_)))))
   exact e0.trans (.of_eq (er hr).symm)
  |some q2=>
   obtain⟨t2,r2⟩:=q2;have c2:=mf b p wJ hsb h2;obtain⟨g1,g2,g3⟩:=XO wJ h2;refine Ps ia func262 rfl (Nz rfl) (Xi (.gen [] 1) (Yi rfl (c1.imp ?_)));intro v1 g1 q1;have q11:=q1.1;have td:=q1.2;subst q11;subst td;refine yN (Xi ⟨[(1,sl AG b),(2,vs p),(8,.ref 8 0),(9,.msl 11900 r1.length),(10,vb true)],[(8,.cells (AG t1)),(11900,.arr 3 (r1.map AG))],Ac⟩ (Yi ⟨Z5,Z2,Fh,Tv⟩ ?_))
   have z1:r1.length=(r1.map AG).length:=by simp_all
   have z2:r2.length=(r2.map AG).length:=by grind
   refine Yi z1 (Xi (.gen [] 1) (Yi rfl (c2.imp ?_)));intro v2 g2 q2;have q21:=q2.1;have q22:=q2.2;subst q21;subst q22;refine yN (Xi ⟨[(8,.ref 8 0),(9,.slice (.id 11900 3) (r1.map AG)),(10,vb true),(11,.ref 11 0),(12,.msl 12600 r2.length),(13,vb true)],[(8,.cells (AG t1)),(11,.cells (AG t2)),(11900,.tok 3 (r1.map AG).length),(12600,.arr 3 (r2.map AG))],Ac⟩ (Yi ⟨Z6,Z4,Fh,Tv⟩ (Yi z2 (Xi ⟨[(8,.ref 8 0),(9,.slice (.id 11900 3) (r1.map AG)),(11,.ref 11 0),(12,.slice (.id 12600 3) (r2.map AG))],[(8,.cells (AG t1)),(11,.cells (AG t2)),(11900,.tok 3 (r1.map AG).length),(12600,.tok 3 (r2.map AG).length)],Ac⟩ (Yi ⟨Z4,Z4,Fh,Tv⟩ ?_)))))
   have l1:=XP h1;have l2:=XP h2;have b1:Bi 3 (r2.map AG)/\(r1.map AG).length=(r1.map AG).length/\((r1.map AG).length+(r2.map AG).length)*48<=140737488355328/\(r1.map AG).length+(r2.map AG).length<=9223372036854775807:=
    ⟨CJ (enc:=AG) (n:=3) (fun _=>rfl) r2,rfl,by omega,by omega⟩
   refine Yi b1 (Yi (Nz rfl) (yN (C2 (AdW t1 t2 f1 g1) ?_)));have b2:Bi 3 [AG (Dt t1 t2)]/\(r1.map AG++r2.map AG).length=(r1.map AG).length+(r2.map AG).length/\((r1.map AG++r2.map AG).length+[AG (Dt t1 t2)].length)*48<=140737488355328/\(r1.map AG++r2.map AG).length+[AG (Dt t1 t2)].length<=9223372036854775807:=
    ⟨⟨rfl,trivial⟩,by grind,by grind,by grind⟩
   refine Yi b2 ?_;have wH:=c29 (r1++r2++[Dt t1 t2]) (by grind) (fun u hu=>by
    rcases Bh.1 hu with hu | hu
    .grind
    .rw[AK.1 hu];exact jw _ _)
   have e1:sl AG (r1++r2++[Dt t1 t2])=.slice .none (r1.map AG++r2.map AG++[AG (Dt t1 t2)]):=by simp
   have hc1:PC 312 [.slice .none (r1.map AG++r2.map AG++[AG (Dt t1 t2)])] (Lv (r1++r2++[Dt t1 t2])):=e1▸wH;cases hcn:CX (r1++r2++[Dt t1 t2])with
   |none=>
    have hr:BF a b p=([],8):=by grind [BF]
    have ec:Lv (r1++r2++[Dt t1 t2])=.tup [sl AG [],vb false]:=by grind [Rf]
    have hc:PC 312 [.slice .none (r1.map AG++r2.map AG++[AG (Dt t1 t2)])] (.tup [sl AG [],vb false]):=ec▸hc1;have e8:BM (.tup [BE,vi 8]) (.tup [.slice .none [],vi 8]):=BM.tup ⟨.nil,.refl _,trivial⟩;refine C2 (hc) (Yi Wk (Xi ⟨[(14,sl AG []),(15,vb false)],[],Ac⟩ (Yi ⟨Z2,Tv,Fh,Tv⟩ ?_)))
    exact e8.trans (.of_eq (er hr).symm)
   |some o=>
    have hr:BF a b p=(o,0):=by grind [BF]
    have ec:Lv (r1++r2++[Dt t1 t2])=.tup [sl AG o,vb true]:=by grind [Rf]
    have hc:PC 312 [.slice .none (r1.map AG++r2.map AG++[AG (Dt t1 t2)])] (.tup [sl AG o,vb true]):=ec▸hc1;refine C2 (hc) (Yi Wk (Xi ⟨[(14,sl AG o),(15,vb true)],[],Ac⟩ (Yi ⟨Z2,Tv,Fh,Tv⟩ ?_)))
    exact .of_eq (er hr).symm
def gi(h s:Nat->HO):Nat->Bool
 |0=>true
 |n+1=>(match h (1000+n)with |.free=>true |_=>(match s (1000+n)with |.free=>false |_=>true))&&gi h s n
theorem Ua{h s:Nat->HO}:∀{n:Nat},gi h s n=true->∀j,j<n->h (1000+j)≠.free->s (1000+j)≠.free
 |n+1,hd,j,hj,hn=>by
  simp only[gi,Am]at hd;rcases B2 j n with h1 | h1
  .exact Ua hd.2 j h1 hn
  grind
theorem A4{h s:Nat->HO}(hd:gi h s 1000=true):∀j,1000<=j->j<2000->h j≠.free->s j≠.free:=fun j h1 h2=>by
 have:=Ua hd (j-1000) ch
 simp_all
abbrev qP:List AV:=[vs ⟨#[]⟩,vi 0,vi 0,vi 0,BE,vs ⟨#[]⟩,vs ⟨#[]⟩,vs ⟨#[]⟩,vb false]
abbrev N5:Option Rl->AV
 |some r=>.tup [.agg (Ah r),vb true]
 |none=>.tup [.agg qP,vb false]
theorem aD{p:α->Bool}{l:List α}{i:Nat}(hi:i<l.length)(hb:∀j (hj:j<l.length),j<i->p l[j]=false)(h:p l[i]=true):l.find? p=some l[i]:=by
 grind [List.find?_eq_some_iff_getElem]
theorem jz{p:α->Bool}{l:List α}(hb:∀j (hj:j<l.length),p l[j]=false):l.find? p=none:=by
 grind [List.getElem_of_mem]
theorem tb(v:Ver):0<=plc v/\plc v<1000000:=by
 unfold plc;cases h:Be v with
 |true=>exact JZ h
 |false=>simp
abbrev vC(t:List Tm):Prop:=t.length<=500000000/\∀u∈t,BJ u.set
theorem vZ:PC 198 [vs s] (vb false):=by
 refine Ps C3 func198 rfl (Nz rfl) (Yi ?_ ?_)
 .intro h;exact absurd rfl (show s≠s from h)
 .intro _;exact .refl _
theorem zE(z:Int):PC 265 [vi z] (vb false):=by
 refine Ps C3 func265 rfl (Nz rfl) (Yi ?_ ?_)
 .intro h;exact absurd rfl (show z≠z from h)
 .intro _;exact .refl _
theorem AdG(a b:CS):PC 145 [vs a,vs b] (vi (IY a b)):=by
 refine Ps C3 func145 rfl (Nz rfl) (C1 (C2 (vZ a) (C1 (C2 (vZ b) (Yi ?_ ?_)))))
 .intro h;exact .of_eq (Aa vi (show(-1:Int)=IY a b by grind [IY,Ec]))
 .intro h;refine Yi ?_ ?_
  .intro h2;exact .of_eq (Aa vi (show(1:Int)=IY a b by grind [IY,Ec]))
  .intro h2;exact .of_eq (Aa vi (show(0:Int)=IY a b by grind [IY,Ec]))
theorem v8(a b:Int):PC 199 [vi a,vi b] (vi (Fu a b)):=by
 refine Ps C3 func199 rfl (Nz rfl) (C1 (C2 (zE a) (C1 (C2 (zE b) (Yi ?_ ?_)))))
 .intro h;exact .of_eq (Aa vi (show(-1:Int)=Fu a b by grind [Fu]))
 .intro h;refine Yi ?_ ?_
  .intro h2;exact .of_eq (Aa vi (show(1:Int)=Fu a b by grind [Fu]))
  .intro h2;exact .of_eq (Aa vi (show(0:Int)=Fu a b by grind [Fu]))
theorem AdF(a b:Int):PC 144 [.slice .none [[vi a],[vi b]]] (vi (if a≠0 then a else b)):=by
 refine Ps C3 func144 rfl (Nz rfl) (Xi {i:Nat // i<=2/\(0<i->a=0)/\(1<i->b=0)} (Xi (fun i=>⟨[(3,vi 0),(6,.slice .none [[vi a],[vi b]]),(7,vi 2),(8,vi i.1)],[],Ac⟩) (Xi (fun i=>2-i.1) (Yi (Xi ⟨0,by omega,by omega,by omega⟩ ?_) ?_))))
 .exact⟨Z4,Tv,Fh,Tv⟩
 intro⟨i,h1,h2,h3⟩;refine Yi ?_ ?_
 .intro h;have h:(i:Int)<2:=h
  match i,h1,h2,h3,h with
  |0,h1,h2,h3,h=>
   refine Xi [vi a] (Yi (Yi (Bv _) rfl) (Yi rfl (Yi ?_ ?_)))
   .intro h4;exact .of_eq (Aa vi (Ay h4).symm)
   .intro h4;refine Yi (by grind [Av]) (Xi ⟨1,by omega,fun _=>by omega,fun q=>absurd q Cl⟩ ?_);exact⟨by simp_all,Z4,Tv,Fh,Tv⟩
  |1,h1,h2,h3,h=>
   have ha:=h2 Cl;refine Xi [vi b] (Yi (Yi ch rfl) (Yi rfl (Yi ?_ ?_)))
   .intro h4;exact .of_eq (Aa vi (Az ch).symm)
   .intro h4;refine Yi (by grind [Av]) (Xi ⟨2,by omega,fun _=>ha,fun q=>by omega⟩ ?_);exact⟨by simp_all,Z4,Tv,Fh,Tv⟩
  |i+2,h1,h2,h3,h=>omega
 .intro h;have h:¬(i:Int)<2:=h;have ha:=h2 ch;have hb:=h3 ch;exact .of_eq (Aa vi (show(0:Int)=if a≠0 then a else b by omega))
theorem T1(a b:Ver)(i:Nat)(hi:i<3)(h:∀j,j<i->Fu (part a j) (part b j)=0)(hn:Fu (part a i) (part b i)≠0):Io a b=Fu (part a i) (part b i):=by
 unfold Io
 match i,hi,h,hn with
 |0,_,_,hn=>exact Ay hn
 |1,_,h,hn=>
  have h0:Fu a.a b.a=0:=h 0 Cl;rw[Az ch];exact Ay hn
 |2,_,h,hn=>
  have h0:Fu a.a b.a=0:=h 0 Cl;have h1:Fu a.b b.b=0:=h 1 Cl;rw[Az ch,Az ch];rfl
theorem mz(a b:Ver)(h:∀j,j<3->Fu (part a j) (part b j)=0):Io a b=0:=by
 unfold Io;have h0:Fu a.a b.a=0:=h 0 Cl;have h1:Fu a.b b.b=0:=h 1 Cl;have h2:Fu a.c b.c=0:=h 2 Cl;omega
theorem AdH(a b:Ver):PC 146 [.agg (CC a),.agg (CC b)] (vi (Io a b)):=by
 refine Ps C3 func146 rfl (Nz rfl) (yN (C2 (vV a) (yN (C2 (vV b) (Yi (Nz rfl) (yN (Yi Wk (Xi {i:Nat // i<=3/\∀j,j<i->Fu (part a j) (part b j)=0} (Xi (fun i=>⟨[(5,.ref 5 0),(6,.ref 6 0),(13,vi i.1)],[(5,.cells (CC a)),(6,.cells (CC b))],Ac⟩) (Xi (fun i=>3-i.1) (Yi (Xi ⟨0,by omega,fun j h=>by omega⟩ ?_) ?_)))))))))))
 .exact⟨Z3,Z2,Fh,Tv⟩
 intro⟨i,h1,h2⟩;refine Yi ?_ ?_
 .intro h;have h:(i:Int)<3:=h;have next:Fu (part a i) (part b i)=0->∀j,j<i+1->Fu (part a j) (part b j)=0:=fun hz j hj=>by
   grind
  match i,h1,h2,h,next with
  |0,h1,h2,h,next=>
   refine Yi ⟨by omega,by omega⟩ ?_;refine Yi ⟨by omega,by omega⟩ ?_;refine C2 (v8 (part a 0) (part b 0)) (Yi Wk (Yi ?_ ?_))
   .intro h4;exact .of_eq (Aa vi (T1 a b 0 Cl h2 h4).symm)
   .intro h4;refine Yi (by grind [Av]) (Xi ⟨1,by omega,next (Mt h4)⟩ ?_)
    exact⟨by simp_all,Z3,Z2,Fh,Tv⟩
  |1,h1,h2,h,next=>
   refine Yi ⟨by omega,by omega⟩ ?_;refine Yi ⟨by omega,by omega⟩ ?_;refine C2 (v8 (part a 1) (part b 1)) (Yi Wk (Yi ?_ ?_))
   .intro h4;exact .of_eq (Aa vi (T1 a b 1 Cl h2 h4).symm)
   .intro h4;refine Yi (by grind [Av]) (Xi ⟨2,by omega,next (Mt h4)⟩ ?_)
    exact⟨by simp_all,Z3,Z2,Fh,Tv⟩
  |2,h1,h2,h,next=>
   refine Yi ⟨by omega,by omega⟩ ?_;refine Yi ⟨by omega,by omega⟩ ?_;refine C2 (v8 (part a 2) (part b 2)) (Yi Wk (Yi ?_ ?_))
   .intro h4;exact .of_eq (Aa vi (T1 a b 2 Cl h2 h4).symm)
   .intro h4;have h4:¬Fu (part a 2) (part b 2)≠0:=h4;refine Yi (by grind [Av]) (Xi ⟨3,by omega,next (Mt h4)⟩ ?_)
    exact⟨by simp_all,Z3,Z2,Fh,Tv⟩
  |i+3,h1,h2,h,next=>omega
 .intro h;have h:¬(i:Int)<3:=h;exact .of_eq (Aa vi (mz a b fun j hj=>h2 j ch).symm)
theorem zu(a b:Rl):PC 85 [.agg (Ah a),.agg (Ah b)] (vi (BU a b)):=by
 refine Ps C3 func85 rfl (Nz rfl) (C2 (AdG a.path b.path) (Yi (Nz rfl) (yN (C2 (AdH a.ver b.ver) (C2 (AdF (IY a.path b.path) (Io a.ver b.ver)) (Yi Wk ?_))))));exact .refl _
abbrev ED:Prop:=s.size<=1073741824
abbrev FA(q:Rq):Prop:=BJ q.set/\ED q.path
abbrev CT(r:Rl):Prop:=ED r.path/\∀q∈r.reqs,FA q
abbrev PS(nm:CS->CS)(p:CS):AV:=match A5 p with
 |some m=>.tup [vs (nm p),vi m,vi 0]
 |none=>.tup [vs ⟨#[]⟩,vi 0,vi 4]
abbrev VU(nm:CS->CS):Prop:=∀p:CS,ED p->PC 167 [vs p] (PS nm p)
theorem VU.none(h:VU nm){p:CS}(hp:ED p)(e:A5 p=.none):PC 167 [vs p] (.tup [vs ⟨#[]⟩,vi 0,vi 4]):=by
 grind
theorem VU.some(h:VU nm){p:CS}{m:Int}(hp:ED p)(e:A5 p=.some m):PC 167 [vs p] (.tup [vs (nm p),vi m,vi 0]):=by
 grind
theorem zv(hL:VU nm)(q:Rq)(hq:BJ q.set)(hp:ED q.path):PC 107 [.agg (As q),.v (.pointer none)] (vi (GY none q)):=by
 cases ZD:A5 q.path with
 |none=>
  have e:(4:Int)=GY none q:=by grind [GY]
  have hl:=hL.none hp ZD;refine Ps C3 func107 rfl (Nz rfl) (C1 (C2 (hl) (Yi ?_ ?_)))
  .intro _;exact .of_eq (Aa vi e)
  .intro h;exact absurd (show(4:Int)≠0 by decide) h
 |some m=>
  have er:GY none q=if(q.set.isEmpty||!decide (q.set=canon q.set)||false)=true then 1 else 0:=by grind [GY]
  have hl:=hL.some hp ZD;have hc:=Yo q.set hq;have he:=rn q.set (canon q.set) hq;have rX:∀{n:Int},n=(q.set.map Ag).length->n=0->q.set.isEmpty=true:=fun h1 h2=>by
   rw[Lm]at h1;rw[Mh];exact AT ch
  have nG:¬((q.set.map Ag).length:Int)=0->q.set.isEmpty=false:=fun h=>by
   simp_all
  rcases Bt (decide (q.set=canon q.set))with h2 | h2
  .rw[h2]at he;refine Ps (Hx []) func107 rfl (Nz rfl) (C1 (C2 (hl) (Yi ?_ ?_)))
   .intro h;exact absurd rfl h
   intro _;refine Yi ?_ ?_
   .intro h;have e:(1:Int)=GY none q:=by grind
    refine Yi Wk ?_;exact .of_eq (Aa vi e)
   intro h;have hn:=nG h;refine C2 (hc) (C2 (he) (Yi Wk ?_));have e:(0:Int)=GY none q:=by grind
   exact .of_eq (Aa vi e)
  .rw[h2]at he;refine Ps (Hx []) func107 rfl (Nz rfl) (C1 (C2 (hl) (Yi ?_ ?_)))
   .intro h;exact absurd rfl h
   intro _;refine Yi ?_ ?_
   .intro h;have e:(1:Int)=GY none q:=by simp_all
    refine Yi Wk ?_;exact .of_eq (Aa vi e)
   intro h;have hn:=nG h;refine C2 (hc) (C2 (he) (Yi Wk ?_));have e:(1:Int)=GY none q:=by simp_all
   exact .of_eq (Aa vi e)
theorem zw(hL:VU nm)(q b:Rq)(hq:BJ q.set)(hp:ED q.path):PC 107 [.agg (As q),.cptr (As b)] (vi (GY (some b.path) q)):=by
 cases ZD:A5 q.path with
 |none=>
  have e:(4:Int)=GY (some b.path) q:=by grind [GY]
  have hl:=hL.none hp ZD;refine Ps C3 func107 rfl (Nz rfl) (C1 (C2 (hl) (Yi ?_ ?_)))
  .intro _;exact .of_eq (Aa vi e)
  .intro h;exact absurd (show(4:Int)≠0 by decide) h
 |some m=>
  have er:GY (some b.path) q=if(q.set.isEmpty||!decide (q.set=canon q.set)||!Dz b.path q.path)=true then 1 else 0:=by grind [GY]
  have hl:=hL.some hp ZD;have hc:=Yo q.set hq;have he:=rn q.set (canon q.set) hq;have rX:∀{n:Int},n=(q.set.map Ag).length->n=0->q.set.isEmpty=true:=fun h1 h2=>by
   rw[Lm]at h1;rw[Mh];exact AT ch
  have nG:¬((q.set.map Ag).length:Int)=0->q.set.isEmpty=false:=fun h=>by
   simp_all
  rcases Bt (decide (q.set=canon q.set))with h2 | h2
  .rw[h2]at he;refine Ps (Hx []) func107 rfl (Nz rfl) (C1 (C2 (hl) (Yi ?_ ?_)))
   .intro h;exact absurd rfl h
   intro _;refine Yi ?_ ?_
   .intro h;have e:(1:Int)=GY (some b.path) q:=by grind
    refine Yi Wk ?_;exact .of_eq (Aa vi e)
   intro h;have hn:=nG h;refine C2 (hc) (C2 (he) (Yi ?_ ?_))
   .intro h3;refine Yi Wk ?_;have e:(1:Int)=GY (some b.path) q:=by grind [Ec]
    exact .of_eq (Aa vi e)
   .intro h3;have h3:Op.bytesLess b.path.toList q.path.toList=true:=by grind
    refine Yi Wk ?_;have e:(0:Int)=GY (some b.path) q:=by grind [Ec]
    exact .of_eq (Aa vi e)
  .rw[h2]at he;refine Ps (Hx []) func107 rfl (Nz rfl) (C1 (C2 (hl) (Yi ?_ ?_)))
   .intro h;exact absurd rfl h
   intro _;refine Yi ?_ ?_
   .intro h;have e:(1:Int)=GY (some b.path) q:=by simp_all
    refine Yi Wk ?_;exact .of_eq (Aa vi e)
   intro h;have hn:=nG h;refine C2 (hc) (C2 (he) (Yi Wk ?_));have e:(1:Int)=GY (some b.path) q:=by simp_all
   exact .of_eq (Aa vi e)
abbrev Pl(l:List Rq)(k:Nat):List AV:=((l.map As)[k]?).getD []
abbrev zo(l:List Rq):Nat->AV
 |0=>.v (.pointer none)
 |k+1=>.cptr (Pl l k)
abbrev JH(l:List Rq):Nat->Option CS
 |0=>none
 |k+1=>(l[k]?).map (·.path)
theorem dt{l:List Rq}(h:k<l.length):Pl l k=As l[k]:=by
 grind
theorem ZW{l:List Rq}(h:k<l.length):JH l (k+1)=some l[k].path:=by
 simp_all
theorem c65(hL:VU nm)(l:List Rq)(hs:∀q∈l,FA q):PC 64 [sl As l] (vi (AR l)):=by
 refine Ps (Hx []) func64 rfl (Nz rfl) (Yi ?_ ?_)
 .intro h;exact .of_eq (Aa vi (show(7:Int)=AR l by grind [AR]))
 intro h;have hl:l.length<=16:=by grind
 have Uw:AR l=D2 none l:=by grind [AR]
 refine Xi {i:Nat // i<=l.length/\D2 none l=D2 (JH l i) (l.drop i)} (Xi (fun i=>⟨[(0,sl As l),(3,zo l i.1),(10,sl As l),(11,vi (l.map As).length),(12,vi i.1)],[],Ac⟩) (Xi (fun i=>l.length-i.1) (Yi (Xi ⟨0,Al _,rfl⟩ ?_) ?_)))
 .exact⟨Z5,Tv,Fh,Tv⟩
 intro⟨i,h1,h2⟩;refine Yi ?_ ?_
 .intro h;have h:i<l.length:=by simp_all
  have hg:l[i]?=some l[i]:=Ge h;have hd:l.drop i=l[i]::l.drop (i+1):=A2 h;have hq:=hs l[i] (Ae h);have hc:PC 107 [.agg (As l[i]),zo l i] (vi (GY (JH l i) l[i])):=by
   cases i with
   |zero=>exact zv hL _ hq.1 hq.2
   |succ k=>
    rw[ZW (by omega:k<l.length)];show PC 107 [_,.cptr (Pl l k)] _;rw[dt (by omega:k<l.length)];exact zw hL _ _ hq.1 hq.2
  have JO:D2 none l=if GY (JH l i) l[i]=0 then D2 (some l[i].path) (l.drop (i+1))else GY (JH l i) l[i]:=by rw[h2,hd];rfl
  match i,h1,h2,h,hg,hd,hc,JO with
  |0,h1,h2,h,hg,hd,hc,JO=>
   refine Xi (As l[0]) (Yi (Yi ch (by grind)) (Yi rfl (Yi (Nz rfl) (Yi (Nz rfl) (yN (C1 (C2 (hc) (Yi ?_ ?_))))))))
   .intro h4;exact .of_eq (Aa vi (show GY (JH l (0)) l[0]=AR l by omega))
   .intro h4;refine Xi (As l[0]) (Yi (Yi ch (by grind)) (Yi rfl (Yi (by grind [Av]) (Xi ⟨0+1,by omega,by grind⟩ ?_))));have e1:AV.cptr (As l[0])=.cptr (Pl l (0)):=by grind
    exact⟨by show l.length-(0+1)<l.length-(0);omega,⟨Zr,⟨e1,rfl⟩,Zr,Zr,Zr,Tv⟩,Tv,Fh,Tv⟩
  |k+1,h1,h2,h,hg,hd,hc,JO=>
   refine Xi (As l[k+1]) (Yi (Yi ch (by simp[hg])) (Yi rfl ?_));refine Yi (Nz rfl) (Yi (Nz rfl) (yN (C1 (C2 (hc) (Yi ?_ ?_)))))
   .intro h4;exact .of_eq (Aa vi (show GY (JH l (k+1)) l[k+1]=AR l by omega))
   .intro h4;refine Xi (As l[k+1]) (Yi (Yi ch (by simp[hg])) (Yi rfl ?_));refine Yi (by show Av (((k+1:Nat):Int)+1);unfold Av;omega) ?_;refine Xi ⟨k+1+1,by omega,by grind⟩ ?_;have e1:AV.cptr (As l[k+1])=.cptr (Pl l (k+1)):=by grind
    exact⟨by show l.length-(k+1+1)<l.length-(k+1);omega,⟨Zr,⟨e1,rfl⟩,Zr,Zr,Zr,Tv⟩,Tv,Fh,Tv⟩
 .intro h;have h:¬i<l.length:=by simp_all
  have e:(0:Int)=AR l:=by rw[Uw,h2,KW ch];rfl
  exact .of_eq (Aa vi e)
abbrev rC(r:Rl):Nat->CS
 |0=>r.arch
 |1=>r.ifc
 |_=>r.cert
theorem wm{r:Rl}(h:∀j,j<3->Ej (rC r j)=true):(Ej r.arch&&Ej r.ifc&&Ej r.cert)=true:=by
 have h0:Ej r.arch=true:=h 0 Cl;have h1:Ej r.ifc=true:=h 1 Cl;have h2:Ej r.cert=true:=h 2 Cl;simp_all
theorem Adv(hL:VU nm)(r:Rl)(hr:CT r):PC 147 [.agg (Ah r)] (vi (CI r)):=by
 cases ZD:A5 r.path with
 |none=>
  have e:(4:Int)=CI r:=by grind [CI]
  have hl:=hL.none hr.1 ZD;refine Ps C3 func147 rfl (Nz rfl) (C1 (C2 (hl) (Yi ?_ ?_)))
  .intro _;exact .of_eq (Aa vi e)
  .intro h;exact absurd (show(4:Int)≠0 by decide) h
 |some m=>
  have er:CI r=if(!Be r.ver||!decide (r.ver.a=m))=true then 2 else if AR r.reqs≠0 then AR r.reqs else if(Ej r.arch&&Ej r.ifc&&Ej r.cert)=true then 0 else 1:=by grind [CI]
  have hl:=hL.some hr.1 ZD;have hv:=zt r.ver;have hc:=c65 hL r.reqs hr.2;rcases Bt (Be r.ver)with h2 | h2
  .rw[h2]at hv;refine Ps (Hx []) func147 rfl (Nz rfl) (C1 (C2 (hl) (Yi ?_ ?_)))
   .intro h;exact absurd rfl h
   intro _;refine yN (C1 (C2 (hv) (Yi ?_ ?_)))
   .intro h;have e:(2:Int)=CI r:=by simp_all
    exact .of_eq (Aa vi e)
   intro h;have h3:r.ver.a=m:=Mt h;have er2:CI r=if AR r.reqs≠0 then AR r.reqs else if(Ej r.arch&&Ej r.ifc&&Ej r.cert)=true then 0 else 1:=by simp_all
   refine C1 (C2 (hc) (Yi ?_ ?_))
   .intro h4;exact .of_eq (Aa vi (show AR r.reqs=CI r by omega))
   intro h4;have er3:CI r=if(Ej r.arch&&Ej r.ifc&&Ej r.cert)=true then 0 else 1:=by omega
   refine Xi {i:Nat // i<=3/\∀j,j<i->Ej (rC r j)=true} (Xi (fun i=>⟨[(41,.slice (.id 41 1) [[vs r.arch],[vs r.ifc],[vs r.cert]]),(42,vi 3),(43,vi i.1)],[(41,.tok 1 3)],Ac⟩) (Xi (fun i=>3-i.1) (Yi (Xi ⟨0,by omega,fun j h=>by omega⟩ ?_) ?_)))
   .exact⟨Z3,Z1,Fh,Tv⟩
   intro⟨i,i1,i2⟩;refine Yi ?_ ?_
   .intro h;have h:(i:Int)<3:=h;have next:Ej (rC r i)=true->∀j,j<i+1->Ej (rC r j)=true:=fun hz j hj=>by
     grind
    match i,i1,i2,h,next with
    |0,i1,i2,h,next=>
     refine Xi [vs r.arch] (Yi (Yi ch rfl) (Yi rfl (Yi ?_ ?_)))
     .intro h5;refine Yi ?_ ?_
      .intro h6;have e:(1:Int)=CI r:=by grind [Ej]
       exact .of_eq (Aa vi e)
      .intro h6;refine Yi (by grind [Av]) (Xi ⟨1,by omega,next (show Ej r.arch=true by grind [Ej])⟩ ?_)
       exact⟨by simp_all,Z3,Z1,Fh,Tv⟩
     .intro h5;refine Yi (by grind [Av]) (Xi ⟨1,by omega,next (show Ej r.arch=true by grind [Ej])⟩ ?_)
      exact⟨by simp_all,Z3,Z1,Fh,Tv⟩
    |1,i1,i2,h,next=>
     refine Xi [vs r.ifc] (Yi (Yi ch rfl) (Yi rfl (Yi ?_ ?_)))
     .intro h5;have h5:((r.ifc.size:Nat):Int)≠0:=h5;refine Yi ?_ ?_
      .intro h6;have h6:((r.ifc.size:Nat):Int)≠32:=h6;have e:(1:Int)=CI r:=by grind [Ej]
       exact .of_eq (Aa vi e)
      .intro h6;have h6:¬((r.ifc.size:Nat):Int)≠32:=h6;refine Yi (by grind [Av]) (Xi ⟨2,by omega,next (show Ej r.ifc=true by grind [Ej])⟩ ?_)
       exact⟨by simp_all,Z3,Z1,Fh,Tv⟩
     .intro h5;have h5:¬((r.ifc.size:Nat):Int)≠0:=h5;refine Yi (by grind [Av]) (Xi ⟨2,by omega,next (show Ej r.ifc=true by grind [Ej])⟩ ?_)
      exact⟨by simp_all,Z3,Z1,Fh,Tv⟩
    |2,i1,i2,h,next=>
     refine Xi [vs r.cert] (Yi (Yi ch rfl) (Yi rfl (Yi ?_ ?_)))
     .intro h5;have h5:((r.cert.size:Nat):Int)≠0:=h5;refine Yi ?_ ?_
      .intro h6;have h6:((r.cert.size:Nat):Int)≠32:=h6;have e:(1:Int)=CI r:=by grind [Ej]
       exact .of_eq (Aa vi e)
      .intro h6;have h6:¬((r.cert.size:Nat):Int)≠32:=h6;refine Yi (by grind [Av]) (Xi ⟨3,by omega,next (show Ej r.cert=true by grind [Ej])⟩ ?_)
       exact⟨by simp_all,Z3,Z1,Fh,Tv⟩
     .intro h5;have h5:¬((r.cert.size:Nat):Int)≠0:=h5;refine Yi (by grind [Av]) (Xi ⟨3,by omega,next (show Ej r.cert=true by grind [Ej])⟩ ?_)
      exact⟨by simp_all,Z3,Z1,Fh,Tv⟩
    |i+3,i1,i2,h,next=>omega
   .intro h;have h:¬(i:Int)<3:=h;have e:(0:Int)=CI r:=by grind [wm]
    exact .of_eq (Aa vi e)
  .rw[h2]at hv;have e:(2:Int)=CI r:=by simp_all
   refine Ps (Hx []) func147 rfl (Nz rfl) (C1 (C2 (hl) (Yi ?_ ?_)))
   .intro h;exact absurd rfl h
   intro _;refine yN (C1 (C2 (hv) ?_));exact .of_eq (Aa vi e)
theorem xf{a b:Rl}(h:a.path=b.path/\a.ver.a=b.ver.a/\a.ver.b=b.ver.b/\a.ver.c=b.ver.c):EL a=EL b:=by
 unfold EL;obtain⟨h1,h2,h3,h4⟩:=h
 have:a.ver=b.ver:=by
  cases ha:a.ver<;>simp_all
 simp_all
theorem Xl{a b:Rl}(h:EL a=EL b):a.path=b.path/\a.ver.a=b.ver.a/\a.ver.b=b.ver.b/\a.ver.c=b.ver.c:=by
 grind [EL]
abbrev Yj(x:List Rl):Nat->Option Rl
 |0=>none
 |k+1=>x[k]?
theorem yG(hL:VU nm)(x:List Rl)(ifs:C0)(hs:∀r∈x,CT r):PC 86 [.agg (Ic x ifs)] (vi (AC x)):=by
 refine Ps (Hx []) func86 rfl (Nz rfl) (Yi ?_ ?_)
 .intro h;exact .of_eq (Aa vi (show(7:Int)=AC x by grind [AC]))
 intro h;have hl:x.length<=256:=by grind
 have Uw:AC x=Cb none x:=by grind [AC]
 refine Xi {i:Nat // i<=x.length/\Cb none x=Cb (Yj x i) (x.drop i)} (Xi (fun i=>⟨[(1,.ref 1 0),(12,sl Ah x),(13,vi (x.map Ah).length),(14,vi i.1)],[(1,.cells (Ic x ifs))],Ac⟩) (Xi (fun i=>x.length-i.1) (Yi (Xi ⟨0,Al _,rfl⟩ ?_) ?_)))
 .exact⟨Z4,Z1,Fh,Tv⟩
 intro⟨i,h1,h2⟩;refine Yi ?_ ?_
 .intro h;have h:i<x.length:=by simp_all
  have hg:x[i]?=some x[i]:=Ge h;have hd:x.drop i=x[i]::x.drop (i+1):=A2 h;have hc:=Adv hL x[i] (hs x[i] (Ae h));have JO:Cb none x=if CI x[i]≠0 then CI x[i]else match Yj x i with
   |none=>Cb (some x[i]) (x.drop (i+1))
   |some b=>if EL b=EL x[i]then 5 else if 0<BU b x[i]then 1 else Cb (some x[i]) (x.drop (i+1)):=by rw[h2,hd];rfl
  have uO:Yj x (i+1)=some x[i]:=Ge h;refine Xi (Ah x[i]) (Yi (Yi ch (by simp[hg])) (Yi rfl ?_));refine Yi (Nz rfl) (Yi (Nz rfl) (yN (C1 (C2 (hc) (Yi ?_ ?_)))))
  .intro h4;exact .of_eq (Aa vi (show CI x[i]=AC x by omega))
  intro h4;refine Yi ?_ ?_
  .intro h5;have h5:(i:Int)=0:=h5;have h6:i=0:=by omega
   refine Yi (Ii i ch) (Xi ⟨i+1,by omega,by grind⟩ ?_);exact⟨Dl x.length i ch,Z4,Z1,Fh,Tv⟩
  intro h5;have h5:¬(i:Int)=0:=h5;have wL:i-1<x.length:=by omega
  have hb:Yj x i=some x[i-1]:=by
   grind
  have Af9:Cb none x=if EL x[i-1]=EL x[i]then 5 else if 0<BU x[i-1] x[i]then 1 else Cb (some x[i]) (x.drop (i+1)):=by grind
  refine Yi (by grind [Av]) ?_;have gD:(x.map Ah)[((i:Int)-1).toNat]?=some (Ah x[i-1]):=by rw[show((i:Int)-1).toNat=i-1 by omega];grind
  refine Xi (Ah x[i-1]) (Yi (Yi ch gD) (Yi rfl (Yi (Nz rfl) (yN (yN (C2 (vS x[i-1]) (yN (C2 (vS x[i]) (Yi ?_ ?_)))))))))
  .intro h6;refine Yi Wk ?_;have e:(5:Int)=AC x:=by rw[Uw,Af9,Ay (xf ⟨h6.1,h6.2.1,h6.2.2.1,h6.2.2.2.1⟩)]
   exact .of_eq (Aa vi e)
  intro h6;refine Yi Wk ?_;have h7:¬EL x[i-1]=EL x[i]:=fun e=>by
   have e:=Xl e;exact h6 ⟨e.1,e.2.1,e.2.2.1,e.2.2.2,trivial⟩
  refine Yi (Nz rfl) (yN (C1 (C2 (zu x[i-1] x[i]) (Yi ?_ ?_))))
  .intro h8;have e:(1:Int)=AC x:=by grind
   exact .of_eq (Aa vi e)
  .intro h8;refine Yi (Ii i ch) (Xi ⟨i+1,by omega,by grind⟩ ?_);exact⟨Dl x.length i ch,Z4,Z1,Fh,Tv⟩
 .intro h;have h:¬i<x.length:=by simp_all
  have e:(0:Int)=AC x:=by rw[Uw,h2,KW ch];rfl
  exact .of_eq (Aa vi e)
abbrev rlC(r:Rl)(a:AV):List AV:=[vs r.path,vi r.ver.a,vi r.ver.b,vi r.ver.c,a,vs r.arch,vs r.ifc,vs r.cert,vb r.yanked]
abbrev AfX:Qz:=⟨[],[],[],[],[],[],[],[(9,(1,4,900,2))],[],[],[]⟩
theorem c98(r:Rl)(hr:r.reqs.length<=1000)(hs:∀q∈r.reqs,BJ q.set):PC 83 [.agg (Ah r)] (.agg (Ah r)):=by
 refine Ps AfX func83 rfl (Nz rfl) (yN (Xi {i:Nat // i<=r.reqs.length} (Xi (fun i=>⟨[(1,.ref 1 0),(2,.ref 2 0),(9,sl As r.reqs),(10,vi (r.reqs.map As).length),(11,vi i.1)],[(1,.cells (rlC r (.slice (.id 900 2) ((r.reqs.take i.1).map As)))),(2,.cells qP),(900,.tok 2 ((r.reqs.take i.1).map As).length)],Ac⟩) (Xi (fun i=>r.reqs.length-i.1) (Yi (Xi ⟨0,Al _⟩ ?_) ?_)))))
 .exact⟨Z5,Z3,Fh,Tv⟩
 intro⟨i,h1⟩;refine Yi ?_ ?_
 .intro h;have h:i<r.reqs.length:=by simp_all
  have hg:r.reqs[i]?=some r.reqs[i]:=Ge h;refine Xi (As r.reqs[i]) (Yi (Yi ch (by simp_all)) (Yi rfl ?_));have hq:=hs r.reqs[i] (Ae h);refine Yi (Nz rfl) (yN (C1 (C2 (AdB r.reqs[i].set hq) (yN (yN ?_)))));have FZ:Bi 2 [As r.reqs[i]]/\((r.reqs.take i).map As).length=((r.reqs.take i).map As).length/\(((r.reqs.take i).map As).length+[As r.reqs[i]].length)*40<=140737488355328/\((r.reqs.take i).map As).length+[As r.reqs[i]].length<=9223372036854775807:=
   ⟨⟨rfl,trivial⟩,rfl,by grind,by grind⟩
  refine Yi FZ (yN (Yi (by grind [Av]) (Xi ⟨i+1,by omega⟩ ?_)));have et:(r.reqs.take (i+1)).map As=(r.reqs.take i).map As++[As r.reqs[i]]:=by rw[Dr,hg,AF];rfl
  have e1:HO.cells (rlC r (.slice (.id 900 2) ((r.reqs.take i).map As++[As r.reqs[i]])))=.cells (rlC r (.slice (.id 900 2) ((r.reqs.take (i+1)).map As))):=by rw[et]
  have e2:HO.tok 2 (((r.reqs.take i).map As).length+[As r.reqs[i]].length)=.tok 2 ((r.reqs.take (i+1)).map As).length:=by simp_all
  exact⟨by grind,Z5,⟨⟨e1,rfl⟩,Zr,⟨e2,rfl⟩,Tv⟩,Fh,Tv⟩
 .intro h;have h:¬i<r.reqs.length:=by simp_all
  refine Yi (Nz rfl) (Yi (Nz rfl) (yN ?_));have e:AV.agg (rlC r (.slice .none ((r.reqs.take i).map As)))=.agg (Ah r):=by grind
  exact .of_eq e
abbrev vc:AV:=.v (.int .u8 c.toNat)
theorem XS(a:UInt8)(n:Nat)(h:n<256):decide (UInt8.ofNat n<=a)=decide ((n:Int)<=(a.toNat:Int)):=by
 grind [UInt8.le_iff_toNat_le,UInt8.toNat_ofNat']
theorem XR(a:UInt8)(n:Nat)(h:n<256):decide (a<=UInt8.ofNat n)=decide ((a.toNat:Int)<=(n:Int)):=by
 grind [UInt8.le_iff_toNat_le,UInt8.toNat_ofNat']
theorem wd:PC 286 [vc c] (vb (EB c)):=by
 refine Ps C3 func286 rfl (Nz rfl) ?_;have e1:decide ((97:UInt8)<=c)=decide ((97:Int)<=(c.toNat:Int)):=XS c 97 Cl;have e2:decide (c<=(122:UInt8))=decide ((c.toNat:Int)<=(122:Int)):=XR c 122 Cl;have es:EB c=(decide ((97:Int)<=(c.toNat:Int))&&decide ((c.toNat:Int)<=(122:Int))):=by grind [EB]
 refine Yi ?_ ?_
 .intro h;refine Yi ?_ ?_
  .intro h2;exact .of_eq (Aa vb (show true=EB c by simp_all))
  .intro h2;exact .of_eq (Aa vb (show false=EB c by simp_all))
 .intro h;exact .of_eq (Aa vb (show false=EB c by simp_all))
theorem we:PC 287 [vc c] (vb (CB c)):=by
 refine Ps C3 func287 rfl (Nz rfl) ?_;have e1:decide ((48:UInt8)<=c)=decide ((48:Int)<=(c.toNat:Int)):=XS c 48 Cl;have e2:decide (c<=(57:UInt8))=decide ((c.toNat:Int)<=(57:Int)):=XR c 57 Cl;have es:CB c=(decide ((48:Int)<=(c.toNat:Int))&&decide ((c.toNat:Int)<=(57:Int))):=by grind [CB]
 refine Yi ?_ ?_
 .intro h;refine Yi ?_ ?_
  .intro h2;exact .of_eq (Aa vb (show true=CB c by simp_all))
  .intro h2;exact .of_eq (Aa vb (show false=CB c by simp_all))
 .intro h;exact .of_eq (Aa vb (show false=CB c by simp_all))
theorem Ae6:PC 357 [vc c] (vb (MB c)):=by
 refine Ps C3 func357 rfl (Nz rfl) ?_;have e1:decide ((65:UInt8)<=c)=decide ((65:Int)<=(c.toNat:Int)):=XS c 65 Cl;have e2:decide (c<=(90:UInt8))=decide ((c.toNat:Int)<=(90:Int)):=XR c 90 Cl;have es:MB c=(decide ((65:Int)<=(c.toNat:Int))&&decide ((c.toNat:Int)<=(90:Int))):=by grind [MB]
 refine Yi ?_ ?_
 .intro h;refine Yi ?_ ?_
  .intro h2;exact .of_eq (Aa vb (show true=MB c by simp_all))
  .intro h2;exact .of_eq (Aa vb (show false=MB c by simp_all))
 .intro h;exact .of_eq (Aa vb (show false=MB c by simp_all))
abbrev Vt:Bool:=EB c||CB c
theorem AdV:PC 285 [vc c] (vb (Vt c)):=by
 have h1:=wd c;have h2:=we c;rcases Bt (EB c)with e | e
 .rw[e]at h1;refine Ps C3 func285 rfl (Nz rfl) (C1 (C2 (h1) ?_));exact .of_eq (Aa vb (show true=Vt c by simp_all))
 .rw[e]at h1;refine Ps C3 func285 rfl (Nz rfl) (C1 (C2 (h1) (C1 (C2 (h2) ?_))));exact .of_eq (Aa vb (show CB c=Vt c by simp_all))
theorem Ae1:PC 322 [vc c] (vb (FF c)):=by
 have h1:=wd c;have h2:=Ae6 c;have h3:=we c;have ew:FF c=(EB c||MB c||CB c||decide (c=95)):=rfl;rcases Bt (EB c)with e | e
 .rw[e]at h1;refine Ps C3 func322 rfl (Nz rfl) (C1 (C2 (h1) ?_));exact .of_eq (Aa vb (show true=FF c by simp_all))
 rw[e]at h1;rcases Bt (MB c)with e2 | e2
 .rw[e2]at h2;refine Ps C3 func322 rfl (Nz rfl) (C1 (C2 (h1) (C1 (C2 (h2) ?_))));exact .of_eq (Aa vb (show true=FF c by simp_all))
 rw[e2]at h2;rcases Bt (CB c)with e3 | e3
 .rw[e3]at h3;refine Ps C3 func322 rfl (Nz rfl) (C1 (C2 (h1) (C1 (C2 (h2) (C1 (C2 (h3) ?_))))));exact .of_eq (Aa vb (show true=FF c by simp_all))
 rw[e3]at h3;refine Ps C3 func322 rfl (Nz rfl) (C1 (C2 (h1) (C1 (C2 (h2) (C1 (C2 (h3) ?_))))));have eb:decide (c=95)=decide ((c.toNat:Int)=95):=by
  rw[El,Bd,Bd];constructor
  .simp_all
  .intro h;exact HJ.1 (by grind)
 refine Yi ?_ ?_
 .intro h;exact .of_eq (Aa vb (show true=FF c by simp_all))
 .intro h;exact .of_eq (Aa vb (show false=FF c by simp_all))
theorem ra(h:i<s.data.toList.length):s.data[i]?=some s.data.toList[i]:=by
 simp_all
theorem wb(f:Nat)(q:UInt8->Bool)(hf:∀c,PC f [vc c] (vb (q c)))(hs:s.data.toList.length<4611686018427387904):PC 284 [vs s,.v (YC f)] (vb (s.data.toList.all q)):=by
 have Fg:s.size=s.data.toList.length:=by simp
 refine Ps C3 func284 rfl (Nz rfl) (Xi {i:Nat // i<=s.data.toList.length/\∀j (hj:j<s.data.toList.length),j<i->q s.data.toList[j]=true} (Xi (fun i=>⟨[(0,vs s),(1,.v (YC f)),(7,vi s.size),(8,vi i.1)],[],Ac⟩) (Xi (fun i=>s.data.toList.length-i.1) (Yi (Xi ⟨0,Al _,fun j _ h=>by omega⟩ ?_) ?_))))
 .exact⟨Z4,Tv,Fh,Tv⟩
 intro⟨i,h1,h2⟩;refine Yi ?_ ?_
 .intro h;have h:(i:Int)<(s.size:Nat):=h;have h:i<s.data.toList.length:=by omega
  refine Xi s.data.toList[i] (Yi ⟨by omega,by grind⟩ ?_);have hc:=hf s.data.toList[i];refine AN (Bt (q s.data.toList[i])) (fun e=>?_) (fun e=>?_)
  .rw[e]at hc;refine C1 (C2 (hc) (Yi (by grind [Av]) (Xi ⟨i+1,by omega,fun j hj FI=>?_⟩ ?_)))
   .grind
   .exact⟨by grind,Z4,Tv,Fh,Tv⟩
  .rw[e]at hc;refine C1 (C2 (hc) ?_);have er:s.data.toList.all q=false:=by
    grind
   exact .of_eq (Aa vb er.symm)
 .intro h;have h:¬(i:Int)<(s.size:Nat):=h;have er:s.data.toList.all q=true:=A3.2 fun c hc=>by
   grind [List.getElem_of_mem]
  exact .of_eq (Aa vb er.symm)
theorem cU{cx:Cx}{st:St}{K:LS -> Prop}(t:List (Nat×AV))(h:List (Nat×HO))(h1:leT st (LS.st ⟨t,h,Ac⟩).h t)(h2:leH st (LS.st ⟨t,h,Ac⟩).h h)(k:K ⟨t,h,Ac⟩)
    (h3:match cx.ext with | false => True | true => ∀j,1000 <= j -> j<2000 -> st.h j ≠ .free -> (LS.st ⟨t,h,Ac⟩).h j ≠ .free := by first | exact trivial | exact A4 Wk):∃s,St.le cx st s /\ K s := ⟨_,⟨h1,h2,fun _ => .inl rfl,h3⟩,k⟩
end Go.Eng
