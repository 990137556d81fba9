/- Lemmas 29. -/
import Derived.Test.YtkjhcikodmiceaaGreatDoorUA28
import Derived.Shelf.Slices.Delete
set_option maxHeartbeats 4000000
namespace Go.Eng
open Go.Proofs Go.Shelf Go.RowKit Go.Lib Go.Sort
theorem lg(F:Array Value)(i n:Nat)(hF:F.size = n * 6)(hi:i<n)(z:List Value)(hz:z.length = 6):(lay (lay F (i * 6) (F.toList.drop ((i + 1) * 6))) ((n-1) * 6) z).toList = F.toList.take (i * 6) ++ F.toList.drop ((i + 1) * 6) ++ z := by
 have l1:(F.toList.take (i * 6)).length = i * 6 := by simp;omega
 have l2:(F.toList.drop ((i + 1) * 6)).length = (n-(i + 1)) * 6 := by simp;omega
 apply B7
 intro t
 rw[CV,lay_get? _ _ _ _ (by rw[Lib.lay_size];omega),lay_get? _ _ _ _ (by rw[l2];omega)]
 rw[hz,l2]
 by_cases c1:t<i * 6
 .rw[AO ch,AO ch,BZ (by rw[Au];omega),BZ ch,Nj,A1 c1,CV]
 .by_cases c2:t<(n-1) * 6
  .rw[AO ch,A1 ch,BZ (by rw[Au];omega),Bp ch,l1]
  .rw[Bp (by rw[Au];omega),Au,l1,l2]
   by_cases c3:t<n * 6
   .rw[A1 ch];congr 1;omega
   .rw[AO ch,AO ch,Te ch,Kr ch]
abbrev jA:List Value := [.string ⟨#[]⟩,.int .i64 0,.int .i64 0,.int .i64 0,.string ⟨#[]⟩,.string ⟨#[]⟩]
set_option maxRecDepth 1000000 in
theorem bT(w:World)(b cap i n:Nat)(F:Array Value)(hF:F.size = n * 6)(hi:i<n)(KG:n <= cap)(hH:Holds id w b 0 F)(h1:∀x∈F.toList,x.oneCell' = true) :
  Calls Tryz.prog 24 #[.slice (some ⟨b,0,none⟩) n cap,.int .i64 i,.int .i64 ((i:Int) + 1)] w fun e w' => e = .returned (.slice (some ⟨b,0,none⟩) (n-1) cap) /\
   w' = putRow id (Sort.ahead w 1) b 0 (lay (lay F (i * 6) (F.toList.drop ((i + 1) * 6))) ((n-1) * 6) jA) := by
 obtain⟨i0,rA,kV⟩:∃i0,Tryz.prog.info? 53 = some i0 /\ i0.size = 6 := by
  obtain⟨i,z,h1,_,h2,_⟩ := FZ (P := Tryz.prog) (T := jz) Bu (e := 53) (n := 5) aa0
  exact⟨i,h1,h2.trans aa0⟩
 obtain⟨news,Ga⟩:∃news,news = F.toList.drop ((i + 1) * 6) := ⟨_,rfl⟩
 have B5:news.length = (n-(i + 1)) * 6 := by rw[Ga];simp;omega
 have EV:∀t,t<(n-(i + 1)) * 6 -> news[t]? = some F[(i + 1) * 6 + t]! := by
  intro t ht
  rw[Ga,Ew,CV,Jw F ((i + 1) * 6 + t) ch,Cg ch]
 obtain⟨A,hA,gA⟩:∃A:Addr,(if cap = i + 1 then some (⟨b,0,none⟩:Addr)else some ⟨b,(i + 1) * 6,none⟩) = some A /\ Hid (∀t u,news[t]? = some u -> w.drew.cell? (A.add t) = some u) := by
  by_cases h:cap = i + 1
  .refine⟨⟨b,0,none⟩,by simp[h],fun t u hu => ?_⟩
   have h0:news.length = 0 := by rw[B5];omega
   rw[List.length_eq_zero_iff.1 h0]at hu
   simp at hu
  .refine⟨⟨b,(i + 1) * 6,none⟩,by simp[h],fun t u hu => ?_⟩
   have ht:t<(n-(i + 1)) * 6 := by
    have := (AZ.1 hu).1
    rwa [B5]at this
   rw[EV t ht]at hu
   rw[Addr.add_lit]
   have := (hH ((i + 1) * 6 + t) ch).1
   rw[EC]at this
   exact this.trans hu
 have s1:Hid (news.length = (n-(i + 1)) * 6) := B5
 have s2:Hid (∀u∈news,u.oneCell' = true) := by
  intro u hu
  rw[Ga]at hu
  exact h1 u (FK hu)
 have s3:Hid (∀t,t<news.length -> (w.drew.cell? ⟨b,0 + i * 6 + t,none⟩).isSome = true /\ w.drew.frozen? ⟨b,0 + i * 6 + t,none⟩ = false) := by
  intro t ht
  rw[B5]at ht
  have := hH (i * 6 + t) ch
  rw[Nat.add_assoc]
  exact⟨by show(w.cell? _).isSome = true;rw[this.1];rfl,this.2⟩
 obtain⟨W1,dY⟩:∃W1,W1 = w.drew.setCells b (0 + i * 6) news := ⟨_,rfl⟩
 have YN : W1 = putRow id (Sort.ahead w 1) b 0 (lay F (i * 6) news) := by
  have := putRow_setCells id (Sort.ahead w 1) b 0 news F (i * 6) ch
  rw[putRow_self id (Sort.ahead w 1) b 0 F (holds_ahead id w 1 b 0 F hH),GI]at this
  rw[dY,<-this]
  rfl
 have od:Holds id W1 b 0 (lay F (i * 6) news) := by rw[YN];exact holds_putRow id _ b 0 F _ (holds_ahead id w 1 b 0 F hH) (Lib.lay_size _ _ _)
 have HF:(storeCells ⟨b,0 + (n-1) * 6,none⟩ jA 0).run Tryz.prog W1 = .ok () (W1.setCells b (0 + (n-1) * 6) jA) := by
  have := run_storeCells_cells (P := Tryz.prog) b (0 + (n-1) * 6) jA 0 W1 (fun j hj => by
   have hj:j<6 := hj
   have := od ((n-1) * 6 + j) (by rw[Lib.lay_size];omega)
   rw[show 0 + (n-1) * 6 + 0 + j = 0 + ((n-1) * 6 + j) by omega,this.1];rfl) (fun j hj => by
   have hj:j<6 := hj
   have := od ((n-1) * 6 + j) (by rw[Lib.lay_size];omega)
   rw[show 0 + (n-1) * 6 + 0 + j = 0 + ((n-1) * 6 + j) by omega];exact this.2) (fun v hv => by
   simp only[AA,Gm,or_false]at hv
   rcases hv with rfl | rfl | rfl | rfl | rfl | rfl<;>rfl)
  exact this
 have hcl:∀ty c,(Builtin.clear_ #[29] ty #[.slice (some ⟨b,(n-1) * 6,none⟩) 1 c]).run Tryz.prog W1 = .ok (.tuple #[]) (W1.setCells b (0 + (n-1) * 6) jA) := fun ty c => by
  have hv := Tryz.zeroValue53
  rw[EC]at HF⊢
  have hz:(Builtin.zeroCells (Value.agg #[Value.string { data := #[] },Value.int .i64 0,Value.int .i64 0,Value.int .i64 0,Value.string { data := #[] },Value.string { data := #[] }]).cells 1).toList = jA := by kernel_rfl
  simp[Builtin.clear_,run_underlying Tryz.underlying29,hv,hz,HF]
 have wq:∀ty,(Builtin.clear_ #[29] ty #[.slice (some ⟨b,(i + (n-(i + 1))) * 6,none⟩) (n-(i + (n-(i + 1)))) (cap-(i + (n-(i + 1))))]).run Tryz.prog W1 = .ok (.tuple #[]) (W1.setCells b (0 + (n-1) * 6) jA) := fun ty => by
  have e1:i + (n-(i + 1)) = n-1 := by omega
  have e2:n-(n-1) = 1 := by omega
  rw[e1,e2];exact hcl ty _
 have X:Aside (W1 = putRow id (Sort.ahead w 1) b 0 (lay F (i * 6) news)) := YN
 have hW:Hid (W1 = w.drew.setCells b (0 + i * 6) news) := dY
 have Y:Aside (news = F.toList.drop ((i + 1) * 6)) := Ga
 have Z:Aside (news.length = (n-(i + 1)) * 6) := B5
 have tQ:i <= cap := by omega
 have hjc:i + 1 <= cap := by omega
 have mixed := Go.Eng.hm
 have hb1:(0:Int) <= (i:Int) + 1 := by omega
 have gg:(i:Int) + 1 <= (n:Int) := by omega
 clear dY YN od hH EV Ga B5 HF hcl
 go_enter Tryz.func24,Tryz.ntmps24
 go_wp2_with fail
 go_region_law_o (refine step_append_room rfl (.tmp 22) (.tmp 25) 29 rfl 53 i0 6 Tryz.underlying29 rA kV b 0 i cap (by simp[Act.eval,Act.put]) A (n-(i + 1)) (cap-(i + 1)) news (by simp[Act.eval,Act.put]) s1.out gA.out s2.out ch s3.out ?_;rw[<-hW.out])
 go_wp2
 go_ret
 refine⟨by rw[show i + (n-(i + 1)) = n-1 by omega];rfl,?_⟩
 rw[X.out]
 have e1 := Y.out
 have e2 := Z.out
 rw[<-e1]
 have := putRow_setCells id (Sort.ahead w 1) b 0 jA (lay F (i * 6) news) ((n-1) * 6) (by rw[Lib.lay_size];show _ + 6 <= _;omega)
 rw[GI,EC]at this
 exact this
abbrev yM:List AV := [Go.Eng.vs ⟨#[]⟩,vi 0,vi 0,vi 0,Go.Eng.vs ⟨#[]⟩,Go.Eng.vs ⟨#[]⟩]
theorem tg(l:List Lo)(i:Nat)(hi:i<l.length) :
  AW Tryz.prog 24 [.msl 1000 l.length,vi i,vi ((i:Int) + 1)] (Ae [(1000,.arr 6 (l.map A3))] Ab) fun r h' => r = .msl 2000 (l.length-1) /\ h' = Ae [(1000,.dead),(2000,.arr 6 ((l.eraseIdx i).map A3))] Ab := by
 have hE:Fb Tryz.prog 24 := ZX 24 Tryz.func24 aa0 rfl
 have B5:(l.eraseIdx i).length = l.length-1 := Hy hi
 have G7 := OB (P := Tryz.prog) (f := 24) (es := l.map A3) (sz := 6) (rest := [.int .i64 i,.int .i64 ((i:Int) + 1)]) (n' := l.length-1) (Q := fun EZ => EZ = (l.eraseIdx i).map A3 ++ [yM]) hE (fun e => by
  rw[Dv]at e;subst e;simp at hi) (by rw[A2];omega) ?_
 .rw[A2]at G7
  refine⟨hE,fun g w vals q1 q2 q3 => (G7.2 g w vals q1 q2 q3).mono fun _ _ ⟨v,r,h',g',e1,⟨e2,EZ,p1,p2⟩,rest⟩ => ⟨v,r,h',g',e1,⟨e2,by rw[p2,p1,KN (by rw[A2,B5];exact Ai _),Bd (by rw[A2,B5];exact Ai _)]⟩,rest⟩⟩
 .intro g w b cap F hr hF hH hb hc
  rw[A2]at hF hc⊢
  have hu:∀e∈l.map A3,e.length = 6 := fun e he => by
   obtain⟨t,_,rfl⟩ := Ak.1 he;rfl
  refine(bT w b cap i l.length F hF hi hc hH hr.2.1).mono ?_
  rintro e w' ⟨rfl,rfl⟩
  refine⟨rfl,_,_,1,#[],?_,rfl,?_,fun cs hcs => ?_,fun g w hr => ?_,rfl⟩
  .rw[Lib.lay_size,Lib.lay_size]
  .rw[Au,A2,B5,A6];omega
  .rcases Bc.1 hcs with h | h
   .obtain⟨t,_,rfl⟩ := Ak.1 h;rfl
   .rw[AB.1 h];rfl
  .rw[lg F i l.length hF hi jA rfl,List.eraseIdx_eq_take_drop_succ,CA,Bm,CA,List.map_take,List.map_drop,<-Ih _ i hu,<-J5 _ (i + 1) hu]
   refine BR.append (BR.append (hr.take _) (hr.drop _)) ?_
   exact JJ g w ES jA fun x hx => by
    simp only[AA,Gm,or_false]at hx
    rcases hx with rfl | rfl | rfl | rfl | rfl | rfl<;>rfl
end Go.Eng
namespace Go.Eng
open Go.Proofs
variable {l:Lk}(x:List Rl)(e:Lo)(ifs:List (List AV))(d:ByteArray)
theorem jm(l:List Lo)(hl:l.length<=1000000)(DT:l≠[]):AW Tryz.prog 23 [sl A3 l] (Ae [] Ab) fun r h'=>r=.msl 2000 l.length/\h'=Ae [(2000,.arr 6 (l.map A3))] Ab:=by
 refine A7 (H5 ⟨[],[],[(5,6)],[],[],[],[],[],[],[],[]⟩) [(5,2000)] rfl Bu hm rfl Tryz.func23 aa0 rfl (Nz rfl) aa0 rfl ?_;have Di:BJ 6 (l.map A3)/\([]:List (List AV)).length=0/\(([]:List (List AV)).length+(l.map A3).length)*72<=140737488355328/\([]:List (List AV)).length+(l.map A3).length<=9223372036854775807:=by
  refine⟨Df (enc:=A3) (n:=6) (fun _=>rfl) l,rfl,?_,?_⟩<;>simp only[FD,Lm]<;>omega
 refine Yi ?_ ?_
 .intro _;refine Yi Di ?_;have e1:AV.msl 2000 (([]:List (List AV)).length+(l.map A3).length)=.msl 2000 l.length:=by simp
  refine Xi (.msl 2000 (([]:List (List AV)).length+(l.map A3).length)) (Yi (.refl _) (Yi e1 ?_))
  rfl
 .intro h;exact absurd (Dv.1 h) DT
abbrev X5(l:Lk)(e:List Lo):Lk:=⟨l.roots,e,l.infs,l.skips⟩
abbrev Vz(v:Ver):Lo:=⟨e.path,v,e.arch,e.ifc⟩
abbrev Vx:Lo:=⟨e.path,e.ver,d,e.ifc⟩
abbrev Vy:Lo:=⟨e.path,e.ver,e.arch,d⟩
theorem bj(h:HY l){e:List Lo}(h1:e.length<=16)(h2:e.all YB=true):HY (X5 l e):=⟨h2,h.nf,h.sk,h.rq,h1,h.il,h.kl⟩
theorem VR(h:HY l)(k:Nat)(e:Lo)(he:YB e=true):HY (X5 l (l.ents.set k e)):=
 bj h (by rw[FE];exact h.el) (AF.2 fun y hy=>by
  rcases Oy hy with q | q
  .exact AF.1 h.en y q
  .rw[q];exact he)
theorem l8(h:HY l)(k:Nat):HY (X5 l (l.ents.eraseIdx k)):=
 bj h (AH (List.eraseIdx_sublist l.ents k).length_le h.el) (AF.2 fun y hy=>AF.1 h.en y ((List.eraseIdx_sublist l.ents k).subset hy))
theorem S7(h:HY l){k:Nat}(hk:k<l.ents.length):l.ents[k].path.size<=100/\l.ents[k].arch.size<=100/\l.ents[k].ifc.size<=100:=by
 have q:=AF.1 h.en _ (Ao hk);unfold YB at q;exact BD q
theorem EP{x:List Rl}{k:Nat}{e:Lo}(hk:k<l.ents.length)(h:LF x l=0)(q:LF x (X5 l (l.ents.set k e))=0):e=l.ents[k]:=by
 have u:l.ents=l.ents.set k e:=WB h q rfl;have v:l.ents[k]'hk=(l.ents.set k e)[k]'(by rw[FE];exact hk):=by congr 1
 rw[v,List.getElem_set_self]
theorem ZF{l:List Lo}{k:Nat}{e:Lo}(hk:k<l.length):0<=(k:Int)/\((l.set k e).map A3)[(k:Int).toNat]?=some (A3 e):=
 ⟨by omega,by rw[FI,BC,List.getElem?_set_self hk];rfl⟩
theorem sa(l:Lk)(wh Tr:Int)(v:Ver)(d:ByteArray)(k:Nat)(L:UQ x l.roots)(kN:eD l)(hw:0<=wh/\wh<=255)(hh:0<=Tr/\Tr<=255)(Tq:0<l.ents.length->k<l.ents.length)(wI:0<l.ents.length->wh % ((l.ents.map A3).length:Int)=(k:Int)):PC 5 [.agg (Ic x ifs),.agg (Dj l),.v (.int .u8 wh),.v (.int .u8 Tr),.agg (Gi v),vs d] (vb true):=by
 have kF:=m8 l (AH kN.el Wk) (AH kN.il Wk) (AH kN.kl Wk) L.rs;refine Ps ⟨[6,10,14],[],[],[],[],[],[],[],[],[(100011,1007),(100018,1007)],[6,11,18]⟩ Tryz.func5 rfl (Nz rfl) (Xi .pure (Xi _ (Yi br (yN (Bs (Bt (Er x 16&&CE l.roots)) (fun h1=>?_) (fun h1=>?_))))))
 .have h1:(Er x 16&&CE l.roots)=true:=h1;have d6:(Er x 16&&CE l.roots)=true:=h1;refine Xi .pure (Xi _ (Yi (cb h1 (L.c11 ifs)) (yN (Bs (Bt (KY l)) (fun h2=>?_) (fun h2=>?_)))))
  .have h2:(KY l)=true:=h2;have hf:=NL h2;refine Xi .pure (Xi _ (Yi (cb h2 kF) (Yi (fun h3=>?_) (fun h3=>?_))))
   .have h3:(100:Int)<(d.size:Int):=h3;exact .refl _
   have h3:¬((100:Int)<(d.size:Int)):=h3;have hd:d.size<=100:=by have q:=h3;omega
   refine Yi (fun h5=>?_) (fun h5=>?_)
   .have h5:((l.ents.map A3).length:Int)=(0:Int):=h5;exact .refl _
   have h5:¬(((l.ents.map A3).length:Int)=(0:Int)):=h5;have YT:0<l.ents.length:=by have q:=h5;rw[Lm]at q;omega
   have DT:l.ents≠[]:=fun e=>by rw[e]at YT;exact absurd YT Wk
   have hk:=Tq YT;have V2:=wI YT;have gk:l.ents[k]?=some l.ents[k]:=Ge hk;have pN:=hf.el;have hdl:(l.ents.eraseIdx k).length=l.ents.length-1:=Hy hk;refine yN (yN (Xi .pure (Xi _ (Yi (N1 L d6 hf) (Yi (fun h7=>?_) (fun h7=>?_))))))
   .have h7:((LF x l):Int)≠(0:Int):=h7;exact .refl _
   have h7:((LF x l):Int)=(0:Int):=AP h7;have Td:LF x l=0:=h7;refine Yi (show AQ wh by unfold AQ;omega) (Yi ⟨by omega,by omega⟩ ?_);refine cU [(3,.v (.int .u8 Tr)),(5,vs d),(6,.ref 6 0),(7,.ref 7 0),(10,.ref 10 0),(13,vi k)] [(6,.ro (Ic x ifs)),(7,.cells (Dj l)),(10,.ro (Gi v))] ⟨Zr,Zr,Zr,Zr,Zr,⟨(Aa vi V2),rfl⟩,Tv⟩ Z3 (Xi (A3 l.ents[k]) (Yi (N0 hk) (Yi rfl (yN (yN (Xi (.gen [] 1) (Yi rfl (AW.to2 (jm l.ents (AH hf.el Wk) DT) ?_))))))));refine yN (Yi ch (Yi (fun h9=>?_) (fun h9=>?_)))
   .have h9:((Tr % 4):Int)=(0:Int):=h9;refine Yi (Ii k ch) (Xi (.gen [(15700,1000)] 1) (Yi rfl (AW.to2 (tg l.ents k hk) ?_)));refine yN (Yi (show(l.ents.length-1)=((l.ents.eraseIdx k).map A3).length by simp only[Lm,hdl]) (cU [(6,.ref 6 0),(7,.ref 7 0)] [(6,.ro (Ic x ifs)),(7,.cells [sl Ac l.roots,.slice (.id 16800 6) ((l.ents.eraseIdx k).map A3),sl AG l.infs,sl Ay l.skips]),(16800,.tok 6 ((l.ents.eraseIdx k).map A3).length)] Z2 Z3 (yN (yN (Xi .pure (Xi _ (Yi (show PC 18 [IP x ifs,.agg (Dj (X5 l (l.ents.eraseIdx k)))] (vi 18)from by have q:=N1 (ifs:=ifs) (l:=X5 l (l.ents.eraseIdx k)) L d6 (l8 hf k);rw[show LF x (X5 l (l.ents.eraseIdx k))=18 from ZG Td hk]at q;exact q) ?_)))))));refine Yi (fun _=>?_) (fun h=>absurd Wk h);exact .refl _
   have h9:¬(((Tr % 4):Int)=(0:Int)):=h9;refine Yi (fun HI=>?_) (fun HI=>?_)
   .have HI:((Tr % 4):Int)=(1:Int):=HI;refine yN (Yi (by show(0:Int)<=k/\(k:Int)<(l.ents.length:Nat);omega) (Yi (show l.ents.length=(l.ents.map A3).length by simp) (Xi (A3 l.ents[k]) (Yi (EE gk) (yN (Yi (show l.ents.length=(((l.ents.map A3).set k [vs l.ents[k].path,vi v.a,vi v.b,vi v.c,vs l.ents[k].arch,vs l.ents[k].ifc]):List (List AV)).length by simp only[Lm,FE]) ?_))))));refine cU [(6,.ref 6 0),(7,.ref 7 0),(13,vi k),(14,.ref 14 0)] [(6,.ro (Ic x ifs)),(7,.cells [sl Ac l.roots,.slice (.id 15700 6) ((l.ents.set k (Vz l.ents[k] v)).map A3),sl AG l.infs,sl Ay l.skips]),(14,.ro (A3 l.ents[k])),(15700,.tok 6 (((l.ents.map A3).set k [vs l.ents[k].path,vi v.a,vi v.b,vi v.c,vs l.ents[k].arch,vs l.ents[k].ifc]):List (List AV)).length)] Z4 ⟨Zr,⟨(Aa (fun E:List (List AV)=>HO.cells [sl Ac l.roots,.slice (.id 15700 6) E,sl AG l.infs,sl Ay l.skips]) (show(l.ents.map A3).set k [vs l.ents[k].path,vi v.a,vi v.b,vi v.c,vs l.ents[k].arch,vs l.ents[k].ifc]=(l.ents.set k (Vz l.ents[k] v)).map A3 by rw[ME])),rfl⟩,Zr,Zr,Tv⟩ ?_
    refine Xi (A3 (Vz l.ents[k] v)) (Yi (ZF hk) (Yi rfl (yN (yN (Yi (fun VZ=>?_) (fun VZ=>?_))))))
    .have VZ:((Vz l.ents[k] v).path:ByteArray)=l.ents[k].path/\((Vz l.ents[k] v).ver.a:Int)=l.ents[k].ver.a/\((Vz l.ents[k] v).ver.b:Int)=l.ents[k].ver.b/\((Vz l.ents[k] v).ver.c:Int)=l.ents[k].ver.c/\((Vz l.ents[k] v).arch:ByteArray)=l.ents[k].arch/\((Vz l.ents[k] v).ifc:ByteArray)=l.ents[k].ifc/\True:=VZ;refine Yi aa0 ?_;exact .refl _
    have VZ:¬(((Vz l.ents[k] v).path:ByteArray)=l.ents[k].path/\((Vz l.ents[k] v).ver.a:Int)=l.ents[k].ver.a/\((Vz l.ents[k] v).ver.b:Int)=l.ents[k].ver.b/\((Vz l.ents[k] v).ver.c:Int)=l.ents[k].ver.c/\((Vz l.ents[k] v).arch:ByteArray)=l.ents[k].arch/\((Vz l.ents[k] v).ifc:ByteArray)=l.ents[k].ifc/\True):=VZ;refine yN (yN (Xi _ (Yi (N1 (ifs:=ifs) (l:=X5 l (l.ents.set k (Vz l.ents[k] v))) L d6 (VR hf k _ (As (S7 hf hk)))) (Yi (fun Jx=>?_) (fun Jx=>?_)))))
    .have Jx:((LF x (X5 l (l.ents.set k (Vz l.ents[k] v)))):Int)≠(0:Int):=Jx;refine Yi aa0 ?_;exact .refl _
    have Jx:((LF x (X5 l (l.ents.set k (Vz l.ents[k] v)))):Int)=(0:Int):=AP Jx;refine Yi aa0 ?_;exact absurd (show(Vz l.ents[k] v)=l.ents[k]from EP hk Td Jx) (fun e=>VZ (by have e:=Aa A3 e;exact⟨Aa Lo.path (EP hk Td Jx),Aa (fun y:Lo=>y.ver.a) (EP hk Td Jx),Aa (fun y:Lo=>y.ver.b) (EP hk Td Jx),Aa (fun y:Lo=>y.ver.c) (EP hk Td Jx),Aa Lo.arch (EP hk Td Jx),Aa Lo.ifc (EP hk Td Jx),trivial⟩))
   have HI:¬(((Tr % 4):Int)=(1:Int)):=HI;refine Yi (fun MR=>?_) (fun MR=>?_)
   .have MR:((Tr % 4):Int)=(2:Int):=MR;refine Yi (by show(0:Int)<=k/\(k:Int)<(l.ents.length:Nat);omega) (Yi (show l.ents.length=(l.ents.map A3).length by simp) (Xi (A3 l.ents[k]) (Yi (EE gk) (yN (Yi (show l.ents.length=(((l.ents.map A3).set k [vs l.ents[k].path,vi l.ents[k].ver.a,vi l.ents[k].ver.b,vi l.ents[k].ver.c,vs d,vs l.ents[k].ifc]):List (List AV)).length by simp only[Lm,FE]) ?_)))));refine cU [(6,.ref 6 0),(7,.ref 7 0),(13,vi k),(14,.ref 14 0)] [(6,.ro (Ic x ifs)),(7,.cells [sl Ac l.roots,.slice (.id 15700 6) ((l.ents.set k (Vx l.ents[k] d)).map A3),sl AG l.infs,sl Ay l.skips]),(14,.ro (A3 l.ents[k])),(15700,.tok 6 (((l.ents.map A3).set k [vs l.ents[k].path,vi l.ents[k].ver.a,vi l.ents[k].ver.b,vi l.ents[k].ver.c,vs d,vs l.ents[k].ifc]):List (List AV)).length)] Z4 ⟨Zr,⟨(Aa (fun E:List (List AV)=>HO.cells [sl Ac l.roots,.slice (.id 15700 6) E,sl AG l.infs,sl Ay l.skips]) (show(l.ents.map A3).set k [vs l.ents[k].path,vi l.ents[k].ver.a,vi l.ents[k].ver.b,vi l.ents[k].ver.c,vs d,vs l.ents[k].ifc]=(l.ents.set k (Vx l.ents[k] d)).map A3 by rw[ME])),rfl⟩,Zr,Zr,Tv⟩ ?_
    refine Xi (A3 (Vx l.ents[k] d)) (Yi (ZF hk) (Yi rfl (yN (yN (Yi (fun ah=>?_) (fun ah=>?_))))))
    .have ah:((Vx l.ents[k] d).path:ByteArray)=l.ents[k].path/\((Vx l.ents[k] d).ver.a:Int)=l.ents[k].ver.a/\((Vx l.ents[k] d).ver.b:Int)=l.ents[k].ver.b/\((Vx l.ents[k] d).ver.c:Int)=l.ents[k].ver.c/\((Vx l.ents[k] d).arch:ByteArray)=l.ents[k].arch/\((Vx l.ents[k] d).ifc:ByteArray)=l.ents[k].ifc/\True:=ah;refine Yi aa0 ?_;exact .refl _
    have ah:¬(((Vx l.ents[k] d).path:ByteArray)=l.ents[k].path/\((Vx l.ents[k] d).ver.a:Int)=l.ents[k].ver.a/\((Vx l.ents[k] d).ver.b:Int)=l.ents[k].ver.b/\((Vx l.ents[k] d).ver.c:Int)=l.ents[k].ver.c/\((Vx l.ents[k] d).arch:ByteArray)=l.ents[k].arch/\((Vx l.ents[k] d).ifc:ByteArray)=l.ents[k].ifc/\True):=ah;refine yN (yN (Xi _ (Yi (N1 (ifs:=ifs) (l:=X5 l (l.ents.set k (Vx l.ents[k] d))) L d6 (VR hf k _ (As ⟨(S7 hf hk).1,hd,(S7 hf hk).2.2⟩))) (Yi (fun Ub=>?_) (fun Ub=>?_)))))
    .have Ub:((LF x (X5 l (l.ents.set k (Vx l.ents[k] d)))):Int)≠(0:Int):=Ub;refine Yi aa0 ?_;exact .refl _
    have Ub:((LF x (X5 l (l.ents.set k (Vx l.ents[k] d)))):Int)=(0:Int):=AP Ub;refine Yi aa0 ?_;exact absurd (show(Vx l.ents[k] d)=l.ents[k]from EP hk Td Ub) (fun e=>ah (by have e:=Aa A3 e;exact⟨Aa Lo.path (EP hk Td Ub),Aa (fun y:Lo=>y.ver.a) (EP hk Td Ub),Aa (fun y:Lo=>y.ver.b) (EP hk Td Ub),Aa (fun y:Lo=>y.ver.c) (EP hk Td Ub),Aa Lo.arch (EP hk Td Ub),Aa Lo.ifc (EP hk Td Ub),trivial⟩))
   have MR:¬(((Tr % 4):Int)=(2:Int)):=MR;refine Yi (fun qV=>?_) (fun qV=>?_)
   .have qV:((Tr % 4):Int)=(3:Int):=qV;refine Yi (by show(0:Int)<=k/\(k:Int)<(l.ents.length:Nat);omega) (Yi (show l.ents.length=(l.ents.map A3).length by simp) (Xi (A3 l.ents[k]) (Yi (EE gk) (yN (Yi (show l.ents.length=(((l.ents.map A3).set k [vs l.ents[k].path,vi l.ents[k].ver.a,vi l.ents[k].ver.b,vi l.ents[k].ver.c,vs l.ents[k].arch,vs d]):List (List AV)).length by simp only[Lm,FE]) ?_)))));refine cU [(6,.ref 6 0),(7,.ref 7 0),(13,vi k),(14,.ref 14 0)] [(6,.ro (Ic x ifs)),(7,.cells [sl Ac l.roots,.slice (.id 15700 6) ((l.ents.set k (Vy l.ents[k] d)).map A3),sl AG l.infs,sl Ay l.skips]),(14,.ro (A3 l.ents[k])),(15700,.tok 6 (((l.ents.map A3).set k [vs l.ents[k].path,vi l.ents[k].ver.a,vi l.ents[k].ver.b,vi l.ents[k].ver.c,vs l.ents[k].arch,vs d]):List (List AV)).length)] Z4 ⟨Zr,⟨(Aa (fun E:List (List AV)=>HO.cells [sl Ac l.roots,.slice (.id 15700 6) E,sl AG l.infs,sl Ay l.skips]) (show(l.ents.map A3).set k [vs l.ents[k].path,vi l.ents[k].ver.a,vi l.ents[k].ver.b,vi l.ents[k].ver.c,vs l.ents[k].arch,vs d]=(l.ents.set k (Vy l.ents[k] d)).map A3 by rw[ME])),rfl⟩,Zr,Zr,Tv⟩ ?_
    refine Xi (A3 (Vy l.ents[k] d)) (Yi (ZF hk) (Yi rfl (yN (yN (Yi (fun pI=>?_) (fun pI=>?_))))))
    .have pI:((Vy l.ents[k] d).path:ByteArray)=l.ents[k].path/\((Vy l.ents[k] d).ver.a:Int)=l.ents[k].ver.a/\((Vy l.ents[k] d).ver.b:Int)=l.ents[k].ver.b/\((Vy l.ents[k] d).ver.c:Int)=l.ents[k].ver.c/\((Vy l.ents[k] d).arch:ByteArray)=l.ents[k].arch/\((Vy l.ents[k] d).ifc:ByteArray)=l.ents[k].ifc/\True:=pI;refine Yi aa0 ?_;exact .refl _
    have pI:¬(((Vy l.ents[k] d).path:ByteArray)=l.ents[k].path/\((Vy l.ents[k] d).ver.a:Int)=l.ents[k].ver.a/\((Vy l.ents[k] d).ver.b:Int)=l.ents[k].ver.b/\((Vy l.ents[k] d).ver.c:Int)=l.ents[k].ver.c/\((Vy l.ents[k] d).arch:ByteArray)=l.ents[k].arch/\((Vy l.ents[k] d).ifc:ByteArray)=l.ents[k].ifc/\True):=pI;refine yN (yN (Xi _ (Yi (N1 (ifs:=ifs) (l:=X5 l (l.ents.set k (Vy l.ents[k] d))) L d6 (VR hf k _ (As ⟨(S7 hf hk).1,(S7 hf hk).2.1,hd⟩))) (Yi (fun Tp=>?_) (fun Tp=>?_)))))
    .have Tp:((LF x (X5 l (l.ents.set k (Vy l.ents[k] d)))):Int)≠(0:Int):=Tp;refine Yi aa0 ?_;exact .refl _
    have Tp:((LF x (X5 l (l.ents.set k (Vy l.ents[k] d)))):Int)=(0:Int):=AP Tp;refine Yi aa0 ?_;exact absurd (show(Vy l.ents[k] d)=l.ents[k]from EP hk Td Tp) (fun e=>pI (by have e:=Aa A3 e;exact⟨Aa Lo.path (EP hk Td Tp),Aa (fun y:Lo=>y.ver.a) (EP hk Td Tp),Aa (fun y:Lo=>y.ver.b) (EP hk Td Tp),Aa (fun y:Lo=>y.ver.c) (EP hk Td Tp),Aa Lo.arch (EP hk Td Tp),Aa Lo.ifc (EP hk Td Tp),trivial⟩))
   have qV:¬(((Tr % 4):Int)=(3:Int)):=qV;refine Yi (show l.ents.length=(l.ents.map A3).length by simp only[Lm]) (cU [(6,.ref 6 0),(7,.ref 7 0),(13,vi k),(14,.ref 14 0)] [(6,.ro (Ic x ifs)),(7,.cells [sl Ac l.roots,.slice (.id 15700 6) (l.ents.map A3),sl AG l.infs,sl Ay l.skips]),(14,.ro (A3 l.ents[k])),(15700,.tok 6 (l.ents.map A3).length)] Z4 Z4 (Xi (A3 l.ents[k]) (Yi (N0 hk) (Yi rfl (yN (yN (Yi (fun pJ=>?_) (fun pJ=>?_))))))))
   .have pJ:(l.ents[k].path:ByteArray)=l.ents[k].path/\(l.ents[k].ver.a:Int)=l.ents[k].ver.a/\(l.ents[k].ver.b:Int)=l.ents[k].ver.b/\(l.ents[k].ver.c:Int)=l.ents[k].ver.c/\(l.ents[k].arch:ByteArray)=l.ents[k].arch/\(l.ents[k].ifc:ByteArray)=l.ents[k].ifc/\True:=pJ;refine Yi aa0 ?_;exact .refl _
   have pJ:¬((l.ents[k].path:ByteArray)=l.ents[k].path/\(l.ents[k].ver.a:Int)=l.ents[k].ver.a/\(l.ents[k].ver.b:Int)=l.ents[k].ver.b/\(l.ents[k].ver.c:Int)=l.ents[k].ver.c/\(l.ents[k].arch:ByteArray)=l.ents[k].arch/\(l.ents[k].ifc:ByteArray)=l.ents[k].ifc/\True):=pJ;refine yN (yN (Xi _ (Yi (N1 L d6 hf) (Yi (fun hf=>absurd h7 hf) (fun _=>?_)))));refine Yi aa0 ?_;exact absurd ⟨rfl,rfl,rfl,rfl,rfl,rfl,trivial⟩ pJ
  have h2:(KY l)=false:=h2;refine Xi .pure (Xi _ (Yi (cb h2 kF) ?_));exact .refl _
 have h1:(Er x 16&&CE l.roots)=false:=h1;refine Xi .pure (Xi _ (Yi (cb h1 (L.c11 ifs)) ?_));exact .refl _
theorem xx(l:Lk)(wh Tr:Int)(v:Ver)(d:ByteArray)(L:UQ x l.roots)(kN:eD l)(hw:0<=wh/\wh<=255)(hh:0<=Tr/\Tr<=255):PC 5 [IP x ifs,.agg (Dj l),.v (.int .u8 wh),.v (.int .u8 Tr),.agg (Gi v),vs d] (vb true):=
 sa x ifs l wh Tr v d (wh % (l.ents.length:Int)).toNat L kN hw hh (fun h=>by
  have q1:=Int.emod_nonneg wh (show(l.ents.length:Int)≠0 by omega);have q2:=Int.emod_lt_of_pos wh (show(0:Int)<l.ents.length by omega);omega) (fun h=>by
  have q1:=Int.emod_nonneg wh (show(l.ents.length:Int)≠0 by omega);rw[Lm];omega)
theorem r7(l:Lk)(L:UQ x l.roots)(hk:eD l):PC 4 [IP x ifs,.agg (Dj l)] (vb true):=xw x ifs l L hk br
end Go.Eng
