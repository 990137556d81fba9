/- Lemmas 15. -/
import Derived.Test.YteaiieomnhbmgaaGreatDoorBA14
import Derived.Test.YteaiieomnhbmgaaGreatDoorBA02
import Derived.Shelf.SlSortCmp.NoneTotal
namespace Go.Eng
open Go.Proofs Go.Proofs.Tryz Go.Shelf Go.RowKit Go.Lib Go.Sort
variable (k:Nat)
theorem gM(x y:SpA):ltOf cfSpA x y=decide (x.1.1<y.1.1):=by
 unfold ltOf cfSpA;rw[El];simp only[Bd];omega
theorem pS:SWO (ltOf cfSpA) where
 irrefl x:=by rw[gM];simp
 trans x y z h1 h2:=by rw[gM]at *;simp at *;omega
 ntrans x y z h1 h2:=by rw[gM]at *;simp at *;omega
theorem US:∀x y:List UInt8,decide (Lib.compareBytes x y<0)=IP x y
 | [],[]=>rfl
 | [],_::_=>rfl
 |_::_,[]=>rfl
 |a::x,b::y=>by
  unfold Lib.compareBytes IP
  by_cases h:a<b
  .simp[h]
  .by_cases h2:b<a
   .have:¬a=b:=fun e=>by subst e;exact absurd h2 (UInt8.lt_irrefl a)
    simp[h,h2,this]
   .have e:a=b:=UInt8.le_antisymm (UInt8.not_lt.1 h2) (UInt8.not_lt.1 h);subst e;simp[UInt8.lt_irrefl,US x y]
theorem gN(x y:TmA):ltOf cfTmA x y=Dz x.1 y.1:=US _ _
theorem pU:SWO (ltOf cfTmA) where
 irrefl x:=by rw[gN];exact Dk _
 trans x y z h1 h2:=by rw[gN]at *;exact Ds h1 h2
 ntrans x y z h1 h2:=by
  rw[gN]at *
  rw[Bb];intro h;cases hyx:Dz y.1 x.1 with
  |true=>have:=Ds hyx h;rw[h2]at this;cases this
  |false=>
   have e:=GJ h1 hyx;rw[e]at h;rw[h2]at h;cases h
abbrev YC:Value:=.func (.func k) #[] #[]
theorem aq {fn : Func}{c : Code}(hf : Tryz.prog.funcs[k]? = some fn)(hn : (fn.name == "runtime.NumGoroutine") = false)(hb : fn.body = some c) : Fz Tryz.prog k := ju hf hn hb
theorem AdL(l:List (Int×Int))(hl:BJ l)(h:∀x∈l,0<=x.1/\x.1<=1000000)(lim:Nat)(aP:lim<100) :
  AP Tryz.prog 290 [.msl 1000 l.length,vi 0,vi l.length,vi lim,.v (YC 236)] (Ai [(1000,.arr 2 (l.map Ag))] Ac) fun r h'=>
   r=.tup []/\∃l' : List (Int×Int),l'.Perm l/\l'.Pairwise (fun x y=>x.1<=y.1)/\h'=Ai [(1000,.arr 2 (l'.map Ag))] Ac:=by
 have hl:l.length<=1073741824:=hl;have hE:Fz Tryz.prog 290:=aq 290 func290 Wk rfl;have eg:∀args w,(callFunc 236 args).run Tryz.prog w=.ok (.enter 236 args) w:=enters_of func236 Wk rfl;have Jb:=JG (P:=Tryz.prog) (f:=290) (α:=SpA) (rest:=[.int .i64 0,.int .i64 l.length,.int .i64 lim,YC 236]) hE Ag encSpA (k:=2) (fun _=>rfl) (fun _=>rfl) (ltOf cfSpA) (fun x a=>a.1=x) l ch ?_ ?_ ?_
 .refine⟨hE,fun g w vals q1 q2 q3=>(Jb.2 g w vals q1 q2 q3).mono fun _ _ ⟨v,r,h',g',e1,⟨e2,l',p1,⟨al,a1,a2,a3⟩,p2⟩,rest⟩=>⟨v,r,h',g',e1,⟨e2,l',p1,?_,p2⟩,rest⟩⟩;rw[Bo]at a3⊢;intro i j hi hj aO
  have:=a3 i j ch ch aO
  rw[gM]at this;have e1:=a2 i _ _ (AY hi) (AY ch);have e2:=a2 j _ _ (AY hj) (AY ch);rw[<-e1,<-e2]
  have:=Km this
  omega
 .intro x hx g w vs hr
  match vs,hr with
  | [a,b],hr=>
   have h1:=(hr.2.2 0 (vi x.1) a rfl rfl).v_eq;have h2:=(hr.2.2 1 (vi x.2) b rfl rfl).v_eq;subst h1;subst h2;exact⟨⟨x,h x hx⟩,rfl,rfl⟩
  | [],hr=>have:=hr.1;simp at this
  | [_],hr=>have:=hr.1;simp at this
  |_::_::_::_,hr=>have:=hr.1;simp at this
 .intro w b cap d hH hb Fg hdl;have nv:CmpLays Tryz.prog 236 #[] encSpA 2 cfSpA b 0 d.size w:=fun _ _ _ _ x y=>Tryz.closure236 x y _;have hp:=AnyQ.pdqsortCmpFunc_all Tryz.layPdqSpan 2 isAgg92 sizeOf92 encSpA cfSpA 236 #[] pS b 0 cap d w eg nv ⟨fun _=>rfl,fun x v hv=>by simp[encSpA]at hv;rcases hv with rfl | rfl<;>rfl,hH,hb⟩ (d.size+1) 0 d.size lim d w ch rfl (SWK.start hH) (Al _) (Ap _) Fg ch (Or.inl rfl)
  rw[hdl]at hp⊢;refine hp.mono ?_
  rintro e w' ⟨rfl,n,os,rfl⟩
  have h:=pdq_sorts (ltOf cfSpA) pS d 0 d.size lim true true (Al _) (Ap _) (Or.inl rfl);rw[hdl]at h;exact⟨rfl,_,n,os,h.1,h.2,rfl⟩
 .intro e w;subst e;exact AnyF.pdqsortCmpFunc_none Tryz.layPdqSpan none 0 lim (YC 236) w
theorem Adu(l:List Tm)(hl:BJ l)(lim:Nat)(aP:lim<100) :
  AP Tryz.prog 368 [.msl 1000 l.length,vi 0,vi l.length,vi lim,.v (YC 351)] (Ai [(1000,.arr 3 (l.map AG))] Ac) fun r h'=>
   r=.tup []/\∃l' : List Tm,l'.Perm l/\l'.Pairwise (fun x y=>Dz y.path x.path=false)/\h'=Ai [(1000,.arr 3 (l'.map AG))] Ac:=by
 have hl:l.length<=1073741824:=hl;have hE:Fz Tryz.prog 368:=aq 368 func368 Wk rfl;have eg:∀args w,(callFunc 351 args).run Tryz.prog w=.ok (.enter 351 args) w:=enters_of func351 Wk rfl;have Jb:=JG (P:=Tryz.prog) (f:=368) (α:=TmA) (rest:=[.int .i64 0,.int .i64 l.length,.int .i64 lim,YC 351]) hE AG encTmA (k:=3) (fun _=>rfl) (fun _=>rfl) (ltOf cfTmA) (fun x a=>a.1=x.path) l ch ?_ ?_ ?_
 .refine⟨hE,fun g w vals q1 q2 q3=>(Jb.2 g w vals q1 q2 q3).mono fun _ _ ⟨v,r,h',g',e1,⟨e2,l',p1,⟨al,a1,a2,a3⟩,p2⟩,rest⟩=>⟨v,r,h',g',e1,⟨e2,l',p1,?_,p2⟩,rest⟩⟩;rw[Bo]at a3⊢;intro i j hi hj aO
  have:=a3 i j ch ch aO
  rw[gN]at this;have e1:=a2 i _ _ (AY hi) (AY ch);have e2:=a2 j _ _ (AY hj) (AY ch);rw[<-e1,<-e2];exact this
 .intro x hx g w vs hr
  match vs,hr with
  | [a,b,c],hr=>
   have h1:=(hr.2.2 0 (Go.Eng.vs x.path) a rfl rfl).v_eq;subst h1;exact⟨⟨x.path,⟨b,hr.2.1 b B0⟩,⟨c,hr.2.1 c B0⟩⟩,rfl,rfl⟩
  | [],hr=>have:=hr.1;simp at this
  | [_],hr=>have:=hr.1;simp at this
  | [_,_],hr=>have:=hr.1;simp at this
  |_::_::_::_::_,hr=>have:=hr.1;simp at this
 .intro w b cap d hH hb Fg hdl;have nv:CmpLays Tryz.prog 351 #[] encTmA 3 cfTmA b 0 d.size w:=fun _ _ _ _ x y=>Tryz.closure351 x y _;have hp:=AnyQ.pdqsortCmpFunc_all Tryz.layPdqTerm 3 isAgg343 sizeOf343 encTmA cfTmA 351 #[] pU b 0 cap d w eg nv ⟨fun _=>rfl,fun x v hv=>by
    simp only[encTmA,AU,Mi,or_false]at hv;rcases hv with rfl | rfl | rfl
    .rfl
    .exact x.2.1.2
    .exact x.2.2.2,hH,hb⟩ (d.size+1) 0 d.size lim d w ch rfl (SWK.start hH) (Al _) (Ap _) Fg ch (Or.inl rfl)
  rw[hdl]at hp⊢;refine hp.mono ?_
  rintro e w' ⟨rfl,n,os,rfl⟩
  have h:=pdq_sorts (ltOf cfTmA) pU d 0 d.size lim true true (Al _) (Ap _) (Or.inl rfl);rw[hdl]at h;exact⟨rfl,_,n,os,h.1,h.2,rfl⟩
 .intro e w;subst e;exact AnyF.pdqsortCmpFunc_none Tryz.layPdqTerm none 0 lim (YC 351) w
end Go.Eng
namespace Go.Eng
open Go.Proofs Go.Proofs.Tryz
variable {h0:Nat->HO}{α:Type}{P:Program}{args:List AV}{f:Nat}(s:A1)(l:List (Int×Int))(j:A1)(i:Nat)
-- the checker,and what reads it
theorem Ec(a b:CS):Dz a b=Op.bytesLess a.toList b.toList:=by
 have:∀x y:List UInt8,IP x y=Op.bytesLess x y:=by
  intro x
  induction x with
  |nil=>intro y;cases y<;>rfl
  |cons a x ih=>
   intro y;cases y with
   |nil=>rfl
   |cons b y=>
    unfold IP Op.bytesLess;rw[ih];rw[El];simp
 grind [Dz,ByteArray.toList_eq]
theorem AP.imp{Q Q' : AV->(Nat->HO)->Prop}(h:AP P f args h0 Q)(hq:∀r h',Q r h'->Q' r h'):AP P f args h0 Q':=h.mono fun r h' q=>⟨r,.refl _,hq r h' q⟩
theorem AP.to{r0:AV}{p:α->Prop}{H:α->Nat->HO}{Q' : AV->(Nat->HO)->Prop}(h:AP P f args h0 fun r h'=>r=r0/\∃x,p x/\h'=H x)(k:∀x,p x->Q' r0 (H x)):AP P f args h0 Q':=
 h.imp fun r h' ⟨e1,x,e2,e3⟩=>by simp_all
theorem mc(n:Nat)(h:n<=1073741824):∃lim:Nat,lim<100/\PC 161 [.v (.int .u64 (IntKind.u64.wrap (n:Int)))] (vi lim):=by
 refine⟨Lib.bitLen n,Nat.lt_of_le_of_lt (Lib.bitLen_le n 62 ch ch) ch,?_⟩;have wr:IntKind.u64.wrap (n:Int)=n:=by grind [IntKind.wrap,IntKind.bits]
 rw[wr];refine JY [.int .u64 n] (.int .i64 (Lib.bitLen n:Nat)) (aq 161 func161 Wk rfl) rfl (fun _ _=>.v _ _) fun w _=>?_
 have:=Any.bits_Len Tryz.layBits (n:Int) w ch ch
 rw[Dq]at this;exact this
theorem AdD(hl:BJ l)(h:∀x∈l,0<=x.1/\x.1<=1000000) :
  AP Tryz.prog 235 [.msl 1000 l.length,.v (YC 236)] (Ai [(1000,.arr 2 (l.map Ag))] Ac) fun r h'=>
   r=.tup []/\∃l' : List (Int×Int),(l'.Perm l/\l'.Pairwise (fun x y=>x.1<=y.1))/\h'=Ai [(1000,.arr 2 (l'.map Ag))] Ac:=by
 obtain⟨lim,aP,hb⟩:=mc l.length hl;refine BO (LB C3) [(1000,1000)] rfl Ck hm rfl func235 Wk rfl (Nz rfl) Wk rfl (C1 (C2 (hb) (Xi (.gen [(1000,1000)] 0) (Yi rfl ((AdL l hl h lim aP).imp ?_)))));intro r h' hq;refine AX hq.2 (fun l' SL=>?_);refine Xi (.tup []) (Yi ?_ (Yi rfl (Xi l' (Yi ⟨SL.1,SL.2.1⟩ ?_))))
 .exact .refl _
 .rw[SL.2.2];rfl
theorem c61(l:List Tm)(hl:BJ l) :
  AP Tryz.prog 350 [.msl 1000 l.length,.v (YC 351)] (Ai [(1000,.arr 3 (l.map AG))] Ac) fun r h'=>
   r=.tup []/\∃l' : List Tm,(l'.Perm l/\l'.Pairwise (fun x y=>Dz y.path x.path=false))/\h'=Ai [(1000,.arr 3 (l'.map AG))] Ac:=by
 obtain⟨lim,aP,hb⟩:=mc l.length hl;refine BO (LB C3) [(1000,1000)] rfl Ck hm rfl func350 Wk rfl (Nz rfl) Wk rfl (C1 (C2 (hb) (Xi (.gen [(1000,1000)] 0) (Yi rfl ((Adu l hl lim aP).imp ?_)))));intro r h' hq;refine AX hq.2 (fun l' SL=>?_);refine Xi (.tup []) (Yi ?_ (Yi rfl (Xi l' (Yi ⟨SL.1,SL.2.1⟩ ?_))))
 .exact .refl _
 .rw[SL.2.2];rfl
abbrev pla(l:List (Nat×Nat))(cut:List Nat):Qz:=⟨[],[],l,[],[],[],[],[],[],[],cut⟩
abbrev GQ:HO:=.arr 2 (l.map Ag)
theorem TX(l:A1)(i:Nat):(D0 (l.take i)).length<=i:=by
 grind [D0]
theorem QI{l:A1}{i:Nat}(h:i<l.length)(h3:(GU l[i]).1<(GU l[i]).2):D0 (l.take (i+1))=D0 (l.take i)++[GU l[i]]:=by
 grind [List.take_add_one,D0]
theorem TW{l:A1}{i:Nat}(h:i<l.length)(h3:¬(GU l[i]).1<(GU l[i]).2):D0 (l.take (i+1))=D0 (l.take i):=by
 grind [List.take_add_one,D0]
abbrev arr2:A1:=(BI (s.take i)).reverse++(j++s.drop i)
theorem qZ(h:i<s.length)(hj:(BI (s.take i)).length+j.length=i):(arr2 s j i)[i]?=some s[i]:=by
 unfold arr2;rw[BR (by grind),BR (by grind),List.length_reverse,FW]
 grind
theorem lS(h:i<=s.length)(hj:(BI (s.take i)).length+j.length=i):(arr2 s j i).length=s.length:=by
 grind
theorem gg(s:List α)(i:Nat)(h:i<s.length):s.drop i=s[i]::s.drop (i+1):=A2 h
theorem WE(h:i<s.length)(e:J8 (BI (s.take i)) s[i]=s[i]::BI (s.take i)) :
  (arr2 s j i).set (BI (s.take i)).length s[i]=arr2 s (j++[s[i]]).tail (i+1):=by
 unfold arr2;rw[Fi s i h,e,List.reverse_cons,List.set_append_right _ _ (by simp_all),List.length_reverse,IW,ER,gg s i h]
 congr 1
 cases j<;>grind
theorem iZ(h:i<s.length){y:Int×Int}{t:A1}(e:BI (s.take i)=y::t)(Jr:s[i].1<=y.2) :
  (arr2 s j i).set t.length (y.1,max y.2 s[i].2)=arr2 s (j++[s[i]]) (i+1):=by
 unfold arr2;have e2:J8 (y::t) s[i]=(y.1,max y.2 s[i].2)::t:=by show(if s[i].1<=y.2 then _ else _)=_;simp_all
 rw[Fi s i h,e,e2,List.reverse_cons,List.reverse_cons,ER,List.set_append_right _ _ (by simp_all),List.length_reverse,IW,gg s i h];simp
theorem Ed{enc:α->List AV}{l:List α}{i:Nat}{x:α}(h:l[i]?=some x):(l.map enc)[i]?=some (enc x):=by simp_all
theorem Yo(hl:BJ l):PC 169 [sl Ag l] (sl Ag (canon l)):=by
 refine FD (jr (pla [(3,2)] [])) rfl Ck hm rfl func169 Wk rfl (Nz rfl) Wk (Xi {i:Nat // i<=l.length} (Xi (fun i=>⟨[(0,sl Ag l),(3,.msl 3 (D0 (l.take i.1)).length),(9,sl Ag l),(10,vi (l.map Ag).length),(11,vi i.1)],[(3,GQ (D0 (l.take i.1)))],Ac⟩) (Xi (fun i=>l.length-i.1) (Yi (Xi ⟨0,by simp⟩ ?_) ?_))))
 .exact⟨Z5,Z1,Fh,Tv⟩
 .intro⟨i,h1⟩;have hn:=TX l i;refine Yi ?_ ?_
  .intro h;have h:i<l.length:=by simp_all
   have hg:l[i]?=some l[i]:=Ge h;refine Xi (Ag l[i]) (Yi (Yi ch (by simp_all)) (Yi rfl ?_));refine Yi (Nz rfl) (yN (yN (Yi ?_ ?_)))
   .intro h3;refine yN ?_;have FZ:Bi 2 [[vi (max l[i].1 0),vi (min l[i].2 1000000)]]/\((D0 (l.take i)).map Ag).length=(D0 (l.take i)).length/\(((D0 (l.take i)).map Ag).length+[[vi (max l[i].1 0),vi (min l[i].2 1000000)]].length)*16<=140737488355328/\((D0 (l.take i)).map Ag).length+[[vi (max l[i].1 0),vi (min l[i].2 1000000)]].length<=9223372036854775807:=
     ⟨⟨rfl,trivial⟩,by simp_all,by grind,by grind⟩
    refine Yi FZ (Yi (by grind [Av]) (Xi ⟨i+1,by omega⟩ ?_));have e1:AV.msl 3 (((D0 (l.take i)).map Ag).length+[[vi (max l[i].1 0),vi (min l[i].2 1000000)]].length)=.msl 3 (D0 (l.take (i+1))).length:=by rw[QI h h3];simp
    have e2:HO.arr 2 ((D0 (l.take i)).map Ag++[[vi (max l[i].1 0),vi (min l[i].2 1000000)]])=GQ (D0 (l.take (i+1))):=by rw[QI h h3];simp[GU]
    exact⟨by grind,⟨Zr,⟨e1,rfl⟩,Zr,Zr,Zr,Tv⟩,⟨⟨e2,rfl⟩,Tv⟩,Fh,Tv⟩
   .intro h3;refine Yi (by grind [Av]) (Xi ⟨i+1,by omega⟩ ?_);have e1:AV.msl 3 (D0 (l.take i)).length=.msl 3 (D0 (l.take (i+1))).length:=by rw[TW h h3]
    have e2:GQ (D0 (l.take i))=GQ (D0 (l.take (i+1))):=by rw[TW h h3]
    exact⟨by grind,⟨Zr,⟨e1,rfl⟩,Zr,Zr,Zr,Tv⟩,⟨⟨e2,rfl⟩,Tv⟩,Fh,Tv⟩
  .intro h;have h:¬i<l.length:=by simp_all
   have ei:D0 (l.take i)=D0 l:=by grind
   have hN:(D0 (l.take i)).length=(D0 l).length:=by rw[ei]
   refine Xi (.gen [(3,1000)] 0) (Yi rfl ((AdD (D0 (l.take i)) ch (fun x hx=>by have:=WP hx;omega)).to ?_));intro s hs;have Ou:s.length=(D0 (l.take i)).length:=hs.1.length_eq;have hsN:s.length<=1073741824:=by omega
   have fin:(BI s).reverse=canon l:=L5 (by simp_all) hs.2;refine Xi {p:Nat×A1 // p.1<=s.length/\(BI (s.take p.1)).length+p.2.length=p.1} (Xi (fun p=>⟨[(3,.msl 3 (D0 (l.take i)).length),(6,vi (BI (s.take p.1.1)).length),(34,.msl 3 (D0 (l.take i)).length),(35,vi (D0 (l.take i)).length),(36,vi p.1.1)],[(3,GQ (arr2 s p.1.2 p.1.1))],Ac⟩) (Xi (fun p=>s.length-p.1.1) (Yi (Xi ⟨(0,[]),Al _,rfl⟩ ?_) ?_)))
   .exact⟨Z5,Z1,Fh,Tv⟩
   intro⟨⟨k,j⟩,k1,k2⟩;have k2:(BI (s.take k)).length+j.length=k:=k2;have Dd:=lS s j k k1 k2;have UA:(D0 (l.take i)).length=((arr2 s j k).map Ag).length:=by simp_all
   refine Yi ?_ ?_
   .intro h2;have h2:(k:Int)<(D0 (l.take i)).length:=h2;have hk:k<s.length:=by omega
    have SJ:=Ed (enc:=Ag) (qZ s j k hk k2);refine Yi ⟨by omega,by omega⟩ ?_;refine Yi UA (Xi (Ag s[k]) (Yi SJ (Yi (Nz rfl) (yN ?_))));have hr:=OD s k k1;refine AN (Nat.eq_zero_or_pos k) (fun k0=>?_) (fun k0=>?_)
    .refine Yi ?_ ?_
     .intro h4;have h4:(0:Int)<k:=h4;omega
     .intro _;refine Yi Wk ?_;have KR:J8 (BI (s.take k)) s[k]=s[k]::BI (s.take k):=by subst k0;rfl
      have qF:(BI (s.take k)).length<(arr2 s j k).length:=by omega
      have hz:=Ed (enc:=Ag) (Ge qF);refine Yi (Nz rfl) (Yi ⟨by omega,by simp_all⟩ ?_);refine Yi UA (Xi (Ag (arr2 s j k)[(BI (s.take k)).length]) (Yi hz (yN (Yi (by show Av (((BI (s.take k)).length:Int)+1);unfold Av;omega) ?_))));refine Yi (Ii k ch) ?_;have hm:=Fi s k hk;have e1:vi (((BI (s.take k)).length:Int)+1)=vi (BI (s.take (k+1))).length:=by simp_all
      have e2:HO.arr 2 (((arr2 s j k).map Ag).set (BI (s.take k)).length [vi s[k].1,vi s[k].2])=GQ (arr2 s (j++[s[k]]).tail (k+1)):=by rw[<-WE s j k hk KR];simp only[GQ,IV]
      refine Xi ⟨(k+1,(j++[s[k]]).tail),by omega,by simp_all⟩ ?_;exact⟨Dl s.length k ch,⟨Zr,⟨e1,rfl⟩,Zr,Zr,Zr,Tv⟩,⟨⟨e2,rfl⟩,Tv⟩,Fh,Tv⟩
    .refine Yi ?_ ?_
     .intro _;obtain⟨y,t,e⟩:∃y t,BI (s.take k)=y::t:=by
       cases hc:BI (s.take k)with
       |nil=>simp_all
       |cons y t=>grind
      have ht:(((BI (s.take k)).length:Int)-1).toNat=t.length:=by grind
      have hy:((arr2 s j k).map Ag)[(((BI (s.take k)).length:Int)-1).toNat]?=some (Ag y):=by rw[ht];grind
      refine Yi (by show Av (((BI (s.take k)).length:Int)-1);unfold Av;omega) ?_;have AaE:=hr.2 k0;refine Yi ⟨by grind,by grind⟩ ?_;refine Yi UA (Xi (Ag y) (Yi hy (Yi ?_ ?_)))
      .intro h5;refine Yi Wk (Yi (by show Av (((BI (s.take k)).length:Int)-1);unfold Av;omega) (Yi (by show Av (((BI (s.take k)).length:Int)-1);unfold Av;omega) ?_));refine Yi ⟨by grind,by grind⟩ ?_;refine Yi UA (Xi (Ag y) (Yi hy (Yi ⟨by grind,by grind⟩ ?_)));refine Yi UA (Xi (Ag y) (Yi hy (yN (Yi Wk (Yi (Ii k ch) ?_)))));have hm:=Fi s k hk;have KR:J8 (BI (s.take k)) s[k]=(y.1,max y.2 s[k].2)::t:=by rw[e];show(if s[k].1<=y.2 then _ else _)=_;grind
       have e1:vi (BI (s.take k)).length=vi (BI (s.take (k+1))).length:=by rw[hm,KR,e];simp
       have e2:HO.arr 2 (((arr2 s j k).map Ag).set (((BI (s.take k)).length:Int)-1).toNat [vi y.1,vi (max y.2 s[k].2)])=GQ (arr2 s (j++[s[k]]) (k+1)):=by rw[<-iZ s j k hk e h5,ht];simp only[GQ,IV]
       refine Xi ⟨(k+1,j++[s[k]]),by omega,by show(BI (s.take (k+1))).length+(j++[s[k]]).length=k+1;rw[hm,KR,Ak,DJ];grind⟩ ?_;exact⟨Dl s.length k ch,⟨Zr,⟨e1,rfl⟩,Zr,Zr,Zr,Tv⟩,⟨⟨e2,rfl⟩,Tv⟩,Fh,Tv⟩
      .intro h5;refine Yi Wk ?_;have KR:J8 (BI (s.take k)) s[k]=s[k]::BI (s.take k):=by rw[e];show(if s[k].1<=y.2 then _ else _)=_;grind
       have qF:(BI (s.take k)).length<(arr2 s j k).length:=by omega
       have hz:=Ed (enc:=Ag) (Ge qF);refine Yi (Nz rfl) (Yi ⟨by omega,by grind⟩ ?_);refine Yi UA (Xi (Ag (arr2 s j k)[(BI (s.take k)).length]) (Yi hz (yN (Yi (by show Av (((BI (s.take k)).length:Int)+1);unfold Av;omega) ?_))));refine Yi (Ii k ch) ?_;have hm:=Fi s k hk;have e1:vi (((BI (s.take k)).length:Int)+1)=vi (BI (s.take (k+1))).length:=by rw[hm,KR];simp
       have e2:HO.arr 2 (((arr2 s j k).map Ag).set (BI (s.take k)).length [vi s[k].1,vi s[k].2])=GQ (arr2 s (j++[s[k]]).tail (k+1)):=by rw[<-WE s j k hk KR];simp only[GQ,IV]
       refine Xi ⟨(k+1,(j++[s[k]]).tail),by omega,by show(BI (s.take (k+1))).length+((j++[s[k]]).tail).length=k+1;rw[hm,KR];simp;omega⟩ ?_;exact⟨Dl s.length k ch,⟨Zr,⟨e1,rfl⟩,Zr,Zr,Zr,Tv⟩,⟨⟨e2,rfl⟩,Tv⟩,Fh,Tv⟩
     .intro h4;have h4:¬(0:Int)<k:=h4;omega
   .intro h2;have h2:¬(k:Int)<(D0 (l.take i)).length:=h2;have hk:k=s.length:=by omega
    have hr:=OD s k k1;have sa:((((arr2 s j k).map Ag).take ((BI (s.take k)).length:Int).toNat).drop 0)=(canon l).map Ag:=by
     rw[List.drop_zero,Dq,<-Mr,<-fin]
     grind
    refine Yi ⟨UA,by simp_all,by simp_all,by grind,.inr ⟨rfl,by simp⟩⟩ ?_;exact .of_eq (Aa (AV.slice .none) sa)
end Go.Eng
namespace Go.Eng
open Go.Proofs Go.Sort
variable {m:List (Int×Int)}{S:A1}(zs:List Int)(z:Int)
abbrev GK:List AV:=[vi z]
theorem Rm{α:Type}[Inhabited α](enc:α->Value)(w:World)(b:Nat)(d:Array α):putRow enc w b 0 d=putRow id w b 0 (d.map enc):=by
 unfold putRow
 congr 1
 grind [putCells]
theorem WW:(zs.map GK).flatten=(zs.map fun z=>Value.int .i64 z).map AV.v:=by
 induction zs<;>simp_all
theorem NG(g:Gh)(w:World)(U:Nat->Prop)(vs:List Value)(h:∀x∈vs,x.oneCell'=true):Cs g w U (vs.map .v) vs:=
 ⟨by simp,h,fun i av x q1 q2=>by
  grind [Ba.v]⟩
theorem LX{g:Gh}{w:World}{U:Nat->Prop}{vs us:List Value}(h:Cs g w U (vs.map .v) us):us=vs:=by
 apply Da;intro i;have hl:=h.1;rw[Lm]at hl
 by_cases hi:i<vs.length
 .have:=h.2.2 i (.v vs[i]) us[i] (by simp_all) (Ge ch)
  grind [Ba.v_eq]
 simp_all
theorem AdK(hl:BJ zs)(Ek:zs≠[]) :
  AP Tryz.prog 366 [.msl 1000 zs.length] (Ai [(1000,.arr 1 (zs.map GK))] Ac) fun r h'=>
   r=.tup []/\∃l' : List Int,(l'.Perm zs/\l'.Pairwise fun a b=>a<=b)/\h'=Ai [(1000,.arr 1 (l'.map GK))] Ac:=by
 have hE:Fz Tryz.prog 366:=aq 366 Tryz.func366 Wk rfl;have Jb:=QB (P:=Tryz.prog) (f:=366) (es:=zs.map GK) (sz:=1) (rest:=[]) (Q:=fun FG=>∃l' : List Int,(l'.Perm zs/\l'.Pairwise fun a b=>a<=b)/\FG=l'.map GK) hE ?_ ?_
 .grind
 .simp_all
 .intro g w b cap F hr hF hH hb;have hFl:F.toList=zs.map fun z=>Value.int .i64 z:=LX (by rw[<-WW];exact hr);have hFz:F=zs.toArray.map fun z=>Value.int .i64 z:=Ts.1 (by simp_all);have z8:Holds (Value.int .i64) w b 0 zs.toArray:=fun j hj=>by
   have:=hH j (by simp_all)
   simp_all
  have hc:=Any.slices_Sort_int Tryz.laySortInts b 0 cap zs w z8 hb ch;rw[Lm];refine hc.mono ?_
  rintro e w' ⟨rfl,n,os,rfl⟩
  have Jd:(zs.mergeSort fun x y=>decide (x<=y)).Perm zs:=NO _ _;have Dd:=Jd.length_eq;refine⟨rfl,(zs.mergeSort fun x y=>decide (x<=y)).toArray.map fun z=>Value.int .i64 z,(zs.mergeSort fun x y=>decide (x<=y)).map GK,n,os,?_,⟨_,⟨Jd,?_⟩,rfl⟩,by simp_all,fun cs hcs=>?_,fun g w _=>?_,by rw[Rm]⟩
  .simp_all
  .grind [List.pairwise_mergeSort]
  .grind
  .rw[WW];have e:((zs.mergeSort fun x y=>decide (x<=y)).toArray.map fun z=>Value.int .i64 z).toList=(zs.mergeSort fun x y=>decide (x<=y)).map fun z=>Value.int .i64 z:=by simp
   rw[e];exact NG _ _ _ _ fun x hx=>by
    obtain⟨z,_,rfl⟩:=Ax.1 hx;rfl
-- maps from numbers to numbers
abbrev Zm:EU:=⟨false,[.int .i64]⟩
abbrev kI:Value:=.int .i64 z
abbrev Ns(p:Int×Int):Value×AV:=(kI p.1,vi p.2)
abbrev Gt(s:A1):List AV:=[sl Ag s]
theorem YY{k:Int}{a:AV}:(kI k,a)∈m.map Ns↔∃v,(k,v)∈m/\a=vi v:=by
 grind
theorem Tg(m:List (Int×Int))(k v:Int):EM (m.map Ns) (kI k) (vi v)=(LW m k v).map Ns:=by
 unfold LW
 by_cases h:(m.any fun p=>decide (p.1=k))=true
 .rw[Ay h];obtain⟨p,h1,h2⟩:=BC.1 h;have h2:=AW h2
  have:(kI k,vi p.2)∈m.map Ns:=YY.2 ⟨p.2,by grind,rfl⟩
  rw[Nv this,Br,Br]
  grind [List.map_congr_left]
 grind [Ir]
theorem PI{T:GF}{e:Nat}{B1:List (Value×AV)}{kx:Value}{K:AV->Prop}(a0 z0:AV)(h1:∀a,(kx,a)∈B1->a=a0)(hz:(∀a,(kx,a)∉B1)->a0=z0)(h2:K z0->KQ T e K)(k:K a0) :
  (∀a,(kx,a)∈B1->K a)/\((∀a,(kx,a)∉B1)->KQ T e K):=⟨fun a h=>by grind,fun hn=>h2 (hz hn▸k)⟩
theorem RF(m:List (Int×Int))(k:Int):(∀a,(kI k,a)∉m.map Ns)->vi (Fx m k)=vi 0:=fun OX=>by
 rw[p7 fun hk=>by
  obtain⟨p,hp,e⟩:=Ax.1 hk;exact OX (vi p.2) (YY.2 ⟨p.2,by grind,rfl⟩)]
theorem RE(hn:(Fa m).Nodup)(k:Int):∀a,(kI k,a)∈m.map Ns->a=vi (Fx m k):=fun a h=>by
 obtain⟨v,h1,rfl⟩:=YY.1 h;rw[p6 hn h1]
theorem FV.bound(h:FV m S)(k:Int):-(S.length:Int)<=Fx m k/\Fx m k<=S.length:=by
 rw[h.val]
 grind [cF,cT]
theorem dE(l:List A1):(l.map canon).flatten.length<=l.length*1000000:=by
 induction l<;>grind [In,Cc]
theorem FV.few(h:FV m S):m.length<=1000001:=by
 have:=IB (m:=(List.range 1000001).map Int.ofNat) h.nd fun k hk=>by
  have:=h.rng k hk
  grind [Int]
 grind [Fa]
theorem Xh(keep:Nat->Bool)(m:List (Int×Int))(B:List Int):∀n,(Ez keep m B n).length<=n
 |0=>Ap _
 |n+1=>by
  unfold Ez
  have:=Xh keep m B n
  grind
end Go.Eng
namespace Go.Eng
open Go.Proofs Go.Proofs.Tryz
variable {m:List Tm}{α:Type}(u:Tm)(n:Int)(l:List Tm)(p:CS)(x:α)(s:A1)(q:Rq)(t:Tm)
abbrev plC:Qz:=⟨[],[(12,2)],[(44,1)],[],[],[],[],[],[],[],[8,9,15,23,25,26]⟩
theorem vW(F:AV)(keep:Nat->Bool)(l:List A1)(hl:BJ l)(hs:∀s∈l,BJ s)(hid:∀h,UD h F=true)(hF:∀h (n:Int),0<=n->n<=l.length->Qy Tryz.prog (str h F) [vi n] (vb (keep n.toNat)))
  (R:A1) (hR:EP R) (hRh:∀p,has R p=(SP p&&keep (mB l p))):PC 341 [F,sl Gt l] (sl Ag R):=by
 refine Ps plC func341 rfl (Nz rfl) (Xi {p:Nat×List (Int×Int) // p.1<=l.length/\FV p.2 ((l.take p.1).map canon).flatten} (Xi (fun p=>⟨[(0,F),(5,.mref 15),(17,sl Gt l),(18,vi (l.map Gt).length),(19,vi p.1.1)],[(15,.map Zm (p.1.2.map Ns))],Ac⟩) (Xi (fun p=>l.length-p.1.1) (Yi (Xi ⟨(0,zK),Al _,rv⟩ ?_) ?_))))
 .have e0:HO.map Zm (EM (EM [] (kI 0) (vi 0)) (kI 1000000) (vi 0))=.map Zm (zK.map Ns):=by
   have e1:=Tg [] 0 0;have e2:=Tg [(0,0)] 1000000 0;show HO.map Zm (EM (EM (List.map Ns []) (kI 0) (vi 0)) (kI 1000000) (vi 0))=_;rw[e1];show HO.map Zm (EM (List.map Ns [(0,0)]) (kI 1000000) (vi 0))=_;rw[e2];rfl
  exact⟨⟨⟨rfl,hid _⟩,Zr,Zr,Zr,Zr,Tv⟩,⟨⟨e0,rfl⟩,Tv⟩,Fh,Tv⟩
 intro⟨⟨i,cm⟩,i1,i2⟩;refine Yi ?_ ?_
 .intro h;have h:i<l.length:=by simp_all
  have hg:l[i]?=some l[i]:=Ge h;refine Xi (Gt l[i]) (Yi (Yi ch (by simp_all)) (Yi rfl ?_));refine C1 (C2 (Yo l[i] (hs _ (Ae h))) (Xi {p:Nat×List (Int×Int) // p.1<=(canon l[i]).length/\FV p.2 (((l.take i).map canon).flatten++(canon l[i]).take p.1)} (Xi (fun p=>⟨[(0,F),(5,.mref 15),(17,sl Gt l),(18,vi (l.map Gt).length),(19,vi i),(24,sl Ag (canon l[i])),(25,vi ((canon l[i]).map Ag).length),(26,vi p.1.1)],[(15,.map Zm (p.1.2.map Ns))],Ac⟩) (Xi (fun p=>(canon l[i]).length-p.1.1) (Yi (Xi ⟨(0,cm),Al _,by grind⟩ ?_) ?_)))))
  .exact⟨⟨⟨rfl,hid _⟩,Zr,Zr,Zr,Zr,Zr,Zr,Zr,Tv⟩,Z1,Fh,Tv⟩
  intro⟨⟨j,dm⟩,j1,j2⟩;have j2:FV dm (((l.take i).map canon).flatten++(canon l[i]).take j):=j2;have hS:(((l.take i).map canon).flatten++(canon l[i]).take j).length<=1073741825000000:=by
   grind [dE,In,Cc]
  refine Yi ?_ ?_
  .intro hj;have hj:j<(canon l[i]).length:=by simp_all
   have hgj:(canon l[i])[j]?=some (canon l[i])[j]:=Ge hj;have w7:=(Cc l[i]).low _ (Ae hj);have j3:FV (cq dm (canon l[i])[j]) (((l.take i).map canon).flatten++(canon l[i]).take (j+1)):=by
    grind [lc,List.take_add_one]
   generalize (canon l[i])[j]=x at hgj w7 j3;have b1:=j2.bound x.1;have qF:=MS j2.nd x.1 (Fx dm x.1+1);refine Xi (Ag x) (Yi (Yi ch (by simp_all)) (Yi rfl ?_));refine Yi (Nz rfl) (yN (Xi ⟨[(0,F),(5,.mref 15),(9,.ref 9 0),(17,sl Gt l),(18,vi (l.map Gt).length),(19,vi i),(24,sl Ag (canon l[i])),(25,vi ((canon l[i]).map Ag).length),(26,vi j)],[(9,.cells (Ag x)),(15,.map Zm (dm.map Ns))],Ac⟩ (Yi ⟨⟨⟨rfl,hid _⟩,Zr,Zr,Zr,Zr,Zr,Zr,Zr,Zr,Tv⟩,Z2,Fh,Tv⟩ (PI (vi (Fx dm x.1)) (vi 0) (RE j2.nd x.1) (RF dm x.1) (fun q=>q) (Yi (by grind [Av]) ?_)))));have m1:HO.map Zm (EM (dm.map Ns) (kI x.1) (vi (Fx dm x.1+1)))=.map Zm ((LW dm x.1 (Fx dm x.1+1)).map Ns):=by rw[Tg]
   refine Xi ⟨[(0,F),(5,.mref 15),(9,.ref 9 0),(17,sl Gt l),(18,vi (l.map Gt).length),(19,vi i),(24,sl Ag (canon l[i])),(25,vi ((canon l[i]).map Ag).length),(26,vi j)],[(9,.cells (Ag x)),(15,.map Zm ((LW dm x.1 (Fx dm x.1+1)).map Ns))],Ac⟩ (Yi ⟨⟨⟨rfl,hid _⟩,Zr,Zr,Zr,Zr,Zr,Zr,Zr,Zr,Tv⟩,⟨Zr,⟨m1,rfl⟩,Tv⟩,Fh,Tv⟩ ?_)
   have b2:-(1073741825000001:Int)<=Fx (LW dm x.1 (Fx dm x.1+1)) x.2/\Fx (LW dm x.1 (Fx dm x.1+1)) x.2<=1073741825000001:=by
    have b3:=j2.bound x.2
    grind [Qu]
   refine PI (vi (Fx (LW dm x.1 (Fx dm x.1+1)) x.2)) (vi 0) (RE qF x.2) (RF _ x.2) (fun q=>q) (Yi (by show Av (Fx (LW dm x.1 (Fx dm x.1+1)) x.2-1);grind [Av]) ?_);have hcl:=In (Cc l[i]);refine Yi (by grind [Av]) ?_;have m2:HO.map Zm (EM ((LW dm x.1 (Fx dm x.1+1)).map Ns) (kI x.2) (vi (Fx (LW dm x.1 (Fx dm x.1+1)) x.2-1)))=.map Zm ((cq dm x).map Ns):=by rw[Tg];rfl
   refine Xi ⟨(j+1,cq dm x),by omega,j3⟩ ?_;exact⟨by grind,⟨⟨rfl,hid _⟩,Zr,Zr,Zr,Zr,Zr,Zr,Zr,Tv⟩,⟨⟨m2,rfl⟩,Tv⟩,Fh,Tv⟩
  .intro hj;have hj:¬j<(canon l[i]).length:=by simp_all
   refine Yi (by grind [Av]) ?_;have i3:FV dm ((l.take (i+1)).map canon).flatten:=by
    have e1:(canon l[i]).take j=canon l[i]:=Au ch;rw[e1]at j2;have e2:((l.take (i+1)).map canon).flatten=((l.take i).map canon).flatten++canon l[i]:=by
     rw[Dr,hg,AF,CR];simp_all
    simp_all
   refine Xi ⟨(i+1,dm),by omega,i3⟩ ?_;exact⟨by grind,⟨⟨rfl,hid _⟩,Zr,Zr,Zr,Zr,Tv⟩,Z1,Fh,Tv⟩
 .intro h;have h:¬i<l.length:=by simp_all
  have i3:FV cm (l.map canon).flatten:=by
   grind
  have Aak:=i3.few;have hmk:(0:Int)<=0/\(0:Int)<=((cm.map Ns).length:Int)/\((cm.map Ns).length:Int)*((8:Nat):Int)<=140737488355328/\((cm.map Ns).length:Int)<=9223372036854775807:=by grind
  refine Yi hmk (Xi {p:List (Value×AV)×List Int×Option (Value×AV) // ((p.2.1.map kI)++p.1.map (·.1)).Perm ((cm.map Ns).map (·.1))/\∀kv∈p.1,kv∈cm.map Ns} (Xi (fun p=>⟨[(0,F),(5,.mref 15),(10,.msl 44 p.1.2.1.length),(46,.ref 46 0)],[(15,.rom Zm (cm.map Ns)),(44,.arr 1 (p.1.2.1.map GK)),(46,.iter (cm.map Ns) p.1.1 p.1.2.2)],Ac⟩) (Xi (fun p=>p.1.1.length) (Yi (Xi ⟨(cm.map Ns,[],none),.refl _,fun _ h=>h⟩ ?_) ?_))))
  .exact⟨⟨⟨rfl,hid _⟩,Zr,Zr,Zr,Tv⟩,Z3,Fh,Tv⟩
  intro⟨⟨rem,bs,Ei⟩,r1,r2⟩;have hbl:bs.length<=1000001:=by
   grind [List.length_append,Lm,List.Perm.length_eq]
  refine Yi ?_ ?_
  .intro hr;subst hr;rw[HA,BG,Br]at r1;have dQ:bs.Perm (Fa cm):=by
    have r1:(bs.map kI).Perm ((Fa cm).map kI):=by unfold Fa;rw[Br];exact r1
    have:=r1.map (fun v:Value=>match v with | .int _ n=>n | _=>0)
    rw[Br,Br]at this;have e:((fun v:Value=>match v with | .int _ n=>n | _=>0) ∘ kI)=id:=rfl;simp_all
   have Ek:bs≠[]:=fun e=>by
    subst e
    have:=dQ.length_eq
    have h0:=i3.keys.1;simp_all
   refine Xi (.gen [(44,1000)] 0) (Yi rfl ((AdK bs ch Ek).to ?_));intro B hBs;have hBl:B.length=bs.length:=hBs.1.length_eq;have hBn:B.Nodup:=(hBs.1.trans dQ).nodup_iff.2 i3.nd;have hB:qR B cm:=⟨hBs.1.trans dQ,by
    grind [List.pairwise_iff_getElem]⟩
   have Ahx:0<B.length:=by
    grind
   have hNE:bs.length=(B.map GK).length:=by simp_all
   refine Yi (by grind [Av]) (Xi {k:Nat // k<=B.length-1} (Xi (fun k=>⟨[(0,F),(5,.mref 15),(10,.msl 44 bs.length),(12,.slice (.id 12 2) ((Ez keep cm B k.1).map Ag)),(13,vi (I4 cm (B.take k.1))),(59,vi ((bs.length:Int)-1)),(60,vi k.1)],[(12,.tok 2 ((Ez keep cm B k.1).map Ag).length),(15,.rom Zm (cm.map Ns)),(44,.arr 1 (B.map GK))],Ac⟩) (Xi (fun k=>B.length-k.1) (Yi (Xi ⟨0,Al _⟩ ?_) ?_))))
   .exact⟨⟨⟨rfl,hid _⟩,Zr,Zr,Zr,Zr,Zr,Zr,Tv⟩,Z3,Fh,Tv⟩
   intro⟨k,k1⟩;have yT:=Xh keep cm B k;refine Yi ?_ ?_
   .intro hk;have hk:(k:Int)<(bs.length:Int)-1:=hk;have Qx:k+1<B.length:=by omega
    have jL:k<B.length:=by omega
    have SJ:(B.map GK)[k]?=some (GK B[k]):=Ed (Ge jL);have AjL:(B.map GK)[k+1]?=some (GK B[k+1]):=Ed (Ge Qx);have jQ:=RB cm B k jL;have Aku:=pQ i3 hB k jL;have uM:Ez keep cm B (k+1)=Ez keep cm B k++(if keep (I4 cm (B.take (k+1))).toNat then [(B[k],B[k+1])]else []):=by
     show _++(match B[k]?,B[k+1]? with | some a,some b=>if keep (I4 cm (B.take (k+1))).toNat then [(a,b)]else [] | _,_=>[])=_
     grind
    refine Xi ⟨[(0,F),(5,.mref 15),(10,.msl 44 bs.length),(12,.slice (.id 12 2) ((Ez keep cm B k).map Ag)),(13,vi (I4 cm (B.take k))),(14,vi k),(59,vi ((bs.length:Int)-1)),(60,vi k)],[(12,.tok 2 ((Ez keep cm B k).map Ag).length),(15,.rom Zm (cm.map Ns)),(44,.arr 1 (B.map GK))],Ac⟩ (Yi ⟨⟨⟨rfl,hid _⟩,Zr,Zr,Zr,Zr,Zr,Zr,Zr,Tv⟩,Z3,Fh,Tv⟩ (Yi ⟨by omega,by omega⟩ ?_));refine Yi hNE (Xi (GK B[k]) (Yi SJ (PI (vi (Fx cm B[k])) (vi 0) (RE i3.nd B[k]) (RF cm B[k]) (fun q=>q) (Yi (by grind [Av]) ?_))));have BV:∀h,Qy Tryz.prog (str h F) [vi (I4 cm (B.take k)+Fx cm B[k])] (vb (keep (I4 cm (B.take (k+1))).toNat)):=fun h=>by
     grind
    refine AN (Bt (keep (I4 cm (B.take (k+1))).toNat)) (fun hp=>?_) (fun hp=>?_)
    .rw[hp]at BV;rw[hp,Ay rfl]at uM;refine Xi .pure (Xi (vb true) (Yi (BV _) (Xi ⟨[(0,F),(5,.mref 15),(10,.msl 44 bs.length),(12,.slice (.id 12 2) ((Ez keep cm B k).map Ag)),(13,vi (I4 cm (B.take k)+Fx cm B[k])),(14,vi k),(59,vi ((bs.length:Int)-1)),(60,vi k)],[(12,.tok 2 ((Ez keep cm B k).map Ag).length),(15,.rom Zm (cm.map Ns)),(44,.arr 1 (B.map GK))],Ac⟩ (Yi ⟨⟨⟨rfl,hid _⟩,Zr,Zr,Zr,Zr,Zr,Zr,Zr,Tv⟩,Z3,Fh,Tv⟩ ?_))))
     have b1:(0:Int)<=(k:Int)+1/\(k:Int)+1<bs.length:=by omega
     have AeV:(B.map GK)[((k:Int)+1).toNat]?=some (GK B[k+1]):=by grind
     refine Yi ⟨by omega,by omega⟩ ?_;refine Yi hNE (Xi (GK B[k]) (Yi SJ (Yi (Ii k ch) (Yi b1 (Yi hNE (Xi (GK B[k+1]) (Yi AeV ?_)))))));have FZ:Bi 2 [[vi B[k],vi B[k+1]]]/\((Ez keep cm B k).map Ag).length=((Ez keep cm B k).map Ag).length/\(((Ez keep cm B k).map Ag).length+[[vi B[k],vi B[k+1]]].length)*16<=140737488355328/\((Ez keep cm B k).map Ag).length+[[vi B[k],vi B[k+1]]].length<=9223372036854775807:=
      ⟨⟨rfl,trivial⟩,rfl,by grind,by grind⟩
     refine Yi FZ (Yi Wk (Xi ⟨[(0,F),(5,.mref 15),(10,.msl 44 bs.length),(12,.slice (.id 12 2) ((Ez keep cm B k).map Ag++[[vi B[k],vi B[k+1]]])),(13,vi (I4 cm (B.take k)+Fx cm B[k])),(59,vi ((bs.length:Int)-1)),(60,vi k)],[(12,.tok 2 (((Ez keep cm B k).map Ag).length+[[vi B[k],vi B[k+1]]].length)),(15,.rom Zm (cm.map Ns)),(44,.arr 1 (B.map GK))],Ac⟩ (Yi ⟨⟨⟨rfl,hid _⟩,Zr,Zr,Zr,Zr,Zr,Zr,Tv⟩,Z3,Fh,Tv⟩ (Yi (Ii k ch) (Xi ⟨k+1,by omega⟩ ?_)))));have e1:AV.slice (.id 12 2) ((Ez keep cm B k).map Ag++[[vi B[k],vi B[k+1]]])=.slice (.id 12 2) ((Ez keep cm B (k+1)).map Ag):=by grind
     have e2:vi (I4 cm (B.take k)+Fx cm B[k])=vi (I4 cm (B.take (k+1))):=by grind
     have e3:HO.tok 2 (((Ez keep cm B k).map Ag).length+[[vi B[k],vi B[k+1]]].length)=.tok 2 ((Ez keep cm B (k+1)).map Ag).length:=by grind
     exact⟨by grind,⟨⟨rfl,hid _⟩,Zr,Zr,⟨e1,rfl⟩,⟨e2,rfl⟩,Zr,Zr,Tv⟩,⟨⟨e3,rfl⟩,Zr,Zr,Tv⟩,Fh,Tv⟩
    .rw[hp]at BV;have uM:Ez keep cm B (k+1)=Ez keep cm B k:=by grind
     refine Xi .pure (Xi (vb false) (Yi (BV _) (Xi ⟨[(0,F),(5,.mref 15),(10,.msl 44 bs.length),(12,.slice (.id 12 2) ((Ez keep cm B k).map Ag)),(13,vi (I4 cm (B.take k)+Fx cm B[k])),(59,vi ((bs.length:Int)-1)),(60,vi k)],[(12,.tok 2 ((Ez keep cm B k).map Ag).length),(15,.rom Zm (cm.map Ns)),(44,.arr 1 (B.map GK))],Ac⟩ (Yi ⟨⟨⟨rfl,hid _⟩,Zr,Zr,Zr,Zr,Zr,Zr,Tv⟩,Z3,Fh,Tv⟩ (Yi (by grind [Av]) (Xi ⟨k+1,by omega⟩ ?_))))));have e1:AV.slice (.id 12 2) ((Ez keep cm B k).map Ag)=.slice (.id 12 2) ((Ez keep cm B (k+1)).map Ag):=by grind
     have e2:vi (I4 cm (B.take k)+Fx cm B[k])=vi (I4 cm (B.take (k+1))):=by grind
     have e3:HO.tok 2 ((Ez keep cm B k).map Ag).length=.tok 2 ((Ez keep cm B (k+1)).map Ag).length:=by grind
     exact⟨by grind,⟨⟨rfl,hid _⟩,Zr,Zr,⟨e1,rfl⟩,⟨e2,rfl⟩,Zr,Zr,Tv⟩,⟨⟨e3,rfl⟩,Zr,Zr,Tv⟩,Fh,Tv⟩
   .intro hk;have hk:¬(k:Int)<(bs.length:Int)-1:=hk;have Qx:k=B.length-1:=by omega
    have AeZ:canon (Ez keep cm B k)=R:=by
     grind [TS,oc]
    have hc:=Yo (Ez keep cm B k) ch;rw[AeZ]at hc;refine C1 (C2 hc ?_);exact .refl _
  .intro kv Mq hp;refine AX (Ax.1 (r2 kv (hp.mem_iff.2 (Af ..)))) (fun q hq=>?_);have hq2:=hq.2;subst hq2;refine Xi ⟨[(0,F),(5,.mref 15),(10,.msl 44 bs.length),(46,.ref 46 0)],[(15,.rom Zm (cm.map Ns)),(44,.arr 1 (bs.map GK)),(46,.iter (cm.map Ns) Mq (some (Ns q)))],Ac⟩ (Yi ⟨⟨⟨rfl,hid _⟩,Zr,Zr,Zr,Tv⟩,Z3,Fh,Tv⟩ ?_)
   have FZ:Bi 1 [GK q.1]/\(bs.map GK).length=bs.length/\((bs.map GK).length+[GK q.1].length)*8<=140737488355328/\(bs.map GK).length+[GK q.1].length<=9223372036854775807:=
    ⟨⟨rfl,trivial⟩,by simp_all,by grind,by grind⟩
   refine Yi FZ ?_;have e1:AV.msl 44 ((bs.map GK).length+[GK q.1].length)=.msl 44 (bs++[q.1]).length:=by simp
   have e2:HO.arr 1 (bs.map GK++[GK q.1])=.arr 1 ((bs++[q.1]).map GK):=by simp
   refine Xi ⟨(Mq,bs++[q.1],some (Ns q)),?_,fun kv jM=>r2 kv (hp.mem_iff.2 (Ao _ jM))⟩ ?_
   .grind [List.Perm.append_left,List.Perm.trans,List.Perm.symm]
   .exact⟨by show Mq.length<rem.length;rw[hp.length_eq];simp,⟨⟨rfl,hid _⟩,Zr,⟨e1,rfl⟩,Zr,Tv⟩,⟨Zr,⟨e2,rfl⟩,Zr,Tv⟩,Fh,Tv⟩
theorem AdC(l:List A1):PC 377 [vi n,.cptr [sl Gt l]] (vb (decide (n=l.length))):=by
 refine Ps C3 func377 rfl (Nz rfl) ?_;have e:((l.map Gt).length:Int)=l.length:=by simp_all
 refine Yi ?_ ?_
 .intro h;rw[show decide (n=(l.length:Int))=true from At (h.trans e)];exact .refl _
 .intro h;rw[show decide (n=(l.length:Int))=false from Aj (fun c=>h (c.trans e.symm))];exact .refl _
theorem AdE:PC 342 [vi n] (vb (decide (n=0))):=by
 refine Ps C3 func342 rfl (Nz rfl) (Yi ?_ ?_)
 .intro h;rw[At h];exact .refl _
 .intro h;rw[Aj h];exact .refl _
theorem Ae8:PC 369 [vi n] (vb (decide (0<n))):=by
 refine Ps C3 func369 rfl (Nz rfl) (Yi ?_ ?_)
 .intro h;rw[At h];exact .refl _
 .intro h;rw[Aj h];exact .refl _
theorem nZ(l:List A1)(p:Int):decide (mB l p=l.length)=l.all fun s=>has s p:=by
 grind [mB,List.countP_eq_length]
theorem oa(l:List A1)(p:Int):decide (0<mB l p)=l.any fun s=>has s p:=by
 grind [mB,List.countP_pos_iff]
theorem Adt(l:List A1)(hl:BJ l)(hs:∀s∈l,BJ s):PC 367 [sl Gt l] (sl Ag (QU l)):=by
 have hc:=vW (.clo 377 [.cptr [sl Gt l]]) (fun n=>decide (n=l.length)) l hl hs (fun _=>rfl) (fun h n h0 _=>by
  have:=AdC n l
  have e:decide (n=(l.length:Int))=decide (n.toNat=l.length):=by grind
  rw[e]at this;exact this) (QU l) (YW l) fun p=>by rw[Us,nZ]
 refine Ps (qL [1]) func367 rfl (Nz rfl) (C1 (C2 (hc) ?_));exact .refl _
theorem vR(hs:BJ s):PC 310 [sl Ag s] (sl Ag (E5 s)):=by
 have hc:=vW (.v (YC 342)) (fun n=>decide (n=0)) [s] (by simp_all) (fun t ht=>by simp_all) (fun _=>rfl) (fun h n h0 _=>by
  have:=AdE n
  have e:decide (n=0)=decide (n.toNat=0):=by grind
  rw[e]at this;exact this) (E5 s) (Hq s) fun p=>by
   grind [F8,mB]
 refine Ps C3 func310 rfl (Nz rfl) (C1 (C2 (hc) ?_));exact .refl _
theorem Ae4(l:List A1)(hl:BJ l)(hs:∀s∈l,BJ s):PC 352 [sl Gt l] (sl Ag (RC l)):=by
 have hc:=vW (.v (YC 369)) (fun n=>decide (0<n)) l hl hs (fun _=>rfl) (fun h n h0 _=>by
  have:=Ae8 n
  have e:decide (0<n)=decide (0<n.toNat):=by simp_all
  rw[e]at this;exact this) (RC l) (Zq l) fun p=>by
   grind [Ut,oa,QQ,SP]
 refine Ps C3 func352 rfl (Nz rfl) (C1 (C2 (hc) ?_));exact .refl _
-- terms
theorem c59(ht:BJ t.set):PC 348 [.agg (AG t)] (vb (!t.absent&&(canon t.set).isEmpty)):=by
 refine Ps C3 func348 rfl (Nz rfl) (Yi ?_ ?_)
 .intro h;rw[h];exact .refl _
 .intro h;refine C1 (C2 (Yo t.set ht) (Yi ?_ ?_))
  .intro h2;have h2:canon t.set=[]:=AT (by simp_all);rw[h,h2];exact .refl _
  .intro h2;have h2:(canon t.set).isEmpty=false:=by
    simp_all
   rw[h,h2];exact .refl _
theorem c60(ht:BJ t.set):PC 349 [.agg (AG t)] (vb (t.absent&&(E5 t.set).isEmpty)):=by
 refine Ps C3 func349 rfl (Nz rfl) (Yi ?_ ?_)
 .intro h;refine C1 (C2 (vR t.set ht) (Yi ?_ ?_))
  .intro h2;have h2:E5 t.set=[]:=AT (by simp_all);rw[h,h2];exact .refl _
  .intro h2;have h2:(E5 t.set).isEmpty=false:=by
    simp_all
   rw[h,h2];exact .refl _
 .intro h;rw[h];exact .refl _
abbrev Hx(l:List Nat):Qz:=⟨[],[],[],[],[],[],[],[],[],[],l⟩
theorem c58(hu:BJ u.set)(ht:BJ t.set):PC 347 [.agg (AG u),.agg (AG t)] (.agg (AG (G2 u t))):=by
 have hc:PC 367 [sl Gt [u.set,t.set]] (sl Ag (PP u.set t.set)):=Adt [u.set,t.set] (by simp_all) (fun s hs=>by
  grind)
 refine Ps (Hx []) func347 rfl (Nz rfl) (Yi ?_ ?_)
 .intro h;refine Yi ?_ ?_
  .intro h2;have e:[vs u.path,vb true,sl Ag (PP u.set t.set)]=AG (G2 u t):=by grind [G2]
   refine C2 (hc) (Yi (Nz rfl) (Yi Wk (yN ?_)));exact .of_eq (Aa AV.agg e)
  .intro h2;have e:[vs u.path,vb false,sl Ag (PP u.set t.set)]=AG (G2 u t):=by grind [G2]
   refine C2 (hc) (Yi (Nz rfl) (Yi Wk (yN ?_)));exact .of_eq (Aa AV.agg e)
 .intro h;have e:[vs u.path,vb false,sl Ag (PP u.set t.set)]=AG (G2 u t):=by grind [G2]
  refine C2 (hc) (Yi (Nz rfl) (Yi Wk (yN ?_)));exact .of_eq (Aa AV.agg e)
theorem AdW(hu:BJ u.set)(ht:BJ t.set):PC 313 [.agg (AG u),.agg (AG t)] (.agg (AG (Dt u t))):=by
 have hc:PC 352 [sl Gt [u.set,t.set]] (sl Ag (Qs u.set t.set)):=Ae4 [u.set,t.set] (by simp_all) (fun s hs=>by
  grind)
 refine Ps (Hx []) func313 rfl (Nz rfl) (Yi ?_ ?_)
 .intro h;have e:[vs u.path,vb true,sl Ag (Qs u.set t.set)]=AG (Dt u t):=by grind [Dt]
  refine C2 (hc) (Yi (Nz rfl) (Yi Wk (yN ?_)));exact .of_eq (Aa AV.agg e)
 .intro h;refine Yi ?_ ?_
  .intro h2;have e:[vs u.path,vb true,sl Ag (Qs u.set t.set)]=AG (Dt u t):=by grind [Dt]
   refine C2 (hc) (Yi (Nz rfl) (Yi Wk (yN ?_)));exact .of_eq (Aa AV.agg e)
  .intro h2;have e:[vs u.path,vb false,sl Ag (Qs u.set t.set)]=AG (Dt u t):=by grind [Dt]
   refine C2 (hc) (Yi (Nz rfl) (Yi Wk (yN ?_)));exact .of_eq (Aa AV.agg e)
theorem zF(hq:BJ q.set):PC 305 [.agg (As q)] (.agg (AG (DH q))):=by
 refine Ps C3 func305 rfl (Nz rfl) (C2 (vR q.set hq) (Yi (Nz rfl) (Yi Wk (yN ?_))));exact .refl _
abbrev B4:EU:=⟨false,[.str]⟩
abbrev UO:Value×AV:=(.string t.path,.agg (AG t))
abbrev Ab9(fin cut:List Nat):Qz:=⟨[],[],[],[],fin,[],[],[],[],[],cut⟩
theorem gK{p:CS}{a:AV}:(Value.string p,a)∈m.map UO↔∃t∈m,t.path=p/\a=.agg (AG t):=by
 grind
theorem oy(m:List Tm)(t:Tm):EM (m.map UO) (.string t.path) (.agg (AG t))=(Zd m t).map UO:=by
 unfold Zd
 by_cases h:(m.any fun u=>decide (u.path=t.path))=true
 .rw[Ay h];obtain⟨u,h1,h2⟩:=BC.1 h;have h2:=AW h2
  have:(Value.string t.path,AV.agg (AG u))∈m.map UO:=gK.2 ⟨u,h1,h2,rfl⟩
  rw[Nv this,Br,Br]
  grind [List.map_congr_left]
 grind [Ir]
theorem mX(hn:(EX m).Nodup)(p:CS){K:AV->Prop}{Z:Prop}(hy:∀u,DC m p=some u->K (.agg (AG u)))(OX:DC m p=none->Z) :
  (∀a,(Value.string p,a)∈m.map UO->K a)/\((∀a,(Value.string p,a)∉m.map UO)->Z):=
 ⟨fun a h=>by
  grind [RX],fun h=>OX (by
  cases e:DC m p with
  |none=>rfl
  |some u=>exact absurd (gK.2 ⟨u,GL e,LH e,rfl⟩) (h _))⟩
theorem S7{t:Tm}(h:EP t.set):BJ t.set:=by
 grind [In]
theorem c57(hl:BJ l)(hs:∀t∈l,BJ t.set):PC 346 [sl AG l,.v (YC 347)] (.cmap B4 ((DA l).map UO)):=by
 refine Ps (Ab9 [10] []) func346 rfl (Nz rfl) (Xi {i:Nat // i<=l.length} (Xi (fun i=>⟨[(0,sl AG l),(1,.v (YC 347)),(5,.mref 10),(11,sl AG l),(12,vi (l.map AG).length),(13,vi i.1)],[(10,.map B4 ((DA (l.take i.1)).map UO))],Ac⟩) (Xi (fun i=>l.length-i.1) (Yi (Xi ⟨0,Al _⟩ ?_) ?_))))
 .exact⟨Z6,Z1,Fh,Tv⟩
 intro⟨i,h1⟩;have hn:=HY (l.take i);refine Yi ?_ ?_
 .intro h;have h:i<l.length:=by simp_all
  have hg:l[i]?=some l[i]:=Ge h;refine Xi (AG l[i]) (Yi (Yi ch (by simp_all)) (Yi rfl ?_));refine Yi (Nz rfl) (yN ?_);have FQ:=hs l[i] (Ae h);have tail:∀u:Tm,BJ u.set->G2 u l[i]=SU (DC (DA (l.take i)) l[i].path) l[i]->EM ((DA (l.take i)).map UO) (.string l[i].path) (.agg (AG (G2 u l[i])))=(DA (l.take (i+1))).map UO:=fun u hu e=>by
   have hp:(SU (DC (DA (l.take i)) l[i].path) l[i]).path=l[i].path:=Rk _ _ fun u h=>LH h;have e2:=oy (DA (l.take i)) (G2 u l[i]);have e3:(G2 u l[i]).path=l[i].path:=by simp_all
   rw[e3]at e2;rw[e2,Sm l i h,e];rfl
  refine mX hn l[i].path (fun u hu=>?_) (fun hu=>?_)
  .have Ms:BJ u.set:=S7 (PU _ u (GL hu));refine yN ?_;have AL:=tail u Ms (by grind [ie]);refine Yi (Nz rfl) (yN (C2 (c58 u l[i] Ms FQ) (Yi Wk (Yi (by show Av ((i:Int)+1);grind [Av]) (Xi ⟨i+1,by omega⟩ ?_)))));have e1:HO.map B4 (EM ((DA (l.take i)).map UO) (.string l[i].path) (.agg (AG (G2 u l[i]))))=.map B4 ((DA (l.take (i+1))).map UO):=by simp_all
   exact⟨by grind,Z6,⟨⟨e1,rfl⟩,Tv⟩,Fh,Tv⟩
  .refine yN (Yi (Nz rfl) (yN ?_));have AL:=tail l[i] FQ (by grind [ie]);refine Yi (Nz rfl) (yN (C2 (c58 l[i] l[i] FQ FQ) (Yi Wk (Yi (by grind [Av]) (Xi ⟨i+1,by omega⟩ ?_)))));have e1:HO.map B4 (EM ((DA (l.take i)).map UO) (.string l[i].path) (.agg (AG (G2 l[i] l[i]))))=.map B4 ((DA (l.take (i+1))).map UO):=by simp_all
   exact⟨by grind,Z6,⟨⟨e1,rfl⟩,Tv⟩,Fh,Tv⟩
 .intro h;have h:¬i<l.length:=by simp_all
  have e:(DA (l.take i)).map UO=(DA l).map UO:=by grind
  exact .of_eq (Aa (AV.cmap B4) e)
abbrev Lv:AV:=.tup [sl AG (Rf l),vb (CX l).isSome]
abbrev AfW:Qz:=⟨[],[],[(4,3)],[],[],[],[],[],[],[(25,4)],[]⟩
abbrev fR:HO:=.arr 3 (l.map AG)
abbrev GR:List Tm:=l.filter fun t=>!G8 t
theorem sN{l:List Tm}{kv:Value×AV}{Mq : List (Value×AV)}(h:(l.map UO).Perm (kv::Mq)):∃t r,kv=UO t/\Mq=r.map UO/\l.Perm (t::r):=by
 obtain⟨ps,h1,h2⟩:=KC h l rfl;cases ps<;>grind
theorem Z0{l:List Tm}{t:Tm}(h:t∈DA l)(hn:I2 t=true):CX l=none:=by
 grind [CX,Jz]
theorem dq{l done s:List Tm}(h:done.Perm (DA l))(hn:∀t∈done,I2 t=false)(hp:s.Perm (GR done))(hs:s.Pairwise fun x y=>Dz y.path x.path=false):CX l=some s:=by
 unfold CX;rw[Az]
 .congr 1
  exact(QH _ (hp.trans (h.filter _)) hs).symm
 grind [Jz]
theorem jW:(GR l).length<=l.length:=DI _ _
theorem c29(hl:BJ l)(hs:∀t∈l,BJ t.set):PC 312 [sl AG l] (Lv l):=by
 have jN:l.length<=1073741824:=hl;have hml:(DA l).length<=l.length:=by grind [OB,List.take_length]
 refine Ps AfW func312 rfl (Nz rfl) (C1 (C2 (c57 l hl hs) (Xi {p:List Tm×List Tm×Option (Value×AV) // (p.1++p.2.1).Perm (DA l)/\∀t∈p.1,I2 t=false} (Xi (fun p=>⟨[(4,.msl 4 (GR p.1.1).length),(9,.ref 9 0)],[(4,fR (GR p.1.1)),(9,.iter ((DA l).map UO) (p.1.2.1.map UO) p.1.2.2)],Ac⟩) (Xi (fun p=>p.1.2.1.length) (Yi (Xi ⟨([],DA l,none),.refl _,fun t ht=>by cases ht⟩ ?_) ?_))))))
 .exact⟨Z2,Z2,Fh,Tv⟩
 intro⟨⟨done,rem,Ei⟩,r1,r2⟩;have r1:(done++rem).Perm (DA l):=r1;have hdl:done.length+rem.length<=l.length:=by grind [List.length_append,List.Perm.length_eq]
 have yT:=jW done;refine Yi ?_ ?_
 .intro hr;have hr:rem=[]:=D6.1 hr;subst hr;rw[BG]at r1;refine Xi (.gen [(4,1000)] 0) (Yi rfl ((c61 (GR done) ch).to ?_));intro s hq;have Ou:s.length=(GR done).length:=hq.1.length_eq;have hc:=dq r1 r2 hq.1 hq.2;refine Yi (by simp_all) ?_;have e:AV.tup [sl AG s,vb true]=Lv l:=by grind [Rf]
  exact .of_eq e
 .intro kv Mq hp;refine AX (sN hp) (fun t hp=>AX hp (fun r hp=>?_));have e1:=hp.1;have e2:=hp.2.1;subst e1;subst e2;have hp:=hp.2.2;have htm:t∈DA l:=r1.mem_iff.1 (CE _ (hp.mem_iff.2 (Af ..)));have htc:=PU l t htm;have htf:=S7 htc;refine Yi (Nz rfl) (yN ?_);have hv:PC 348 [.agg (AG t)] (vb (I2 t)):=oC htc▸c59 t htf;have ha:PC 349 [.agg (AG t)] (vb (G8 t)):=iW htc▸c60 t htf;refine AN (Bt (I2 t)) (fun h=>?_) (fun h=>?_)
  .rw[h]at hv;refine C1 (C2 (hv) ?_);have hc:=Z0 htm h;have e:AV.tup [.slice .none [],vb false]=Lv l:=by grind [Rf]
   have e0:BM (.tup [BE,vb false]) (.tup [.slice .none [],vb false]):=BM.tup ⟨.nil,.refl _,trivial⟩;exact e0.trans (.of_eq e)
  .rw[h]at hv;refine C1 (C2 (hv) (yN ?_));have ZD:((done++[t])++r).Perm (DA l):=by
    grind
   have hnv:∀u∈done++[t],I2 u=false:=fun u hu=>by
    grind
   have hrl:r.length<rem.length:=by grind [List.length_cons,List.Perm.length_eq]
   refine AN (Bt (G8 t)) (fun h2=>?_) (fun h2=>?_)
   rotate_left
   .rw[h2]at ha;refine C1 (C2 (ha) ?_);have FZ:Bi 3 [AG t]/\((GR done).map AG).length=(GR done).length/\(((GR done).map AG).length+[AG t].length)*48<=140737488355328/\((GR done).map AG).length+[AG t].length<=9223372036854775807:=
     ⟨⟨rfl,trivial⟩,by simp_all,by grind,by grind⟩
    refine yN (Yi FZ ?_);have hk:GR (done++[t])=GR done++[t]:=by simp_all
    have e1:AV.msl 4 (((GR done).map AG).length+[AG t].length)=.msl 4 (GR (done++[t])).length:=by simp_all
    have e2:HO.arr 3 ((GR done).map AG++[AG t])=fR (GR (done++[t])):=by simp_all
    refine Xi ⟨(done++[t],r,some (UO t)),ZD,hnv⟩ ?_;exact⟨hrl,⟨⟨e1,rfl⟩,Zr,Tv⟩,⟨⟨e2,rfl⟩,Zr,Tv⟩,Fh,Tv⟩
   .rw[h2]at ha;refine C1 (C2 (ha) ?_);have hk:GR (done++[t])=GR done:=by simp_all
    have e1:AV.msl 4 (GR done).length=.msl 4 (GR (done++[t])).length:=by rw[hk]
    have e2:fR (GR done)=fR (GR (done++[t])):=by rw[hk]
    refine Xi ⟨(done++[t],r,some (UO t)),ZD,hnv⟩ ?_;exact⟨hrl,⟨⟨e1,rfl⟩,Zr,Tv⟩,⟨⟨e2,rfl⟩,Zr,Tv⟩,Fh,Tv⟩
theorem wg(hl:BJ l)(hs:∀t∈l,BJ t.set):PC 304 [sl AG l] (sl AG (Rf l)):=by
 refine Ps C3 func304 rfl (Nz rfl) (C1 (C2 (c29 l hl hs) ?_));exact .refl _
theorem QO:BJ (E5 s):=by
 grind [In,Hq]
theorem zR:BJ [x]:=by simp_all
theorem Aet(y:α):BJ [x,y]:=by simp_all
theorem AdO(hq:BJ q.set):PC 256 [.agg (As q)] (sl AG (J0 q)):=by
 have hc:PC 304 [sl AG [DH q]] (sl AG (J0 q)):=wg [DH q] (zR _) fun t ht=>by rw[AK.1 ht];exact QO _
 refine Ps C3 func256 rfl (Nz rfl) (yN (C1 (C2 (zF q hq) (C1 (C2 (hc) ?_)))));exact .refl _
theorem AdP(pl:Int)(q:Rq)(hp:Av (pl+1))(hq:BJ q.set):PC 257 [vs p,vi pl,.agg (As q)] (sl AG (EG p pl q)):=by
 have hc:PC 304 [sl AG [⟨p,false,[(pl,pl+1)]⟩,DH q]] (sl AG (EG p pl q)):=wg [⟨p,false,[(pl,pl+1)]⟩,DH q] (Aet _ _) fun t ht=>by
  rcases AU.1 ht with rfl | ht
  .simp_all
  .rw[AK.1 ht];exact QO _
 refine Ps C3 func257 rfl (Nz rfl) (Yi hp (yN (C1 (C2 (zF q hq) (C1 (C2 (hc) ?_))))));exact .refl _
theorem zB(hs:BJ s):PC 261 [vs p,sl Ag s] (sl AG (H2 p s)):=by
 have hc:PC 304 [sl AG [⟨p,false,E5 s⟩]] (sl AG (H2 p s)):=wg [⟨p,false,E5 s⟩] (zR _) fun t ht=>by grind [QO]
 refine Ps C3 func261 rfl (Nz rfl) (C1 (C2 (vR s hs) (C1 (C2 (hc) ?_))));exact .refl _
end Go.Eng
