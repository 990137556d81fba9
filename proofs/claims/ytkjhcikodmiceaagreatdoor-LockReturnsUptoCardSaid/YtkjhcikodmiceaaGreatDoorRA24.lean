/- Lemmas 24. -/
import Derived.Test.YtkjhcikodmiceaaGreatDoorRA23
import Derived.Laws.Strings2
set_option maxHeartbeats 4000000
namespace Go.Eng
open Go.Proofs
theorem IQ{s:ByteArray}{a j m p:Nat}{r:Nat×Nat×Bool}{X Y:Int}{z:Bool}(i:Mg j m p (s.data.toList.drop p)=Fs s a)(h:Mg j m p (s.data.toList.drop p)=r)(e1:X=(r.1:Int))(e2:Y=(r.2.1:Int))(e3:z=r.2.2) :
  AV.tup [.v (.int .u64 X),vi Y,vb z]=scV (Fs s a):=by
 rw[<-i,h,e1,e2,e3]
theorem cK{s:ByteArray}{a j m:Nat}(i:Mg j m (a+j) (s.data.toList.drop (a+j))=Fs s a)(h:a+j<s.size)(hj:j<=9)(hn:¬(j=9/\1<(Ce s (a+j)).toNat))(hb:¬(Ce s (a+j)).toNat<128) :
  Mg (j+1) (m+(Ce s (a+j)).toNat % 128*128 ^ j) (a+(j+1)) (s.data.toList.drop (a+(j+1)))=Fs s a:=by
 have hB:(Ce s (a+j)).toNat<256:=(Ce s (a+j)).toNat_lt;rw[<-i,nS h hj hn hb,show(Ce s (a+j)).toNat-128=(Ce s (a+j)).toNat % 128 by omega]
 rfl
theorem rD(s:ByteArray)(p a:Nat)(e:Int)(hs:s.size<=4611686018427387904)(ha:a<=4611686018427387904):PC 451 [.cptr [vs s,vi (p:Int),vi e],vi (a:Int)] (scV (Fs s a)):=by
 refine CV (T4 (pC [] [4,6,9])) rfl BB hm rfl Tryz.func451 aa3 rfl (Ak rfl) aa3 (Exists.intro {q:Nat×Nat // q.1<=10/\q.2<128 ^ q.1/\Mg q.1 q.2 (a+q.1) (s.data.toList.drop (a+q.1))=Fs s a} (Exists.intro (fun q=>⟨[(0,.cptr [vs s,vi (p:Int),vi e]),(1,vi ((a+q.1.1:Nat):Int)),(7,.v (.int .u64 (q.1.2:Int))),(8,vi (7*(q.1.1:Int)))],[],Ad⟩) (Exists.intro (fun q=>10-q.1.1) (And.intro (Exists.intro ⟨(0,0),Ao _,MO,rfl⟩ ?_) ?_))))
 .exact⟨⟨⟨rfl,rfl⟩,⟨rfl,rfl⟩,⟨rfl,rfl⟩,⟨rfl,rfl⟩,trivial⟩,trivial,fun _=>.inl rfl,trivial⟩
 intro⟨⟨j,m⟩,i1,i2,i3⟩;have i1:j<=10:=i1;have i2:m<128 ^ j:=i2;have i3:Mg j m (a+j) (s.data.toList.drop (a+j))=Fs s a:=i3;have hB:=(Ce s (a+j)).toNat_lt;refine And.intro (fun h1=>?_) (fun h1=>?_)
 .have h1:(((a+j:Nat):Int):Int)<(s.size:Int):=h1;refine And.intro (fun h2=>?_) (fun h2=>?_)
  .have h2:((7*(j:Int)):Int)<(64:Int):=h2;refine Exists.intro (Ce s (a+j)) (And.intro (lH (z:=((a+j:Nat):Int)) (n:=a+j) (show a+j<s.size by omega) B0) (Exists.intro ⟨[(0,.cptr [vs s,vi (p:Int),vi e]),(1,vi ((a+j:Nat):Int)),(7,.v (.int .u64 (m:Int))),(8,vi (7*(j:Int))),(9,.v (.int .u8 ((Ce s (a+j)).toNat:Int)))],[],Ad⟩ (And.intro ?_ ?_)))
   .exact⟨⟨⟨rfl,rfl⟩,⟨rfl,rfl⟩,⟨rfl,rfl⟩,⟨rfl,rfl⟩,⟨rfl,rfl⟩,trivial⟩,trivial,fun _=>.inl rfl,trivial⟩
   refine And.intro (by show A8 ((((a+j:Nat):Int):Int)+(1:Int));unfold A8;omega) ?_;refine And.intro (fun h3=>?_) (fun h3=>?_)
   .have h3:((7*(j:Int)):Int)=(63:Int):=h3;refine And.intro (fun h4=>?_) (fun h4=>?_)
    .have h4:(1:Int)<(((Ce s (a+j)).toNat:Int):Int):=h4;exact .of_eq (IQ i3 (by first | exact aX B0 | exact aY B0 _ | exact aW B0 B0 B0) rfl rfl rfl)
    have h4:¬((1:Int)<(((Ce s (a+j)).toNat:Int):Int)):=h4;refine Exists.intro ⟨[(0,.cptr [vs s,vi (p:Int),vi e]),(1,vi (((a+j:Nat):Int)+1)),(7,.v (.int .u64 (m:Int))),(8,vi (7*(j:Int))),(9,.v (.int .u8 ((Ce s (a+j)).toNat:Int)))],[],Ad⟩ (And.intro ?_ ?_)
    .exact⟨⟨⟨rfl,rfl⟩,⟨rfl,rfl⟩,⟨rfl,rfl⟩,⟨rfl,rfl⟩,⟨rfl,rfl⟩,trivial⟩,trivial,fun _=>.inl rfl,trivial⟩
    refine And.intro B0 (And.intro (fun h6=>?_) (fun h6=>?_))
    .have h6:(((Ce s (a+j)).toNat:Int):Int)<(128:Int):=h6;refine And.intro (fun h7=>?_) (fun h7=>?_)
     .have h7:(0:Int)<(((Ce s (a+j)).toNat:Int):Int):=h7;exact .of_eq (IQ i3 (MI B0 B0 B0 B0) ((QX B0 i2 hB B0).trans (by rw[show(Ce s (a+j)).toNat % 128=(Ce s (a+j)).toNat by omega])) (show((a+j:Nat):Int)+1=((a+j+1:Nat):Int) by omega) (Ay B0).symm)
     have h7:¬((0:Int)<(((Ce s (a+j)).toNat:Int):Int)):=h7;refine And.intro (fun h9=>?_) (fun h9=>?_)
     .have h9:((7*(j:Int)):Int)=(0:Int):=h9;exact .of_eq (IQ i3 (MI B0 B0 B0 B0) ((QX B0 i2 hB B0).trans (by rw[show(Ce s (a+j)).toNat % 128=(Ce s (a+j)).toNat by omega])) (show((a+j:Nat):Int)+1=((a+j+1:Nat):Int) by omega) (Ay B0).symm)
     have h9:¬(((7*(j:Int)):Int)=(0:Int)):=h9;exact .of_eq (IQ i3 (MI B0 B0 B0 B0) ((QX B0 i2 hB B0).trans (by rw[show(Ce s (a+j)).toNat % 128=(Ce s (a+j)).toNat by omega])) (show((a+j:Nat):Int)+1=((a+j+1:Nat):Int) by omega) (Au B0).symm)
    have h6:¬((((Ce s (a+j)).toNat:Int):Int)<(128:Int)):=h6;refine Exists.intro ⟨[(0,.cptr [vs s,vi (p:Int),vi e]),(1,vi (((a+j:Nat):Int)+1)),(7,.v (.int .u64 (GV .or .u64 (m:Int) (WH .shl .u64 (IntKind.wrap .u64 (GV .and .u8 ((Ce s (a+j)).toNat:Int) 127)) (7*(j:Int)))))),(8,vi (7*(j:Int)))],[],Ad⟩ (And.intro ?_ ?_)
    .exact⟨⟨⟨rfl,rfl⟩,⟨rfl,rfl⟩,⟨rfl,rfl⟩,⟨rfl,rfl⟩,trivial⟩,trivial,fun _=>.inl rfl,trivial⟩
    refine And.intro (by show A8 (((7*(j:Int)):Int)+(7:Int));unfold A8;omega) ?_;refine Exists.intro ⟨(j+1,m+(Ce s (a+j)).toNat % 128*128 ^ j),by show j+1<=10;omega,vt i2,cK i3 B0 B0 B0 B0⟩ ?_;exact⟨by show 10-(j+1)<10-j;omega,⟨⟨rfl,rfl⟩,⟨(Ab (fun z:Int=>AV.v (.int .i64 z)) (show((a+j:Nat):Int)+1=((a+(j+1):Nat):Int) by omega)),rfl⟩,⟨(Ab (fun z:Int=>AV.v (.int .u64 z)) (QX B0 i2 hB B0)),rfl⟩,⟨(Ab (fun z:Int=>AV.v (.int .i64 z)) (show 7*(j:Int)+7=7*((j+1:Nat):Int) by omega)),rfl⟩,trivial⟩,trivial,fun _=>.inl rfl,trivial⟩
   have h3:¬(((7*(j:Int)):Int)=(63:Int)):=h3;refine Exists.intro ⟨[(0,.cptr [vs s,vi (p:Int),vi e]),(1,vi (((a+j:Nat):Int)+1)),(7,.v (.int .u64 (m:Int))),(8,vi (7*(j:Int))),(9,.v (.int .u8 ((Ce s (a+j)).toNat:Int)))],[],Ad⟩ (And.intro ?_ ?_)
   .exact⟨⟨⟨rfl,rfl⟩,⟨rfl,rfl⟩,⟨rfl,rfl⟩,⟨rfl,rfl⟩,⟨rfl,rfl⟩,trivial⟩,trivial,fun _=>.inl rfl,trivial⟩
   refine And.intro B0 (And.intro (fun UV=>?_) (fun UV=>?_))
   .have UV:(((Ce s (a+j)).toNat:Int):Int)<(128:Int):=UV;refine And.intro (fun Mu=>?_) (fun Mu=>?_)
    .have Mu:(0:Int)<(((Ce s (a+j)).toNat:Int):Int):=Mu;exact .of_eq (IQ i3 (MI B0 B0 B0 B0) ((QX B0 i2 hB B0).trans (by rw[show(Ce s (a+j)).toNat % 128=(Ce s (a+j)).toNat by omega])) (show((a+j:Nat):Int)+1=((a+j+1:Nat):Int) by omega) (Ay B0).symm)
    have Mu:¬((0:Int)<(((Ce s (a+j)).toNat:Int):Int)):=Mu;refine And.intro (fun iJ=>?_) (fun iJ=>?_)
    .have iJ:((7*(j:Int)):Int)=(0:Int):=iJ;exact .of_eq (IQ i3 (MI B0 B0 B0 B0) ((QX B0 i2 hB B0).trans (by rw[show(Ce s (a+j)).toNat % 128=(Ce s (a+j)).toNat by omega])) (show((a+j:Nat):Int)+1=((a+j+1:Nat):Int) by omega) (Ay B0).symm)
    have iJ:¬(((7*(j:Int)):Int)=(0:Int)):=iJ;exact .of_eq (IQ i3 (MI B0 B0 B0 B0) ((QX B0 i2 hB B0).trans (by rw[show(Ce s (a+j)).toNat % 128=(Ce s (a+j)).toNat by omega])) (show((a+j:Nat):Int)+1=((a+j+1:Nat):Int) by omega) (Au B0).symm)
   have UV:¬((((Ce s (a+j)).toNat:Int):Int)<(128:Int)):=UV;refine Exists.intro ⟨[(0,.cptr [vs s,vi (p:Int),vi e]),(1,vi (((a+j:Nat):Int)+1)),(7,.v (.int .u64 (GV .or .u64 (m:Int) (WH .shl .u64 (IntKind.wrap .u64 (GV .and .u8 ((Ce s (a+j)).toNat:Int) 127)) (7*(j:Int)))))),(8,vi (7*(j:Int)))],[],Ad⟩ (And.intro ?_ ?_)
   .exact⟨⟨⟨rfl,rfl⟩,⟨rfl,rfl⟩,⟨rfl,rfl⟩,⟨rfl,rfl⟩,trivial⟩,trivial,fun _=>.inl rfl,trivial⟩
   refine And.intro (by show A8 (((7*(j:Int)):Int)+(7:Int));unfold A8;omega) ?_;refine Exists.intro ⟨(j+1,m+(Ce s (a+j)).toNat % 128*128 ^ j),by show j+1<=10;omega,vt i2,cK i3 B0 B0 B0 B0⟩ ?_;exact⟨by show 10-(j+1)<10-j;omega,⟨⟨rfl,rfl⟩,⟨(Ab (fun z:Int=>AV.v (.int .i64 z)) (show((a+j:Nat):Int)+1=((a+(j+1):Nat):Int) by omega)),rfl⟩,⟨(Ab (fun z:Int=>AV.v (.int .u64 z)) (QX B0 i2 hB B0)),rfl⟩,⟨(Ab (fun z:Int=>AV.v (.int .i64 z)) (show 7*(j:Int)+7=7*((j+1:Nat):Int) by omega)),rfl⟩,trivial⟩,trivial,fun _=>.inl rfl,trivial⟩
  have h2:¬(((7*(j:Int)):Int)<(64:Int)):=h2;exact .of_eq (IQ i3 (by first | exact aX B0 | exact aY B0 _ | exact aW B0 B0 B0) rfl rfl rfl)
 have h1:¬((((a+j:Nat):Int):Int)<(s.size:Int)):=h1;exact .of_eq (IQ i3 (by first | exact aX B0 | exact aY B0 _ | exact aW B0 B0 B0) rfl rfl rfl)
end Go.Eng
namespace Go.Proofs
open Go.Shelf Go.RowKit Go.Lib Go.Sort Go.Eng
abbrev rdO(s:ByteArray)(p:Nat)(e:Int):Obj:=.cells #[.string s,.int .i64 (p:Int),.int .i64 e] 225 (0,0)
theorem rd_rep{s:ByteArray}{p R:Nat}{e:Int}{W:World}(h:W.heap[R]?=some (rdO s p e)):A3 (WR W) W DR (.cptr [vs s,vi (p:Int),vi e]) (pA R 0):=by
 have BW:R<W.heap.size:=(Array.getElem?_eq_some_iff.1 h).1;refine .cptr _ _ _ _ (fun j=>(#[.string s,.int .i64 (p:Int),.int .i64 e]:Array Value)[j]?.getD undef) (fun j av q=>?_) (fun j av q=>?_)
 .refine⟨BW,?_,?_⟩
  .rw[Nat.zero_add,Lib.cell_of_heap h j]
   match j,q with
   |0,_ |1,_ |2,_=>rfl
  .match j,q with
   |0,_ |1,_ |2,_=>rfl
 .match j,q with
  |0,q |1,q |2,q=>cases q;exact .v _ _
theorem tup_vals{g:Gh}{W:World}{U:Nat->Prop}{vs:List Value}{x:Value}(h:A3 g W U (.tup (vs.map .v)) x):x=.tuple vs.toArray:=by
 cases h with
 |tup _ _ us hs hr=>
  refine congrArg Value.tuple (Array.ext (by simpa using hs) fun i h1 h2=>?_);have h2' : i<vs.length:=by simpa using h2
  have:=hr i (.v vs[i]) us[i] (by rw[List.getElem?_map,List.getElem?_eq_getElem h2'];rfl) (Array.getElem?_eq_getElem h1)
  rw[this.v_eq];simp
theorem yk_scan(s:ByteArray)(R p a:Nat)(e:Int)(hs:s.size<=4611686018427387904)(ha:a<=4611686018427387904)(W:World)(h:W.heap[R]?=some (rdO s p e))(hM:HM W) :
  Calls Tryz.prog 451 #[pA R 0,.int .i64 (a:Int)] W fun x w'=>x=.returned (.tuple #[.int .u64 ((Fs s a).1:Int),.int .i64 ((Fs s a).2.1:Int),.bool (Fs s a).2.2])/\Below W.heap.size W w':=by
 refine(below_of (vals:=#[pA R 0,.int .i64 (a:Int)]) (rD s p a e hs ha) hM rfl (fun i av x e1 e2=>?_)).mono fun x W' ⟨⟨v,g',U,e1,e2⟩,hb⟩=>⟨by rw[e1,tup_vals (vs:=[.int .u64 ((Fs s a).1:Int),.int .i64 ((Fs s a).2.1:Int),.bool (Fs s a).2.2]) e2],hb⟩
 match i with
 |0=>cases e1;cases e2;exact rd_rep h
 |1=>cases e1;cases e2;exact .v _ _
 |_+2=>simp at e1
abbrev szB(s:ByteArray)(a:Nat):Bool:=(Fs s a).2.2&&decide ((Fs s a).1<9223372036854775808)
set_option maxRecDepth 100000 in
theorem yk_size(s:ByteArray)(R p a:Nat)(e:Int)(hs:s.size<=4611686018427387904)(ha:a<=4611686018427387904)(W:World)(h:W.heap[R]?=some (rdO s p e))(hM:HM W) :
  Calls Tryz.prog 448 #[pA R 0,.int .i64 (a:Int)] W fun x w'=>x=.returned (.tuple #[.int .i64 (wrap64 ((Fs s a).1:Int)),.int .i64 ((Fs s a).2.1:Int),.bool (szB s a)])/\Below W.heap.size W w':=by
 have q:=yk_scan s R p a e hs ha W h hM;unfold szB;generalize Fs s a=r at q⊢;obtain⟨n,k,t⟩:=r;have hz:((n:Int) / 9223372036854775808 == 0)=decide (n<9223372036854775808):=by
  rcases Nat.lt_or_ge n 9223372036854775808 with h | h
  .rw[decide_eq_true h,Int.ediv_eq_zero_of_lt B0 B0];rfl
  .rw[decide_eq_false B0,beq_eq_false_iff_ne];omega
 go_enter Tryz.func448,Tryz.ntmps448
 cases t with
 |false=>
  go_wp2_with (go_at_call 451;refine q.mono ?_;rintro x w' ⟨rfl,hb⟩)
  go_ret3
  exact⟨rfl,hb⟩
 |true=>
  go_wp2_with (go_at_call 451;refine q.mono ?_;rintro x w' ⟨rfl,hb⟩)
  go_ret3
  exact⟨rfl,hb⟩
theorem scU_le:∀(l:List UInt8) (j m p:Nat),(Mg j m p l).2.2=true->(Mg j m p l).2.1<=p+l.length
 | [],_,_,_,h=>by simp[Mg]at h
 |b::r,j,m,p,h=>by
  by_cases c1:10<=j
  .simp[Mg,c1]at h
  by_cases c2:j=9/\1<b.toNat
  .simp only[Mg,if_neg c1,if_pos c2]at h;cases h
  by_cases c3:b.toNat<128
  .simp only[Mg,if_neg c1,if_neg c2,if_pos c3,List.length_cons];omega
  .simp only[Mg,if_neg c1,if_neg c2,if_neg c3,List.length_cons]at h⊢
   have:=scU_le r _ _ _ h
   omega
theorem scA_le{s:ByteArray}{a:Nat}(ha:a<=s.size)(h:(Fs s a).2.2=true):(Fs s a).2.1<=s.size:=by
 have q:(Fs s a).2.1<=_:=scU_le _ _ _ _ h;have e:(s.data.toList.drop a).length=s.size-a:=List.length_drop ..;omega
def txA(s:ByteArray)(a:Nat):ByteArray×Nat×Bool:=
 if szB s a=true/\(Fs s a).1<=s.size-(Fs s a).2.1 then(s.extract (Fs s a).2.1 ((Fs s a).2.1+(Fs s a).1),(Fs s a).2.1+(Fs s a).1,true)else(⟨#[]⟩,0,false)
set_option maxRecDepth 100000 in
theorem yk_text(s:ByteArray)(R p a:Nat)(e:Int)(hs:s.size<=4611686018427387904)(ha:a<=s.size)(W:World)(h:W.heap[R]?=some (rdO s p e))(hM:HM W) :
  Calls Tryz.prog 450 #[pA R 0,.int .i64 (a:Int)] W fun x w'=>x=.returned (.tuple #[.string (txA s a).1,.int .i64 ((txA s a).2.1:Int),.bool (txA s a).2.2])/\Below W.heap.size W w':=by
 have q:=yk_size s R p a e hs B0 W h hM;have Ig:=scA_le ha;have BW:R<W.heap.size:=(Array.getElem?_eq_some_iff.1 h).1;unfold txA;generalize hu:szB s a=u at q⊢;unfold szB at hu;generalize Fs s a=r at q Ig hu⊢;obtain⟨n,k,t⟩:=r
 go_enter Tryz.func450,Tryz.ntmps450
 cases u with
 |true=>
  obtain⟨rfl,h2⟩:t=true/\n<9223372036854775808:=by simpa using hu
  have Ig:k<=s.size:=Ig rfl;have hw:wrap64 (n:Int)=(n:Int):=by unfold wrap64;omega
  simp only[hw]at q
  by_cases h3:n<=s.size-k
  .rw[if_pos ⟨rfl,h3⟩];have JZ:=fun wx=>run_slice_string (P:=Tryz.prog) wx 9 s .i64 .i64 (k:Int) ((k:Int)+(n:Int)) Tryz.underlying9 B0 B0 B0;rw[show((k:Int)+(n:Int)).toNat=k+n by omega,show(k:Int).toNat=k by omega]at JZ
   go_wp2_with (go_at_call 448;refine q.mono ?_;rintro x w' ⟨rfl,hb⟩;have c0:w'.cell? ⟨R,0,none⟩=some (.string s):=Lib.cell_of_heap ((hb.block R BW).trans h) 0)
   all_goals first | (exfalso;omega) | (go_ret3;exact⟨rfl,hb⟩) | trace_state
  .rw[if_neg (fun c=>h3 c.2)]
   go_wp2_with (go_at_call 448;refine q.mono ?_;rintro x w' ⟨rfl,hb⟩;have c0:w'.cell? ⟨R,0,none⟩=some (.string s):=Lib.cell_of_heap ((hb.block R BW).trans h) 0)
   all_goals first | (exfalso;omega) | (go_ret3;exact⟨rfl,hb⟩) | trace_state
 |false=>
  rw[if_neg (fun c=>Bool.false_ne_true c.1)]
  go_wp2_with (go_at_call 448;refine q.mono ?_;rintro x w' ⟨rfl,hb⟩)
  go_ret3
  exact⟨rfl,hb⟩
end Go.Proofs
namespace Go.Proofs
open Go.Shelf Go.RowKit Go.Lib Go.Sort Go.Eng
abbrev RS:=Nat×Int
def tk{α:Type}(z:α)(r:α×Nat×Bool)(q:RS):α×RS:=if q.2=0 then(bif r.2.2 then(r.1,(r.2.1,0))else(z,(q.1,9)))else(z,q)
abbrev szR(s:ByteArray)(a:Nat):Nat×Nat×Bool:=((Fs s a).1,(Fs s a).2.1,szB s a)
abbrev ctR(s:ByteArray)(most a:Nat):Nat×Nat×Bool:=((Fs s a).1,(Fs s a).2.1,szB s a&&decide ((Fs s a).1<=most))
def rNum(s:ByteArray)(q:RS):Nat×RS:=tk 0 (szR s q.1) q
def rTxt(s:ByteArray)(q:RS):ByteArray×RS:=tk ⟨#[]⟩ (txA s q.1) q
def rCnt(s:ByteArray)(most:Nat)(q:RS):Nat×RS:=tk 0 (ctR s most q.1) q
structure ROk(R:Nat)(s:ByteArray)(q:RS)(W:World):Prop where
 hR:W.heap[R]?=some (rdO s q.1 q.2)
 hM:HM W
 hp:q.1<=s.size
 hs:s.size<=4611686018427387904
 he:q.2=0\/q.2=9
theorem ROk.lt{R:Nat}{s:ByteArray}{q:RS}{W:World}(h:ROk R s q W):R<W.heap.size:=(Array.getElem?_eq_some_iff.1 h.hR).1
theorem rset{R:Nat}{s:ByteArray}{p:Nat}{e:Int}{W w' : World}(h:w'.heap[R]?=some (rdO s p e))(hb:Below W.heap.size W w')(k:Nat)(v:Value)(p' : Nat)(e' : Int)(hk:(#[.string s,.int .i64 (p:Int),.int .i64 e]:Array Value).setIfInBounds k v=#[.string s,.int .i64 (p' : Int),.int .i64 e']) :
  (w'.setCell ⟨R,k,none⟩ v).heap[R]?=some (rdO s p' e')/\WrB W.heap.size R W (w'.setCell ⟨R,k,none⟩ v):=by
 refine⟨?_,hb.os,hb.tape,hb.output,by simp[World.setCell];exact hb.size,fun k hk CU=>(Below.heap_setCell _ _ _ _ CU).trans (hb.block k hk)⟩;show(w'.heap.modify R _)[R]?=_;rw[Array.getElem?_modify,if_pos rfl,h];exact congrArg (fun z=>some (Obj.cells z 225 (0,0))) hk
set_option maxRecDepth 100000 in
theorem yn_take448(R:Nat)(s:ByteArray)(p:Nat)(e:Int)(W:World)(h:ROk R s (p,e) W)(V:Value)(n:Nat)(u:Bool)(mG:e=0->Calls Tryz.prog 448 #[pA R 0,.int .i64 (p:Int)] W fun x w'=>x=.returned (.tuple #[V,.int .i64 (n:Int),.bool u])/\Below W.heap.size W w') :
  Calls Tryz.prog 446 #[pA R 0,.func (.func 448) #[pA R 0] #[]] W fun x w'=>x=.returned (if e=0 then(bif u then V else .int .i64 0)else .int .i64 0)/\w'.heap[R]?=some (rdO s (if e=0 then(bif u then n else p)else p) (if e=0 then(bif u then 0 else 9)else e))/\WrB W.heap.size R W w':=by
 have BW:=h.lt;have c0:W.cell? ⟨R,1,none⟩=some (.int .i64 (p:Int)):=Lib.cell_of_heap h.hR 1;have c1:W.cell? ⟨R,2,none⟩=some (.int .i64 e):=Lib.cell_of_heap h.hR 2;have ef:∀args w,(callFunc 448 args).run Tryz.prog w=.ok (.enter 448 args) w:=enters_of Tryz.func448 aa3 rfl
 by_cases he:e=0
 .have hq:=mG he;subst he;simp only[if_pos];cases u with
  |true=>
   go_enter Tryz.func446,Tryz.ntmps446
   go_wp2_with (first | (go_at_call 448;refine hq.mono ?_;rintro x w' ⟨rfl,hb⟩;have hR:=(hb.block R BW).trans h.hR;have f1:=Lib.frozen_of_heap hR 1;have c2:=Lib.cell_of_heap hR 1) | (go_at_fn 448;refine hq.mono ?_;rintro x w' ⟨rfl,hb⟩;have hR:=(hb.block R BW).trans h.hR;have f1:=Lib.frozen_of_heap hR 1;have c2:=Lib.cell_of_heap hR 1))
   go_ret
   exact⟨rfl,rset hR hb 1 _ n 0 rfl⟩
  |false=>
   go_enter Tryz.func446,Tryz.ntmps446
   go_wp2_with (first | (go_at_call 448;refine hq.mono ?_;rintro x w' ⟨rfl,hb⟩;have hR:=(hb.block R BW).trans h.hR;have f1:=Lib.frozen_of_heap hR 2;have c2:=Lib.cell_of_heap hR 2) | (go_at_fn 448;refine hq.mono ?_;rintro x w' ⟨rfl,hb⟩;have hR:=(hb.block R BW).trans h.hR;have f1:=Lib.frozen_of_heap hR 2;have c2:=Lib.cell_of_heap hR 2))
   go_ret
   exact⟨rfl,rset hR hb 2 _ p 9 rfl⟩
 .simp only[if_neg he]
  go_enter Tryz.func446,Tryz.ntmps446
  go_wp2
  go_ret
  exact⟨rfl,h.hR,rfl,rfl,rfl,Nat.le_refl _,fun _ _ _=>rfl⟩
set_option maxRecDepth 100000 in
theorem yn_take447(R:Nat)(B C:Nat)(s:ByteArray)(p:Nat)(e:Int)(W:World)(h:ROk R s (p,e) W)(V:Value)(n:Nat)(u:Bool)(mG:e=0->Calls Tryz.prog 447 #[.int .i64 (p:Int),pA B 0,pA C 0] W fun x w'=>x=.returned (.tuple #[V,.int .i64 (n:Int),.bool u])/\Below W.heap.size W w') :
  Calls Tryz.prog 446 #[pA R 0,.func (.func 447) #[] #[pA B 0,pA C 0]] W fun x w'=>x=.returned (if e=0 then(bif u then V else .int .i64 0)else .int .i64 0)/\w'.heap[R]?=some (rdO s (if e=0 then(bif u then n else p)else p) (if e=0 then(bif u then 0 else 9)else e))/\WrB W.heap.size R W w':=by
 have BW:=h.lt;have c0:W.cell? ⟨R,1,none⟩=some (.int .i64 (p:Int)):=Lib.cell_of_heap h.hR 1;have c1:W.cell? ⟨R,2,none⟩=some (.int .i64 e):=Lib.cell_of_heap h.hR 2;have ef:∀args w,(callFunc 447 args).run Tryz.prog w=.ok (.enter 447 args) w:=enters_of Tryz.func447 aa3 rfl
 by_cases he:e=0
 .have hq:=mG he;subst he;simp only[if_pos];cases u with
  |true=>
   go_enter Tryz.func446,Tryz.ntmps446
   go_wp2_with (first | (go_at_call 447;refine hq.mono ?_;rintro x w' ⟨rfl,hb⟩;have hR:=(hb.block R BW).trans h.hR;have f1:=Lib.frozen_of_heap hR 1;have c2:=Lib.cell_of_heap hR 1) | (go_at_fn 447;refine hq.mono ?_;rintro x w' ⟨rfl,hb⟩;have hR:=(hb.block R BW).trans h.hR;have f1:=Lib.frozen_of_heap hR 1;have c2:=Lib.cell_of_heap hR 1))
   go_ret
   exact⟨rfl,rset hR hb 1 _ n 0 rfl⟩
  |false=>
   go_enter Tryz.func446,Tryz.ntmps446
   go_wp2_with (first | (go_at_call 447;refine hq.mono ?_;rintro x w' ⟨rfl,hb⟩;have hR:=(hb.block R BW).trans h.hR;have f1:=Lib.frozen_of_heap hR 2;have c2:=Lib.cell_of_heap hR 2) | (go_at_fn 447;refine hq.mono ?_;rintro x w' ⟨rfl,hb⟩;have hR:=(hb.block R BW).trans h.hR;have f1:=Lib.frozen_of_heap hR 2;have c2:=Lib.cell_of_heap hR 2))
   go_ret
   exact⟨rfl,rset hR hb 2 _ p 9 rfl⟩
 .simp only[if_neg he]
  go_enter Tryz.func446,Tryz.ntmps446
  go_wp2
  go_ret
  exact⟨rfl,h.hR,rfl,rfl,rfl,Nat.le_refl _,fun _ _ _=>rfl⟩
set_option maxRecDepth 100000 in
theorem yn_take450(R:Nat)(s:ByteArray)(p:Nat)(e:Int)(W:World)(h:ROk R s (p,e) W)(V:Value)(n:Nat)(u:Bool)(mG:e=0->Calls Tryz.prog 450 #[pA R 0,.int .i64 (p:Int)] W fun x w'=>x=.returned (.tuple #[V,.int .i64 (n:Int),.bool u])/\Below W.heap.size W w') :
  Calls Tryz.prog 449 #[pA R 0,.func (.func 450) #[pA R 0] #[]] W fun x w'=>x=.returned (if e=0 then(bif u then V else .string ⟨#[]⟩)else .string ⟨#[]⟩)/\w'.heap[R]?=some (rdO s (if e=0 then(bif u then n else p)else p) (if e=0 then(bif u then 0 else 9)else e))/\WrB W.heap.size R W w':=by
 have BW:=h.lt;have c0:W.cell? ⟨R,1,none⟩=some (.int .i64 (p:Int)):=Lib.cell_of_heap h.hR 1;have c1:W.cell? ⟨R,2,none⟩=some (.int .i64 e):=Lib.cell_of_heap h.hR 2;have ef:∀args w,(callFunc 450 args).run Tryz.prog w=.ok (.enter 450 args) w:=enters_of Tryz.func450 aa3 rfl
 by_cases he:e=0
 .have hq:=mG he;subst he;simp only[if_pos];cases u with
  |true=>
   go_enter Tryz.func449,Tryz.ntmps449
   go_wp2_with (first | (go_at_call 450;refine hq.mono ?_;rintro x w' ⟨rfl,hb⟩;have hR:=(hb.block R BW).trans h.hR;have f1:=Lib.frozen_of_heap hR 1;have c2:=Lib.cell_of_heap hR 1) | (go_at_fn 450;refine hq.mono ?_;rintro x w' ⟨rfl,hb⟩;have hR:=(hb.block R BW).trans h.hR;have f1:=Lib.frozen_of_heap hR 1;have c2:=Lib.cell_of_heap hR 1))
   go_ret
   exact⟨rfl,rset hR hb 1 _ n 0 rfl⟩
  |false=>
   go_enter Tryz.func449,Tryz.ntmps449
   go_wp2_with (first | (go_at_call 450;refine hq.mono ?_;rintro x w' ⟨rfl,hb⟩;have hR:=(hb.block R BW).trans h.hR;have f1:=Lib.frozen_of_heap hR 2;have c2:=Lib.cell_of_heap hR 2) | (go_at_fn 450;refine hq.mono ?_;rintro x w' ⟨rfl,hb⟩;have hR:=(hb.block R BW).trans h.hR;have f1:=Lib.frozen_of_heap hR 2;have c2:=Lib.cell_of_heap hR 2))
   go_ret
   exact⟨rfl,rset hR hb 2 _ p 9 rfl⟩
 .simp only[if_neg he]
  go_enter Tryz.func449,Tryz.ntmps449
  go_wp2
  go_ret
  exact⟨rfl,h.hR,rfl,rfl,rfl,Nat.le_refl _,fun _ _ _=>rfl⟩
end Go.Proofs
namespace Go.Proofs
open Go.Shelf Go.RowKit Go.Lib Go.Sort Go.Eng
abbrev RPost(R:Nat)(s:ByteArray)(q:RS)(W w' : World):Prop:=w'.heap[R]?=some (rdO s q.1 q.2)/\WrB W.heap.size R W w'
theorem wrap64_nat{n:Nat}(h:n<9223372036854775808):wrap64 (n:Int)=(n:Int):=by unfold wrap64;omega
theorem szB_lt{s:ByteArray}{a:Nat}(h:szB s a=true):(Fs s a).1<9223372036854775808:=by simp[szB]at h;exact h.2
theorem tk_eq{α:Type}(f:α->Value)(z:α)(r:α×Nat×Bool)(p:Nat)(e:Int)(V:Value)(hV:r.2.2=true->V=f r.1) :
  (if e=0 then(bif r.2.2 then V else f z)else f z)=f (tk z r (p,e)).1/\(if e=0 then(bif r.2.2 then r.2.1 else p)else p)=(tk z r (p,e)).2.1/\(if e=0 then(bif r.2.2 then 0 else 9)else e)=(tk z r (p,e)).2.2:=by
 obtain⟨x,n,u⟩:=r;unfold tk
 by_cases he:e=0
 .subst he;cases u with
  |true=>simp[hV]
  |false=>simp
 .simp[he]
set_option maxRecDepth 100000 in
theorem yo_uint(R:Nat)(s:ByteArray)(q:RS)(W:World)(h:ROk R s q W) :
  Calls Tryz.prog 444 #[pA R 0] W fun x w'=>x=.returned (.int .i64 ((rNum s q).1:Int))/\RPost R s (rNum s q).2 W w':=by
 obtain⟨p,e⟩:=q;obtain⟨t1,t2,t3⟩:=tk_eq (fun n:Nat=>Value.int .i64 (n:Int)) 0 (szR s p) p e (.int .i64 (wrap64 ((Fs s p).1:Int))) (fun hu=>congrArg (Value.int .i64) (wrap64_nat (szB_lt hu)));have hq:=yn_take448 R s p e W h (.int .i64 (wrap64 ((Fs s p).1:Int))) (Fs s p).2.1 (szB s p) (fun _=>yk_size s R p p e h.hs (by have:=h.hs;have:p<=s.size:=h.hp;omega) W h.hR h.hM);have hq:Calls Tryz.prog 446 #[pA R 0,.func (.func 448) #[pA R 0] #[]] W fun x w'=>x=.returned (.int .i64 ((rNum s (p,e)).1:Int))/\RPost R s (rNum s (p,e)).2 W w':=hq.mono fun x w' ⟨a1,a2,a3⟩=>⟨a1.trans (congrArg Ending.returned t1),by rw[a2];exact congrArg some (by unfold rNum;rw[<-t2,<-t3]),a3⟩
 go_enter Tryz.func444,Tryz.ntmps444
 go_wp2_with (go_at_call 446;refine hq.mono ?_;rintro x w' ⟨rfl,hb⟩)
 go_ret
 exact⟨rfl,hb⟩
set_option maxRecDepth 100000 in
theorem yo_text(R:Nat)(s:ByteArray)(q:RS)(W:World)(h:ROk R s q W) :
  Calls Tryz.prog 445 #[pA R 0] W fun x w'=>x=.returned (.string (rTxt s q).1)/\RPost R s (rTxt s q).2 W w':=by
 obtain⟨p,e⟩:=q;obtain⟨t1,t2,t3⟩:=tk_eq Value.string ⟨#[]⟩ (txA s p) p e (.string (txA s p).1) (fun _=>rfl);have hq:=yn_take450 R s p e W h (.string (txA s p).1) (txA s p).2.1 (txA s p).2.2 (fun _=>yk_text s R p p e h.hs h.hp W h.hR h.hM);have hq:Calls Tryz.prog 449 #[pA R 0,.func (.func 450) #[pA R 0] #[]] W fun x w'=>x=.returned (.string (rTxt s (p,e)).1)/\RPost R s (rTxt s (p,e)).2 W w':=hq.mono fun x w' ⟨a1,a2,a3⟩=>⟨a1.trans (congrArg Ending.returned t1),by rw[a2];exact congrArg some (by unfold rTxt;rw[<-t2,<-t3]),a3⟩
 go_enter Tryz.func445,Tryz.ntmps445
 go_wp2_with (go_at_call 449;refine hq.mono ?_;rintro x w' ⟨rfl,hb⟩)
 go_ret
 exact⟨rfl,hb⟩
set_option maxRecDepth 100000 in
theorem yo_cnt1(R B C most:Nat)(s:ByteArray)(p a:Nat)(e:Int)(hs:s.size<=4611686018427387904)(ha:a<=s.size)(W:World)(h:W.heap[R]?=some (rdO s p e))(hM:HM W)(hB:W.cell? ⟨B,0,none⟩=some (pA R 0))(hC:W.cell? ⟨C,0,none⟩=some (.int .i64 (most:Int))) :
  Calls Tryz.prog 447 #[.int .i64 (a:Int),pA B 0,pA C 0] W fun x w'=>x=.returned (.tuple #[.int .i64 (wrap64 ((Fs s a).1:Int)),.int .i64 ((Fs s a).2.1:Int),.bool (szB s a&&decide ((Fs s a).1<=most))])/\Below W.heap.size W w':=by
 have q:=yk_size s R p a e hs B0 W h hM;generalize hu:szB s a=u at q⊢;have BW:=szB_lt (s:=s) (a:=a);rw[hu]at BW;generalize Fs s a=r at q BW⊢;obtain⟨n,k,t⟩:=r;cases u with
 |true=>
  have hw:=wrap64_nat (BW rfl);simp only[hw]at q⊢
  go_enter Tryz.func447,Tryz.ntmps447
  go_wp2_with (go_at_call 448;refine q.mono ?_;rintro x w' ⟨rfl,hb⟩;have c1:w'.cell? ⟨C,0,none⟩=some (.int .i64 (most:Int)):=(hb.cell (Fz hC)).trans hC)
  have c2:w'.drew.cell? ⟨C,0,none⟩=some (.int .i64 (most:Int)):=c1
  go_region
  all_goals go_wp2
  all_goals go_ret3
  all_goals exact⟨rfl,hb.drew⟩
 |false=>
  go_enter Tryz.func447,Tryz.ntmps447
  go_wp2_with (go_at_call 448;refine q.mono ?_;rintro x w' ⟨rfl,hb⟩)
  go_region
  all_goals go_wp2
  all_goals go_ret3
  all_goals exact⟨rfl,hb.drew⟩
theorem ROk.alloc{R:Nat}{s:ByteArray}{q:RS}{W:World}(h:ROk R s q W)(o:Obj):ROk R s q (W.alloc o):=⟨(Below.heap_alloc _ _ _ h.lt).trans h.hR,h.hM.alloc o,h.hp,h.hs,h.he⟩
theorem ROk.drew{R:Nat}{s:ByteArray}{q:RS}{W:World}(h:ROk R s q W):ROk R s q W.drew:=⟨h.hR,h.hM,h.hp,h.hs,h.he⟩
set_option maxRecDepth 100000 in
theorem yo_count(R most:Nat)(s:ByteArray)(q:RS)(W:World)(h:ROk R s q W) :
  Calls Tryz.prog 443 #[pA R 0,.int .i64 (most:Int)] W fun x w'=>x=.returned (.int .i64 ((rCnt s most q).1:Int))/\RPost R s (rCnt s most q).2 W w':=by
 obtain⟨p,e⟩:=q;obtain⟨t1,t2,t3⟩:=tk_eq (fun n:Nat=>Value.int .i64 (n:Int)) 0 (ctR s most p) p e (.int .i64 (wrap64 ((Fs s p).1:Int))) (fun hu=>congrArg (Value.int .i64) (wrap64_nat (szB_lt ((Bool.and_eq_true _ _▸hu:_/\_).1))));have wo:p<=s.size:=h.hp;have AcM:∀args w,(callFunc 447 args).run Tryz.prog w=.ok (.enter 447 args) w:=enters_of Tryz.func447 aa3 rfl;obtain⟨W1,Wa⟩:∃W1,W1=(W.alloc (.cells #[pA R 0] 125)).alloc (.cells #[.int .i64 (most:Int)] 3):=⟨_,rfl⟩;have h1:ROk R s (p,e) W1:=by rw[Wa];exact(h.alloc _).alloc _
 have k0:W1.heap[W.heap.size]?=some (.cells #[pA R 0] 125):=by rw[Wa];exact(Below.heap_alloc _ _ _ aa0).trans (new_heap _ _)
 have k1:W1.heap[W.heap.size+1]?=some (.cells #[.int .i64 (most:Int)] 3):=by
  have:=new_heap (W.alloc (.cells #[pA R 0] 125)) (.cells #[.int .i64 (most:Int)] 3)
  rw[Wa];simpa using this
 have c0:=Lib.cell_of_heap k0 0;have c1:=Lib.cell_of_heap k1 0;have b1:WrB W.heap.size R W W1:=by
  rw[Wa];exact⟨rfl,rfl,rfl,by simp;omega,fun k hk _=>(Below.heap_alloc _ _ _ (by simp;omega)).trans (Below.heap_alloc _ _ _ hk)⟩
 have hq:=yn_take447 R W.heap.size (W.heap.size+1) s p e W1 h1 (.int .i64 (wrap64 ((Fs s p).1:Int))) (Fs s p).2.1 (ctR s most p).2.2 (fun _=>yo_cnt1 R W.heap.size (W.heap.size+1) most s p p e h.hs wo W1 h1.hR h1.hM c0 c1);have hq:Calls Tryz.prog 446 #[pA R 0,.func (.func 447) #[] #[pA W.heap.size 0,pA (W.heap.size+1) 0]] W1 fun x w'=>x=.returned (.int .i64 ((rCnt s most (p,e)).1:Int))/\RPost R s (rCnt s most (p,e)).2 W w':=hq.mono fun x w' ⟨a1,a2,a3⟩=>⟨a1.trans (congrArg Ending.returned t1),by rw[a2];exact congrArg some (by unfold rCnt;rw[<-t2,<-t3]),b1.trans a3⟩;have HW:Hid _:=Wa
 go_enter Tryz.func443,Tryz.ntmps443
 go_wp2_with (go_at_call 446;rw[<-HW.out];refine hq.mono ?_;rintro x w' ⟨rfl,hb⟩)
 go_ret
 exact⟨rfl,hb⟩
abbrev lrO(R most:Nat):Obj:=.cells #[pA R 0,.int .i64 (most:Int)] 128 (0,0)
structure RW(R D:Nat)(s:ByteArray)(most:Nat)(q:RS)(W:World):Prop extends ROk R s q W where
 hD:W.heap[D]?=some (lrO R most)
 ne:D≠R
structure RB(R b:Nat)(W w' : World):Prop where
 os:w'.os=W.os
 tape:w'.tape=W.tape
 output:w'.output=W.output
 size:W.heap.size<=w'.heap.size
 block:∀k,k<W.heap.size->k≠R->k≠b->w'.heap[k]?=W.heap[k]?
theorem RB.trans{R b:Nat}{W w w' : World}(h:RB R b W w)(k:RB R b w w'):RB R b W w':=
 ⟨k.os.trans h.os,k.tape.trans h.tape,k.output.trans h.output,Nat.le_trans h.size k.size,fun i hi n1 n2=>(k.block i (Nat.lt_of_lt_of_le hi h.size) n1 n2).trans (h.block i hi n1 n2)⟩
theorem RB.undrew{R b:Nat}{W w' : World}(h:RB R b W.drew w'):RB R b W w':=⟨h.os,h.tape,h.output,h.size,h.block⟩
abbrev RPost2(R b:Nat)(s:ByteArray)(q:RS)(cs:Array Value)(T:Nat)(W w' : World):Prop:=w'.heap[R]?=some (rdO s q.1 q.2)/\w'.heap[b]?=some (.cells cs T (0,0))/\RB R b W w'
theorem rset2{R b o T:Nat}{s:ByteArray}{q:RS}{W w' : World}{cs:Array Value}{v:Value}(hb:b≠R)(hB:W.heap[b]?=some (.cells cs T (0,0)))(h:RPost R s q W w'):RPost2 R b s q (cs.setIfInBounds o v) T W (w'.setCell ⟨b,o,none⟩ v):=by
 have BW:b<W.heap.size:=(Array.getElem?_eq_some_iff.1 hB).1;have h2:=(h.2.block b BW hb).trans hB;refine⟨(Below.heap_setCell _ _ _ _ hb.symm).trans h.1,?_,h.2.os,h.2.tape,h.2.output,by simp[World.setCell];exact h.2.size,fun k hk n1 n2=>(Below.heap_setCell _ _ _ _ n2).trans (h.2.block k hk n1)⟩;show(w'.heap.modify b _)[b]?=_;rw[Array.getElem?_modify,if_pos rfl,h2];rfl
set_option maxRecDepth 100000 in
theorem yo_number(R D most b o T:Nat)(s:ByteArray)(q:RS)(W:World)(h:RW R D s most q W)(cs:Array Value)(hb:b≠R)(hB:W.heap[b]?=some (.cells cs T (0,0)))(ho:o<cs.size) :
  Calls Tryz.prog 441 #[pA D 0,pA b o] W fun x w'=>x=.returned (.tuple #[])/\RPost2 R b s (rNum s q).2 (cs.setIfInBounds o (.int .i64 ((rNum s q).1:Int))) T W w':=by
 have BW:b<W.heap.size:=(Array.getElem?_eq_some_iff.1 hB).1;have c0:W.cell? ⟨D,0,none⟩=some (pA R 0):=Lib.cell_of_heap h.hD 0
 go_enter Tryz.func441,Tryz.ntmps441
 go_wp2_with (go_at_call 444;refine(yo_uint R s q W h.toROk).mono ?_;rintro x w' ⟨rfl,hr⟩;have MP:=(hr.2.block b BW hb).trans hB;have c1:w'.cell? ⟨b,o,none⟩=some cs[o]:=(Lib.cell_of_heap MP o).trans (Array.getElem?_eq_getElem ho);have f1:=Lib.frozen_of_heap MP o)
 exact bodyPost_end (results_none rfl _ _ _) rfl ⟨rfl,rset2 hb hB hr⟩
set_option maxRecDepth 100000 in
theorem yo_txt(R D most b o T:Nat)(s:ByteArray)(q:RS)(W:World)(h:RW R D s most q W)(cs:Array Value)(hb:b≠R)(hB:W.heap[b]?=some (.cells cs T (0,0)))(ho:o<cs.size) :
  Calls Tryz.prog 442 #[pA D 0,pA b o] W fun x w'=>x=.returned (.tuple #[])/\RPost2 R b s (rTxt s q).2 (cs.setIfInBounds o (.string (rTxt s q).1)) T W w':=by
 have BW:b<W.heap.size:=(Array.getElem?_eq_some_iff.1 hB).1;have c0:W.cell? ⟨D,0,none⟩=some (pA R 0):=Lib.cell_of_heap h.hD 0
 go_enter Tryz.func442,Tryz.ntmps442
 go_wp2_with (go_at_call 445;refine(yo_text R s q W h.toROk).mono ?_;rintro x w' ⟨rfl,hr⟩;have MP:=(hr.2.block b BW hb).trans hB;have c1:w'.cell? ⟨b,o,none⟩=some cs[o]:=(Lib.cell_of_heap MP o).trans (Array.getElem?_eq_getElem ho);have f1:=Lib.frozen_of_heap MP o)
 exact bodyPost_end (results_none rfl _ _ _) rfl ⟨rfl,rset2 hb hB hr⟩
set_option maxRecDepth 100000 in
theorem yo_cnt(R D most:Nat)(n:Value)(s:ByteArray)(q:RS)(W:World)(h:RW R D s most q W) :
  Calls Tryz.prog 440 #[pA D 0,n] W fun x w'=>x=.returned (.int .i64 ((rCnt s most q).1:Int))/\RPost R s (rCnt s most q).2 W w':=by
 have c0:W.drew.cell? ⟨D,0,none⟩=some (pA R 0):=Lib.cell_of_heap (w:=W.drew) h.hD 0;have c1:W.drew.cell? ⟨D,1,none⟩=some (.int .i64 (most:Int)):=Lib.cell_of_heap (w:=W.drew) h.hD 1
 go_enter Tryz.func440,Tryz.ntmps440
 go_wp2
 go_region_with (go_at_call 443;refine(yo_count R most s q W.drew h.toROk.drew).mono ?_;rintro x w' ⟨rfl,hr⟩)
 all_goals go_wp2
 all_goals go_ret
 all_goals exact⟨rfl,hr.1,hr.2.undrew⟩
set_option maxRecDepth 100000 in
theorem yo_error(R p:Nat)(e:Int)(s:ByteArray)(W:World)(h:W.heap[R]?=some (rdO s p e)) :
  Calls Tryz.prog 193 #[pA R 0] W fun x w'=>x=.returned (.int .i64 e)/\w'=W:=by
 have c1:W.cell? ⟨R,2,none⟩=some (.int .i64 e):=Lib.cell_of_heap h 2
 go_enter Tryz.func193,Tryz.ntmps193
 go_wp2
 go_ret
 exact⟨rfl,rfl⟩
set_option maxRecDepth 100000 in
theorem yo_end(R p:Nat)(e:Int)(s:ByteArray)(W:World)(h9:e=0\/e=9)(h:W.heap[R]?=some (rdO s p e)) :
  Calls Tryz.prog 65 #[pA R 0] W fun x w'=>x=.returned (.int .i64 (if e=0 then(if p<s.size then 9 else 0)else e))/\w'=W.drew:=by
 have c0:W.drew.cell? ⟨R,0,none⟩=some (.string s):=Lib.cell_of_heap (w:=W.drew) h 0;have c1:W.drew.cell? ⟨R,1,none⟩=some (.int .i64 (p:Int)):=Lib.cell_of_heap (w:=W.drew) h 1;have c2:W.drew.cell? ⟨R,2,none⟩=some (.int .i64 e):=Lib.cell_of_heap (w:=W.drew) h 2
 by_cases he:e=0
 .subst he;simp only[if_pos]
  by_cases hp:p<s.size
  .rw[if_pos hp]
   go_enter Tryz.func65,Tryz.ntmps65
   go_wp2
   go_region
   all_goals go_wp2
   all_goals go_ret
   all_goals exact⟨rfl,rfl⟩
  .rw[if_neg hp]
   go_enter Tryz.func65,Tryz.ntmps65
   go_wp2
   go_region
   all_goals go_wp2
   all_goals go_ret
   all_goals exact⟨rfl,rfl⟩
 .obtain rfl:e=9:=h9.resolve_left he;simp only[if_neg he]
  go_enter Tryz.func65,Tryz.ntmps65
  go_wp2
  go_region
  all_goals go_wp2
  all_goals go_ret
  all_goals exact⟨rfl,rfl⟩
theorem yo_new(s:ByteArray)(W:World):Calls Tryz.prog 64 #[.string s] W fun x w'=>x=.returned (pA W.heap.size 0)/\w'=W.alloc (rdO s 0 0):=by
 go_enter Tryz.func64,Tryz.ntmps64
 go_wp2
 go_ret
 exact⟨rfl,rfl⟩
end Go.Proofs
namespace Go.Proofs
open Go.Shelf Go.RowKit Go.Lib Go.Sort Go.Eng
abbrev ifR(D:Nat):Value:=.iface 124 (pA D 0)
theorem txA_le{s:ByteArray}{a:Nat}(ha:a<=s.size)(h:(txA s a).2.2=true):(txA s a).2.1<=s.size:=by
 unfold txA at h⊢;split at h
 .rename_i c;rw[if_pos c];have hk:(Fs s a).2.1<=s.size:=scA_le ha (by have:=c.1;simp[szB]at this;exact this.1);show(Fs s a).2.1+(Fs s a).1<=s.size;omega
 .cases h
theorem tk_ok{α:Type}{z:α}{r:α×Nat×Bool}{s:ByteArray}{q:RS}(h:q.1<=s.size/\(q.2=0\/q.2=9))(hr:r.2.2=true->r.2.1<=s.size):(tk z r q).2.1<=s.size/\((tk z r q).2.2=0\/(tk z r q).2.2=9):=by
 unfold tk;obtain⟨x,n,u⟩:=r;split
 .cases u with
  |true=>exact⟨hr rfl,.inl rfl⟩
  |false=>exact⟨h.1,.inr rfl⟩
 .exact h
abbrev QOk(s:ByteArray)(q:RS):Prop:=q.1<=s.size/\(q.2=0\/q.2=9)
theorem szB_scan{s:ByteArray}{a:Nat}(h:szB s a=true):(Fs s a).2.2=true:=by simp[szB]at h;exact h.1
theorem rNum_ok{s:ByteArray}{q:RS}(h:QOk s q):QOk s (rNum s q).2:=tk_ok h fun hu=>scA_le h.1 (szB_scan hu)
theorem rTxt_ok{s:ByteArray}{q:RS}(h:QOk s q):QOk s (rTxt s q).2:=tk_ok h fun hu=>txA_le h.1 hu
theorem rCnt_ok{s:ByteArray}{most:Nat}{q:RS}(h:QOk s q):QOk s (rCnt s most q).2:=tk_ok h fun hu=>scA_le h.1 (szB_scan ((Bool.and_eq_true _ _▸hu:_/\_).1))
theorem RW.step{R D b most:Nat}{s:ByteArray}{q q' : RS}{W w' : World}(h:RW R D s most q W)(hR:w'.heap[R]?=some (rdO s q'.1 q'.2))(hb:RB R b W w')(hD:b≠D)(h0:b≠0)(hq:QOk s q'):RW R D s most q' w':=
 have hR0:0≠R:=by
  rintro rfl
  obtain⟨m,hm⟩:=h.hM;rw[Lib.cell_of_heap h.hR 0]at hm;cases hm
 ⟨⟨hR,h.hM.imp fun m hm=>by rw[<-hm];simp only[World.cell?,hb.block 0 (Fz hm) hR0 h0.symm],hq.1,h.hs,hq.2⟩,(hb.block D (Array.getElem?_eq_some_iff.1 h.hD).1 h.ne hD.symm).trans h.hD,h.ne⟩
theorem RW.qok{R D most:Nat}{s:ByteArray}{q:RS}{W:World}(h:RW R D s most q W):QOk s q:=⟨h.hp,h.he⟩
theorem RW.drew{R D most:Nat}{s:ByteArray}{q:RS}{W:World}(h:RW R D s most q W):RW R D s most q W.drew:={ h.toROk.drew with hD:=h.hD,ne:=h.ne }
theorem RW.alloc{R D most:Nat}{s:ByteArray}{q:RS}{W:World}(h:RW R D s most q W)(o:Obj):RW R D s most q (W.alloc o):={ h.toROk.alloc o with hD:=(Below.heap_alloc _ _ _ (Array.getElem?_eq_some_iff.1 h.hD).1).trans h.hD,ne:=h.ne }
def stN(s:ByteArray)(q:RS):Nat->RS
 |0=>q
 |k+1=>(rNum s (stN s q k)).2
abbrev nmN(s:ByteArray)(q:RS)(i:Nat):Nat:=(rNum s (stN s q i)).1
def setN(s:ByteArray)(q:RS)(o:Nat->Nat)(cs:Array Value):Nat->Array Value
 |0=>cs
 |k+1=>(setN s q o cs k).setIfInBounds (o k) (.int .i64 (nmN s q k:Int))
theorem stN_ok{s:ByteArray}{q:RS}(h:QOk s q):∀k,QOk s (stN s q k)
 |0=>h
 |k+1=>rNum_ok (stN_ok h k)
theorem setN_size(s:ByteArray)(q:RS)(o:Nat->Nat)(cs:Array Value):∀k,(setN s q o cs k).size=cs.size
 |0=>rfl
 |k+1=>by rw[setN,Array.size_setIfInBounds,setN_size s q o cs k]
theorem yp_nn (a : Addr) (w : World) : (nilAhead 601 124 (.pointer (some a)) "modcert/lock.number").run Tryz.prog w = .ok (some false) w := by kernel_rfl
theorem yp_nm (a : Addr) (w : World) : (method 601 124 (.pointer (some a)) "modcert/lock.number").run Tryz.prog w = .ok (441, .pointer (some a)) w := by kernel_rfl
theorem yp_tn (a : Addr) (w : World) : (nilAhead 601 124 (.pointer (some a)) "modcert/lock.text").run Tryz.prog w = .ok (some false) w := by kernel_rfl
theorem yp_tm (a : Addr) (w : World) : (method 601 124 (.pointer (some a)) "modcert/lock.text").run Tryz.prog w = .ok (442, .pointer (some a)) w := by kernel_rfl
theorem yp_cn (a : Addr) (w : World) : (nilAhead 601 124 (.pointer (some a)) "modcert/lock.count").run Tryz.prog w = .ok (some false) w := by kernel_rfl
theorem yp_cm (a : Addr) (w : World) : (method 601 124 (.pointer (some a)) "modcert/lock.count").run Tryz.prog w = .ok (440, .pointer (some a)) w := by kernel_rfl
theorem yp_ta(a:Addr)(w:World):(Instr.typeAssert (.iface 124 (.pointer (some a))) 197 124 true).run Tryz.prog w=.ok (.tuple #[.pointer (some a),.bool true]) w:=by kernel_rfl
theorem yp_tb(a:Addr)(w:World):(Instr.typeAssert (.iface 124 (.pointer (some a))) 197 124 false).run Tryz.prog w=.ok (.pointer (some a)) w:=by kernel_rfl
theorem RB.refl(R b:Nat)(W:World):RB R b W W:=⟨rfl,rfl,rfl,Nat.le_refl _,fun _ _ _ _=>rfl⟩
theorem RB.cell{R b c k:Nat}{W w' : World}(h:RB R b W w')(h1:c≠R)(h2:c≠b){v:Value}(hv:W.cell? ⟨c,k,none⟩=some v):w'.cell? ⟨c,k,none⟩=some v:=by
 rw[<-hv];simp only[World.cell?,h.block c (Fz hv) h1 h2]
set_option maxRecDepth 100000 in
theorem yp_numbers(R D b C cap most T n:Nat)(o:Nat->Nat)(s:ByteArray)(q:RS)(W:World)(cs:Array Value)(h:RW R D s most q W)(G7:b≠R)(Jd:b≠D)(IK:b≠0)(hCR:C≠R)(hCb:C≠b)(hn:n<=100)(hB:W.heap[b]?=some (.cells cs T (0,0)))
  (hp:∀i,i<n->W.cell? ⟨C,i,none⟩=some (pA b (o i))/\o i<cs.size) :
  Calls Tryz.prog 124 #[ifR D,.slice (some ⟨C,0,none⟩) n cap] W fun x w'=>x=.returned (.tuple #[])/\RPost2 R b s (stN s q n) (setN s q o cs n) T W w':=by
 have n1:=yp_nn ⟨D,0,none⟩;have m1:=yp_nm ⟨D,0,none⟩
 go_enter Tryz.func124,Tryz.ntmps124
 go_wp2
 go_loopw [8] (fun i wr=>∃k:Nat,k<=n/\i=.int .i64 k/\RPost2 R b s (stN s q k) (setN s q o cs k) T W wr) (fun i _=>n-(intOf i).toNat)
 case atStart=>exact⟨0,Nat.zero_le _,rfl,h.hR,hB,.refl _ _ _⟩
 case round=>
  obtain⟨k,hk,rfl,XI,MP,hw⟩:=hrel;rcases Nat.lt_or_ge k n with BW | WT
  .obtain⟨p1,p2⟩:=hp k BW;have c1:=hw.cell hCR hCb p1
   go_wp2_with (go_at_call 441;refine(yo_number R D most b (o k) T s (stN s q k) _ (h.step XI hw Jd IK (stN_ok h.qok k)) _ G7 MP (by rw[setN_size];exact p2)).mono ?_;rintro e w' ⟨rfl,hR2,NC,OD⟩)
   go_roundw
   case rel=>exact⟨k+1,BW,by go_num,hR2,NC,hw.trans OD⟩
   case measure=>simp[intOf];omega
  .obtain rfl:k=n:=B0
   go_wp2
   exact bodyPost_end (results_none rfl _ _ _) rfl ⟨rfl,XI,MP,hw⟩
end Go.Proofs
namespace Go.Proofs
open Go.Shelf Go.RowKit Go.Lib Go.Sort Go.Eng
def wrt(cs:Array Value)(o:Nat):List Value->Array Value
 | []=>cs
 |v::r=>wrt (cs.setIfInBounds o v) (o+1) r
abbrev gS(S:Nat->Nat->Prop):Gh:=⟨fun _=>undef,fun _=>0,fun _=>false,fun _=>none,S⟩
structure ElemR(S:Nat->Nat->Prop)(W w' : World)(avs:List AV)(vs:List Value):Prop where
 len:vs.length=avs.length
 fresh:∀b o,S b o->W.heap.size<=b/\b<w'.heap.size
 rep:∀(j:Nat) (av:AV) (v:Value),avs[j]?=some av->vs[j]?=some v->A3 (gS S) w' DR av v/\v.oneCell'=true
def RC{α:Type}(f:Nat)(enc:α->List AV)(rd:ByteArray->Nat->RS->α×RS)(zs:List Value):Prop:=
 ∀(R D b off T most:Nat) (s:ByteArray) (q:RS) (W:World) (cs:Array Value),RW R D s most q W->b≠R->b≠D->b≠0->W.heap[b]?=some (.cells cs T (0,0))->(∀j z,zs[j]?=some z->cs[off+j]?=some z)->most<=1000000 ->
 Calls Tryz.prog f #[ifR D,pA b off] W fun x w'=>x=.returned (.tuple #[])/\∃vs S,RPost2 R b s (rd s most q).2 (wrt cs off vs) T W w'/\ElemR S W w' (enc (rd s most q).1) vs
theorem RB.alloc{R b:Nat}{W w' : World}{o:Obj}(h:RB R b (W.alloc o) w'):RB R b W w':=
 have e:(W.alloc o).heap.size=W.heap.size+1:=aa0
 ⟨h.os,h.tape,h.output,by have:=h.size;omega,fun k hk n1 n2=>(h.block k B0 n1 n2).trans (Below.heap_alloc _ _ _ hk)⟩
theorem ptrs_at{W:World}{b C n:Nat}{o:Nat->Nat}{vs:Array Value}{T m:Nat}(hC:C=W.heap.size)(hv:∀i,i<n->vs[i]?=some (pA b (o i))/\o i<m) :
  ∀i,i<n->(W.alloc (.cells vs T)).drew.cell? ⟨C,i,none⟩=some (pA b (o i))/\o i<m:=fun i hi=>by
 subst hC;refine⟨?_,(hv i hi).2⟩
 have:=(Lib.cell_of_heap (new_heap W (.cells vs T)) i).trans (hv i hi).1
 exact this
theorem elem_plain{W w' : World}(us:List Value)(h1:∀v∈us,v.oneCell'=true):ElemR (fun _ _=>False) W w' (us.map .v) us where
 len:=by rw[List.length_map]
 fresh:=fun _ _ h=>h.elim
 rep:=fun j av v e1 e2=>by
  rw[List.getElem?_map,e2]at e1;cases e1;exact⟨.v _ _,h1 v (List.mem_of_getElem? e2)⟩
theorem set_same{cs:Array Value}{k:Nat}{v:Value}(h:cs[k]?=some v):cs.setIfInBounds k v=cs:=by
 apply Array.ext_getElem?;intro i;rw[Array.getElem?_setIfInBounds];split
 .subst_vars
  split
  .exact h.symm
  .rw[Array.getElem?_eq_none B0]
 .rfl
def rdSp(s:ByteArray)(_:Nat)(q:RS):(Int×Int)×RS:=(((nmN s q 0:Int),(nmN s q 1:Int)),stN s q 2)
def rdLo(s:ByteArray)(_:Nat)(q:RS):Lo×RS:=
 (⟨(rTxt s q).1,⟨0,(nmN s (rTxt s q).2 0:Int),(nmN s (rTxt s q).2 1:Int)⟩,(rTxt s (stN s (rTxt s q).2 2)).1,(rTxt s (rTxt s (stN s (rTxt s q).2 2)).2).1⟩,(rTxt s (rTxt s (stN s (rTxt s q).2 2)).2).2)
def rdNf(s:ByteArray)(_:Nat)(q:RS):Nf×RS:=
 (⟨((rNum s q).1:Int),(rTxt s (rNum s q).2).1,(nmN s (rTxt s (rNum s q).2).2 0:Int),(nmN s (rTxt s (rNum s q).2).2 1:Int),(nmN s (rTxt s (rNum s q).2).2 2:Int),(nmN s (rTxt s (rNum s q).2).2 3:Int)⟩,stN s (rTxt s (rNum s q).2).2 4)
def rdSk(s:ByteArray)(_:Nat)(q:RS):Sk×RS:=
 (⟨(rTxt s q).1,(nmN s (rTxt s q).2 0:Int),(nmN s (rTxt s q).2 1:Int)⟩,stN s (rTxt s q).2 2)
abbrev zI:Value:=.int .i64 0
abbrev zT:Value:=.string ⟨#[]⟩
set_option maxRecDepth 100000 in
theorem yq_span:RC 123 Ap rdSp [zI,zI]:=by
 intro R D b off T most s q W cs h G7 Jd IK hB hz _;have EQ:off+1<cs.size:=(Array.getElem?_eq_some_iff.1 (hz 1 _ rfl)).1;have BW:b<W.heap.size:=(Array.getElem?_eq_some_iff.1 hB).1
 go_enter Tryz.func123,Tryz.ntmps123
 go_wp2
 go_region_with (go_at_call 124;(refine(yp_numbers R D b W.heap.size 2 most T 2 (fun i=>off+(0+i)) s q _ cs ?_ G7 Jd IK ?_ ?_ ?_ ?_ ?_).mono ?_;exact(h.alloc _).drew;have:=h.toROk.lt;omega;omega;exact Nat.le_of_ble_eq_true rfl;exact(Below.heap_alloc _ _ _ (Array.getElem?_eq_some_iff.1 hB).1).trans hB;exact ptrs_at rfl (fun i hi=>(by match i,hi with | 0,_=>exact⟨rfl,by show off+(0+0)<_;first | omega | (simp only[Array.size_setIfInBounds];omega) | (simp only[setN_size];omega) | (simp only[Array.size_setIfInBounds,setN_size];omega)⟩ | 1,_=>exact⟨rfl,by show off+(0+1)<_;first | omega | (simp only[Array.size_setIfInBounds];omega) | (simp only[setN_size];omega) | (simp only[Array.size_setIfInBounds,setN_size];omega)⟩));rintro x w1 ⟨rfl,r1,k1,c1⟩))
 all_goals (have d1:RB R b W w1:=c1.undrew.alloc)
 all_goals refine bodyPost_end (results_none rfl _ _ _) rfl ⟨rfl,[.int .i64 (nmN s q 0:Int),.int .i64 (nmN s q 1:Int)],fun _ _=>False,⟨r1,?_,d1⟩,?_⟩
 all_goals first | exact k1 | exact elem_plain [.int .i64 (nmN s q 0:Int),.int .i64 (nmN s q 1:Int)] (by simp[Value.oneCell'])
set_option maxRecDepth 100000 in
theorem yq_ent:RC 126 Cq rdLo [zT,zI,zI,zI,zT,zT]:=by
 intro R D b off T most s q W cs h G7 Jd IK hB hz _;have EQ:off+5<cs.size:=(Array.getElem?_eq_some_iff.1 (hz 5 _ rfl)).1;have BW:b<W.heap.size:=(Array.getElem?_eq_some_iff.1 hB).1;have tn:=yp_tn ⟨D,0,none⟩;have tm:=yp_tm ⟨D,0,none⟩
 go_enter Tryz.func126,Tryz.ntmps126
 go_wp2
 go_region_with (go_at_call 442;(refine(yo_txt R D most b (off+0) T s q _ ?_ cs G7 ?_ (by first | omega | (simp only[Array.size_setIfInBounds];omega) | (simp only[setN_size];omega) | (simp only[Array.size_setIfInBounds,setN_size];omega))).mono ?_;exact h.drew;exact hB;rintro x w1 ⟨rfl,r1,k1,c1⟩))
 all_goals (have d1:RB R b W w1:=c1.undrew)
 all_goals (have h1:=h.step r1 d1 Jd IK (rTxt_ok (h.qok)))
 all_goals (
  go_wp2
  go_region_with (go_at_call 124;(refine(yp_numbers R D b w1.heap.size 2 most T 2 (fun i=>off+(2+i)) s (rTxt s q).2 _ (cs.setIfInBounds (off+0) (.string (rTxt s q).1)) ?_ G7 Jd IK ?_ ?_ ?_ ?_ ?_).mono ?_;exact(h1.alloc _).drew;have:=h1.toROk.lt;omega;have:=d1.size;omega;exact Nat.le_of_ble_eq_true rfl;exact(Below.heap_alloc _ _ _ (Array.getElem?_eq_some_iff.1 k1).1).trans k1;exact ptrs_at rfl (fun i hi=>(by match i,hi with | 0,_=>exact⟨rfl,by show off+(2+0)<_;first | omega | (simp only[Array.size_setIfInBounds];omega) | (simp only[setN_size];omega) | (simp only[Array.size_setIfInBounds,setN_size];omega)⟩ | 1,_=>exact⟨rfl,by show off+(2+1)<_;first | omega | (simp only[Array.size_setIfInBounds];omega) | (simp only[setN_size];omega) | (simp only[Array.size_setIfInBounds,setN_size];omega)⟩));rintro x w2 ⟨rfl,r2,k2,c2⟩)))
 all_goals (have d2:RB R b W w2:=d1.trans (c2.undrew.alloc))
 all_goals (have h2:=h.step r2 d2 Jd IK (stN_ok ((rTxt_ok (h.qok))) 2))
 all_goals (
  go_wp2
  go_region_with (go_at_call 442;(refine(yo_txt R D most b (off+4) T s (stN s (rTxt s q).2 2) _ ?_ (setN s (rTxt s q).2 (fun i=>off+(2+i)) (cs.setIfInBounds (off+0) (.string (rTxt s q).1)) 2) G7 ?_ (by first | omega | (simp only[Array.size_setIfInBounds];omega) | (simp only[setN_size];omega) | (simp only[Array.size_setIfInBounds,setN_size];omega))).mono ?_;exact h2.drew;exact k2;rintro x w3 ⟨rfl,r3,k3,c3⟩)))
 all_goals (have d3:RB R b W w3:=d2.trans (c3.undrew))
 all_goals (have h3:=h.step r3 d3 Jd IK (rTxt_ok ((stN_ok ((rTxt_ok (h.qok))) 2))))
 all_goals (
  go_wp2
  go_region_with (go_at_call 442;(refine(yo_txt R D most b (off+5) T s (rTxt s (stN s (rTxt s q).2 2)).2 _ ?_ ((setN s (rTxt s q).2 (fun i=>off+(2+i)) (cs.setIfInBounds (off+0) (.string (rTxt s q).1)) 2).setIfInBounds (off+4) (.string (rTxt s (stN s (rTxt s q).2 2)).1)) G7 ?_ (by first | omega | (simp only[Array.size_setIfInBounds];omega) | (simp only[setN_size];omega) | (simp only[Array.size_setIfInBounds,setN_size];omega))).mono ?_;exact h3.drew;exact k3;rintro x w4 ⟨rfl,r4,k4,c4⟩)))
 all_goals (have d4:RB R b W w4:=d3.trans (c4.undrew))
 all_goals refine bodyPost_end (results_none rfl _ _ _) rfl ⟨rfl,[.string (rTxt s q).1,zI,.int .i64 (nmN s (rTxt s q).2 0:Int),.int .i64 (nmN s (rTxt s q).2 1:Int),.string (rTxt s (stN s (rTxt s q).2 2)).1,.string (rTxt s (rTxt s (stN s (rTxt s q).2 2)).2).1],fun _ _=>False,⟨r4,?_,d4⟩,?_⟩
 all_goals first | (show _=some (Obj.cells (wrt ((cs.setIfInBounds off (.string (rTxt s q).1)).setIfInBounds (off+1) zI) (off+2) _) T (0,0));rw[set_same (by rw[Array.getElem?_setIfInBounds,if_neg B0];exact hz 1 _ rfl)];exact k4) | exact k4 | exact elem_plain [.string (rTxt s q).1,zI,.int .i64 (nmN s (rTxt s q).2 0:Int),.int .i64 (nmN s (rTxt s q).2 1:Int),.string (rTxt s (stN s (rTxt s q).2 2)).1,.string (rTxt s (rTxt s (stN s (rTxt s q).2 2)).2).1] (by simp[Value.oneCell'])
set_option maxRecDepth 100000 in
theorem yq_inf:RC 128 AR rdNf [zI,zT,zI,zI,zI,zI]:=by
 intro R D b off T most s q W cs h G7 Jd IK hB hz _;have EQ:off+5<cs.size:=(Array.getElem?_eq_some_iff.1 (hz 5 _ rfl)).1;have BW:b<W.heap.size:=(Array.getElem?_eq_some_iff.1 hB).1;have tn:=yp_tn ⟨D,0,none⟩;have tm:=yp_tm ⟨D,0,none⟩;have nn:=yp_nn ⟨D,0,none⟩;have nm:=yp_nm ⟨D,0,none⟩
 go_enter Tryz.func128,Tryz.ntmps128
 go_wp2
 go_region_with (go_at_call 441;(refine(yo_number R D most b (off+0) T s q _ ?_ cs G7 ?_ (by first | omega | (simp only[Array.size_setIfInBounds];omega) | (simp only[setN_size];omega) | (simp only[Array.size_setIfInBounds,setN_size];omega))).mono ?_;exact h.drew;exact hB;rintro x w1 ⟨rfl,r1,k1,c1⟩))
 all_goals (have d1:RB R b W w1:=c1.undrew)
 all_goals (have h1:=h.step r1 d1 Jd IK (rNum_ok (h.qok)))
 all_goals (
  go_wp2
  go_region_with (go_at_call 442;(refine(yo_txt R D most b (off+1) T s (rNum s q).2 _ ?_ (cs.setIfInBounds (off+0) (.int .i64 ((rNum s q).1:Int))) G7 ?_ (by first | omega | (simp only[Array.size_setIfInBounds];omega) | (simp only[setN_size];omega) | (simp only[Array.size_setIfInBounds,setN_size];omega))).mono ?_;exact h1.drew;exact k1;rintro x w2 ⟨rfl,r2,k2,c2⟩)))
 all_goals (have d2:RB R b W w2:=d1.trans (c2.undrew))
 all_goals (have h2:=h.step r2 d2 Jd IK (rTxt_ok ((rNum_ok (h.qok)))))
 all_goals (
  go_wp2
  go_region_with (go_at_call 124;(refine(yp_numbers R D b w2.heap.size 4 most T 4 (fun i=>off+(2+i)) s (rTxt s (rNum s q).2).2 _ ((cs.setIfInBounds (off+0) (.int .i64 ((rNum s q).1:Int))).setIfInBounds (off+1) (.string (rTxt s (rNum s q).2).1)) ?_ G7 Jd IK ?_ ?_ ?_ ?_ ?_).mono ?_;exact(h2.alloc _).drew;have:=h2.toROk.lt;omega;have:=d2.size;omega;exact Nat.le_of_ble_eq_true rfl;exact(Below.heap_alloc _ _ _ (Array.getElem?_eq_some_iff.1 k2).1).trans k2;exact ptrs_at rfl (fun i hi=>(by match i,hi with | 0,_=>exact⟨rfl,by show off+(2+0)<_;first | omega | (simp only[Array.size_setIfInBounds];omega) | (simp only[setN_size];omega) | (simp only[Array.size_setIfInBounds,setN_size];omega)⟩ | 1,_=>exact⟨rfl,by show off+(2+1)<_;first | omega | (simp only[Array.size_setIfInBounds];omega) | (simp only[setN_size];omega) | (simp only[Array.size_setIfInBounds,setN_size];omega)⟩ | 2,_=>exact⟨rfl,by show off+(2+2)<_;first | omega | (simp only[Array.size_setIfInBounds];omega) | (simp only[setN_size];omega) | (simp only[Array.size_setIfInBounds,setN_size];omega)⟩ | 3,_=>exact⟨rfl,by show off+(2+3)<_;first | omega | (simp only[Array.size_setIfInBounds];omega) | (simp only[setN_size];omega) | (simp only[Array.size_setIfInBounds,setN_size];omega)⟩));rintro x w3 ⟨rfl,r3,k3,c3⟩)))
 all_goals (have d3:RB R b W w3:=d2.trans (c3.undrew.alloc))
 all_goals refine bodyPost_end (results_none rfl _ _ _) rfl ⟨rfl,[.int .i64 ((rNum s q).1:Int),.string (rTxt s (rNum s q).2).1,.int .i64 (nmN s (rTxt s (rNum s q).2).2 0:Int),.int .i64 (nmN s (rTxt s (rNum s q).2).2 1:Int),.int .i64 (nmN s (rTxt s (rNum s q).2).2 2:Int),.int .i64 (nmN s (rTxt s (rNum s q).2).2 3:Int)],fun _ _=>False,⟨r3,?_,d3⟩,?_⟩
 all_goals first | exact k3 | exact elem_plain [.int .i64 ((rNum s q).1:Int),.string (rTxt s (rNum s q).2).1,.int .i64 (nmN s (rTxt s (rNum s q).2).2 0:Int),.int .i64 (nmN s (rTxt s (rNum s q).2).2 1:Int),.int .i64 (nmN s (rTxt s (rNum s q).2).2 2:Int),.int .i64 (nmN s (rTxt s (rNum s q).2).2 3:Int)] (by simp[Value.oneCell'])
set_option maxRecDepth 100000 in
theorem yq_skip:RC 130 AJ rdSk [zT,zI,zI]:=by
 intro R D b off T most s q W cs h G7 Jd IK hB hz _;have EQ:off+2<cs.size:=(Array.getElem?_eq_some_iff.1 (hz 2 _ rfl)).1;have BW:b<W.heap.size:=(Array.getElem?_eq_some_iff.1 hB).1;have tn:=yp_tn ⟨D,0,none⟩;have tm:=yp_tm ⟨D,0,none⟩
 go_enter Tryz.func130,Tryz.ntmps130
 go_wp2
 go_region_with (go_at_call 442;(refine(yo_txt R D most b (off+0) T s q _ ?_ cs G7 ?_ (by first | omega | (simp only[Array.size_setIfInBounds];omega) | (simp only[setN_size];omega) | (simp only[Array.size_setIfInBounds,setN_size];omega))).mono ?_;exact h.drew;exact hB;rintro x w1 ⟨rfl,r1,k1,c1⟩))
 all_goals (have d1:RB R b W w1:=c1.undrew)
 all_goals (have h1:=h.step r1 d1 Jd IK (rTxt_ok (h.qok)))
 all_goals (
  go_wp2
  go_region_with (go_at_call 124;(refine(yp_numbers R D b w1.heap.size 2 most T 2 (fun i=>off+(1+i)) s (rTxt s q).2 _ (cs.setIfInBounds (off+0) (.string (rTxt s q).1)) ?_ G7 Jd IK ?_ ?_ ?_ ?_ ?_).mono ?_;exact(h1.alloc _).drew;have:=h1.toROk.lt;omega;have:=d1.size;omega;exact Nat.le_of_ble_eq_true rfl;exact(Below.heap_alloc _ _ _ (Array.getElem?_eq_some_iff.1 k1).1).trans k1;exact ptrs_at rfl (fun i hi=>(by match i,hi with | 0,_=>exact⟨rfl,by show off+(1+0)<_;first | omega | (simp only[Array.size_setIfInBounds];omega) | (simp only[setN_size];omega) | (simp only[Array.size_setIfInBounds,setN_size];omega)⟩ | 1,_=>exact⟨rfl,by show off+(1+1)<_;first | omega | (simp only[Array.size_setIfInBounds];omega) | (simp only[setN_size];omega) | (simp only[Array.size_setIfInBounds,setN_size];omega)⟩));rintro x w2 ⟨rfl,r2,k2,c2⟩)))
 all_goals (have d2:RB R b W w2:=d1.trans (c2.undrew.alloc))
 all_goals refine bodyPost_end (results_none rfl _ _ _) rfl ⟨rfl,[.string (rTxt s q).1,.int .i64 (nmN s (rTxt s q).2 0:Int),.int .i64 (nmN s (rTxt s q).2 1:Int)],fun _ _=>False,⟨r2,?_,d2⟩,?_⟩
 all_goals first | exact k2 | exact elem_plain [.string (rTxt s q).1,.int .i64 (nmN s (rTxt s q).2 0:Int),.int .i64 (nmN s (rTxt s q).2 1:Int)] (by simp[Value.oneCell'])
end Go.Proofs
