/- Lemmas 28. -/
import Derived.Test.YtkjhcikodmiceaaGreatDoorCA27
set_option maxHeartbeats 8000000
namespace Go.Proofs
open Go.Shelf Go.RowKit Go.Lib Go.Sort Go.Eng
abbrev At5:=ByteArray
abbrev Ai5:=@Lib.cell_of_heap
abbrev Ai6:=@Lib.frozen_of_heap
abbrev Ai7:=@Below.heap_setCell
abbrev Ai8:=@Below.heap_alloc
abbrev x6(s:At5)(q:N):Array Value:=#[.string s,.int .i64 (q.1:Int),.bool (Je q)]
abbrev fw(s:At5)(q:N):Value:=.agg (x6 s q)
theorem lR{s:At5}{q:N}{W:World}(i:Nat)(av:AV)(x:Value)(e1:[AV.agg (Tw s q)][i]?=some av)(e2:#[fw s q][i]?=some x):O (aj W) W DS av x:=by
 match i with
 |0=>
  cases e1;cases e2
  refine .agg _ _ _ rfl (fun i x e=>?_) (fun i av x a1 a2=>?_)
  .match i,e with
   |0,e |1,e |2,e=>cases e;rfl
  grind [O.v]
 |_+1=>simp_all
theorem tE{g:D}{W:World}{U:Nat->Prop}{v x:Value}{s:At5}{q:N}(h:O g W U (.tup [.v v,.agg (Tw s q)]) x):x=.tuple #[v,fw s q]:=by
 cases h with
 |tup _ _ us hs hr=>
  refine Aa Value.tuple (PL I fun i h1 h2=>?_)
  match i,h2 with
  |0,_=>exact(hr 0 _ _ rfl (BB h1)).v_eq
  |1,_=>exact(hr 1 _ _ rfl (BB h1)).agg_vals (vs:=[.string s,.int .i64 (q.1:Int),.bool (Je q)])
theorem zk(s:At5)(q:N)(hs:s.size<=10^6)(hq:GF s q)(W:World)(hM:HM W) :
  Calls Tryz.prog 71 #[fw s q] W fun x w'=>x=.returned (.tuple #[.int .i64 ((nR s q).1:Int),fw s (nR s q).2])/\Below W.heap.size W w':=
 (GY (vals:=#[fw s q]) (Am6 s q I hq) hM rfl lR).mono fun x W' ⟨⟨v,g',U,e1,e2⟩,hb⟩=>⟨by grind [tE],hb⟩
theorem Ama(s:At5)(q:N)(hs:s.size<=10^6)(hq:GF s q)(W:World)(hM:HM W) :
  Calls Tryz.prog 72 #[fw s q] W fun x w'=>x=.returned (.tuple #[.string (tR s q).1,fw s (tR s q).2])/\Below W.heap.size W w':=
 (GY (vals:=#[fw s q]) (Am7 s q I hq) hM rfl lR).mono fun x W' ⟨⟨v,g',U,e1,e2⟩,hb⟩=>⟨by grind [tE],hb⟩
theorem u9(p:At5)(hp:Er p):∃(nm:At5) (e:Int),∀W,HM W->Calls Tryz.prog 60 #[.string p] W fun x w'=>x=.returned (.tuple #[.string nm,.int .i64 (K8 p),.int .i64 e])/\Below W.heap.size W w':=by
 have h:=bQ p hp;have go:∀(nm:At5) (m e:Int),PC 60 [vs p] (.tup [vs nm,G m,G e])->∀W,HM W->Calls Tryz.prog 60 #[.string p] W fun x w'=>x=.returned (.tuple #[.string nm,.int .i64 m,.int .i64 e])/\Below W.heap.size W w':=fun nm m e hc W hM=>by
  refine(GY (vals:=#[.string p]) hc hM rfl (fun i av x e1 e2=>?_)).mono fun x W' ⟨⟨v,g',U,e1,e2⟩,hb⟩=>⟨by rw[e1,NF (vs:=[.string nm,.int .i64 m,.int .i64 e]) e2],hb⟩
  grind [O.v]
 unfold K8;cases e:AR p with
 |none=>rw[e]at h;exact⟨_,_,go _ _ _ h⟩
 |some m=>rw[e]at h;exact⟨_,_,go _ _ _ h⟩
theorem bC(s:At5)(q:N):(tR s q).1.size<=s.size:=by
 unfold tR jt;split
 .cases (J9 s q.1).2.2 with
  |false=>exact Ai _
  |true=>
   show(J9 s q.1).1.size<=_;unfold J9;split
   .grind [ByteArray.size_extract]
   .exact Ai _
 .exact Ai _
structure Ud(s:At5)(R T:Nat)(wr w:World)(q:N)(cs:Array Value):Prop where
 r:w.heap[R]?=some (.cells (x6 s q) 135 (0,0))
 b:w.heap[wr.heap.size]?=some (.cells cs T (0,0))
 k:RB R R wr w
 lt:R<wr.heap.size
 ok:GF s q
variable {s:At5}{R T:Nat}{wr w:World}{q:N}{cs:Array Value}
theorem Ud.start(hr:wr.heap[R]?=some (.cells (x6 s q) 135 (0,0)))(ok:GF s q):Ud s R T wr (wr.alloc (.cells cs T)) q cs:=
 have lt:=(Ag.1 hr).1
 ⟨(Ai8 _ _ _ lt).trans hr,Dk _ _,⟨rfl,rfl,rfl,by simp,fun _ k _ _=>Ai8 _ _ _ k⟩,lt,ok⟩
theorem Ud.call{w' : World}(h:Ud s R T wr w q cs)(hb:Below w.heap.size w w'):Ud s R T wr w' q cs:=
 have z:=h.k.size;have l:=h.lt
 ⟨(hb.block _ I).trans h.r,(hb.block _ (Ag.1 h.b).1).trans h.b,h.k.trans (lN hb R),l,h.ok⟩
theorem Ud.set{k:Nat}{v:Value}(h:Ud s R T wr w q cs):Ud s R T wr (w.setCell ⟨wr.heap.size,k,none⟩ v) q (cs.setIfInBounds k v):=
 have l:=h.lt
 ⟨(Ai7 _ _ _ _ (show R≠wr.heap.size by omega)).trans h.r,EG h.b,⟨h.k.os,h.k.tape,h.k.output,by simpa[World.setCell]using h.k.size,fun j j1 j2 j3=>(Ai7 _ _ _ _ (show j≠wr.heap.size by omega)).trans (h.k.block j j1 j2 j3)⟩,l,h.ok⟩
theorem Ud.rd{q' : N}(h:Ud s R T wr w q cs)(ok:GF s q'):Ud s R T wr (((w.setCell ⟨R,0,none⟩ (.string s)).setCell ⟨R,1,none⟩ (.int .i64 (q'.1:Int))).setCell ⟨R,2,none⟩ (.bool (Je q'))) q' cs:=
 have l:=h.lt;have e:∀j,j≠R->(((w.setCell ⟨R,0,none⟩ (.string s)).setCell ⟨R,1,none⟩ (.int .i64 (q'.1:Int))).setCell ⟨R,2,none⟩ (.bool (Je q'))).heap[j]?=w.heap[j]?:=fun j j1=>(Ai7 _ _ _ _ j1).trans ((Ai7 _ _ _ _ j1).trans (Ai7 _ _ _ _ j1))
 ⟨EG (EG (EG h.r)),(e _ I).trans h.b,⟨h.k.os,h.k.tape,h.k.output,by simpa[World.setCell]using h.k.size,fun j j1 j2 j3=>(e j j2).trans (h.k.block j j1 j2 j3)⟩,l,ok⟩
theorem Ud.hM(h:Ud s R T wr w q cs)(hM:HM wr)(hR:R≠0):HM w:=hM.imp fun m hm=>by
 rw[<-hm];simp only[World.cell?,h.k.block 0 (LD hm) I I]
structure UW(s:At5)(W w:World)(q:N)(cs:Array Value):Prop where
 r:w.heap[W.heap.size+1+1]?=some (.cells (x6 s q) 135 (0,0))
 l:w.heap[W.heap.size+1]?=some (.cells cs 33 (0,0))
 o:w.heap[W.heap.size]?=some (.cells GR 33 (0,0))
 b:Below W.heap.size W w
 ok:GF s q
variable {W:World}
theorem UW.call{w' : World}(h:UW s W w q cs)(hb:Below w.heap.size w w'):UW s W w' q cs:=
 have l:=(Ag.1 h.r).1
 ⟨(hb.block _ l).trans h.r,(hb.block _ I).trans h.l,(hb.block _ I).trans h.o,h.b.trans (hb.mono h.b.size),h.ok⟩
theorem UW.set{k:Nat}{v:Value}(h:UW s W w q cs):UW s W (w.setCell ⟨W.heap.size+1,k,none⟩ v) q (cs.setIfInBounds k v):=
 ⟨(Ai7 _ _ _ _ aa0).trans h.r,EG h.l,(Ai7 _ _ _ _ aa0).trans h.o,Below.setC h.b I,h.ok⟩
theorem UW.rd{q' : N}(h:UW s W w q cs)(ok:GF s q'):UW s W (((w.setCell ⟨W.heap.size+1+1,0,none⟩ (.string s)).setCell ⟨W.heap.size+1+1,1,none⟩ (.int .i64 (q'.1:Int))).setCell ⟨W.heap.size+1+1,2,none⟩ (.bool (Je q'))) q' cs:=
 have e:∀j,j≠W.heap.size+1+1->(((w.setCell ⟨W.heap.size+1+1,0,none⟩ (.string s)).setCell ⟨W.heap.size+1+1,1,none⟩ (.int .i64 (q'.1:Int))).setCell ⟨W.heap.size+1+1,2,none⟩ (.bool (Je q'))).heap[j]?=w.heap[j]?:=fun j j1=>(Ai7 _ _ _ _ j1).trans ((Ai7 _ _ _ _ j1).trans (Ai7 _ _ _ _ j1))
 ⟨EG (EG (EG h.r)),(e _ I).trans h.l,(e _ I).trans h.o,Below.setC (Below.setC (Below.setC h.b I) I) I,ok⟩
theorem UW.rd2{q' : N}(h:UW s W w q cs)(ok:GF s q'):UW s W ((w.setCell ⟨W.heap.size+1+1,1,none⟩ (.int .i64 (q'.1:Int))).setCell ⟨W.heap.size+1+1,2,none⟩ (.bool (Je q'))) q' cs:=
 have e:∀j,j≠W.heap.size+1+1->((w.setCell ⟨W.heap.size+1+1,1,none⟩ (.int .i64 (q'.1:Int))).setCell ⟨W.heap.size+1+1,2,none⟩ (.bool (Je q'))).heap[j]?=w.heap[j]?:=fun j j1=>(Ai7 _ _ _ _ j1).trans (Ai7 _ _ _ _ j1)
 ⟨EG (EG h.r),(e _ I).trans h.l,(e _ I).trans h.o,Below.setC (Below.setC h.b I) I,ok⟩
theorem UW.hM(h:UW s W w q cs)(hM:HM W):HM w:=hM.below h.b
theorem UW.push{α:Type}{B E sz T k:Nat}{enc:α->List AV}{wr w0 w:World}{q' : N}{ZU : Array Value}{v' : Value}{xs:List α}(h:UW s W wr q cs)(hd:Ud s (W.heap.size+1+1) T wr w0 q' ZU)
  (hp:MO B E sz (W.heap.size+1+1) (W.heap.size+1+1) enc wr w0 w v' xs) (hB:W.heap.size+1+1<B):UW s W (w.setCell ⟨W.heap.size+1,k,none⟩ v') q' (cs.setIfInBounds k v'):=
 ⟨(Ai7 _ _ _ _ aa0).trans ((hp.rr hB).trans hd.r),EG ((hp.old _ I I I).trans h.l),(Ai7 _ _ _ _ aa0).trans ((hp.old _ I I I).trans h.o),Below.setC (hp.below h.b I I I) I,hd.ok⟩
abbrev rfW(W:World)(s:At5):World:=((W.alloc (.cells GR 33)).alloc (.cells GR 33)).alloc (.cells #[.string s,.int .i64 0,.bool false] 135)
theorem Acs(s:At5)(W:World)(hM:HM W):HM (rfW W s)/\UW s W (rfW W s) (0,1) GR/\(rfW W s).heap.size=W.heap.size+1+1+1:=by
 have a1:(W.alloc (.cells GR 33)).heap.size=W.heap.size+1:=aa1
 have a2:((W.alloc (.cells GR 33)).alloc (.cells GR 33)).heap.size=W.heap.size+1+1:=aa1
 have k2:=Dk ((W.alloc (.cells GR 33)).alloc (.cells GR 33)) (.cells #[.string s,.int .i64 0,.bool false] 135);have k1:=Dk (W.alloc (.cells GR 33)) (.cells GR 33);rw[a2]at k2;rw[a1]at k1;exact⟨((hM.alloc _).alloc _).alloc _,⟨k2,(Ai8 _ _ _ I).trans k1,(Ai8 _ _ _ I).trans ((Ai8 _ _ _ I).trans (Dk W _)),(((Below.refl _ W).alloc (Af _) _).alloc I _).alloc I _,Ai _⟩,by simp⟩
theorem At.any{α:Type}(one:N->α×N)(s:At5)(q:N):At one (nR s q).1 0 (nR s q).2 [] (T4 one s q):=
 if h:q.2=0 then At.start one s q h else by grind [xB,At.none]
theorem ge{q q' : N}{p:At5}(hs:s.size<=10^6)(hq:GF s q)(e:tR s q=(p,q')):GF s q'/\Er p/\∀W,HM W->Calls Tryz.prog 72 #[fw s q] W fun x w'=>x=.returned (.tuple #[.string p,fw s q'])/\Below W.heap.size W w':=by
 grind [uo,bC,Ama]
theorem Rs{q q' : N}{n:Nat}(hs:s.size<=10^6)(hq:GF s q)(e:nR s q=(n,q')):GF s q'/\∀W,HM W->Calls Tryz.prog 71 #[fw s q] W fun x w'=>x=.returned (.tuple #[.int .i64 (n:Int),fw s q'])/\Below W.heap.size W w':=by
 grind [OG,zk]
theorem Ud.fs(h:Ud s R T wr w q cs)(k:Nat):w.frozen? ⟨wr.heap.size,k,none⟩=false/\w.cell? ⟨wr.heap.size,k,none⟩=cs[k]?/\w.frozen? ⟨R,0,none⟩=false/\w.cell? ⟨R,0,none⟩=some (.string s)/\w.frozen? ⟨R,1,none⟩=false/\w.cell? ⟨R,1,none⟩=some (.int .i64 (q.1:Int))/\w.frozen? ⟨R,2,none⟩=false/\w.cell? ⟨R,2,none⟩=some (.bool (Je q)):=
 ⟨Ai6 h.b k,Ai5 h.b k,Ai6 h.r 0,Ai5 h.r 0,Ai6 h.r 1,Ai5 h.r 1,Ai6 h.r 2,Ai5 h.r 2⟩
theorem UW.fr(h:UW s W w q cs):w.frozen? ⟨W.heap.size+1+1,0,none⟩=false/\w.cell? ⟨W.heap.size+1+1,0,none⟩=some (.string s)/\w.frozen? ⟨W.heap.size+1+1,1,none⟩=false/\w.cell? ⟨W.heap.size+1+1,1,none⟩=some (.int .i64 (q.1:Int))/\w.frozen? ⟨W.heap.size+1+1,2,none⟩=false/\w.cell? ⟨W.heap.size+1+1,2,none⟩=some (.bool (Je q)):=
 ⟨Ai6 h.r 0,Ai5 h.r 0,Ai6 h.r 1,Ai5 h.r 1,Ai6 h.r 2,Ai5 h.r 2⟩
theorem aZ{g:Nat}{cs:Array Value}{T:Nat}(h:w.heap[g]?=some (.cells cs T (0,0))):w.cell? ⟨g,0,none⟩=cs[0]?/\w.cell? ⟨g,1,none⟩=cs[1]?/\w.cell? ⟨g,2,none⟩=cs[2]?/\w.cell? ⟨g,3,none⟩=cs[3]?/\w.frozen? ⟨g,0,none⟩=false/\w.frozen? ⟨g,1,none⟩=false/\w.frozen? ⟨g,2,none⟩=false/\w.frozen? ⟨g,3,none⟩=false:=
 ⟨Ai5 h 0,Ai5 h 1,Ai5 h 2,Ai5 h 3,Ai6 h 0,Ai6 h 1,Ai6 h 2,Ai6 h 3⟩
structure Kp(a:Nat)(w w' : World):Prop where
 z:w.heap.size<=w'.heap.size
 k:∀j,a<j->j<w.heap.size->w'.heap[j]?=w.heap[j]?
variable {a b k B E sz c:Nat}{w' fV : World}{v:Value}
theorem Kp.refl(w:World):Kp a w w:=⟨Af _,fun _ _ _=>rfl⟩
theorem Kp.set(h:Kp a w w')(hb:b<=a):Kp a w (w'.setCell ⟨b,k,none⟩ v):=⟨by simpa[World.setCell]using h.z,fun j j1 j2=>(hsC I).trans (h.k j j1 j2)⟩
theorem Kp.call(h:Kp a w w')(hb:Below w'.heap.size w' fV):Kp a w fV:=⟨Az h.z hb.size,fun j j1 j2=>(hb.block j (AF j2 h.z)).trans (h.k j j1 j2)⟩
theorem Kp.push{α:Type}{R:Nat}{enc:α->List AV}{w0:World}{xs:List α}(h:Kp a w wr)(hp:MO B E sz R b enc wr w0 w' v xs)(hB:w.heap.size<=B)(hR:R<=a)(hb:b<=a):Kp a w w':=⟨Az h.z hp.size,fun j j1 j2=>(hp.old j I I I).trans (h.k j j1 j2)⟩
theorem Kp.row{α:Type}{enc:α->List AV}{xs:List α}(h:Kp a w w')(r:ZG B c E sz enc w v xs)(hB:a<B):ZG B c E sz enc w' v xs:=r.keep h.z fun j j1 _ j3=>h.k j I j3
theorem F4.nil{α:Type}{enc:α->List AV}:F4 B E sz enc (fun _ _=>False) w (.slice none 0 0) [] []:=⟨⟨(Xm sz).symm,.inl ⟨rfl,rfl⟩⟩,rfl,fun _ _ e=>e.elim,fun i x u e _=>by simp_all⟩
theorem Ado{m:Lk}{q:N}(hs:s.size<=10^6)(h:QY s (0,0)=(m,q))(h1:q.2=0)(h2:q.1=s.size):PC 26 [.agg (Bu m)] (G (if Cz m=true then 0 else 1)):=by
 obtain⟨a1,a2,a3⟩:=(Vf (s:=s)).snd 0 s.size aa2;rw[h]at a1 a2;have hd:dr s s.size=[]:=FE (Af _);rw[hd,B9]at a2;have a2:s.data.toList=I0 m:=a2;have e:bB (I0 m)=s:=by rw[<-a2]
 have hl:(I0 m).length=s.size:=aa0
 have n:=ld m;have r1:∀e∈m.roots,e.path.size<=s.size:=by
  rw[show m.roots=(T4 (QZ s) s (0,0)).1 from Aa (·.1.roots) h.symm];exact N5 (P:=fun e:Rq=>e.path.size<=s.size) (fun q=>bC s q) _ _ _ (fun _ k=>nomatch k)
 have r2:∀e∈m.ents,e.path.size<=s.size:=by
  rw[show m.ents=(T4 (fB s) s (T4 (QZ s) s (0,0)).2).1 from Aa (·.1.ents) h.symm];exact N5 (P:=fun e:Lo=>e.path.size<=s.size) (fun q=>bC s q) _ _ _ (fun _ k=>nomatch k)
 exact uR m (fun q hq=>⟨by grind,by grind⟩) (fun e he=>by grind) I I I
end Go.Proofs
namespace Go.Proofs
open Go.Proofs.Tryz
open Go.Shelf Go.RowKit Go.Lib Go.Sort Go.Eng
set_option maxRecDepth 100000 in
theorem pP(s:At5)(hs:s.size<=10^6)(W:World)(hM:HM W):Calls prog 30 #[.string s] W (pW W (T3 s)):=by
 obtain⟨i1,hi,hi0,rA,hi2⟩:=info_parts (P:=prog) (e:=53) (z:=.agg #[zT,zI,zI,zI,zT,zT]) (size:=6) (bytes:=72) aa5;obtain⟨j1,hj,hj0,hj1,wX⟩:=info_parts (P:=prog) (e:=96) (z:=.agg #[zI,zT,zI,zI,zI,zI]) (size:=6) (bytes:=56) aa5;obtain⟨k1,hk,Xd,hk1,QB⟩:=info_parts (P:=prog) (e:=92) (z:=.agg #[zT,zI,zI]) (size:=3) (bytes:=32) aa5;obtain⟨m0,d0,z0⟩:=Acs s W hM;obtain⟨Q0,hQ0⟩:∃Q0,T4 (QZ s) s (0,0)=Q0:=⟨_,rfl⟩;have zA:=Adp s hs (rfW W s) m0;have okq:GF s Q0.2:=by rw[<-hQ0];exact Aa7 Acr (Ai _)
 rw[hQ0]at zA;have Ij:=At.any (fB s) s Q0.2
 go_enter func30,ntmps30
 go_wp2_with (first
  |(go_at_call 70;go_loud (refine zA.mono ?_;rintro x w1 ⟨v0,S0,us0,rfl,b1,r0⟩;obtain⟨a0,n0,rfl⟩:=Lr r0.lrb;have d1:=d0.call b1;have f0:=Ai6 d1.l 0;have g0:=Ai5 d1.l 0;obtain⟨f1,f2,f3,f4,f5,f6⟩:=d1.fr))
  |(go_at_call_of 71 (Value.agg #[.string s,.int .i64 (Q0.2.1:Int),.bool (Je Q0.2)]);go_loud (have d2:=(d1.set (k:=0) (v:=.slice a0 Q0.1.length n0)).rd2 okq;refine(zk s Q0.2 hs okq _ (d2.hM hM)).mono ?_;rintro x w2 ⟨rfl,b2⟩;have d3:=d2.call b2;obtain⟨f1,f2,f3,f4,f5,f6⟩:=d3.fr)))
 have dd:=d3.rd (OG okq);have z1:=d1.b.size;have nM:=(Ag.1 d3.r).1;have R0:=(((((Kp.refl w1).set I).set I).set I).call b2).row (a:=W.heap.size+1+1) r0.lrb I;obtain⟨Q1,hQ1⟩:∃Q1,T4 (fB s) s Q0.2=Q1:=⟨_,rfl⟩;rw[hQ1]at Ij;generalize (nR s Q0.2).1=n at Ij⊢;generalize (nR s Q0.2).2=q0 at Ij dd⊢
 go_loopw [7] (fun i wr=>∃(k:Nat) (q:N) (xs:List Lo) (va:Option Addr) (vn vc:Nat) (S:Nat->Nat->Prop) (us:List (List Value)),i=.int .i64 k/\At (fB s) n k q xs Q1/\UW s W wr q #[.slice a0 Q0.1.length n0,.slice va vn vc,.slice none 0 0,.slice none 0 0]/\F4 w2.heap.size 53 6 Cr S wr (.slice va vn vc) xs us/\Kp (W.heap.size+1+1) w2 wr) (fun i _=>n-(intOf i).toNat)
 case atStart=>exact⟨0,q0,[],none,0,0,fun _ _=>False,[],rfl,Ij,dd,F4.nil,(((Kp.refl _).set (Af _)).set (Af _)).set (Af _)⟩
 case round=>
  obtain⟨k,q,xs1,va1,vn1,vc1,S,us,rfl,Ij,Is,Hh,Hq⟩:=hrel;obtain⟨_,xR,_,yR,_,zR⟩:=Is.fr;have hB:=Hq.z
  by_cases hq:q.2=0/\k<n
  .have EZ:Je q=true:=Aq hq.1;rw[EZ]at zR;have CN:=Ij.1;have hkq:=Ij.le hq.1;have hqs:q.1<=s.size:=Is.ok;have TJ:=Is.hM hM;obtain⟨p1,q1,e1⟩:∃p q',tR s q=(p,q'):=⟨_,_,rfl⟩;obtain⟨o1,t1,c1⟩:=ge hs Is.ok e1;obtain⟨p2,q2,e2⟩:∃p q',nR s q1=(p,q'):=⟨_,_,rfl⟩;obtain⟨o2,c2⟩:=Rs hs o1 e2;obtain⟨p3,q3,e3⟩:∃p q',nR s q2=(p,q'):=⟨_,_,rfl⟩;obtain⟨o3,c3⟩:=Rs hs o2 e3;obtain⟨p4,q4,e4⟩:∃p q',tR s q3=(p,q'):=⟨_,_,rfl⟩;obtain⟨o4,t4,c4⟩:=ge hs o3 e4;obtain⟨p5,q5,e5⟩:∃p q',tR s q4=(p,q'):=⟨_,_,rfl⟩;obtain⟨o5,t5,c5⟩:=ge hs o4 e5;have h:Ud s (W.heap.size+1+1) 53 wr (wr.alloc (.cells #[zT,zI,zI,zI,zT,zT] 53)) q #[zT,zI,zI,zI,zT,zT]:=Ud.start Is.r Is.ok;have bU:W.heap.size+1+1≠0:=I
   obtain⟨_,_,_,y0,_,y1,_,y2⟩:=h.fs 0;rw[EZ]at y2;have c1:=c1 _ (h.hM TJ bU);simp only[fw,x6,EZ]at c1;obtain⟨nm,el,c60⟩:=u9 p1 t1;have IZ:∀y∈[Value.string p1,.int .i64 (K8 p1),.int .i64 (p2:Int),.int .i64 (p3:Int),.string p4,.string p5],y.oneCell'=true:=by simp[Value.oneCell']
   go_wp2_with (first
    |(go_at_call_of 72 (Value.agg #[.string s,.int .i64 (q.1:Int),.bool true]);go_loud (refine c1.mono ?_;rintro x w ⟨rfl,b⟩;have h:=h.call b;obtain⟨f1,f2,f3,f4,f5,f6,f7,f8⟩:=h.fs 0))
    |(go_at_call 60;go_loud (have h:=(h.set (k:=0) (v:=.string p1)).rd o1;refine(c60 _ (h.hM TJ bU)).mono ?_;rintro x w ⟨rfl,b⟩;have h:=h.call b;obtain⟨f1,f2,_,f4,_,f6,_,f8⟩:=h.fs 1))
    |(go_at_call_of 71 (Value.agg #[.string s,.int .i64 (q1.1:Int),.bool (Je q1)]);go_loud (have h:=h.set (k:=1) (v:=.int .i64 (K8 p1));refine(c2 _ (h.hM TJ bU)).mono ?_;rintro x w ⟨rfl,b⟩;have h:=h.call b;obtain⟨f1,f2,f3,f4,f5,f6,f7,f8⟩:=h.fs 2))
    |(go_at_call_of 71 (Value.agg #[.string s,.int .i64 (q2.1:Int),.bool (Je q2)]);go_loud (have h:=(h.set (k:=2) (v:=.int .i64 (p2:Int))).rd o2;refine(c3 _ (h.hM TJ bU)).mono ?_;rintro x w ⟨rfl,b⟩;have h:=h.call b;obtain⟨f1,f2,f3,f4,f5,f6,f7,f8⟩:=h.fs 3))
    |(go_at_call_of 72 (Value.agg #[.string s,.int .i64 (q3.1:Int),.bool (Je q3)]);go_loud (have h:=(h.set (k:=3) (v:=.int .i64 (p3:Int))).rd o3;refine(c4 _ (h.hM TJ bU)).mono ?_;rintro x w ⟨rfl,b⟩;have h:=h.call b;obtain⟨f1,f2,f3,f4,f5,f6,f7,f8⟩:=h.fs 4))
    |(go_at_call_of 72 (Value.agg #[.string s,.int .i64 (q4.1:Int),.bool (Je q4)]);go_loud (have h:=(h.set (k:=4) (v:=.string p4)).rd o4;refine(c5 _ (h.hM TJ bU)).mono ?_;rintro x w ⟨rfl,b⟩;have h:Ud s (W.heap.size+1+1) 53 wr w q4 #[Value.string p1,.int .i64 (K8 p1),.int .i64 (p2:Int),.int .i64 (p3:Int),.string p4,zT]:=h.call b;obtain⟨f1,f2,f3,f4,f5,f6,f7,f8⟩:=h.fs 5;have x0:=Ai5 h.b 0;have x1:=Ai5 h.b 1;have x2:=Ai5 h.b 2;have x3:=Ai5 h.b 3;have x4:=Ai5 h.b 4;have xL:=Ai5 ((h.k.block _ (by have:=h.lt;omega) I I).trans Is.l) 1))
    |(at_builtin;go_loud (have h:=((h.set (k:=5) (v:=.string p5)).rd o5).call ((Below.refl _ _).alloc (Af _) (.cells #[Value.string p1,.int .i64 (K8 p1),.int .i64 (p2:Int),.int .i64 (p3:Int),.string p4,.string p5] 53));refine Oc rfl _ _ 29 rfl underlying29 hi hi0 rA hi2 rfl aa3 Hh I hB (.inl nM) h.k (show Ka (fun _ _=>False) _ _ (Cr ⟨p1,⟨K8 p1,p2,p3⟩,p4,p5⟩) [Value.string p1,.int .i64 (K8 p1),.int .i64 (p2:Int),.int .i64 (p3:Int),.string p4,.string p5]from Gv [Value.string p1,.int .i64 (K8 p1),.int .i64 (p2:Int),.int .i64 (p3:Int),.string p4,.string p5] IZ) rfl IZ rfl rfl (Ip _ [Value.string p1,.int .i64 (K8 p1),.int .i64 (p2:Int),.int .i64 (p3:Int),.string p4,.string p5] 53 (by simp[World.setCell])) ?_;intro ya yn yc w9 Yk;have kx:=(Yk.old _ I I I).trans Is.l;have fx:=Ai6 kx 1;have xx:=Ai5 kx 1)))
   have nJ:=Yk.store (b:=W.heap.size+1) (k:=1) I I;obtain⟨S3,vw,WE⟩:=nJ.row;have Uw:=Ij.next (cy.lt aM) hq.1 hq.2
   rw[show fB s q=(⟨p1,⟨K8 p1,p2,p3⟩,p4,p5⟩,q5) by unfold fB;simp only[e1,e2,e3,e4,e5]]at Uw;refine⟨⟨k+1,q5,_,ya,yn,yc,S3,vw,by go_num,Uw,Is.push h Yk nM,WE,Hq.push nJ (Af _) (Af _) (Nat.le_succ _)⟩,?_⟩;show _-_<_-_;simp only[intOf];omega
  .obtain rfl:=Ij.fin hq;obtain⟨x1,hx⟩:∃x:World,x=wr:=⟨_,rfl⟩;subst hx;have R0:=Hq.row R0 I;have R1:=Hh.lrb;have hz1:=Hq.z;have Ij:=At.any (jf s) s q;have c5:=zk s q hs Is.ok x1 (Is.hM hM);rcases BR k n with CL | dq
   case' inl=>
    have EZ:Je q=false:=Al fun h=>hq ⟨h,CL⟩;rw[EZ]at zR;simp only[fw,x6,EZ]at c5
   all_goals
    go_wp2_with (go_at_call 71;go_loud (refine c5.mono ?_;rintro x w4 ⟨rfl,b⟩;have d:=Is.call b;obtain⟨f1,f2,f3,f4,f5,f6⟩:=d.fr))
    have dd:=d.rd (OG Is.ok);have kp:Kp (W.heap.size+1+1) x1 w4:=(Kp.refl _).call b;have R0:=kp.row (a:=W.heap.size+1+1) R0 I;have R1:=kp.row (a:=W.heap.size+1+1) R1 I;have nM:=(Ag.1 d.r).1;have hzz:=b.size;obtain⟨Q2,hQ2⟩:∃Q,T4 (jf s) s q=Q:=⟨_,rfl⟩;rw[hQ2]at Ij
    clear hq
    generalize (nR s q).1=n at Ij⊢;generalize (nR s q).2=q0 at Ij dd⊢
    go_loopw [9] (fun i wr=>∃(k:Nat) (q:N) (xs:List Nf) (va:Option Addr) (vn vc:Nat) (S:Nat->Nat->Prop) (us:List (List Value)),i=.int .i64 k/\At (jf s) n k q xs Q2/\UW s W wr q #[.slice a0 Q0.1.length n0,.slice va1 vn1 vc1,.slice va vn vc,.slice none 0 0]/\F4 w4.heap.size 96 6 A8 S wr (.slice va vn vc) xs us/\Kp (W.heap.size+1+1) w4 wr) (fun i _=>n-(intOf i).toNat)
    case atStart=>exact⟨0,q0,[],none,0,0,fun _ _=>False,[],rfl,Ij,dd,F4.nil,(((Kp.refl _).set (Af _)).set (Af _)).set (Af _)⟩
    case round=>
     obtain⟨k,q,xs2,va2,vn2,vc2,S,us,rfl,Ij,Is,Hh,Hq⟩:=hrel;obtain⟨_,xR,_,yR,_,zR⟩:=Is.fr;have hB:=Hq.z
     by_cases hq:q.2=0/\k<n
     .have EZ:Je q=true:=Aq hq.1;rw[EZ]at zR;have CN:=Ij.1;have hkq:=Ij.le hq.1;have hqs:q.1<=s.size:=Is.ok;have TJ:=Is.hM hM;obtain⟨p1,q1,e1⟩:∃p q',nR s q=(p,q'):=⟨_,_,rfl⟩;obtain⟨o1,c1⟩:=Rs hs Is.ok e1;obtain⟨p2,q2,e2⟩:∃p q',tR s q1=(p,q'):=⟨_,_,rfl⟩;obtain⟨o2,t2,c2⟩:=ge hs o1 e2;obtain⟨p3,q3,e3⟩:∃p q',nR s q2=(p,q'):=⟨_,_,rfl⟩;obtain⟨o3,c3⟩:=Rs hs o2 e3;obtain⟨p4,q4,e4⟩:∃p q',nR s q3=(p,q'):=⟨_,_,rfl⟩;obtain⟨o4,c4⟩:=Rs hs o3 e4;obtain⟨p5,q5,e5⟩:∃p q',nR s q4=(p,q'):=⟨_,_,rfl⟩;obtain⟨o5,c5⟩:=Rs hs o4 e5;obtain⟨p6,q6,e6⟩:∃p q',nR s q5=(p,q'):=⟨_,_,rfl⟩;obtain⟨o6,c6⟩:=Rs hs o5 e6;have h:Ud s (W.heap.size+1+1) 96 wr (wr.alloc (.cells #[zI,zT,zI,zI,zI,zI] 96)) q #[zI,zT,zI,zI,zI,zI]:=Ud.start Is.r Is.ok;have bU:W.heap.size+1+1≠0:=I
      obtain⟨_,_,_,y0,_,y1,_,y2⟩:=h.fs 0;rw[EZ]at y2;have c1:=c1 _ (h.hM TJ bU);simp only[fw,x6,EZ]at c1;have IZ:∀y∈[Value.int .i64 (p1:Int),.string p2,.int .i64 (p3:Int),.int .i64 (p4:Int),.int .i64 (p5:Int),.int .i64 (p6:Int)],y.oneCell'=true:=by simp[Value.oneCell']
      go_wp2_with (first
       |(go_at_call_of 71 (Value.agg #[.string s,.int .i64 (q.1:Int),.bool true]);go_loud (refine c1.mono ?_;rintro x w ⟨rfl,b⟩;have h:=h.call b;obtain⟨f1,f2,f3,f4,f5,f6,f7,f8⟩:=h.fs 0))
       |(go_at_call_of 72 (Value.agg #[.string s,.int .i64 (q1.1:Int),.bool (Je q1)]);go_loud (have h:=(h.set (k:=0) (v:=.int .i64 (p1:Int))).rd o1;refine(c2 _ (h.hM TJ bU)).mono ?_;rintro x w ⟨rfl,b⟩;have h:=h.call b;obtain⟨f1,f2,f3,f4,f5,f6,f7,f8⟩:=h.fs 1))
       |(go_at_call_of 71 (Value.agg #[.string s,.int .i64 (q2.1:Int),.bool (Je q2)]);go_loud (have h:=(h.set (k:=1) (v:=.string p2)).rd o2;refine(c3 _ (h.hM TJ bU)).mono ?_;rintro x w ⟨rfl,b⟩;have h:=h.call b;obtain⟨f1,f2,f3,f4,f5,f6,f7,f8⟩:=h.fs 2))
       |(go_at_call_of 71 (Value.agg #[.string s,.int .i64 (q3.1:Int),.bool (Je q3)]);go_loud (have h:=(h.set (k:=2) (v:=.int .i64 (p3:Int))).rd o3;refine(c4 _ (h.hM TJ bU)).mono ?_;rintro x w ⟨rfl,b⟩;have h:=h.call b;obtain⟨f1,f2,f3,f4,f5,f6,f7,f8⟩:=h.fs 3))
       |(go_at_call_of 71 (Value.agg #[.string s,.int .i64 (q4.1:Int),.bool (Je q4)]);go_loud (have h:=(h.set (k:=3) (v:=.int .i64 (p4:Int))).rd o4;refine(c5 _ (h.hM TJ bU)).mono ?_;rintro x w ⟨rfl,b⟩;have h:=h.call b;obtain⟨f1,f2,f3,f4,f5,f6,f7,f8⟩:=h.fs 4))
       |(go_at_call_of 71 (Value.agg #[.string s,.int .i64 (q5.1:Int),.bool (Je q5)]);go_loud (have h:=(h.set (k:=4) (v:=.int .i64 (p5:Int))).rd o5;refine(c6 _ (h.hM TJ bU)).mono ?_;rintro x w ⟨rfl,b⟩;have h:Ud s (W.heap.size+1+1) 96 wr w q5 #[Value.int .i64 (p1:Int),.string p2,.int .i64 (p3:Int),.int .i64 (p4:Int),.int .i64 (p5:Int),zI]:=h.call b;obtain⟨f1,f2,f3,f4,f5,f6,f7,f8⟩:=h.fs 5;have x0:=Ai5 h.b 0;have x1:=Ai5 h.b 1;have x2:=Ai5 h.b 2;have x3:=Ai5 h.b 3;have x4:=Ai5 h.b 4;have xL:=Ai5 ((h.k.block _ (by have:=h.lt;omega) I I).trans Is.l) 2))
       |(at_builtin;go_loud (have h:=((h.set (k:=5) (v:=.int .i64 (p6:Int))).rd o6).call ((Below.refl _ _).alloc (Af _) (.cells #[Value.int .i64 (p1:Int),.string p2,.int .i64 (p3:Int),.int .i64 (p4:Int),.int .i64 (p5:Int),.int .i64 (p6:Int)] 96));refine Oc rfl _ _ 30 rfl underlying30 hj hj0 hj1 wX rfl aa3 Hh I hB (.inl nM) h.k (show Ka (fun _ _=>False) _ _ (A8 ⟨p1,p2,p3,p4,p5,p6⟩) [Value.int .i64 (p1:Int),.string p2,.int .i64 (p3:Int),.int .i64 (p4:Int),.int .i64 (p5:Int),.int .i64 (p6:Int)]from Gv [Value.int .i64 (p1:Int),.string p2,.int .i64 (p3:Int),.int .i64 (p4:Int),.int .i64 (p5:Int),.int .i64 (p6:Int)] IZ) rfl IZ rfl rfl (Ip _ [Value.int .i64 (p1:Int),.string p2,.int .i64 (p3:Int),.int .i64 (p4:Int),.int .i64 (p5:Int),.int .i64 (p6:Int)] 96 (by simp[World.setCell])) ?_;intro ya yn yc w9 Yk;have kx:=(Yk.old _ I I I).trans Is.l;have fx:=Ai6 kx 2;have xx:=Ai5 kx 2)))
      have nJ:=Yk.store (b:=W.heap.size+1) (k:=2) I I;obtain⟨S3,vw,WE⟩:=nJ.row;have Uw:=Ij.next (cz.lt aS) hq.1 hq.2
      rw[show jf s q=(⟨p1,p2,p3,p4,p5,p6⟩,q6) by unfold jf;simp only[e1,e2,e3,e4,e5,e6]]at Uw;refine⟨⟨k+1,q6,_,ya,yn,yc,S3,vw,by go_num,Uw,Is.push h Yk nM,WE,Hq.push nJ (Af _) (Af _) (Nat.le_succ _)⟩,?_⟩;show _-_<_-_;simp only[intOf];omega
     .obtain rfl:=Ij.fin hq;obtain⟨x2,hx⟩:∃x:World,x=wr:=⟨_,rfl⟩;subst hx;have R0:=Hq.row R0 I;have R1:=Hq.row R1 I;have R2:=Hh.lrb;have nM:=Hq.z;have Ij:=At.any (jg s) s q;have c5:=zk s q hs Is.ok x2 (Is.hM hM);rcases BR k n with CL | dq
      case' inl=>
       have EZ:Je q=false:=Al fun h=>hq ⟨h,CL⟩;rw[EZ]at zR;simp only[fw,x6,EZ]at c5
      all_goals
       go_wp2_with (go_at_call 71;go_loud (refine c5.mono ?_;rintro x w6 ⟨rfl,b⟩;have d:=Is.call b;obtain⟨f1,f2,f3,f4,f5,f6⟩:=d.fr))
       have dd:=d.rd (OG Is.ok);have kp:Kp (W.heap.size+1+1) x2 w6:=(Kp.refl _).call b;have R0:=kp.row (a:=W.heap.size+1+1) R0 I;have R1:=kp.row (a:=W.heap.size+1+1) R1 I;have R2:=kp.row (a:=W.heap.size+1+1) R2 I;have nM:=(Ag.1 d.r).1;have hzz:=b.size;obtain⟨Q3,hQ3⟩:∃Q,T4 (jg s) s q=Q:=⟨_,rfl⟩;rw[hQ3]at Ij
       clear hq
       generalize (nR s q).1=n at Ij⊢;generalize (nR s q).2=q0 at Ij dd⊢
       go_loopw [11] (fun i wr=>∃(k:Nat) (q:N) (xs:List Sk) (va:Option Addr) (vn vc:Nat) (S:Nat->Nat->Prop) (us:List (List Value)),i=.int .i64 k/\At (jg s) n k q xs Q3/\UW s W wr q #[.slice a0 Q0.1.length n0,.slice va1 vn1 vc1,.slice va2 vn2 vc2,.slice va vn vc]/\F4 w6.heap.size 92 3 AT S wr (.slice va vn vc) xs us/\Kp (W.heap.size+1+1) w6 wr) (fun i _=>n-(intOf i).toNat)
       case atStart=>exact⟨0,q0,[],none,0,0,fun _ _=>False,[],rfl,Ij,dd,F4.nil,(((Kp.refl _).set (Af _)).set (Af _)).set (Af _)⟩
       case round=>
        obtain⟨k,q,xs3,va3,vn3,vc3,S,us,rfl,Ij,Is,Hh,Hq⟩:=hrel;obtain⟨_,xR,_,yR,_,zR⟩:=Is.fr;have hB:=Hq.z
        by_cases hq:q.2=0/\k<n
        .have EZ:Je q=true:=Aq hq.1;rw[EZ]at zR;have CN:=Ij.1;have hkq:=Ij.le hq.1;have hqs:q.1<=s.size:=Is.ok;have TJ:=Is.hM hM;obtain⟨p1,q1,e1⟩:∃p q',tR s q=(p,q'):=⟨_,_,rfl⟩;obtain⟨o1,t1,c1⟩:=ge hs Is.ok e1;obtain⟨p2,q2,e2⟩:∃p q',nR s q1=(p,q'):=⟨_,_,rfl⟩;obtain⟨o2,c2⟩:=Rs hs o1 e2;obtain⟨p3,q3,e3⟩:∃p q',nR s q2=(p,q'):=⟨_,_,rfl⟩;obtain⟨o3,c3⟩:=Rs hs o2 e3;have h:Ud s (W.heap.size+1+1) 92 wr (wr.alloc (.cells #[zT,zI,zI] 92)) q #[zT,zI,zI]:=Ud.start Is.r Is.ok;have bU:W.heap.size+1+1≠0:=I
         obtain⟨_,_,_,y0,_,y1,_,y2⟩:=h.fs 0;rw[EZ]at y2;have c1:=c1 _ (h.hM TJ bU);simp only[fw,x6,EZ]at c1;have IZ:∀y∈[Value.string p1,.int .i64 (p2:Int),.int .i64 (p3:Int)],y.oneCell'=true:=by simp[Value.oneCell']
         go_wp2_with (first
          |(go_at_call_of 72 (Value.agg #[.string s,.int .i64 (q.1:Int),.bool true]);go_loud (refine c1.mono ?_;rintro x w ⟨rfl,b⟩;have h:=h.call b;obtain⟨f1,f2,f3,f4,f5,f6,f7,f8⟩:=h.fs 0))
          |(go_at_call_of 71 (Value.agg #[.string s,.int .i64 (q1.1:Int),.bool (Je q1)]);go_loud (have h:=(h.set (k:=0) (v:=.string p1)).rd o1;refine(c2 _ (h.hM TJ bU)).mono ?_;rintro x w ⟨rfl,b⟩;have h:=h.call b;obtain⟨f1,f2,f3,f4,f5,f6,f7,f8⟩:=h.fs 1))
          |(go_at_call_of 71 (Value.agg #[.string s,.int .i64 (q2.1:Int),.bool (Je q2)]);go_loud (have h:=(h.set (k:=1) (v:=.int .i64 (p2:Int))).rd o2;refine(c3 _ (h.hM TJ bU)).mono ?_;rintro x w ⟨rfl,b⟩;have h:Ud s (W.heap.size+1+1) 92 wr w q2 #[Value.string p1,.int .i64 (p2:Int),zI]:=h.call b;obtain⟨f1,f2,f3,f4,f5,f6,f7,f8⟩:=h.fs 2;have x0:=Ai5 h.b 0;have x1:=Ai5 h.b 1;have xL:=Ai5 ((h.k.block _ (by have:=h.lt;omega) I I).trans Is.l) 3))
          |(at_builtin;go_loud (have h:=((h.set (k:=2) (v:=.int .i64 (p3:Int))).rd o3).call ((Below.refl _ _).alloc (Af _) (.cells #[Value.string p1,.int .i64 (p2:Int),.int .i64 (p3:Int)] 92));refine Oc rfl _ _ 31 rfl underlying31 hk Xd hk1 QB rfl aa3 Hh I hB (.inl nM) h.k (show Ka (fun _ _=>False) _ _ (AT ⟨p1,p2,p3⟩) [Value.string p1,.int .i64 (p2:Int),.int .i64 (p3:Int)]from Gv [Value.string p1,.int .i64 (p2:Int),.int .i64 (p3:Int)] IZ) rfl IZ rfl rfl (Ip _ [Value.string p1,.int .i64 (p2:Int),.int .i64 (p3:Int)] 92 (by simp[World.setCell])) ?_;intro ya yn yc w9 Yk;have kx:=(Yk.old _ I I I).trans Is.l;have fx:=Ai6 kx 3;have xx:=Ai5 kx 3)))
         have nJ:=Yk.store (b:=W.heap.size+1) (k:=3) I I;obtain⟨S3,vw,WE⟩:=nJ.row;have Uw:=Ij.next (cB.lt bv) hq.1 hq.2
         rw[show jg s q=(⟨p1,p2,p3⟩,q3) by unfold jg;simp only[e1,e2,e3]]at Uw;refine⟨⟨k+1,q3,_,ya,yn,yc,S3,vw,by go_num,Uw,Is.push h Yk nM,WE,Hq.push nJ (Af _) (Af _) (Nat.le_succ _)⟩,?_⟩;show _-_<_-_;simp only[intOf];omega
        .obtain rfl:=Ij.fin hq;obtain⟨x3,hx⟩:∃x:World,x=wr:=⟨_,rfl⟩;subst hx;have R0:=Hq.row R0 I;have R1:=Hq.row R1 I;have R2:=Hq.row R2 I;have R3:=Hh.lrb;have hz3:=Hq.z;have hbs:=Is.b.size;obtain⟨S',Pe,DN⟩:=sc (W:=rfW W s) (l:=⟨Q0.1,xs1,xs2,xs3⟩) R0 R1 R2 R3 I I I I;have zO:QY s (0,0)=(⟨Q0.1,xs1,xs2,xs3⟩,q):=by unfold QY;simp only[hQ0,hQ1,hQ2,hQ3]
         obtain⟨m0,m1,m2,m3,j0,j1,j2,j3⟩:=aZ Is.o;have hn:¬((q.2=0/\q.1=s.size)/\Cz (⟨Q0.1,xs1,xs2,xs3⟩:Lk)=true)->T3 s=(⟨[],[],[],[]⟩,9):=fun h=>by unfold T3;rw[zO,AB h]
         by_cases hE:q.2=0/\q.1=s.size
         .have EZ:Je q=true:=Aq hE.1;rw[EZ]at zR;have dq:¬k<n:=fun h=>hq ⟨hE.1,h⟩;rw[hE.2]at yR;have wP:=Ado hs zO hE.1 hE.2;obtain⟨y0,y1,y2,y3,_⟩:=aZ Is.l;cases ip:Cz (⟨Q0.1,xs1,xs2,xs3⟩:Lk)
          all_goals
           rw[ip]at wP
           go_wp2_with (go_at_call 26;(refine(lc wP DN (fun b o q=>(Pe b o q).2) rfl (Is.hM hM)).mono ?_;rintro x w8 ⟨rfl,b8⟩;have l8:=(b8.block _ (by have:=(Ag.1 Is.l).1;exact this)).trans Is.l;have k8:=(b8.block _ (by have:=(Ag.1 Is.o).1;exact this)).trans Is.o;obtain⟨t0,t1,t2,t3,_⟩:=aZ l8;obtain⟨m0,m1,m2,m3,j0,j1,j2,j3⟩:=aZ k8))
          .rw[hn (fun h=>by rw[ip]at h;cases h.2)];exact bodyPost_ret (Zk rfl _ _ W.heap.size GR (.int .i64 9) rfl rfl (Ls _ _ _ _ k8) rfl) rfl (Ut (Is.b.trans (b8.mono hbs)))
          .rw[show T3 s=(⟨Q0.1,xs1,xs2,xs3⟩,0) by unfold T3;rw[zO,AO ⟨hE,ip⟩]];exact bodyPost_ret (Zk rfl _ _ W.heap.size _ (.int .i64 0) rfl rfl (Ls _ _ _ _ k8) rfl) rfl (jX (w:=w8) Is.b b8 (fun b o q=>⟨by have:=(Pe b o q).1;omega,(Pe b o q).2⟩) DN)
         .by_cases hz:q.2=0
          case' pos=>
           have EZ:Je q=true:=Aq hz;have dq:¬k<n:=fun h=>hq ⟨hz,h⟩;have Ec:¬q.1=s.size:=fun h=>hE ⟨hz,h⟩
          case' neg=>
           have EZ:Je q=false:=Al hz;rcases BR k n with CL | dq
          all_goals
           rw[EZ]at zR
           go_wp2
           rw[hn (fun h=>hE h.1)];exact bodyPost_ret (Zk rfl _ _ W.heap.size GR (.int .i64 9) rfl rfl (Ls _ _ _ _ Is.o) rfl) rfl (Ut Is.b)
theorem pL(s:At5)(hs:s.size<=10^6):PC 30 [vs s] (.tup [.agg (Bu (MB s).1),G (MB s).2]):=by
 rw[<-Ag9 hs];exact tq (NO func30 aa5 rfl) (pP s hs)
end Go.Proofs
namespace Go.Eng
open Go.Proofs Go.Proofs.Tryz
variable {p:List UInt8}{i:Nat}{α:Type}{f:α->List UInt8}{c:Nat}{l:List (Int×Int)}{a b:CS}{k:Nat}(n:Nat)
theorem KZ{l:List α}(hi:i<l.length)(h:(p++l.flatMap f).length<=c):(p++(l.take i).flatMap f).length+(f l[i]).length<=c:=by
 have a:=ki f l (i+1);have b:=Aa List.length (RQ (f:=f) hi);rw[Ac]at b h⊢;omega
theorem Jt{l:List α}(hi:i<l.length):bB (p++(l.take i).flatMap f)++bB (f l[i])=bB (p++(l.take (i+1)).flatMap f):=by
 rw[In,Ct,RQ hi]
abbrev iB(n:Int):List UInt8:=uL n.toNat
theorem bS(l:List Int)(hI:∀n∈l,HB n)(hT:([]++l.flatMap iB).length<=10^6)(hl:l.length<=10^6):PC 68 [sl JG l] (vs (bB (l.flatMap iB))):=by
 refine Ps CF func68 rfl C4 (M {q:Nat // q<=l.length} (M (fun q=>⟨[(0,sl JG l),(3,vs (bB ([]++(l.take q.1).flatMap iB))),(4,G q.1)],[],Ab⟩) (M (fun q=>l.length-q.1) (J (M ⟨0,Ai _⟩ ?_) ?_))))
 .exact⟨Z3,X,Fh,X⟩
 intro⟨i,i1⟩;have i1:i<=l.length:=i1;refine J (fun h1=>?_) (fun h1=>?_)
 .have n1:i<l.length:=Gj h1;have AjV:(bB ([]++(l.take i).flatMap iB)).size+(uB l[i].toNat).size<=10^6:=KZ (f:=iB) aa4 hT;refine M (JG l[i]) (J (IM n1) (J rfl (C1 (H (mA l[i] (hI _ (Am n1))) (J (show((((bB ([]++(l.take i).flatMap iB)):CS).size+((uB l[i].toNat):CS).size:Nat):Int)<=2^63-1 by(try simp only[Av]);omega) ?_)))))
  refine J (Ii i I) (M ⟨i+1,n1⟩ ?_);exact⟨Dl l.length i I,⟨Z,⟨(Aa vs (Jt (f:=iB) n1)),rfl⟩,Z,X⟩,X,Fh,X⟩
 have n1:¬i<l.length:=D6 h1;exact C vs (by rw[AD (show l.length<=i by omega)];rfl)
theorem aG{l:List α}(h:l.length<=10^6):HB (l.length:Int):=⟨J6 _,by omega⟩
theorem yz(hk:k<l.length):bB (p++(l.take k).flatMap T7)++uB l[k].1.toNat++uB l[k].2.toNat=bB (p++(l.take (k+1)).flatMap T7):=by
 rw[<-Jt (f:=T7) hk];unfold T7;rw[ME,<-In (uL l[k].1.toNat),<-KK]
 rfl
theorem tW(p:List UInt8)(q:Rq):bB p++bB (tL q.path)++uB q.set.length=bB ((p++tL q.path++uL q.set.length)++(q.set.take 0).flatMap T7):=by
 rw[PO,Mx,B9,<-In (p++tL q.path),<-In p]
 rfl
theorem Acz{l:List Rq}(hi:i<l.length):bB ((p++(l.take i).flatMap I3++tL l[i].path++uL l[i].set.length)++l[i].set.flatMap T7)=bB (p++(l.take (i+1)).flatMap I3):=by
 grind [Jt,I3,In,G9]
theorem yh{l:List Rq}(hi:i<l.length)(h:(p++l.flatMap I3).length<=c):(p++(l.take i).flatMap I3).length+(tL l[i].path).length+(uL l[i].set.length).length+(l[i].set.flatMap T7).length<=c:=by
 have:=KZ (f:=I3) hi h
 grind [I3,G9]
theorem yy(hk:k<l.length)(h:(p++l.flatMap T7).length<=c):(p++(l.take k).flatMap T7).length+(uL l[k].1.toNat).length+(uL l[k].2.toNat).length<=c:=by
 have:=KZ (f:=T7) hk h
 grind [T7,ME]
theorem Ad9(l:List Rq)(hq:∀q∈l,Aaq q)(hT:(uL l.length++l.flatMap I3).length<=10^6)(hl:l.length<=10^6):PC 67 [sl Ak l] (vs (bB (G9 I3 l))):=by
 refine Ps CF func67 rfl C4 (C1 (H (show PC 134 [G ((l.map Ak).length:Int)] (vs (uB l.length))from by rw[Lm];exact mz _ (aG hl)) (M {q:Nat // q<=l.length} (M (fun q=>⟨[(0,sl Ak l),(3,vs (bB (uL l.length++(l.take q.1).flatMap I3))),(4,G q.1)],[],Ab⟩) (M (fun q=>l.length-q.1) (J (M ⟨0,Ai _⟩ ?_) ?_))))))
 .exact⟨⟨Z,⟨(Aa vs (by rw[PO,Mx,B9];rfl)),rfl⟩,Z,X⟩,X,Fh,X⟩
 intro⟨i,i1⟩;have i1:i<=l.length:=i1;refine J (fun h1=>?_) (fun h1=>?_)
 .have n1:i<l.length:=Gj h1;have Kl:(bB (uL l.length++(l.take i).flatMap I3)).size+(bB (tL l[i].path)).size+(uB l[i].set.length).size+(l[i].set.flatMap T7).length<=10^6:=yh aa4 hT;have VO:l[i].set.length<=10^6:=(hq _ (Am aa4)).n;have htx:(tL l[i].path).length<=10^6:=by have:(bB (tL l[i].path)).size=(tL l[i].path).length:=rfl;omega
  have AjV:(bB (uL l.length++(l.take i).flatMap I3)++bB (tL l[i].path)).size<=10^6:=by rw[Av];omega
  refine M (Ak l[i]) (J (IM n1) (J rfl (H (Ta l[i].path I) (J (show((((bB (uL l.length++(l.take i).flatMap I3)):CS).size+((bB (tL l[i].path)):CS).size:Nat):Int)<=2^63-1 by(try simp only[Av]);omega) ?_))))
  refine M (Ak l[i]) (J (IM n1) (J rfl (H (show PC 134 [G ((l[i].set.map Y).length:Int)] (vs (uB l[i].set.length))from by rw[Lm];exact mz _ (aG (hq _ (Am n1)).n)) ?_)));refine J (show(((((bB (uL l.length++(l.take i).flatMap I3))++(bB (tL l[i].path))):CS).size+((uB l[i].set.length):CS).size:Nat):Int)<=2^63-1 by(try simp only[Av]);omega) ?_
  refine J aa5 (M {q:Nat // q<=l[i].set.length} (M (fun q=>⟨[(0,sl Ak l),(3,vs (bB ((uL l.length++(l.take i).flatMap I3++tL l[i].path++uL l[i].set.length)++(l[i].set.take q.1).flatMap T7))),(4,G i),(5,G q.1)],[],Ab⟩) (M (fun q=>l[i].set.length-q.1) (J (M ⟨0,Ai _⟩ ?_) ?_))))
  .exact⟨⟨Z,⟨(Aa vs (tW _ _)),rfl⟩,Z,Z,X⟩,X,Fh,X⟩
  intro⟨k,k1⟩;have k1:k<=l[i].set.length:=k1;refine M (Ak l[i]) (J (IM n1) (J rfl (J (fun h2=>?_) (fun h2=>?_))))
  .have n2:k<(l[i].set).length:=Gj h2;have rJ:(bB ((uL l.length++(l.take i).flatMap I3++tL l[i].path++uL l[i].set.length)++(l[i].set.take k).flatMap T7)).size+(uB l[i].set[k].1.toNat).size+(uB l[i].set[k].2.toNat).size<=10^6:=yy aa4 (by rw[Ac];have:=Kl;simp only[PY,Ac]at this⊢;exact this);have hr3:(bB ((uL l.length++(l.take i).flatMap I3++tL l[i].path++uL l[i].set.length)++(l[i].set.take k).flatMap T7)++uB l[i].set[k].1.toNat).size<=10^6:=by rw[Av];omega
   refine M (Ak l[i]) (J (IM n1) (J rfl (M (Y l[i].set[k]) (J (IM n2) (J rfl (H (mz _ ((hq _ (Am n1)).i _ (Am n2)).1) (J (show((((bB ((uL l.length++(l.take i).flatMap I3++tL l[i].path++uL l[i].set.length)++(l[i].set.take k).flatMap T7)):CS).size+((uB l[i].set[k].1.toNat):CS).size:Nat):Int)<=2^63-1 by(try simp only[Av]);omega) ?_)))))))
   refine M (Ak l[i]) (J (IM n1) (J rfl (M (Y l[i].set[k]) (J (IM n2) (J rfl (H (mz _ ((hq _ (Am n1)).i _ (Am n2)).2) (J (show(((((bB ((uL l.length++(l.take i).flatMap I3++tL l[i].path++uL l[i].set.length)++(l[i].set.take k).flatMap T7))++(uB l[i].set[k].1.toNat)):CS).size+((uB l[i].set[k].2.toNat):CS).size:Nat):Int)<=2^63-1 by(try simp only[Av]);omega) ?_)))))))
   refine J aa5 (J (Ii k I) (M ⟨k+1,n2⟩ ?_));exact⟨by show l[i].set.length-(k+1)<l[i].set.length-k;omega,⟨Z,⟨(Aa vs (yz n2)),rfl⟩,Z,Z,X⟩,X,Fh,X⟩
  have n2:¬k<(l[i].set).length:=D6 h2;refine J (Ii i I) (M ⟨i+1,n1⟩ ?_);exact⟨Dl l.length i I,⟨Z,⟨(Aa vs (by rw[AD (show l[i].set.length<=k by omega)];exact Acz n1)),rfl⟩,Z,X⟩,X,Fh,X⟩
 have n1:¬i<l.length:=D6 h1;exact C vs (by rw[AD (show l.length<=i by omega)];rfl)
theorem Ac9{n:Int}(h:HB n):(iB n).length<=10:=NG h.nat
theorem Aa2(a:Int)(h:HB a):PC 68 [.slice .none [[G a]]] (vs (uB a.toNat)):=by
 have k:=bS [a] (fun n hn=>by simp_all) (by grind [Ac9]) C4
 grind [uB]
theorem sT{enc:α->List AV}(l:List α)(h:l.length<=10^6):PC 68 [.slice .none [[G ((l.map enc).length:Int)]]] (vs (uB l.length)):=by
 grind [Aa2,aG]
theorem Aa3(a b:Int)(h:HB a)(h2:HB b):PC 68 [.slice .none [[G a],[G b]]] (vs (bB (MK [a.toNat,b.toNat]))):=
 bS [a,b] (fun n hn=>by grind) (by grind [Ac9]) C4
theorem AfW(a b c d:Int)(h:HB a)(h2:HB b)(h3:HB c)(h4:HB d):PC 68 [.slice .none [[G a],[G b],[G c],[G d]]] (vs (bB (MK [a.toNat,b.toNat,c.toNat,d.toNat]))):=
 bS [a,b,c,d] (fun n hn=>by grind) (by grind [Ac9]) C4
theorem se{l:List Lo}(hi:i<l.length):bB (p++(l.take i).flatMap MD)++bB (tL l[i].path)++bB (MK [l[i].ver.b.toNat,l[i].ver.c.toNat])++bB (tL l[i].arch)++bB (tL l[i].ifc)=bB (p++(l.take (i+1)).flatMap MD):=by
 grind [Jt,MD,In]
theorem sI{l:List Nf}(hi:i<l.length):bB (p++(l.take i).flatMap Oj)++uB l[i].kind.toNat++bB (tL l[i].path)++bB (MK [l[i].place.toNat,l[i].number.toNat,l[i].left.toNat,l[i].right.toNat])=bB (p++(l.take (i+1)).flatMap Oj):=by
 rw[<-Jt (f:=Oj) hi];show bB _++bB _++_++_=_
 grind [In,Oj]
theorem uf{l:List Sk}(hi:i<l.length):bB (p++(l.take i).flatMap Rv)++bB (tL l[i].path)++bB (MK [l[i].place.toNat,l[i].inf.toNat])=bB (p++(l.take (i+1)).flatMap Rv):=by
 grind [Jt,Rv,In]
theorem sd{l:List Lo}(hi:i<l.length)(h:(p++l.flatMap MD).length<=c):(p++(l.take i).flatMap MD).length+(tL l[i].path).length+(MK [l[i].ver.b.toNat,l[i].ver.c.toNat]).length+(tL l[i].arch).length+(tL l[i].ifc).length<=c:=by
 have:=KZ (f:=MD) hi h
 grind [MD]
theorem sG{l:List Nf}(hi:i<l.length)(h:(p++l.flatMap Oj).length<=c):(p++(l.take i).flatMap Oj).length+(uL l[i].kind.toNat).length+(tL l[i].path).length+(MK [l[i].place.toNat,l[i].number.toNat,l[i].left.toNat,l[i].right.toNat]).length<=c:=by
 have:=KZ (f:=Oj) hi h
 grind [Oj]
theorem ue{l:List Sk}(hi:i<l.length)(h:(p++l.flatMap Rv).length<=c):(p++(l.take i).flatMap Rv).length+(tL l[i].path).length+(MK [l[i].place.toNat,l[i].inf.toNat]).length<=c:=by
 have:=KZ (f:=Rv) hi h
 grind [Rv]
theorem YB{xs:List α}(hi:¬i<xs.length):bB (p++uL xs.length++(xs.take i).flatMap f)++uB n=bB (p++G9 f xs++uL n):=by
 rw[AD I];show bB _++bB _=_
 grind [In,G9]
theorem zh(l:Lk)(kc:PC 26 [.agg (Bu l)] (G 1)):PC 29 [.agg (Bu l)] (.tup [vs mt,G 1]):=by
 refine Ps (pC [1] []) func29 rfl C4 (U (C1 (H kc (J (fun _=>?_) (fun h=>absurd aa3 h)))));exact .refl _
theorem JH{l:Lk}(h:(I0 l).length<=c):(G9 I3 l.roots).length+(uL l.ents.length).length<=c/\(G9 I3 l.roots++uL l.ents.length++l.ents.flatMap MD).length+(uL l.infs.length).length<=c/\(G9 I3 l.roots++G9 MD l.ents++uL l.infs.length++l.infs.flatMap Oj).length+(uL l.skips.length).length<=c/\(G9 I3 l.roots++G9 MD l.ents++G9 Oj l.infs++uL l.skips.length++l.skips.flatMap Rv).length<=c:=by
 grind [I0,G9]
abbrev qq61:=fun(l:Lk) k=>((bB ((G9 I3 l.roots++G9 MD l.ents++G9 Oj l.infs++uL l.skips.length)++(l.skips.take k).flatMap Rv)):CS)
theorem Ad8(l:Lk)(kc:PC 26 [.agg (Bu l)] (G 0))(hO:gv l)(hT:(I0 l).length<=10^6):PC 29 [.agg (Bu l)] (.tup [vs (bB (I0 l)),G 0]):=by
 have hT1:(uL l.roots.length++l.roots.flatMap I3).length<=10^6:=by have:=(JH hT).1;show(G9 I3 l.roots).length<=_;omega
 have hT2:=Az (Nat.le_add_right _ _) (JH hT).2.1;have hT3:=Az (Nat.le_add_right _ _) (JH hT).2.2.1;have hT4:=(JH hT).2.2.2;have hU1:(bB (G9 I3 l.roots)).size+(uB l.ents.length).size<=10^6:=(JH hT).1;have hU2:(bB (G9 I3 l.roots++uL l.ents.length++l.ents.flatMap MD)).size+(uB l.infs.length).size<=10^6:=(JH hT).2.1;have hU3:(bB (G9 I3 l.roots++G9 MD l.ents++uL l.infs.length++l.infs.flatMap Oj)).size+(uB l.skips.length).size<=10^6:=(JH hT).2.2.1;have n1:=hO.n1;have n2:=hO.n2;have n3:=hO.n3;have n4:=hO.n4;refine Ps (pC [1,7,9,11] []) func29 rfl C4 (U (C1 (H kc (J (fun h=>absurd h aa3) (fun _=>?_)))));refine H (Ad9 l.roots hO.rq hT1 hO.n1) (H (sT l.ents (by have:=hO.n2;omega)) ?_);refine J (show((((bB (G9 I3 l.roots)):CS).size+((uB l.ents.length):CS).size:Nat):Int)<=2^63-1 by(try simp only[Av]);omega) ?_
 refine J aa5 (M {q:Nat // q<=l.ents.length} (M (fun q=>⟨[(1,.ref 1 0),(5,vs (bB ((G9 I3 l.roots++uL l.ents.length)++(l.ents.take q.1).flatMap MD))),(6,G q.1)],[(1,.ro (Bu l))],Ab⟩) (M (fun q=>l.ents.length-q.1) (J (M ⟨0,Ai _⟩ ?_) ?_))))
 .exact⟨⟨Z,⟨(Aa vs (show bB _++bB _=_ by rw[In,PO,Mx,B9])),rfl⟩,Z,X⟩,Z1,Fh,X⟩
 intro⟨i,i1⟩;have i1:i<=l.ents.length:=i1;refine J (fun h1=>?_) (fun h1=>?_)
 .have n1:i<l.ents.length:=Gj h1;have hri:(bB ((G9 I3 l.roots++uL l.ents.length)++(l.ents.take i).flatMap MD)).size+(bB (tL l.ents[i].path)).size+(bB (MK [l.ents[i].ver.b.toNat,l.ents[i].ver.c.toNat])).size+(bB (tL l.ents[i].arch)).size+(bB (tL l.ents[i].ifc)).size<=10^6:=sd aa4 hT2;have Aq1:(tL l.ents[i].path).length<=10^6:=by have:(bB (tL l.ents[i].path)).size=(tL l.ents[i].path).length:=rfl;omega
  have Aq2:(tL l.ents[i].arch).length<=10^6:=by have:(bB (tL l.ents[i].arch)).size=(tL l.ents[i].arch).length:=rfl;omega
  have Aq3:(tL l.ents[i].ifc).length<=10^6:=by have:(bB (tL l.ents[i].ifc)).size=(tL l.ents[i].ifc).length:=rfl;omega
  refine M (Cr l.ents[i]) (J (IM n1) (J rfl (U (U (H (Ta l.ents[i].path I) (J (show((((bB ((G9 I3 l.roots++uL l.ents.length)++(l.ents.take i).flatMap MD)):CS).size+((bB (tL l.ents[i].path)):CS).size:Nat):Int)<=2^63-1 by(try simp only[Av]);omega) ?_))))))
  refine H (Aa3 _ _ (hO.lo _ (Am n1)).1 (hO.lo _ (Am n1)).2) (J (show(((((bB ((G9 I3 l.roots++uL l.ents.length)++(l.ents.take i).flatMap MD))++(bB (tL l.ents[i].path))):CS).size+((bB (MK [l.ents[i].ver.b.toNat,l.ents[i].ver.c.toNat])):CS).size:Nat):Int)<=2^63-1 by(try simp only[Av]);omega) ?_)
  refine H (Ta l.ents[i].arch I) (J (show((((((bB ((G9 I3 l.roots++uL l.ents.length)++(l.ents.take i).flatMap MD))++(bB (tL l.ents[i].path)))++(bB (MK [l.ents[i].ver.b.toNat,l.ents[i].ver.c.toNat]))):CS).size+((bB (tL l.ents[i].arch)):CS).size:Nat):Int)<=2^63-1 by(try simp only[Av]);omega) ?_)
  refine H (Ta l.ents[i].ifc I) (J (show(((((((bB ((G9 I3 l.roots++uL l.ents.length)++(l.ents.take i).flatMap MD))++(bB (tL l.ents[i].path)))++(bB (MK [l.ents[i].ver.b.toNat,l.ents[i].ver.c.toNat])))++(bB (tL l.ents[i].arch))):CS).size+((bB (tL l.ents[i].ifc)):CS).size:Nat):Int)<=2^63-1 by(try simp only[Av]);omega) ?_)
  refine J aa5 (J (Ii i I) (M ⟨i+1,n1⟩ ?_));exact⟨Dl l.ents.length i I,⟨Z,⟨(Aa vs (se n1)),rfl⟩,Z,X⟩,Z1,Fh,X⟩
 have n1:¬i<l.ents.length:=D6 h1;have hV2:(bB ((G9 I3 l.roots++uL l.ents.length)++(l.ents.take i).flatMap MD)).size+(uB l.infs.length).size<=10^6:=by rw[AD (show l.ents.length<=i by omega)];exact hU2
 refine C1 (H (sT l.infs (by have:=hO.n3;omega)) ?_);refine J (show((((bB ((G9 I3 l.roots++uL l.ents.length)++(l.ents.take i).flatMap MD)):CS).size+((uB l.infs.length):CS).size:Nat):Int)<=2^63-1 by(try simp only[Av]);omega) ?_
 refine M {q:Nat // q<=l.infs.length} (M (fun q=>⟨[(1,.ref 1 0),(5,vs (bB ((G9 I3 l.roots++G9 MD l.ents++uL l.infs.length)++(l.infs.take q.1).flatMap Oj))),(8,G q.1)],[(1,.ro (Bu l))],Ab⟩) (M (fun q=>l.infs.length-q.1) (J (M ⟨0,Ai _⟩ ?_) ?_)))
 .exact⟨⟨Z,⟨(Aa vs (by rw[PO,Mx,B9];exact YB (p:=G9 I3 l.roots) _ I)),rfl⟩,Z,X⟩,Z1,Fh,X⟩
 intro⟨j,j1⟩;have j1:j<=l.infs.length:=j1;refine J (fun h3=>?_) (fun h3=>?_)
 .have n3:j<l.infs.length:=Gj h3;have hrj:(bB ((G9 I3 l.roots++G9 MD l.ents++uL l.infs.length)++(l.infs.take j).flatMap Oj)).size+(uB l.infs[j].kind.toNat).size+(bB (tL l.infs[j].path)).size+(bB (MK [l.infs[j].place.toNat,l.infs[j].number.toNat,l.infs[j].left.toNat,l.infs[j].right.toNat])).size<=10^6:=sG aa4 hT3;have Aq4:(tL l.infs[j].path).length<=10^6:=by have:(bB (tL l.infs[j].path)).size=(tL l.infs[j].path).length:=rfl;omega
  refine M (A8 l.infs[j]) (J (IM n3) (J rfl (U (U (H (Aa2 _ (hO.nf _ (Am n3)).1) (J (show((((bB ((G9 I3 l.roots++G9 MD l.ents++uL l.infs.length)++(l.infs.take j).flatMap Oj)):CS).size+((uB l.infs[j].kind.toNat):CS).size:Nat):Int)<=2^63-1 by(try simp only[Av]);omega) ?_))))))
  refine H (Ta l.infs[j].path I) (J (show(((((bB ((G9 I3 l.roots++G9 MD l.ents++uL l.infs.length)++(l.infs.take j).flatMap Oj))++(uB l.infs[j].kind.toNat)):CS).size+((bB (tL l.infs[j].path)):CS).size:Nat):Int)<=2^63-1 by(try simp only[Av]);omega) ?_)
  refine H (AfW _ _ _ _ (hO.nf _ (Am n3)).2.1 (hO.nf _ (Am n3)).2.2.1 (hO.nf _ (Am n3)).2.2.2.1 (hO.nf _ (Am n3)).2.2.2.2) (J (show((((((bB ((G9 I3 l.roots++G9 MD l.ents++uL l.infs.length)++(l.infs.take j).flatMap Oj))++(uB l.infs[j].kind.toNat))++(bB (tL l.infs[j].path))):CS).size+((bB (MK [l.infs[j].place.toNat,l.infs[j].number.toNat,l.infs[j].left.toNat,l.infs[j].right.toNat])):CS).size:Nat):Int)<=2^63-1 by(try simp only[Av]);omega) ?_)
  refine J aa5 (J (Ii j I) (M ⟨j+1,n3⟩ ?_));exact⟨Dl l.infs.length j I,⟨Z,⟨(Aa vs (sI n3)),rfl⟩,Z,X⟩,Z1,Fh,X⟩
 have n3:¬j<l.infs.length:=D6 h3;have hV3:(bB ((G9 I3 l.roots++G9 MD l.ents++uL l.infs.length)++(l.infs.take j).flatMap Oj)).size+(uB l.skips.length).size<=10^6:=by rw[AD (show l.infs.length<=j by omega)];exact hU3
 refine C1 (H (sT l.skips (by have:=hO.n4;omega)) ?_);refine J (show((((bB ((G9 I3 l.roots++G9 MD l.ents++uL l.infs.length)++(l.infs.take j).flatMap Oj)):CS).size+((uB l.skips.length):CS).size:Nat):Int)<=2^63-1 by(try simp only[Av]);omega) ?_
 refine M {q:Nat // q<=l.skips.length} (M (fun q=>⟨[(1,.ref 1 0),(5,vs (bB ((G9 I3 l.roots++G9 MD l.ents++G9 Oj l.infs++uL l.skips.length)++(l.skips.take q.1).flatMap Rv))),(10,G q.1)],[(1,.ro (Bu l))],Ab⟩) (M (fun q=>l.skips.length-q.1) (J (M ⟨0,Ai _⟩ ?_) ?_)))
 .exact⟨⟨Z,⟨(Aa vs (by rw[PO,Mx,B9];exact YB (p:=G9 I3 l.roots++G9 MD l.ents) _ I)),rfl⟩,Z,X⟩,Z1,Fh,X⟩
 intro⟨k,k1⟩;have k1:k<=l.skips.length:=k1;refine J (fun h5=>?_) (fun h5=>?_)
 .have n5:k<l.skips.length:=Gj h5;have hrk:(qq61 l k).size+(bB (tL l.skips[k].path)).size+(bB (MK [l.skips[k].place.toNat,l.skips[k].inf.toNat])).size<=10^6:=ue aa4 hT4;have Aq5:(tL l.skips[k].path).length<=10^6:=by have:(bB (tL l.skips[k].path)).size=(tL l.skips[k].path).length:=rfl;omega
  refine M (AT l.skips[k]) (J (IM n5) (J rfl (U (U (H (Ta l.skips[k].path I) (J (show((((qq61 l k):CS).size+((bB (tL l.skips[k].path)):CS).size:Nat):Int)<=2^63-1 by(try simp only[Av]);omega) ?_))))))
  refine H (Aa3 _ _ (hO.sk _ (Am n5)).1 (hO.sk _ (Am n5)).2) (J (show(((((qq61 l k)++(bB (tL l.skips[k].path))):CS).size+((bB (MK [l.skips[k].place.toNat,l.skips[k].inf.toNat])):CS).size:Nat):Int)<=2^63-1 by(try simp only[Av]);omega) ?_)
  refine J aa5 (J (Ii k I) (M ⟨k+1,n5⟩ ?_));exact⟨Dl l.skips.length k I,⟨Z,⟨(Aa vs (uf n5)),rfl⟩,Z,X⟩,Z1,Fh,X⟩
 have n5:¬k<l.skips.length:=D6 h5;exact C (fun z=>AV.tup [vs z,G 0]) (by rw[AD (show l.skips.length<=k by omega)];exact Aa bB (Ct _ _ _))
abbrev Al8:Of:=⟨[],[],[(2,n),(5,n)],[],[],[],[5],[],[],[],[2,3]⟩
theorem AlO(l:List Sl)(hl:CC l):A1 prog 76 [sl Ar l] (Ah [] Ab) fun r h'=>r=.msl 2000 l.length/\h'=Ah [(2000,.arr 4 (l.map Ar))] Ab:=by
 refine Bv (Ky (Al8 4)) [(2,2000)] rfl BO hm rfl func76 aa5 rfl C4 aa5 rfl ?_;have El:Cq 4 (l.map Ar)/\([]:C0).length=0/\(([]:C0).length+(l.map Ar).length)*40<=2^47/\([]:C0).length+(l.map Ar).length<=2^63-1:=by
  refine⟨DK (enc:=Ar) (n:=4) (fun _=>rfl) l,rfl,?_,?_⟩<;>simp only[A4,Lm]<;>unfold CC at hl<;>omega
 have e1:AV.msl 2000 (([]:C0).length+(l.map Ar).length)=.msl 2000 l.length:=aa1
 refine M 0 (M 0 (J ?_ ?_))
 .intro _;refine cU [(0,sl Ar l)] [] Z1 X (M 2 (J El ?_));exact H (.refl _) (J e1 rfl)
 .intro h;refine J ?_ ?_
  .refine M ⟨[],[],Ab⟩ (J ⟨trivial,trivial,fun _=>.inl rfl,AX aa5⟩ ?_);refine M 2 ?_;exact H (.refl _) (J (show AV.msl 2000 0=_ by rw[DR.1 h];rfl) (show Ah [(2000,HO.arr 4 [])] Ab=_ by rw[h]))
  .refine cU [(0,sl Ar l)] [] Z1 X (M 2 (J El ?_));exact H (.refl _) (J e1 rfl)
theorem fH{qs:List Rq}(h:k<qs.length):(qs.map Ak).set k (over (Ak qs[k]) 1 [sl Y qs[k].set])=qs.map Ak:=by
 refine Cu fun j=>?_;rw[List.getElem?_set];split
 .rename_i e;subst e;rw[AO (by rw[Lm];exact h),BC,Ge h];rfl
 .rfl
abbrev Ajn:Sl->Sl->Int:=fun a b=>LG a.path b.path
theorem qz:LG a b<0↔E3 a b=true:=by
 unfold LG
 by_cases h:E3 a b=true
 .rw[AO h];simp[h]
 .rw[AB h];split<;>simp[h]
theorem gU:LG a b=0↔a=b:=by
 unfold LG;constructor
 .intro h;split at h
  .cases h
  .rename_i h1;split at h
   .cases h
   .rename_i h2;exact Iz (by simpa using h1) (by simpa using h2)
 .rintro rfl
  rw[AB (by rw[CY];decide),AB (by rw[CY];decide)]
abbrev kept(p:α->Bool)(l:List α):List α:=l.filter fun x=>!p x
end Go.Eng
