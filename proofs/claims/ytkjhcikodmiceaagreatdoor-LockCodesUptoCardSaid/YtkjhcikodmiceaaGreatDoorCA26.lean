/- Lemmas 26. -/
import Derived.Test.YtkjhcikodmiceaaGreatDoorCA25
set_option maxRecDepth 100000
set_option maxHeartbeats 40000000
namespace Go.Proofs
open Go.Shelf Go.RowKit Go.Lib Go.Sort Go.Eng
abbrev At1:=ByteArray
theorem Zh(s:At1)(q:N):(DB s q).1.size<=s.size:=by
 unfold DB tk;split
 .cases (J9 s q.1).2.2 with
  |false=>exact Ai _
  |true=>
   show(J9 s q.1).1.size<=_;unfold J9;split
   .grind [ByteArray.size_extract]
   .exact Ai _
 .exact Ai _
theorem N5{α:Type}{one:N->α×N}{P:α->Prop}(h:∀q,P (one q).1):∀(n:Nat) (q:N) (acc:List α),(∀x∈acc,P x)->∀x∈(ER one n q acc).1,P x
 |0,_,_,ha=>ha
 |n+1,q,acc,ha=>by
  have hx:∀x∈acc++[(one q).1],P x:=fun x hx=>by
   grind
  rw[ER];split
  .exact N5 h n _ _ hx
  omega
theorem Zf{α:Type}{one:N->α×N}:∀(n:Nat) (q:N) (acc:List α),(ER one n q acc).1.length<=acc.length+n
 |0,_,_=>Af _
 |n+1,q,acc=>by
  rw[ER];split
  .have:=Zf (one:=one) n (one q).2 (acc++[(one q).1])
   grind
  simp_all
theorem Zd{α:Type}{rd:At1->Nat->N->α×N}{s:At1}{most:Nat}{P:α->Prop}(h:∀q,P (rd s most q).1)(q:N):∀x∈(FL rd s most q).1,P x:=N5 h _ _ _ (fun _ k=>nomatch k)
theorem Hx{α:Type}{rd:At1->Nat->N->α×N}{s:At1}{most:Nat}(q:N):(FL rd s most q).1.length<=most:=by
 grind [Zf,lK,FL]
theorem qE(s:At1)(hs:s.size<=10^6):∀e∈(Um s).1.ents,Er e.path:=Zd (P:=fun e:Lo=>Er e.path) (fun q=>by have:=Zh s q;show(DB s q).1.size<=_;omega) _
theorem qF(s:At1)(hs:s.size<=10^6):∀e∈(Um s).1.roots,J5 e:=Zd (P:=fun e:Rq=>J5 e) (fun q=>by
 have h1:=Zh s q;have h2:=Hx (rd:=fu) (s:=s) (most:=s.size) (DB s q).2;exact⟨by show(FL fu s s.size (DB s q).2).1.length<=_;omega,by show(DB s q).1.size<=_;omega⟩) _
theorem qD(s:At1)(hs:s.size<=10^6):PC 48 [.agg (Bu (Nj (Um s).1))] (Q (Cz (Nj (Um s).1))):=
 bP _ (qF s hs) (fun e he=>by
  obtain⟨x,hx,rfl⟩:=Ap.1 he;exact qE s hs x hx) (by rw[Bs];exact Az (Hx _) hs) (Az (Hx _) hs) (Az (Hx _) hs)
theorem tq{f:Nat}{s:At1}{r:Lk×Int}(hE:Fx Tryz.prog f)(h:∀w,HM w->Calls Tryz.prog f #[.string s] w (pW w r)):PC f [vs s] (.tup [.agg (Bu r.1),G r.2]):=by
 refine⟨hE,fun g w us hz hv hI=>?_⟩;have hz:us.size=1:=hz;have h0:=hv 0 _ (us[0]' I) rfl (BB I);have hu:us=#[.string s]:=by
  grind [O.v_eq]
 subst hu;refine(h w hI.glob.1.2).mono ?_
 rintro e w' ⟨v0,v1,v2,v3,S,rfl,q,hS,hr⟩
 have hK:D8 g w ⟨g.ρ,g.ln,g.tk,g.own,fun b o=>g.S b o\/S b o⟩ w':=fun b o hb=>by
  grind [World.cell?,CH.slt,Go.RowKit.Below.block]
 refine⟨_,_,Ab,⟨g.ρ,g.ln,g.tk,g.own,fun b o=>g.S b o\/S b o⟩,rfl,⟨rfl,rfl⟩,.tup _ _ _ rfl fun i av x e1 e2=>?_,⟨q.os,q.tape,q.output,q.size,fun b hb _=>q.block b hb,fun b o hs=>hs.elim (fun z=>AF (hI.slt b o z) q.size) (fun z=>(hS b o z).2),fun _=>trivial,fun _ _ _ h=>h.elim,fun _ _ h=>h.elim,fun b o hs=>hs.elim .inl (fun z=>.inr (.inl (hS b o z).1)),hI.glob.keep hK⟩,⟨fun i z=>(z rfl).elim,fun _ h=>h,hK⟩⟩
 match i with
 |0=>
  cases e1;cases e2
  exact O.mono (g:=gS S) (w:=w') (g':=⟨g.ρ,g.ln,g.tk,g.own,fun b o=>g.S b o\/S b o⟩) (w':=w') (fun b o z=>⟨Or.inr z,rfl,fun _ _ y=>y⟩) hr (fun _ z=>z.elim) (fun _ z=>z.elim)
 |1=>grind [O.v]
 |_+2=>simp_all
theorem uS(s:At1)(hs:s.size<=10^6):PC 28 [vs s] (.tup [.agg (Bu (MB s).1),G (MB s).2]):=
 tq (NO Tryz.func28 aa5 rfl) (pK s hs (qE s hs) fun _ _=>qD s hs)
end Go.Proofs
namespace Go.Proofs
open Go.Proofs.Tryz
open Go.Shelf Go.RowKit Go.Lib Go.Sort Go.Eng
theorem sR{W:World}{b C:Nat}{o:Nat->Nat}{ns:List Nat}{vs:Array Value}{T:Nat}(hC:C=W.heap.size)(hv:∀i,i<ns.length->vs[i]?=some (pA b (o i)))(hp:∀i (hi:i<ns.length),W.cell? ⟨b,o i,none⟩=some (.int .i64 (ns[i]:Int))/\ns[i]<2^63) :
  ∀i (hi:i<ns.length),(W.alloc (.cells vs T)).cell? ⟨C,i,none⟩=some (pA b (o i))/\(W.alloc (.cells vs T)).cell? ⟨b,o i,none⟩=some (.int .i64 (ns[i]:Int))/\ns[i]<2^63:=by
 grind [Dk,World.cell?,Below.heap_alloc]
theorem UG{W:World}{b C:Nat}{o:Nat->Nat}{ns:List Nat}{vs:Array Value}{T:Nat}(hC:C=W.heap.size)(hv:∀i,i<ns.length->vs[i]?=some (pA b (o i)))(hp:∀i (hi:i<ns.length),W.cell? ⟨b,o i,none⟩=some (.int .i64 (ns[i]:Int))/\ns[i]<2^63) :
  ∀i (hi:i<ns.length),(W.alloc (.cells vs T)).drew.cell? ⟨C,i,none⟩=some (pA b (o i))/\(W.alloc (.cells vs T)).drew.cell? ⟨b,o i,none⟩=some (.int .i64 (ns[i]:Int))/\ns[i]<2^63:=sR hC hv hp
theorem yX(s:Int×Int)(h1:HB s.1)(h2:HB s.2):WC 123 (Y s) (T7 s):=by
 intro g A b off l W h hg hr hs;have hb:=(hg _ _ (Nw hr 0 _ rfl).1);have CL:=h.lt;unfold T7 at hs⊢;simp only[Ac]at hs
 go_enter func123,ntmps123
 go_wp2
 go_region_with (go_at_call 124;(refine(Mg A W.heap.size 2 b (fun i=>off+(0+i)) [s.1.toNat,s.2.toNat] _ _ (h.alloc _).drew hb.2 I (UG rfl (fun i hi=>by grind) fun i hi=>by match i,hi with | 0,_=>exact⟨(Ia hr 0 h1 rfl),h1.nat⟩ | 1,_=>exact⟨(Ia hr 1 h2 rfl),h2.nat⟩) aa0 (By rfl)).mono ?_;rintro e w1 ⟨rfl,ao,c1⟩))
 all_goals
  exact bodyPost_end (results_none rfl _ _ _) rfl ⟨rfl,by omega,c1.undrew.alloc⟩
theorem Ad0(x:Lo)(k1:HB x.ver.b)(k2:HB x.ver.c):WC 126 (Cr x) (MD x):=by
 intro g A b off l W h hg hr hs;have hb:=(hg _ _ (Nw hr 0 _ rfl).1);have CL:=h.lt;unfold MD at hs⊢;have tn:=mv ⟨A,0,none⟩;have tm:=mu ⟨A,0,none⟩;simp only[Ac]at hs
 go_enter func126,ntmps126
 go_wp2
 go_region_with (go_at_call 436;(refine(Oe A b _ x.path _ _ h.drew (L9 hr 0 _ rfl) aa2).mono ?_;rintro e w1 ⟨rfl,ao,c1⟩))
 all_goals
  have d1:MR W.heap.size A W w1:=c1.undrew;have h1:=h.step ao d1
  go_wp2
  go_region_with (go_at_call 124;(refine(Mg A w1.heap.size 2 b (fun i=>off+(2+i)) [x.ver.b.toNat,x.ver.c.toNat] _ _ (h1.alloc _).drew hb.2 aa2 (UG rfl (fun i hi=>by grind) fun i hi=>by match i,hi with | 0,_=>exact⟨(d1.cell hb.2 (Ia hr 2 k1 rfl)),k1.nat⟩ | 1,_=>exact⟨(d1.cell hb.2 (Ia hr 3 k2 rfl)),k2.nat⟩) aa2 (By rfl)).mono ?_;rintro e w2 ⟨rfl,ny,c2⟩))
  all_goals
   have d2:MR W.heap.size A W w2:=d1.trans c2.undrew.alloc;have h2:=h.step ny d2
   go_wp2
   go_region_with (go_at_call 436;(refine(Oe A b _ x.arch _ _ h2.drew (d2.cell hb.2 (L9 hr 4 _ rfl)) aa2).mono ?_;rintro e w3 ⟨rfl,hA3,c3⟩))
   all_goals
    have d3:MR W.heap.size A W w3:=d2.trans c3.undrew;have h3:=h.step hA3 d3
    go_wp2
    go_region_with (go_at_call 436;(refine(Oe A b _ x.ifc _ _ h3.drew (d3.cell hb.2 (L9 hr 5 _ rfl)) aa2).mono ?_;rintro e w4 ⟨rfl,hA4,c4⟩))
    all_goals
     exact bodyPost_end (results_none rfl _ _ _) rfl ⟨rfl,by simp_all,d3.trans c4.undrew⟩
theorem Ad1(x:Nf)(k0:HB x.kind)(k1:HB x.place)(k2:HB x.number)(k3:HB x.left)(k4:HB x.right):WC 128 (A8 x) (Oj x):=by
 intro g A b off l W h hg hr hs;have hb:=(hg _ _ (Nw hr 0 _ rfl).1);have CL:=h.lt;unfold Oj at hs⊢;have tn:=mv ⟨A,0,none⟩;have tm:=mu ⟨A,0,none⟩;have nn:=Aai ⟨A,0,none⟩;have nm:=Aah ⟨A,0,none⟩;simp only[Ac]at hs
 go_enter func128,ntmps128
 go_wp2
 go_region_with (go_at_call 435;(refine(SY A b _ x.kind.toNat _ _ h.drew (Ia hr 0 k0 rfl) k0.nat aa2).mono ?_;rintro e w1 ⟨rfl,ao,c1⟩))
 all_goals
  have d1:MR W.heap.size A W w1:=c1.undrew;have h1:=h.step ao d1
  go_wp2
  go_region_with (go_at_call 436;(refine(Oe A b _ x.path _ _ h1.drew (d1.cell hb.2 (L9 hr 1 _ rfl)) aa2).mono ?_;rintro e w2 ⟨rfl,ny,c2⟩))
  all_goals
   have d2:MR W.heap.size A W w2:=d1.trans c2.undrew;have h2:=h.step ny d2
   go_wp2
   go_region_with (go_at_call 124;(refine(Mg A w2.heap.size 4 b (fun i=>off+(2+i)) [x.place.toNat,x.number.toNat,x.left.toNat,x.right.toNat] _ _ (h2.alloc _).drew hb.2 aa2 (UG rfl (fun i hi=>by match i,hi with | 0,_ | 1,_ | 2,_ | 3,_=>rfl) fun i hi=>by match i,hi with | 0,_=>grind [Ia,Go.Proofs.MR.cell,Go.Proofs.HB.nat] | 1,_=>grind [Ia,Go.Proofs.MR.cell,Go.Proofs.HB.nat] | 2,_=>grind [Ia,Go.Proofs.MR.cell,Go.Proofs.HB.nat] | 3,_=>grind [Ia,Go.Proofs.MR.cell,Go.Proofs.HB.nat]) aa2 (By rfl)).mono ?_;rintro e w3 ⟨rfl,hA3,c3⟩))
   all_goals
    exact bodyPost_end (results_none rfl _ _ _) rfl ⟨rfl,by simp_all,d2.trans c3.undrew.alloc⟩
theorem yW(x:Sk)(k1:HB x.place)(k2:HB x.inf):WC 130 (AT x) (Rv x):=by
 intro g A b off l W h hg hr hs;have hb:=(hg _ _ (Nw hr 0 _ rfl).1);have CL:=h.lt;unfold Rv at hs⊢;have tn:=mv ⟨A,0,none⟩;have tm:=mu ⟨A,0,none⟩;simp only[Ac]at hs
 go_enter func130,ntmps130
 go_wp2
 go_region_with (go_at_call 436;(refine(Oe A b _ x.path _ _ h.drew (L9 hr 0 _ rfl) aa2).mono ?_;rintro e w1 ⟨rfl,ao,c1⟩))
 all_goals
  have d1:MR W.heap.size A W w1:=c1.undrew;have h1:=h.step ao d1
  go_wp2
  go_region_with (go_at_call 124;(refine(Mg A w1.heap.size 2 b (fun i=>off+(1+i)) [x.place.toNat,x.inf.toNat] _ _ (h1.alloc _).drew hb.2 aa2 (UG rfl (fun i hi=>by grind) fun i hi=>by match i,hi with | 0,_=>exact⟨(d1.cell hb.2 (Ia hr 1 k1 rfl)),k1.nat⟩ | 1,_=>exact⟨(d1.cell hb.2 (Ia hr 2 k2 rfl)),k2.nat⟩) aa0 (By rfl)).mono ?_;rintro e w2 ⟨rfl,ny,c2⟩))
  all_goals
   exact bodyPost_end (results_none rfl _ _ _) rfl ⟨rfl,by simp_all,d1.trans c2.undrew.alloc⟩
end Go.Proofs
namespace Go.Proofs
open Go.Proofs.Tryz
open Go.Shelf Go.RowKit Go.Lib Go.Sort Go.Eng
def WF(f c:Nat)(cs:List AV)(bs:List UInt8):Prop:=∀(g:D) (A b off:Nat) (l:List UInt8) (W:World),XM A l W->(∀b o,g.S b o->b<W.heap.size/\b≠A)->O g W DS (.cptr cs) (pA b off)->(l++bs).length<2^63 ->
 Calls prog f #[ifW A,pA b off,.func (.func c) #[] #[]] W (XN A (l++bs) W)
theorem pk{α:Type}{enc:α->List AV}{xs:List α}{sz:Nat}{g:D}{W:World}{v:Value}(hz:∀x,(enc x).length=sz)(h:O g W DS (.slice .none (xs.map enc)) v) :
  ∃a cap,v=.slice a xs.length cap/\∀i (hi:i<xs.length),∃b o,a=some ⟨b,o,none⟩/\O g W DS (.cptr (enc xs[i])) (pA b (o+i*sz)):=by
 generalize he:xs.map enc=es at h;have CN:es.length=xs.length:=aa2
 cases h with
 |snil _ a cap=>
  simp_all
 |slice _ _ b o HG cap val hc hl Dj DN=>
  refine⟨_,cap,by simp_all,fun i hi=>⟨b,o,rfl,?_⟩⟩;have e:es[i]?=some (enc xs[i]):=aa2
  have e2:HG=sz:=(hl i _ e).symm.trans (hz _);subst e2;exact .cptr _ _ b _ (val i) (fun j av hj=>Dj i _ j av e hj) (fun j av hj=>DN i _ j av e hj)
theorem r5{g:D}{A:Nat}{W w' : World}(hg:∀b o,g.S b o->b<W.heap.size/\b≠A)(h:MR W.heap.size A W w'):D8 g W g w':=fun b o hs=>
 have e:=h.block b (hg b o hs).1 (hg b o hs).2
 ⟨hs,by grind [World.cell?],fun _ _ q=>e.trans q⟩
theorem Wz{g:D}{A:Nat}{W w' : World}(hg:∀b o,g.S b o->b<W.heap.size/\b≠A)(h:MR W.heap.size A W w'){av:AV}{x:Value}(r:O g W DS av x):O g w' DS av x:=
 r.mono (r5 hg h) (fun _ q=>q) (.refl g _)
theorem RQ{α:Type}{f:α->List UInt8}{xs:List α}{k:Nat}(h:k<xs.length):(xs.take k).flatMap f++f xs[k]=(xs.take (k+1)).flatMap f:=by
 grind [List.take_add_one]
theorem ki{α:Type}(f:α->List UInt8)(xs:List α)(k:Nat):((xs.take k).flatMap f).length<=(xs.flatMap f).length:=by
 grind [List.take_append_drop]
variable {f c E T n zp:Nat}{zs:List Value}
theorem Rn{α:Type}{enc:α->List AV}{eL:α->List UInt8}(K:K5 f c E T n zp zs)(hz:∀x,(enc x).length=n)(xs:List α)(hx:∀x∈xs,WC c (enc x) (eL x))(hn:xs.length<=10^6):WF f c [sl enc xs] (G9 eL xs):=by
 intro g A b off l W h hg hr hs;obtain⟨hS,v,hv,hrv⟩:=Nw hr 0 _ rfl;rw[FF]at hv hS;obtain⟨a,cap,rfl,wS⟩:=pk hz hrv;have hb:=hg _ _ hS;have n1:=Am0 ⟨A,0,none⟩;have m1:=AlZ ⟨A,0,none⟩;have t1:=Am1 ⟨A,0,none⟩;have Aez:=K.enter;unfold G9 at hs⊢;simp only[Ac]at hs;cases K
 case' a=>go_enter func122,ntmps122
 case' b=>go_enter func120,ntmps120
 case' c=>go_enter func125,ntmps125
 case' d=>go_enter func127,ntmps127
 case' e=>go_enter func129,ntmps129
 all_goals
  go_wp2
  go_region_with (go_at_call 434;(refine(uU A xs.length l _ ?_ I aa2).mono ?_;exact h.drew;rintro e w1 ⟨rfl,ao,c1⟩))
  all_goals have d1:=c1.undrew
  all_goals have h1:=h.step ao d1
  all_goals have q1:=d1.cell hb.2 hv
  all_goals
   go_wp2
   go_loopw [56] (fun i wr=>∃k:Nat,k<=xs.length/\i=.int .i64 k/\wr.heap[A]?=some (vz (bB (l++uL xs.length++(xs.take k).flatMap eL)))/\MR W.heap.size A W wr) (fun i _=>xs.length-(intOf i).toNat)
   case atStart=>grind
   case round=>
    obtain⟨k,hk,rfl,di,hw⟩:=hrel;rcases BR k xs.length with CL | dq
    .obtain⟨b',o',rfl,hrk⟩:=wS k CL;have c2:=hw.cell hb.2 hv;have fl:=ki eL xs (k+1);have fn:=RQ (f:=eL) CL;have fe:=Aa List.length fn;rw[Ac]at fe
     go_wp2_with ((first | go_at_call 123 | go_at_call 121 | go_at_call 126 | go_at_call 128 | go_at_call 130 | go_at_fn 123 | go_at_fn 121 | go_at_fn 126 | go_at_fn 128 | go_at_fn 130);(refine(hx _ (Am CL) g A b' _ (l++uL xs.length++(xs.take k).flatMap eL) _ ?_ ?_ ?_ ?_).mono ?_;exact h.step di hw;exact fun b o q=>⟨AF (hg b o q).1 hw.size,(hg b o q).2⟩;exact Wz hg hw hrk;(simp only[Ac];omega);rintro e w' ⟨rfl,ny,kz⟩))
     go_roundw
     all_goals grind [intOf,Go.Proofs.MR.trans]
    .obtain rfl:k=xs.length:=I
     go_wp2
     exact bodyPost_end (results_none rfl _ _ _) rfl ⟨rfl,by simp_all,hw⟩
structure Aaq(q:Rq):Prop where
 i:∀s∈q.set,HB s.1/\HB s.2
 n:q.set.length<=10^6
theorem yV(x:Rq)(hq:Aaq x):WC 121 (Ak x) (I3 x):=by
 intro g A b off l W h hg hr hs;have hb:=(hg _ _ (Nw hr 0 _ rfl).1);have CL:=h.lt;unfold I3 at hs⊢;have tn:=mv ⟨A,0,none⟩;have tm:=mu ⟨A,0,none⟩;have p0:=L9 hr 0 _ rfl;have r1:O g W DS (.cptr [sl Y x.set]) (pA b (off+1)):=by
  obtain⟨q1,v,q2,q3⟩:=Nw hr 1 _ rfl;cases hr with
  |cptr _ _ _ _ val hc hp=>exact .cptr _ _ b _ (fun j=>val (1+j)) (fun j av e=>by grind) (fun j av e=>hp (1+j) av aa2)
 simp only[Ac]at hs;have Aez:∀args w,(callFunc 123 args).run prog w=.ok (.enter 123 args) w:=enters_of func123 aa5 rfl
 go_enter func121,ntmps121
 go_wp2
 go_region_with (go_at_call 436;(refine(Oe A b (off+0) x.path l _ ?_ ?_ aa2).mono ?_;exact h.drew;exact p0;rintro e w1 ⟨rfl,ao,c1⟩))
 all_goals (have d1:MR W.heap.size A W w1:=c1.undrew)
 all_goals (have h1:=h.step ao d1)
 all_goals go_wp2_with (go_at_call 122;(refine(Rn .a (fun _=>rfl) x.set (fun s hs=>yX s (hq.i s hs).1 (hq.i s hs).2) hq.n g A b (off+1) (l++tL x.path) _ ?_ ?_ ?_ ?_).mono ?_;exact h1;exact fun b o q=>⟨AF (hg b o q).1 d1.size,(hg b o q).2⟩;exact Wz hg d1 r1;(simp only[Ac];omega);rintro e w2 ⟨rfl,ny,c2⟩))
 all_goals exact bodyPost_end (results_none rfl _ _ _) rfl ⟨rfl,by simp_all,d1.trans c2⟩
theorem jx(xs:List Rq)(hx:∀x∈xs,WC 121 (Ak x) (I3 x))(hn:xs.length<=10^6):WF 120 121 [sl Ak xs] (G9 I3 xs):=Rn .b (fun _=>rfl) xs hx hn
theorem jy(xs:List Lo)(hx:∀x∈xs,WC 126 (Cr x) (MD x))(hn:xs.length<=10^6):WF 125 126 [sl Cr xs] (G9 MD xs):=Rn .c (fun _=>rfl) xs hx hn
theorem jz(xs:List Nf)(hx:∀x∈xs,WC 128 (A8 x) (Oj x))(hn:xs.length<=10^6):WF 127 128 [sl A8 xs] (G9 Oj xs):=Rn .d (fun _=>rfl) xs hx hn
theorem jA(xs:List Sk)(hx:∀x∈xs,WC 130 (AT x) (Rv x))(hn:xs.length<=10^6):WF 129 130 [sl AT xs] (G9 Rv xs):=Rn .e (fun _=>rfl) xs hx hn
end Go.Proofs
namespace Go.Proofs
open Go.Proofs.Tryz
open Go.Shelf Go.RowKit Go.Lib Go.Sort Go.Eng
structure gv(l:Lk):Prop where
 rq:∀q∈l.roots,Aaq q
 lo:∀e∈l.ents,HB e.ver.b/\HB e.ver.c
 nf:∀i∈l.infs,HB i.kind/\HB i.place/\HB i.number/\HB i.left/\HB i.right
 sk:∀s∈l.skips,HB s.place/\HB s.inf
 n1:l.roots.length<=10^6
 n2:l.ents.length<=10^6
 n3:l.infs.length<=10^6
 n4:l.skips.length<=10^6
theorem lQ{g:D}{W:World}{cs:List AV}{b off:Nat}(h:O g W DS (.cptr cs) (pA b off))(k:Nat)(ZU : List AV)(e:∀(j:Nat) (av:AV),ZU[j]?=some av->cs[k+j]?=some av):O g W DS (.cptr ZU) (pA b (off+k)):=by
 cases h with
 |cptr _ _ _ _ val hc hp=>exact .cptr _ _ b _ (fun j=>val (k+j)) (fun j av q=>by grind) (fun j av q=>hp (k+j) av (e j av q))
theorem aW{cs:List AV}{x:AV}{k:Nat}(h:cs[k]?=some x):∀(j:Nat) (av:AV),[x][j]?=some av->cs[k+j]?=some av:=fun j av e=>by
 grind
theorem rg{g:D}{A:Nat}{W w' : World}(hg:∀b o,g.S b o->b<W.heap.size/\b≠A)(h:MR W.heap.size A W w'):∀b o,g.S b o->b<w'.heap.size/\b≠A:=
 fun b o q=>⟨AF (hg b o q).1 h.size,(hg b o q).2⟩
theorem uV(x:Lk)(hx:gv x)(g:D)(A b:Nat)(l:List UInt8)(W:World)(h:XM A l W)(hg:∀b o,g.S b o->b<W.heap.size/\b≠A)(hr:O g W DS (.cptr (Bu x)) (pA b 0))(hs:(l++I0 x).length<2^63) :
  Calls prog 63 #[ifW A,pA b 0] W (XN A (l++I0 x) W):=by
 have r0:O g W DS (.cptr [sl Ak x.roots]) (pA b 0):=lQ hr 0 _ (aW rfl);have r1:O g W DS (.cptr [sl Cr x.ents]) (pA b 1):=lQ hr 1 _ (aW rfl);have r2:O g W DS (.cptr [sl A8 x.infs]) (pA b 2):=lQ hr 2 _ (aW rfl);have r3:O g W DS (.cptr [sl AT x.skips]) (pA b 3):=lQ hr 3 _ (aW rfl);unfold I0 at hs⊢;simp only[Ac]at hs
 go_enter func63,ntmps63
 go_wp2_with (first
  |(go_at_call 120;refine(jx x.roots (fun q hq=>yV q (hx.rq q hq)) hx.n1 g A b 0 l _ h hg r0 aa2).mono ?_;rintro e w1 ⟨rfl,ao,b1⟩;have h1:=h.step ao b1;have g1:=rg hg b1)
  |(go_at_call 125;refine(jy x.ents (fun q hq=>Ad0 q (hx.lo q hq).1 (hx.lo q hq).2) hx.n2 g A b 1 _ _ h1 g1 (Wz hg b1 r1) aa2).mono ?_;rintro e w2 ⟨rfl,ny,b2⟩;have h2:=h1.step ny b2;have c2:=b1.trans b2;have g2:=rg hg c2)
  |(go_at_call 127;refine(jz x.infs (fun q hq=>Ad1 q (hx.nf q hq).1 (hx.nf q hq).2.1 (hx.nf q hq).2.2.1 (hx.nf q hq).2.2.2.1 (hx.nf q hq).2.2.2.2) hx.n3 g A b 2 _ _ h2 g2 (Wz hg c2 r2) aa2).mono ?_;rintro e w3 ⟨rfl,hA3,b3⟩;have h3:=h2.step hA3 b3;have c3:=c2.trans b3;have g3:=rg hg c3)
  |(go_at_call 129;refine(jA x.skips (fun q hq=>yW q (hx.sk q hq).1 (hx.sk q hq).2) hx.n4 g A b 3 _ _ h3 g3 (Wz hg c3 r3) aa2).mono ?_;rintro e w4 ⟨rfl,hA4,b4⟩))
 exact bodyPost_end (results_none rfl _ _ _) rfl ⟨rfl,by simp_all,c3.trans b4⟩
theorem jM{g:D}{W:World}{U:Nat->Prop}{cs:List AV}{x:Value}(h:O g W U (.agg cs) x):∃vs:Array Value,x=.agg vs/\vs.size=cs.length/\∀(i:Nat) (av:AV) (v:Value),cs[i]?=some av->vs[i]?=some v->O g W U av v/\v.oneCell'=true:=by
 grind [cases O]
theorem Zj{g g' : D}{B:Nat}{W w' : World}(hg:∀b o,g.S b o->b<B/\g'.S b o)(h:Below B W w'){U:Nat->Prop}(hU:∀i,¬U i){av:AV}{x:Value}(r:O g W U av x):O g' w' DS av x:=by
 refine r.mono (fun b o hs=>?_) (fun i q=>(hU i q).elim) (fun i q=>(hU i q).elim)
 grind [World.cell?,Go.RowKit.Below.block]
theorem pJ(x:Lk)(t:Bool)(hx:t=true->gv x)(hf:PC 48 [.agg (Bu x)] (Q t))(hs:t=true->(I0 x).length<2^63)(g:D)(W:World)(U:Nat->Prop)(hU:∀i,¬U i)(v0 v1 v2 v3:Value)(hr:O g W U (.agg (Bu x)) (.agg #[v0,v1,v2,v3]))(hg:∀b o,g.S b o->b<W.heap.size)(hM:HM W) :
  Calls prog 27 #[.agg #[v0,v1,v2,v3]] W fun e w'=>e=.returned (.tuple #[.string (bif t then bB (I0 x)else mt),.int .i64 (bif t then 0 else 1)])/\Below W.heap.size W w':=by
 obtain⟨W1,zz⟩:∃W1,W1=W.alloc (.cells #[v0,v1,v2,v3] 33):=⟨_,rfl⟩;have b1:Below W.heap.size W W1:=by grind [Below.refl,Go.RowKit.Below.alloc]
 have z1:W1.heap.size=W.heap.size+1:=aa0
 have k1:W1.heap[W.heap.size]?=some (.cells #[v0,v1,v2,v3] 33):=by grind [Dk]
 have m1:HM W1:=hM.imp fun m hm=>by
  grind [World.cell?,Go.RowKit.Below.block]
 have ra:O (aj W1) W1 DS (.agg (Bu x)) (.agg #[v0,v1,v2,v3]):=Zj (fun b o q=>⟨hg b o q,AF (hg b o q) b1.size⟩) b1 hU hr;have rc:O (aj W1) W1 DS (.cptr (Bu x)) (pA W.heap.size 0):=by
  obtain⟨vs,e1,e2,e3⟩:=jM ra
  injection e1 with e1
  subst e1;have hc:∀(j:Nat) (av:AV),(Bu x)[j]?=some av->∃v,(#[v0,v1,v2,v3]:Array Value)[j]?=some v:=fun j av q=>by
   grind
  refine .cptr _ _ _ _ (fun j=>(#[v0,v1,v2,v3]:Array Value)[j]?.getD undef) (fun j av q=>?_) (fun j av q=>?_)
  all_goals obtain⟨v,hv⟩:=hc j av q
  .have ev:(#[v0,v1,v2,v3]:Array Value)[j]?.getD undef=v:=aa0
   rw[ev];refine⟨show W.heap.size<W1.heap.size by omega,?_,(e3 j av v q hv).2⟩;simp_all
  .have ev:(#[v0,v1,v2,v3]:Array Value)[j]?.getD undef=v:=aa0
   rw[ev];exact(e3 j av v q hv).1
 have HW:Hid _:=zz;have zE:Calls prog 48 #[.agg #[v0,v1,v2,v3]] W1 fun e w'=>e=.returned (.bool t)/\Below W1.heap.size W1 w':=by
  grind [GY,Go.Calls.mono,O.v_eq]
 go_enter func27,ntmps27
 cases t with
 |false=>
  go_wp2_with (go_at_call 48;rw[<-HW.out];refine zE.mono ?_;rintro e w2 ⟨rfl,b2⟩)
  go_ret2
  exact⟨rfl,b1.trans (b2.mono I)⟩
 |true=>
  have Uh:=hx rfl;have iw:=hs rfl
  go_wp2_with (first
   |(go_at_call 48;rw[<-HW.out];refine zE.mono ?_;rintro e w2 ⟨rfl,b2⟩;have k2:w2.heap[W.heap.size]?=some (.cells #[v0,v1,v2,v3] 33):=(b2.block _ I).trans k1;have z2:W.heap.size<w2.heap.size:=aa2)
   |(go_at_call 63;refine(uV x Uh (aj W1) w2.heap.size W.heap.size [] _ ?_ ?_ ?_ ?_).mono ?_;exact⟨Dk _ _,(HM.below m1 b2).alloc _⟩;exact(fun b o q=>⟨by have:b<W1.heap.size:=q;grind [Go.World.size_alloc],by have:b<W1.heap.size:=q;omega⟩);exact Zj (fun b o q=>⟨q,q⟩) (b2.alloc b2.size _) (fun _ h=>h) rc;simpa using iw;rintro e w4 ⟨rfl,hA4,b4⟩;have c4:w4.cell? ⟨w2.heap.size,0,none⟩=some (.string (bB (I0 x))):=Lib.cell_of_heap hA4 0))
  go_ret2
  have z4:(w2.alloc (.cells #[.string ⟨#[]⟩] 121)).heap.size=w2.heap.size+1:=aa1
  exact⟨rfl,(b1.trans (b2.mono I)).trans ⟨b4.os,b4.tape,b4.output,by grind,fun k hk=>(b4.block k I I).trans (Below.heap_alloc _ _ _ I)⟩⟩
theorem Aie{g:D}{W:World}{U:Nat->Prop}{a b c d:AV}{x:Value}(h:O g W U (.agg [a,b,c,d]) x):∃v0 v1 v2 v3,x=.agg #[v0,v1,v2,v3]:=by
 obtain⟨vs,rfl,h1,_⟩:=jM h;have h1:vs.size=4:=h1;refine⟨vs[0],vs[1],vs[2],vs[3],Aa Value.agg (PL I fun j j1 j2=>?_)⟩
 grind
theorem W8(x:Lk)(t:Bool)(hx:t=true->gv x)(hf:PC 48 [.agg (Bu x)] (Q t))(hs:t=true->(I0 x).length<2^63):PC 27 [.agg (Bu x)] (.tup [Go.Eng.vs (bif t then bB (I0 x)else mt),G (bif t then 0 else 1)]):=by
 refine⟨NO func27 aa5 rfl,fun g w us hz hv hI=>?_⟩;have hz:us.size=1:=hz;have h0:=hv 0 _ (us[0]' I) rfl (BB I);obtain⟨v0,v1,v2,v3,hu0⟩:=Aie h0;have hu:us=#[.agg #[v0,v1,v2,v3]]:=by
  grind
 rw[hu0]at h0;subst hu;refine(pJ x t hx hf hs g w _ (fun i h=>h rfl) v0 v1 v2 v3 h0 hI.slt hI.glob.1.2).mono ?_
 rintro e w' ⟨rfl,q⟩
 have hK:D8 g w g w':=fun b o hb=>by
  grind [World.cell?,CH.slt,Go.RowKit.Below.block]
 refine⟨_,_,Ab,g,rfl,⟨rfl,rfl⟩,.tup _ _ _ rfl fun i av x e1 e2=>?_,⟨q.os,q.tape,q.output,q.size,fun b hb _=>q.block b hb,fun b o hs=>AF (hI.slt b o hs) q.size,fun _=>trivial,fun _ _ _ h=>h.elim,fun _ _ h=>h.elim,fun b o hs=>.inl hs,hI.glob.keep hK⟩,⟨.refl _ _,fun _ h=>h,hK⟩⟩
 grind [O.v]
end Go.Proofs
namespace Go.Eng
open Go.Proofs
variable {x:List F}{α:Type}{f:α->Bool}{l:List Lo}{k i:Nat}
abbrev zrR:F:=⟨⟨#[]⟩,⟨0,0,0⟩,[],⟨#[]⟩,⟨#[]⟩,⟨#[]⟩,false⟩
def N7(x:List F)(e:Lo):F:=(BG x (DH e)).getD zrR
theorem Acw{e:Lo}{r:F}(h:BG x (DH e)=some r):N7 x e=r:=by grind [N7]
theorem Aa9(h:k<l.length):(0:Int)<=(k:Int)/\((l.map (N7 x)).map Ay)[((k:Nat):Int).toNat]?=some (Ay (N7 x l[k])):=by
 simp_all
theorem x7(h:i<l.length):(l.take (i+1)).map (N7 x)=(l.take i).map (N7 x)++[N7 x l[i]]:=by grind [List.take_succ_eq_append_getElem]
section
variable {x:List F}{l:Lk}
theorem AgJ(h:¬(AU x=0/\Cz l=true)):1=pH x l:=by
 grind [pH]
theorem AlX(h1:AU x=0)(h2:Cz l=true)(hi:i<l.ents.length)(h:BG x (DH l.ents[i])=none):6=pH x l:=by
 grind [pH]
theorem AcQ(h:∀j (hj:j<l.ents.length),(BG x (DH l.ents[j])).isSome=true):l.ents.all (fun e=>(BG x (DH e)).isSome)=true:=AZ.2 fun e he=>by
 grind [List.mem_iff_getElem]
theorem qa{e:Lo}(h:(BG x (DH e)).isSome=true):Oo x e=(decide (e.arch=(N7 x e).arch)&&decide (e.ifc=(N7 x e).ifc)):=by
 grind [Oo,N7]
theorem AgK(h1:AU x=0)(h2:Cz l=true)(h3:∀j (hj:j<l.ents.length),(BG x (DH l.ents[j])).isSome=true)(hk:k<l.ents.length)(h:Oo x l.ents[k]=false):9=pH x l:=by
 unfold pH;rw[AB aa0,AB (by rw[AcQ h3];decide),AO]
 grind
theorem AgI(h1:AU x=0)(h2:Cz l=true)(h3:∀j (hj:j<l.ents.length),(BG x (DH l.ents[j])).isSome=true)(h:∀k (hk:k<l.ents.length),Oo x l.ents[k]=true):pH x l=if HT x l.roots (UZ l)≠0 then 18 else 0:=by
 grind [pH,List.mem_iff_getElem]
end
theorem Ah6(x:List F)(ifs:C0)(l:Lk)(_hx:∀r∈x,Jz r)(_hxl:CC x)(h47:PC 47 [.agg (Ic x ifs)] (G (AU x)))(h40:∀p v,PC 40 [.agg (Ic x ifs),vs p,.agg (Ir v)] (OK (BG x ⟨p,v⟩)))(h48:PC 48 [.agg (Bu l)] (Q (Cz l)))(h49:PC 49 [.agg (Ic x ifs),sl Ak l.roots,.agg [Q true,sl Ar (JS l),sl A8 l.infs,sl AT l.skips]] (G (HT x l.roots (UZ l))))(wS:l.ents.length<=10^6):PC 18 [.agg (Ic x ifs),.agg (Bu l)] (G (pH x l)):=by
 refine Ps (pT [2,3] [(5,9)] [12]) Tryz.func18 rfl C4 (U (C1 (H h47 (J (fun h1=>?_) (fun h1=>?_)))))
 .exact Da.of_eq (Aa G (AgJ (fun c=>h1 c.1)))
 have h1:((AU x):Int)=(0:Int):=AH h1;refine U (Be (Bt (Cz l)) (fun h3=>?_) (fun h3=>?_))
 .refine C1 (H (cb h3 h48) (M {q:Nat // q<=l.ents.length/\(∀j (hj:j<l.ents.length),j<q->(BG x (DH l.ents[j])).isSome=true)} (M (fun q=>⟨[(2,.ref 2 0),(3,.ref 3 0),(5,.slice (.id 5 9) (((l.ents.take q.1).map (N7 x)).map Ay)),(21,sl Cr l.ents),(22,G (l.ents.map Cr).length),(23,G q.1)],[(2,.ro (Ic x ifs)),(3,.ro (Bu l)),(5,.tok 9 ((l.ents.take q.1).map (N7 x)).length)],Ab⟩) (M (fun q=>l.ents.length-q.1) (J (M ⟨0,Ai _,fun j _ h=>absurd h (Cv _)⟩ ?_) ?_)))))
  .exact⟨Z6,Z3,Fh,X⟩
  intro⟨i,i1,i2⟩;have i2:∀j (hj:j<l.ents.length),j<i->(BG x (DH l.ents[j])).isSome=true:=i2;have hT:((l.ents.take i).map (N7 x)).length<=10^6:=(by rw[Lm,Bf];omega);refine J (fun h4=>?_) (fun h4=>?_)
  .have n4:i<l.ents.length:=Gj h4;refine M (Cr l.ents[i]) (J (IM n4) (J rfl (U (U (U (U (Be (Sr (BG x ⟨l.ents[i].path,l.ents[i].ver⟩)) (fun h5=>?_) (fun h5=>?_))))))))
   .refine AE h5 (fun r h5=>?_);have ru:=(h40 l.ents[i].path l.ents[i].ver);rw[h5]at ru;refine C1 (H ru (U (U (J (cp rfl (show((l.ents.take i).map (N7 x)).length<=2147483647 by omega) aa3) (J (Ii i I) ?_)))));have er:((l.ents.take i).map (N7 x))++[r]=((l.ents.take (i+1)).map (N7 x)):=by rw[x7 n4,Acw h5]
    refine M ⟨i+1,n4,fun j hj h=>by rcases BR j i with h2 | h2;exact i2 j hj h2;have e:j=i:=I;subst e;rw[h5];rfl⟩ ?_;exact⟨Dl l.ents.length i I,⟨Z,Z,⟨(show AV.slice (.id 5 9) ((((l.ents.take i).map (N7 x)).map Ay)++[(Ay r)])=.slice (.id 5 9) (((l.ents.take (i+1)).map (N7 x)).map Ay) by rw[<-er,Au];rfl),rfl⟩,Z,Z,Z,X⟩,⟨Z,Z,⟨(show HO.tok 9 ((((l.ents.take i).map (N7 x)).map Ay).length+([(Ay r)]:C0).length)=.tok 9 ((l.ents.take (i+1)).map (N7 x)).length by rw[<-er];simp),rfl⟩,X⟩,Fh,X⟩
   have ru:=(h40 l.ents[i].path l.ents[i].ver);rw[h5]at ru;refine C1 (H ru (U ?_));exact Da.of_eq (Aa G (AlX h1 h3 n4 h5))
  have h4:¬((i:Int)<((l.ents.map Cr).length:Int)):=h4;have n4:=D6 h4;have ei:l.ents.take i=l.ents:=AD (BL (D6 h4));have i3:∀j (hj:j<l.ents.length),(BG x (DH l.ents[j])).isSome=true:=fun j hj=>i2 j hj (AF hj (BL (D6 h4)));refine cU [(2,.ref 2 0),(3,.ref 3 0),(5,.slice (.id 5 9) ((l.ents.map (N7 x)).map Ay))] [(2,.ro (Ic x ifs)),(3,.ro (Bu l)),(5,.tok 9 (l.ents.map (N7 x)).length)] ⟨Z,Z,⟨(show AV.slice (.id 5 9) (((l.ents.take i).map (N7 x)).map Ay)=AV.slice (.id 5 9) ((l.ents.map (N7 x)).map Ay) by rw[ei]),rfl⟩,X⟩ ⟨Z,Z,⟨(show HO.tok 9 ((l.ents.take i).map (N7 x)).length=HO.tok 9 (l.ents.map (N7 x)).length by rw[ei]),rfl⟩,X⟩ ?_
  refine M {q:Nat // q<=l.ents.length/\(∀j (hj:j<l.ents.length),j<q->Oo x l.ents[j]=true)} (M (fun q=>⟨[(2,.ref 2 0),(3,.ref 3 0),(5,.slice (.id 5 9) ((l.ents.map (N7 x)).map Ay)),(44,sl Cr l.ents),(45,G (l.ents.map Cr).length),(46,G q.1)],[(2,.ro (Ic x ifs)),(3,.ro (Bu l)),(5,.tok 9 (l.ents.map (N7 x)).length)],Ab⟩) (M (fun q=>l.ents.length-q.1) (J (M ⟨0,Ai _,fun j _ h=>absurd h (Cv _)⟩ ?_) ?_)))
  .exact⟨Z6,Z3,Fh,X⟩
  intro⟨k,k1,k2⟩;have k1:k<=l.ents.length:=k1;have k2:∀j (hj:j<l.ents.length),j<k->Oo x l.ents[j]=true:=k2;refine J (fun h9=>?_) (fun h9=>?_)
  .have n9:k<l.ents.length:=Gj h9;refine M (Cr l.ents[k]) (J (IM n9) (J rfl (U (U (M (Ay (N7 x l.ents[k])) (J (Aa9 n9) (J rfl (J (fun H1=>?_) (fun H1=>?_)))))))))
   .have H1:(l.ents[k].arch:CS)≠(N7 x l.ents[k]).arch:=H1;refine J aa5 ?_;have eA:Oo x l.ents[k]=false:=by rw[qa (i3 k n9),Al H1];rfl
    exact Da.of_eq (Aa G (AgK h1 h3 i3 n9 eA))
   have H1:(l.ents[k].arch:CS)=(N7 x l.ents[k]).arch:=AH H1;refine M (Ay (N7 x l.ents[k])) (J (Aa9 n9) (J rfl (J (fun NU=>?_) (fun NU=>?_))))
   .have NU:(l.ents[k].ifc:CS)≠(N7 x l.ents[k]).ifc:=NU;refine J aa5 ?_;have eA:Oo x l.ents[k]=false:=by rw[qa (i3 k n9),Aq H1,Al NU];rfl
    exact Da.of_eq (Aa G (AgK h1 h3 i3 n9 eA))
   have NU:(l.ents[k].ifc:CS)=(N7 x l.ents[k]).ifc:=AH NU;refine J aa5 (J (Ii k I) ?_);have eA:Oo x l.ents[k]=true:=by rw[qa (i3 k n9),Aq H1,Aq NU];rfl
   refine M ⟨k+1,n9,fun j hj h=>by rcases BR j k with h2 | h2;exact k2 j hj h2;have e:j=k:=I;subst e;exact eA⟩ ?_;exact⟨Dl l.ents.length k I,Z6,Z3,Fh,X⟩
  have h9:¬((k:Int)<((l.ents.map Cr).length:Int)):=h9;have n9:=D6 h9;refine U (U (H (AgV l wS) (H h49 (J (fun Pd=>?_) (fun Pd=>?_)))))
  .have Pd:((HT x l.roots (UZ l)):Int)≠(0:Int):=Pd;refine J aa5 ?_;exact Da.of_eq (Aa G (show 18=pH x l by rw[AgI h1 h3 i3 (fun j hj=>k2 j hj (AF hj (BL (D6 h9)))),AO Pd]))
  have Pd:((HT x l.roots (UZ l)):Int)=(0:Int):=AH Pd;refine J aa5 ?_;exact Da.of_eq (Aa G (show 0=pH x l by rw[AgI h1 h3 i3 (fun j hj=>k2 j hj (AF hj (BL (D6 h9)))),AB (fun h=>h Pd)]))
 have h3:(Cz l)=false:=h3;refine C1 (H (cb h3 h48) ?_);exact Da.of_eq (Aa G (AgJ (fun c=>by have q:=h3;rw[c.2]at q;cases q)))
theorem bQ(p:CS)(hp:Er p):PC 60 [vs p] (match AR p with | none=>.tup [vs ⟨#[]⟩,G 0,G 4] | some m=>.tup [vs (V7 p),G m,G 0]):=by
 have q:=Aeb p hp;unfold Yw at q;cases e:AR p with
 |none=>rw[e]at q;exact q
 |some m=>rw[e]at q;exact q
theorem NJ{l:List α}(h:∀j (hj:j<l.length),f l[j]=true):l.all f=true:=AZ.2 fun e he=>by
 obtain⟨j,hj,rfl⟩:=Fc.1 he;exact h j hj
theorem Eo{l:List α}{j:Nat}(hj:j<l.length)(h:f l[j]=false):¬l.all f=true:=fun c=>by
 have q:=AZ.1 c _ (Am hj);rw[h]at q;cases q
theorem uR(l:Lk)(zP:∀q∈l.roots,J5 q)(hes:∀e∈l.ents,Er e.path)(wS:l.ents.length<=10^6)(rC:l.infs.length<=10^6)(VO:l.skips.length<=10^6):PC 26 [.agg (Bu l)] (G (if Cz l=true then 0 else 1)):=by
 refine Ps (pC [1] [3,10,16]) Tryz.func26 rfl C4 (C1 (H (c68 Ab9 Aba l.roots zP) (J (fun h1=>?_) (fun h1=>?_))))
 .exact Da.of_eq (Aa G (show 1=if Cz l=true then 0 else 1 by rw[CB (fun c=>h1 c.1)];rfl))
 have h1:((Bb l.roots):Int)=(0:Int):=AH h1;refine J (fun h3=>?_) (fun h3=>?_)
 .have n3:1024<l.ents.length:=by have q:=h3;rw[Lm]at q;omega
  exact Da.of_eq (Aa G (show 1=if Cz l=true then 0 else 1 by rw[CB (fun c=>absurd c.2.1 (by have q:=h3;rw[Lm]at q;omega))];rfl))
 have n3:¬1024<l.ents.length:=by have q:=h3;rw[Lm]at q;omega
 refine J (fun h5=>?_) (fun h5=>?_)
 .have n5:65536<l.infs.length:=by have q:=h5;rw[Lm]at q;omega
  exact Da.of_eq (Aa G (show 1=if Cz l=true then 0 else 1 by rw[CB (fun c=>absurd c.2.2.1 (by have q:=h5;rw[Lm]at q;omega))];rfl))
 have n5:¬65536<l.infs.length:=by have q:=h5;rw[Lm]at q;omega
 refine J (fun h7=>?_) (fun h7=>?_)
 .have n7:65536<l.skips.length:=by have q:=h7;rw[Lm]at q;omega
  exact Da.of_eq (Aa G (show 1=if Cz l=true then 0 else 1 by rw[CB (fun c=>absurd c.2.2.2.1 (by have q:=h7;rw[Lm]at q;omega))];rfl))
 have h7:¬((65536:Int)<((l.skips.map AT).length:Int)):=h7;have n7:¬65536<l.skips.length:=by have q:=h7;rw[Lm]at q;omega
 refine U (C1 (H (AcY l wS) (Be (Bt (B5 (JS l))) (fun h9=>?_) (fun h9=>?_))))
 .have h9:(B5 (JS l))=true:=h9;refine C1 (H (cb h9 (c80 (JS l) (by show(l.ents.map DH).length<=_;rw[Lm];omega))) (cU [(1,.ref 1 0)] [(1,.ro (Bu l))] Z1 Z1 (M {q:Nat // q<=l.ents.length/\∀j (h:j<l.ents.length),j<q->G0 l.ents[j]=true} (M (fun q=>⟨[(1,.ref 1 0),(3,G q.1)],[(1,.ro (Bu l))],Ab⟩) (M (fun q=>l.ents.length-q.1) (J (M ⟨0,Ai _,fun j _ h=>absurd h (Cv _)⟩ ?_) ?_))))))
  .exact⟨Z2,Z1,Fh,X⟩
  intro⟨i,i1,i2⟩;have i1:i<=l.ents.length:=i1;have i2:∀j (h:j<l.ents.length),j<i->G0 l.ents[j]=true:=i2;refine J (fun KH=>?_) (fun KH=>?_)
  .have n10:i<l.ents.length:=Gj KH;refine M (Cr l.ents[i]) (J (IM n10) (J rfl (U (U (Be (Sr (AR l.ents[i].path)) (fun H1=>?_) (fun H1=>?_))))))
   .refine AE H1 (fun mj H1=>?_);have rp:=(bQ l.ents[i].path (hes _ (Am n10)));rw[H1]at rp;refine C1 (H rp (J (fun h=>absurd h aa3) (fun _=>?_)));refine U (Be (Bt (Cf l.ents[i].ver)) (fun Qx=>?_) (fun Qx=>?_))
    .have Qx:(Cf l.ents[i].ver)=true:=Qx;refine C1 (H (cb Qx (Aea l.ents[i].ver)) (J (fun Rt=>?_) (fun Rt=>?_)))
     .have Rt:(l.ents[i].ver.a:Int)≠(mj:Int):=Rt;have eV:G0 l.ents[i]=false:=by rw[G0,show AR l.ents[i].path=some mj from H1,Al (fun e=>Rt (EH e).symm)];rfl
      exact Da.of_eq (Aa G (show 1=if Cz l=true then 0 else 1 by rw[CB (fun c=>Eo n10 eV c.2.2.2.2.1.2)];rfl))
     have Rt:(l.ents[i].ver.a:Int)=(mj:Int):=AH Rt;refine Be (Bt (Dr l.ents[i].arch)) (fun Ru=>?_) (fun Ru=>?_)
     .have Ru:(Dr l.ents[i].arch)=true:=Ru;refine C1 (H (cb Ru (mr l.ents[i].arch)) (Be (Bt (Dr l.ents[i].ifc)) (fun RT=>?_) (fun RT=>?_)))
      .have RT:(Dr l.ents[i].ifc)=true:=RT;refine C1 (H (cb RT (mr l.ents[i].ifc)) (J (Ii i I) ?_));have eV:G0 l.ents[i]=true:=by rw[G0,show AR l.ents[i].path=some mj from H1,Aq (Aa some (show mj=l.ents[i].ver.a from Rt.symm)),Qx,Ru,RT];rfl
       refine M ⟨i+1,n10,fun j hj h=>by rcases BR j i with h2 | h2;exact i2 j hj h2;have e:j=i:=I;subst e;exact eV⟩ ?_;exact⟨Dl l.ents.length i I,Z2,Z1,Fh,X⟩
      have RT:(Dr l.ents[i].ifc)=false:=RT;refine C1 (H (cb RT (mr l.ents[i].ifc)) ?_);have eV:G0 l.ents[i]=false:=by rw[G0,show AR l.ents[i].path=some mj from H1,Aq (Aa some (show mj=l.ents[i].ver.a from Rt.symm)),Qx,Ru,RT];rfl
      exact Da.of_eq (Aa G (show 1=if Cz l=true then 0 else 1 by rw[CB (fun c=>Eo n10 eV c.2.2.2.2.1.2)];rfl))
     have Ru:(Dr l.ents[i].arch)=false:=Ru;refine C1 (H (cb Ru (mr l.ents[i].arch)) ?_);have eV:G0 l.ents[i]=false:=by rw[G0,show AR l.ents[i].path=some mj from H1,Aq (Aa some (show mj=l.ents[i].ver.a from Rt.symm)),Qx,Ru];rfl
     exact Da.of_eq (Aa G (show 1=if Cz l=true then 0 else 1 by rw[CB (fun c=>Eo n10 eV c.2.2.2.2.1.2)];rfl))
    have Qx:(Cf l.ents[i].ver)=false:=Qx;refine C1 (H (cb Qx (Aea l.ents[i].ver)) ?_);have eV:G0 l.ents[i]=false:=by rw[G0,Qx];simp
    exact Da.of_eq (Aa G (show 1=if Cz l=true then 0 else 1 by rw[CB (fun c=>Eo n10 eV c.2.2.2.2.1.2)];rfl))
   have rp:=(bQ l.ents[i].path (hes _ (Am n10)));rw[H1]at rp;refine C1 (H rp (J (fun _=>?_) (fun h=>absurd aa3 h)));have eV:G0 l.ents[i]=false:=by rw[G0,show AR l.ents[i].path=none from H1];rfl
   exact Da.of_eq (Aa G (show 1=if Cz l=true then 0 else 1 by rw[CB (fun c=>Eo n10 eV c.2.2.2.2.1.2)];rfl))
  have KH:¬((i:Int)<((l.ents.map Cr).length:Int)):=KH;have n10:=D6 KH;refine cU [(1,.ref 1 0)] [(1,.ro (Bu l))] Z1 Z1 (M {q:Nat // q<=l.infs.length/\∀j (h:j<l.infs.length),j<q->OJ l.infs[j]=true} (M (fun q=>⟨[(1,.ref 1 0),(8,G q.1)],[(1,.ro (Bu l))],Ab⟩) (M (fun q=>l.infs.length-q.1) (J (M ⟨0,Ai _,fun j _ h=>absurd h (Cv _)⟩ ?_) ?_))))
  .exact⟨Z2,Z1,Fh,X⟩
  intro⟨k,k1,k2⟩;have k1:k<=l.infs.length:=k1;have k2:∀j (h:j<l.infs.length),j<k->OJ l.infs[j]=true:=k2;refine J (fun h22=>?_) (fun h22=>?_)
  .have n22:k<l.infs.length:=Gj h22;refine M (A8 l.infs[k]) (J (IM n22) (J rfl (U (U (J (fun h23=>?_) (fun h23=>?_))))))
   .have h23:(l.infs[k].kind:Int)<(0:Int):=h23;have eV:OJ l.infs[k]=false:=by unfold OJ;exact Al (fun c=>by have q:=h23;omega)
    exact Da.of_eq (Aa G (show 1=if Cz l=true then 0 else 1 by rw[CB (fun c=>Eo n22 eV c.2.2.2.2.2.1)];rfl))
   have h23:¬((l.infs[k].kind:Int)<(0:Int)):=h23;refine J (fun ii=>?_) (fun ii=>?_)
   .have ii:(3:Int)<(l.infs[k].kind:Int):=ii;have eV:OJ l.infs[k]=false:=by unfold OJ;exact Al (fun c=>by have q:=ii;omega)
    exact Da.of_eq (Aa G (show 1=if Cz l=true then 0 else 1 by rw[CB (fun c=>Eo n22 eV c.2.2.2.2.2.1)];rfl))
   have ii:¬((3:Int)<(l.infs[k].kind:Int)):=ii;refine J (fun VE=>?_) (fun VE=>?_)
   .have VE:(64:Int)<(l.infs[k].path.size:Int):=VE;have eV:OJ l.infs[k]=false:=by unfold OJ;exact Al (fun c=>by have q:=VE;omega)
    exact Da.of_eq (Aa G (show 1=if Cz l=true then 0 else 1 by rw[CB (fun c=>Eo n22 eV c.2.2.2.2.2.1)];rfl))
   have VE:¬((64:Int)<(l.infs[k].path.size:Int)):=VE;refine J (fun h29=>?_) (fun h29=>?_)
   .have h29:(l.infs[k].place:Int)<(0:Int):=h29;have eV:OJ l.infs[k]=false:=by unfold OJ;exact Al (fun c=>by have q:=h29;omega)
    exact Da.of_eq (Aa G (show 1=if Cz l=true then 0 else 1 by rw[CB (fun c=>Eo n22 eV c.2.2.2.2.2.1)];rfl))
   have h29:¬((l.infs[k].place:Int)<(0:Int)):=h29;refine J (fun h31=>?_) (fun h31=>?_)
   .have h31:(l.infs[k].number:Int)<(0:Int):=h31;have eV:OJ l.infs[k]=false:=by unfold OJ;exact Al (fun c=>by have q:=h31;omega)
    exact Da.of_eq (Aa G (show 1=if Cz l=true then 0 else 1 by rw[CB (fun c=>Eo n22 eV c.2.2.2.2.2.1)];rfl))
   have h31:¬((l.infs[k].number:Int)<(0:Int)):=h31;refine J (fun dh=>?_) (fun dh=>?_)
   .have dh:(l.infs[k].left:Int)<(0:Int):=dh;have eV:OJ l.infs[k]=false:=by unfold OJ;exact Al (fun c=>by have q:=dh;omega)
    exact Da.of_eq (Aa G (show 1=if Cz l=true then 0 else 1 by rw[CB (fun c=>Eo n22 eV c.2.2.2.2.2.1)];rfl))
   have dh:¬((l.infs[k].left:Int)<(0:Int)):=dh;refine J (fun h35=>?_) (fun h35=>?_)
   .have h35:(l.infs[k].right:Int)<(0:Int):=h35;have eV:OJ l.infs[k]=false:=by unfold OJ;exact Al (fun c=>by have q:=h35;omega)
    exact Da.of_eq (Aa G (show 1=if Cz l=true then 0 else 1 by rw[CB (fun c=>Eo n22 eV c.2.2.2.2.2.1)];rfl))
   have h35:¬((l.infs[k].right:Int)<(0:Int)):=h35;refine J (Ii k I) ?_;have eV:OJ l.infs[k]=true:=by unfold OJ;exact Aq (by have q0:=h23;have q1:=ii;have q2:=VE;have q3:=h29;have q4:=h31;have q5:=dh;have q6:=h35;omega)
   refine M ⟨k+1,n22,fun j hj h=>by rcases BR j k with h2 | h2;exact k2 j hj h2;have e:j=k:=I;subst e;exact eV⟩ ?_;exact⟨Dl l.infs.length k I,Z2,Z1,Fh,X⟩
  have h22:¬((k:Int)<((l.infs.map A8).length:Int)):=h22;have n22:=D6 h22;refine cU [(1,.ref 1 0)] [(1,.ro (Bu l))] Z1 Z1 (M {q:Nat // q<=l.skips.length/\∀j (h:j<l.skips.length),j<q->OO l.skips[j]=true} (M (fun q=>⟨[(1,.ref 1 0),(10,G q.1)],[(1,.ro (Bu l))],Ab⟩) (M (fun q=>l.skips.length-q.1) (J (M ⟨0,Ai _,fun j _ h=>absurd h (Cv _)⟩ ?_) ?_))))
  .exact⟨Z2,Z1,Fh,X⟩
  intro⟨m,m1,m2⟩;have m1:m<=l.skips.length:=m1;have m2:∀j (h:j<l.skips.length),j<m->OO l.skips[j]=true:=m2;refine J (fun am=>?_) (fun am=>?_)
  .have n38:m<l.skips.length:=Gj am;refine M (AT l.skips[m]) (J (IM n38) (J rfl (U (U (J (fun h39=>?_) (fun h39=>?_))))))
   .have h39:(64:Int)<(l.skips[m].path.size:Int):=h39;have eV:OO l.skips[m]=false:=by unfold OO;exact Al (fun c=>by have q:=h39;omega)
    exact Da.of_eq (Aa G (show 1=if Cz l=true then 0 else 1 by rw[CB (fun c=>Eo n38 eV c.2.2.2.2.2.2)];rfl))
   have h39:¬((64:Int)<(l.skips[m].path.size:Int)):=h39;refine J (fun h41=>?_) (fun h41=>?_)
   .have h41:(l.skips[m].place:Int)<(0:Int):=h41;have eV:OO l.skips[m]=false:=by unfold OO;exact Al (fun c=>by have q:=h41;omega)
    exact Da.of_eq (Aa G (show 1=if Cz l=true then 0 else 1 by rw[CB (fun c=>Eo n38 eV c.2.2.2.2.2.2)];rfl))
   have h41:¬((l.skips[m].place:Int)<(0:Int)):=h41;refine J (fun h43=>?_) (fun h43=>?_)
   .have h43:(l.skips[m].inf:Int)<(0:Int):=h43;have eV:OO l.skips[m]=false:=by unfold OO;exact Al (fun c=>by have q:=h43;omega)
    exact Da.of_eq (Aa G (show 1=if Cz l=true then 0 else 1 by rw[CB (fun c=>Eo n38 eV c.2.2.2.2.2.2)];rfl))
   have h43:¬((l.skips[m].inf:Int)<(0:Int)):=h43;refine J (Ii m I) ?_;have eV:OO l.skips[m]=true:=by unfold OO;exact Aq (by have q0:=h39;have q1:=h41;have q2:=h43;omega)
   refine M ⟨m+1,n38,fun j hj h=>by rcases BR j m with h2 | h2;exact m2 j hj h2;have e:j=m:=I;subst e;exact eV⟩ ?_;exact⟨Dl l.skips.length m I,Z2,Z1,Fh,X⟩
  have am:¬((m:Int)<((l.skips.map AT).length:Int)):=am;have n38:=D6 am;have eF:Cz l=true:=(VA h1 (by have q:=h3;rw[Lm]at q;omega) (by have q:=h5;rw[Lm]at q;omega) (by have q:=h7;rw[Lm]at q;omega) ⟨h9,(NJ fun j hj=>i2 j hj (AF hj (BL (D6 KH))))⟩ (NJ fun j hj=>k2 j hj (AF hj (BL (D6 h22))))).trans (NJ fun j hj=>m2 j hj (AF hj (BL (D6 am))));exact Da.of_eq (Aa G (show 0=if Cz l=true then 0 else 1 by rw[eF];rfl))
 have h9:(B5 (JS l))=false:=h9;refine C1 (H (cb h9 (c80 (JS l) (by show(l.ents.map DH).length<=_;rw[Lm];omega))) ?_);exact Da.of_eq (Aa G (show 1=if Cz l=true then 0 else 1 by rw[CB (fun c=>by have q:=h9;rw[c.2.2.2.2.1.1]at q;cases q)];rfl))
def j7(e:Lo):Bool:=decide (e.path.size<=100/\e.arch.size<=100/\e.ifc.size<=100)
def z8(i:Nf):Bool:=decide (i.path.size<=100)
def fJ(s:Sk):Bool:=decide (s.path.size<=100)
structure IE(l:Lk):Prop where
 en:l.ents.all j7=true
 nf:l.infs.all z8=true
 sk:l.skips.all fJ=true
 rq:Ef l.roots=true
 el:l.ents.length<=16
 il:l.infs.length<=300
 kl:l.skips.length<=100
open Classical in
noncomputable def Tz(l:Lk):Bool:=decide (IE l)
open Classical in
theorem LN{l:Lk}(h:¬IE l):false=Tz l:=by unfold Tz;exact(Al h).symm
open Classical in
theorem wu{l:Lk}(h:IE l):true=Tz l:=by unfold Tz;exact(Aq h).symm
theorem Ah0(l:Lk)(wS:l.ents.length<=2^30)(rC:l.infs.length<=2^30)(VO:l.skips.length<=2^30)(hrl:l.roots.length<=2^30):PC 17 [.agg (Bu l)] (Q (Tz l)):=by
 refine Ps (pC [1] [6,11,16]) Tryz.func17 rfl C4 (M {q:Nat // q<=l.ents.length/\∀j (h:j<l.ents.length),j<q->j7 l.ents[j]=true} (M (fun q=>⟨[(1,.ref 1 0),(3,G q.1)],[(1,.ro (Bu l))],Ab⟩) (M (fun q=>l.ents.length-q.1) (J (M ⟨0,Ai _,fun j _ h=>absurd h (Cv _)⟩ ?_) ?_))))
 .exact⟨Z2,Z1,Fh,X⟩
 intro⟨i,i1,i2⟩;have i1:i<=l.ents.length:=i1;have i2:∀j (h:j<l.ents.length),j<i->j7 l.ents[j]=true:=i2;refine J (fun h1=>?_) (fun h1=>?_)
 .have n1:i<l.ents.length:=Gj h1;refine M (Cr l.ents[i]) (J (IM n1) (J rfl (J (fun h2=>?_) (fun h2=>?_))))
  .have h2:(100:Int)<(l.ents[i].path.size:Int):=h2;have eV:j7 l.ents[i]=false:=by unfold j7;exact Al (fun c=>by have q:=h2;omega)
   exact Da.of_eq (Aa Q (LN (fun c=>Eo n1 eV c.en)))
  have h2:¬((100:Int)<(l.ents[i].path.size:Int)):=h2;refine M (Cr l.ents[i]) (J (IM n1) (J rfl (J (fun h4=>?_) (fun h4=>?_))))
  .have h4:(100:Int)<(l.ents[i].arch.size:Int):=h4;have eV:j7 l.ents[i]=false:=by unfold j7;exact Al (fun c=>by have q:=h4;omega)
   exact Da.of_eq (Aa Q (LN (fun c=>Eo n1 eV c.en)))
  have h4:¬((100:Int)<(l.ents[i].arch.size:Int)):=h4;refine M (Cr l.ents[i]) (J (IM n1) (J rfl (J (fun h6=>?_) (fun h6=>?_))))
  .have h6:(100:Int)<(l.ents[i].ifc.size:Int):=h6;have eV:j7 l.ents[i]=false:=by unfold j7;exact Al (fun c=>by have q:=h6;omega)
   exact Da.of_eq (Aa Q (LN (fun c=>Eo n1 eV c.en)))
  have h6:¬((100:Int)<(l.ents[i].ifc.size:Int)):=h6;refine J (Ii i I) ?_;have eV:j7 l.ents[i]=true:=by unfold j7;exact Aq (by have q0:=h2;have q1:=h4;have q2:=h6;omega)
  refine M ⟨i+1,n1,fun j hj h=>by rcases BR j i with h2 | h2;exact i2 j hj h2;have e:j=i:=I;subst e;exact eV⟩ ?_;exact⟨Dl l.ents.length i I,Z2,Z1,Fh,X⟩
 have h1:¬((i:Int)<((l.ents.map Cr).length:Int)):=h1;have n1:=D6 h1;refine cU [(1,.ref 1 0)] [(1,.ro (Bu l))] Z1 Z1 (M {q:Nat // q<=l.infs.length/\∀j (h:j<l.infs.length),j<q->z8 l.infs[j]=true} (M (fun q=>⟨[(1,.ref 1 0),(4,G q.1)],[(1,.ro (Bu l))],Ab⟩) (M (fun q=>l.infs.length-q.1) (J (M ⟨0,Ai _,fun j _ h=>absurd h (Cv _)⟩ ?_) ?_))))
 .exact⟨Z2,Z1,Fh,X⟩
 intro⟨k,k1,k2⟩;have k1:k<=l.infs.length:=k1;have k2:∀j (h:j<l.infs.length),j<k->z8 l.infs[j]=true:=k2;refine J (fun h9=>?_) (fun h9=>?_)
 .have n9:k<l.infs.length:=Gj h9;refine M (A8 l.infs[k]) (J (IM n9) (J rfl (J (fun KH=>?_) (fun KH=>?_))))
  .have KH:(100:Int)<(l.infs[k].path.size:Int):=KH;have eV:z8 l.infs[k]=false:=by unfold z8;exact Al (fun c=>by have q:=KH;omega)
   exact Da.of_eq (Aa Q (LN (fun c=>Eo n9 eV c.nf)))
  have KH:¬((100:Int)<(l.infs[k].path.size:Int)):=KH;refine J (Ii k I) ?_;have eV:z8 l.infs[k]=true:=by unfold z8;exact Aq (by have q0:=KH;omega)
  refine M ⟨k+1,n9,fun j hj h=>by rcases BR j k with h2 | h2;exact k2 j hj h2;have e:j=k:=I;subst e;exact eV⟩ ?_;exact⟨Dl l.infs.length k I,Z2,Z1,Fh,X⟩
 have h9:¬((k:Int)<((l.infs.map A8).length:Int)):=h9;have n9:=D6 h9;refine cU [(1,.ref 1 0)] [(1,.ro (Bu l))] Z1 Z1 (M {q:Nat // q<=l.skips.length/\∀j (h:j<l.skips.length),j<q->fJ l.skips[j]=true} (M (fun q=>⟨[(1,.ref 1 0),(5,G q.1)],[(1,.ro (Bu l))],Ab⟩) (M (fun q=>l.skips.length-q.1) (J (M ⟨0,Ai _,fun j _ h=>absurd h (Cv _)⟩ ?_) ?_))))
 .exact⟨Z2,Z1,Fh,X⟩
 intro⟨m,m1,m2⟩;have m1:m<=l.skips.length:=m1;have m2:∀j (h:j<l.skips.length),j<m->fJ l.skips[j]=true:=m2;refine J (fun Rt=>?_) (fun Rt=>?_)
 .have n13:m<l.skips.length:=Gj Rt;refine M (AT l.skips[m]) (J (IM n13) (J rfl (J (fun NU=>?_) (fun NU=>?_))))
  .have NU:(100:Int)<(l.skips[m].path.size:Int):=NU;have eV:fJ l.skips[m]=false:=by unfold fJ;exact Al (fun c=>by have q:=NU;omega)
   exact Da.of_eq (Aa Q (LN (fun c=>Eo n13 eV c.sk)))
  have NU:¬((100:Int)<(l.skips[m].path.size:Int)):=NU;refine J (Ii m I) ?_;have eV:fJ l.skips[m]=true:=by unfold fJ;exact Aq (by have q0:=NU;omega)
  refine M ⟨m+1,n13,fun j hj h=>by rcases BR j m with h2 | h2;exact m2 j hj h2;have e:j=m:=I;subst e;exact eV⟩ ?_;exact⟨Dl l.skips.length m I,Z2,Z1,Fh,X⟩
 have Rt:¬((m:Int)<((l.skips.map AT).length:Int)):=Rt;have n13:=D6 Rt;refine cU [(1,.ref 1 0)] [(1,.ro (Bu l))] Z1 Z1 (Be (Bt (Ef l.roots)) (fun Pd=>?_) (fun Pd=>?_))
 .have Pd:(Ef l.roots)=true:=Pd;refine C1 (H (cb Pd (c35 l.roots hrl)) (J (fun h18=>?_) (fun h18=>?_)))
  .have h18:((l.ents.map Cr).length:Int)<=(16:Int):=h18;refine J (fun ig=>?_) (fun ig=>?_)
   .have ig:((l.infs.map A8).length:Int)<=(300:Int):=ig;refine J (fun h20=>?_) (fun h20=>?_)
    .have h20:((l.skips.map AT).length:Int)<=(100:Int):=h20;exact Da.of_eq (Aa Q (wu ⟨(NJ fun j hj=>i2 j hj (AF hj (BL (D6 h1)))),(NJ fun j hj=>k2 j hj (AF hj (BL (D6 h9)))),(NJ fun j hj=>m2 j hj (AF hj (BL (D6 Rt)))),Pd,(by have q:=h18;rw[Lm]at q;omega),(by have q:=ig;rw[Lm]at q;omega),(by have q:=h20;rw[Lm]at q;omega)⟩))
    have h20:¬(((l.skips.map AT).length:Int)<=(100:Int)):=h20;exact Da.of_eq (Aa Q (LN (fun c=>absurd c.kl (by have q:=h20;rw[Lm]at q;omega))))
   have ig:¬(((l.infs.map A8).length:Int)<=(300:Int)):=ig;exact Da.of_eq (Aa Q (LN (fun c=>absurd c.il (by have q:=ig;rw[Lm]at q;omega))))
  have h18:¬(((l.ents.map Cr).length:Int)<=(16:Int)):=h18;exact Da.of_eq (Aa Q (LN (fun c=>absurd c.el (by have q:=h18;rw[Lm]at q;omega))))
 have Pd:(Ef l.roots)=false:=Pd;refine C1 (H (cb Pd (c35 l.roots hrl)) ?_);exact Da.of_eq (Aa Q (LN (fun c=>by have q:=Pd;rw[c.rq]at q;cases q)))
end Go.Eng
