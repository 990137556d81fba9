/- Lemmas for the claims of this seat, without a condition: part 30 (S25, LayDel, S26, S27, S30, S32, S33). -/
import Derived.Test.YtkmnnpmneamgoaaGreatDoorA29
import Derived.Shelf.SlicesE.DeleteFunc
import Derived.Shelf.SlGeneric
import Derived.Ground.SlgfProg
namespace Go.Eng
open Go.Proofs
theorem pG{PM:Cx}{P:Program}{N:Nat}{fn:Func}{res:AV}{b rest:Code}{st:St}(σF σ:Hy)(H0 Hn:List (Nat×HO))(gf:Nat)(caps:List AV){Xp s:Nat}{ps:Array Tmp}{EA body:Code}
  (hb:b=.block Xp (.rangeFunc (.tmp s) ps EA body)) (k1:(Ec σF&&DE st.h 0 0&&Dm σF 0 0)=true) (k2:Fo σF st.h=Ag H0 Aa) (k3:(Fb σ&&FQ σ H0)=true) (k4:FQ σ Hn=true)
  (k5:ren (Cr σF) st.h (st.t s)=.clo gf caps)
  (k6:∀(l D:Nat) (f' : FuncId) (tm:Array Value),tm.size=N→Nm P (fun g w=>w.heap[l]?=some (.loop (Ez f' tm ps EA body D .ready))∧∀i,BK g w (AM (Ag H0 Aa)) (ren (Cr σF) st.h (st.t i)) (tm.getD i undef)) σ gf
   (.v (.func (.yield l) #[] #[])::caps) (Ag H0 Aa) fun _ h'=>h'=Ag Hn Aa)
  (k7:DJ N rest=true) (k8:MK PM rest (Zy PM fn.results.toList fun r=>GI r res) ⟨fun i=>ren (Cr σF) st.h (st.t i),Ag Hn Aa⟩):y9 PM P N fn res b rest st :=
 ⟨σF,σ,H0,Hn,Xp,s,ps,EA,body,gf,caps,hb,k1,k2,k3,k4,k5,k6,k7,k8⟩
abbrev qz:Hy:=[(1000,1000),(1001,1001),(1002,1002),(1003,1003),(1004,1004),(1005,1005),(1007,1007),(1008,1008)]
abbrev qA:Hy:=[(1000,1000),(1001,1001),(1002,1002),(1003,1003),(1004,1004),(1005,1005),(3,1006),(1007,1007),(1008,1008)]
abbrev uH(roots:List Rq)(C A:List (Value×AV))(out:List (List Sl)):List (Nat×HO) :=
 [(1000,.cells (Py roots C A Kr [] 0)),(1001,.tok 6 0),(1002,.tok 1 0),(1003,.map DA []),(1004,.arr 1 []),(1005,.cells [.ref 1000 0]),(1007,.cells [.slice (.id 1008 1) (out.map BI)]),(1008,.tok 1 out.length)]
noncomputable abbrev cxw(pl:QO)(l:Nat)(Y:Gh→World→Prop):Cx:=⟨Tryz.prog,kc,pl,true,0,fun l' σ' g w=>l'=l→σ'=qA→Y g w⟩
theorem nu{roots:List Rq}{C A:List (Value×AV)}{o:List (List Sl)}{i:Nat}(h:AM (Ag (uH roots C A o) Aa) i):i=1000∨i=1001∨i=1002∨i=1003∨i=1004∨i=1005∨i=1007∨i=1008:=by
 unfold AM at h
 by_cases e0:i=1000
 ·exact .inl e0
 by_cases e1:i=1001
 ·exact .inr (.inl e1)
 by_cases e2:i=1002
 ·exact .inr (.inr (.inl e2))
 by_cases e3:i=1003
 ·exact .inr (.inr (.inr (.inl e3)))
 by_cases e4:i=1004
 ·exact .inr (.inr (.inr (.inr (.inl e4))))
 by_cases e5:i=1005
 ·exact .inr (.inr (.inr (.inr (.inr (.inl e5)))))
 by_cases e6:i=1007
 ·exact .inr (.inr (.inr (.inr (.inr (.inr (.inl e6))))))
 by_cases e7:i=1008
 ·exact .inr (.inr (.inr (.inr (.inr (.inr (.inr e7))))))
 exfalso;apply h
 simp only[Ag,Cn e0,Cn e1,Cn e2,Cn e3,Cn e4,Cn e5,Cn e6,Cn e7,Ef];rfl
theorem nv{roots:List Rq}{C A:List (Value×AV)}{o o' : List (List Sl)}{yl:Nat}{dec:List Cd}:∀i,AM (Ag (uH roots C A o) Aa) i→AM (Ag (vH roots C A yl dec o') Aa) i:=fun i h=>by
 rcases nu h with rfl | rfl | rfl | rfl | rfl | rfl | rfl | rfl<;>(intro q;cases q)
theorem tN{roots:List Rq}{C A:List (Value×AV)}{o:List (List Sl)}:∀i,AM (Ag (uH roots C A o) Aa) i→GW qA i=GW qz i:=fun i h=>by
 rcases nu h with rfl | rfl | rfl | rfl | rfl | rfl | rfl | rfl<;>rfl
theorem s30(roots:List Rq)(C A:List (Value×AV))(s:SS)(dec:List Cd)(st:List (List Sk)):Bo Tryz.prog 30 [.ref 1000 0] (Ag (H7 roots C A s dec st) Aa) fun r h'=>r=.clo 62 [.ref 2000 0]∧h'=Ag (H7 roots C A s dec st++[(2000,.cells [.ref 1000 0])]) Aa:=by
 refine CH (MN ⟨[],[],[],[],[],[],[],[],[],[],[]⟩) [(1000,1000),(1001,1001),(1002,1002),(1003,1003),(1004,1004),(1,2000)] rfl CI hm rfl Tryz.func30 (by kernel_rfl) rfl (Nz rfl) (by kernel_rfl) rfl ?_;exact Xi _ (Yi (.refl _) Zr)
set_option maxHeartbeats 4000000 in
theorem s62{x:List Rl}{roots:List Rq}{C A:List (Value×AV)}{Y0 Y:Gh→World→Prop}{yl M:Nat}(hE:qw x roots C A)(GD:∀dec out,qC (vH roots C A yl dec out) Y)
  (hy:∀dec out,dec.length≤256→out.length<M→GR Tryz.prog Y yl [sl Ak (Dp (Ap dec))] (Ag (vH roots C A yl dec out) Aa) fun r h'=>r=vb true∧h'=Ag (vH roots C A yl dec (out++[Dp (Ap dec)])) Aa)
  (tr:∀g w,Y0 (CZ qz g) w→Y (CZ qA g) w) (hM:(BS x roots (x.length+1) []).length≤M) :
  Nm Tryz.prog Y0 qz 62 [.v (.func (.yield yl) #[] #[]),.ref 1005 0] (Ag (uH roots C A []) Aa) fun _ h'=>h'=Ag (uH roots C A (Nh (BS x roots (x.length+1) []))) Aa:=by
 have Uk:=s63 hE GD hy (x.length+1) (dec:=[]) (out:=[]) (.nil x) (Nat.lt_succ_of_le (Bp _ _)) (by simpa using hM);refine da (l:=yl) (cxw ⟨[2],[],[],[],[],[],[],[],[],[],[]⟩ yl Y) qz qA rfl CI hm rfl Tryz.func62 (by kernel_rfl) rfl (Nz rfl) (by kernel_rfl) rfl rfl tr ?_;refine Yi ?_ ?_
 ·exact Nz rfl
 refine Xi (.geny qA 0) (Yi rfl (Gx.imp (Gx.pre Uk (fun g w q=>q yl rfl rfl)) ?_));intro v g q;have q1:=q.1;have q2:=q.2;subst q1;subst q2
 rfl
theorem tO{roots:List Rq}{C A:List (Value×AV)}{yl:Nat}{dec:List Cd}{o:List (List Sl)}{es:List (List AV)}{k:Nat}(h1:es=o.map BI)(h2:k=o.length) :
  Ag [(1000,.cells (Py roots C A Kr dec 0)),(1001,.tok 6 0),(1002,.tok 1 0),(1003,.map DA []),(1004,.arr 1 []),(1005,.cells [.ref 1000 0]),(1006,.cells [.clo 63 (HE yl)]),(1007,.cells [.slice (.id 1008 1) es]),(1008,.tok 1 k)] Aa=Ag (vH roots C A yl dec o) Aa:=by
 subst h1;subst h2;rfl
set_option maxHeartbeats 4000000 in
theorem pI(x:List Rl)(ifs:List (List AV))(roots:List Rq)(RD:Int)(hx:∀r∈x,Gj r)(hr:∀q∈roots,H4 q)(hv:Dc x roots=true)(br:0≤RD)(PW:RD≤1024)(hL:(BS x roots (x.length+1) []).length≤RD.toNat) :
  PC 10 [L6 x ifs,sl Al roots,vi RD] (.tup [sl BI (Nh (BS x roots (x.length+1) [])),vi 0]):=by
 obtain⟨v0,v1⟩:=K6 hv;have Mq:=tE x ifs roots hx hr;rw[hv]at Mq;refine ja (eU ⟨[3,5],[],[],[],[],[],[],[(22,(8,0,60,1))],[],[],[1,2,3,8]⟩) (MN EP) rfl CI rfl CI hm rfl rfl Tryz.func10 (by kernel_rfl) rfl (Nz rfl) (by kernel_rfl) 3 (fun _ _=>Zr) ?_;refine Xi ⟨[(1,sl Al roots),(3,.ref 3 0),(5,.ref 5 0)],[(3,.ro (Ic x ifs)),(5,.ro [vi (RD:Int)])],Aa⟩ (Yi ⟨Z3,Z2,Fh,Tv⟩ ?_)
 refine Yi (Nz rfl) ?_;refine Xi .pure (Xi _ (Yi Mq ?_));refine Yi (fun h1=>?_) (fun h1=>?_)
 ·have h1:((RD:Int):Int)<(0:Int):=h1;exact absurd h1 (by omega)
 have h1:¬(((RD:Int):Int)<(0:Int)):=h1;refine Yi (fun h2=>?_) (fun h2=>?_)
 ·have h2:(1024:Int)<((RD:Int):Int):=h2;exact absurd h2 (by omega)
 have h2:¬((1024:Int)<((RD:Int):Int)):=h2;refine Xi ⟨[(1,sl Al roots),(3,.ref 3 0),(5,.ref 5 0)],[(3,.ro (Ic x ifs)),(5,.ro [vi (RD:Int)])],Aa⟩ (Yi ⟨Z3,Z2,Fh,Tv⟩ ?_)
 refine Yi (Nz rfl) ?_;refine Xi (.gen [] 5) (Yi rfl ((uu x ifs roots hx v0).imp ?_));intro v g q;refine Bb q (fun L q=>?_);have q1:=q.2.1;have q2:=q.2.2;have qp:=q.1;subst q1;subst q2;have hE:=f7 hx hr v0 v1 qp;refine Xi (.gen [(12400,1000),(12401,1001),(12402,1002),(12403,1003),(12404,1004)] 1) (Yi rfl (Bo.imp (s30 roots (mC x) (L.map (kA x)) Kr [] []) ?_));intro v2 g2 q3;have yd:=q3.1;have ye:=q3.2;subst yd;subst ye;refine pG [(12400,1000),(12401,1001),(12402,1002),(12403,1003),(12404,1004),(12500,1005),(8,1007),(60,1008)] qz (uH roots (mC x) (L.map (kA x)) []) (uH roots (mC x) (L.map (kA x)) (Nh (BS x roots (x.length+1) []))) 62 [.ref 1005 0] rfl (by kernel_rfl) (by kernel_rfl) (by kernel_rfl) (by kernel_rfl) (by kernel_rfl) (fun l9 D9 f9 tm9 qm=>s62 (M:=RD.toNat) hE (fun dec out=>ml (σ:=eS) (by kernel_rfl) nv) (fun dec out hdl Dy=>jQ (σ:=eS) (MN EP) rfl CI hm rfl (by kernel_rfl) (by rfl) qm (by kernel_rfl) (by kernel_rfl) (by kernel_rfl) nv ?_) (mn tN) hL) (by kernel_rfl) ?_
 ·refine Yi (fun h9=>?_) (fun h9=>?_)
  ·have h9:((out.map BI).length:Int)=RD:=h9;exact absurd h9 (by rw[Lm];omega)
  have b9:BW 1 [BI (Dp (Ap dec))]∧(out.map BI).length=out.length∧((out.map BI).length+([BI (Dp (Ap dec))]:List (List AV)).length)*24≤140737488355328∧(out.map BI).length+([BI (Dp (Ap dec))]:List (List AV)).length≤9223372036854775807 :=
   ⟨⟨rfl,trivial⟩,Lm ..,by rw[Lm,AB];omega,by rw[Lm,AB];omega⟩
  refine Yi b9 ?_;refine Yi ?_ ?_
  ·exact Nz rfl
  have e9:(out++[Dp (Ap dec)]).map BI=out.map BI++[BI (Dp (Ap dec))]:=by rw[Az];rfl
  have e8:(out++[Dp (Ap dec)]).length=(out.map BI).length+1:=by rw[Ad,Lm];rfl
  exact Yi rfl (tO e9.symm e8.symm)
 exact .refl _
end Go.Eng

namespace Go.Proofs
open Go.Shelf
def Tryz.layDel_ren:Go.Shelf.Ren:=⟨fun | 10=>34 | 6=>78 | n=>n,fun | 22=>35 | 23=>3 | 25=>79 | 3=>3 | 4=>4 | 0=>0 | n=>n,fun | n=>n⟩
theorem Tryz.layDel:Go.Proofs.SlLaysH.n10 Tryz.prog Tryz.layDel_ren:={
 mixed:=by kernel_rfl
 f6:=⟨Tryz.f78.name,by decide,Tryz.func78.trans (congrArg some (by kernel_rfl))⟩
 f10:=⟨Tryz.f34.name,by decide,Tryz.func34.trans (congrArg some (by kernel_rfl))⟩
 t0:=Tryz.underlying0
 a0:=Tryz.isAgg0
 z0:=Tryz.sizeOf0
 v0:=Tryz.zeroValue0
 t3:=Tryz.underlying3
 a3:=Tryz.isAgg3
 z3:=Tryz.sizeOf3
 v3:=Tryz.zeroValue3
 t4:=Tryz.underlying4
 a4:=Tryz.isAgg4
 z4:=Tryz.sizeOf4
 v4:=Tryz.zeroValue4
 t22:=Tryz.underlying35
 a22:=Tryz.isAgg35
 z22:=Tryz.sizeOf35
 v22:=Tryz.zeroValue35
 a23:=Tryz.isAgg3
 z23:=Tryz.sizeOf3
 t25:=Tryz.underlying79
 a25:=Tryz.isAgg79
 z25:=Tryz.sizeOf79
 v25:=Tryz.zeroValue79 }
end Go.Proofs

namespace Go.Eng
open Go.Proofs Go.Shelf Go.RowKit Go.Lib Go.Sort
theorem bh(v x:Int)(B o:Nat)(W:World)(hc:W.cell? ⟨B,o,none⟩=some (.int .i64 v)) :
  FnGives Tryz.prog 36 #[.pointer (some ⟨B,o,none⟩)] #[.int .i64 x] (.bool (decide (x=v))) W:=by
 show Calls Tryz.prog 36 #[.int .i64 x,.pointer (some ⟨B,o,none⟩)] W _
 go_enter Tryz.func36,Tryz.ntmps36
 go_wp2
 have e:(x == v)=decide (x=v):=rfl
 all_goals (go_ret;exact⟨by simp_all,0,rfl⟩)
theorem px(v:Int)(B o:Nat)(w:World)(hB:B<w.heap.size)(Dk:w.cell? ⟨B,o,none⟩=some (.int .i64 v)) :
  PredAt Tryz.prog 36 #[.pointer (some ⟨B,o,none⟩)] (Value.int .i64) (fun x=>decide (x=v)) w :=
 fun W x hb=>bh v x B o W ((hb.cell (p:=⟨B,o,none⟩) hB).trans Dk)
theorem pq(v:Int)(B o uJ off size:Nat)(w:World)(hB:B<w.heap.size)(DB:B≠uJ)(Dk:w.cell? ⟨B,o,none⟩=some (.int .i64 v)) :
  PredOver Tryz.prog 36 #[.pointer (some ⟨B,o,none⟩)] (Value.int .i64) (fun x=>decide (x=v)) uJ off size w :=
 fun n os dk x _=>bh v x B o _ (by
  unfold sortWorld;rw[cell?_grow _ _ _ (by show B<(putRow _ _ _ _ _).heap.size;rw[Go.Sort.size_putRow];exact hB),cell?_putRow_other _ _ uJ off _ _ (Or.inl DB)];exact Dk)
abbrev Ce(zs:List Int)(v:Int):List Int:=zs.filter fun z=>!decide (z=v)
theorem s34(zs:List Int)(v:Int)(hl:CL zs)(DB:zs≠[]) :
  Bo Tryz.prog 34 [.msl 1000 zs.length,.clo 36 [.cptr [vi v]]] (Ag [(1000,.arr 1 (zs.map B8))] Aa) fun r h'=>r=.msl 2000 (Ce zs v).length∧h'=Ag [(1000,.dead),(2000,.arr 1 ((Ce zs v).map B8))] Aa:=by
 have hl:zs.length≤1073741824:=hl;have hE:Gi Tryz.prog 34:=fY 34 Tryz.func34 (by kernel_rfl) rfl;have HN:(Ce zs v).length≤zs.length:=Bp _ _;have IE:=Zc (P:=Tryz.prog) (f:=34) (fF:=36) (caps:=[.cptr [vi v]]) (es:=zs.map B8) (sz:=1) (n':=(Ce zs v).length) (Q:=fun ET=>ET=(Ce zs v++List.replicate (zs.length-(Ce zs v).length) 0).map B8) hE (fun e=>DB (EW.1 e)) (by rw[Lm];exact HN) ?_
 ·rw[Lm]at IE;refine⟨hE,fun g w vals q1 q2 q3=>(IE.2 g w vals q1 q2 q3).mono fun _ _ ⟨x,r,h',g',e1,⟨e2,ET,p1,p2⟩,rest⟩=>⟨x,r,h',g',e1,⟨e2,by
   rw[p2,p1,Az,Eg (by rw[Lm];exact Ao _),AC (by rw[Lm];exact Ao _)]⟩,rest⟩⟩
 ·intro g w b cap F lb hr hF hH hb hc hS Dy RQ m5;rw[Lm]at hF hc⊢;have wu:F.toList=zs.map fun z=>Value.int .i64 z:=Pj (by rw[←MO];exact hr);have oz:F=zs.toArray.map fun z=>Value.int .i64 z:=LT.1 (by rw[wu];simp);have ww:Holds (Value.int .i64) w b 0 zs.toArray:=fun j hj=>by
   have:=hH j (by rw[oz];simpa using hj)
   refine⟨this.1.trans ?_,this.2⟩;rw[oz,DV _ j (by simpa using hj),DV _ j hj];simp
  have RQ:lb.size=1:=RQ;have h0:=m5 0 (.cptr [vi v]) lb[0] rfl (Bh (by omega));obtain⟨B,o,hp,zy,Dk⟩:∃B o,lb[0]=.pointer (some ⟨B,o,none⟩)∧g.S B o∧w.cell? ⟨B,o,none⟩=some (.int .i64 v):=by
   generalize lb[0]=x at h0;cases h0 with
   |cptr _ cs B o val Dk EF =>
    have a:=Dk 0 (vi v) rfl;have e:=(EF 0 (vi v) rfl).v_eq;exact⟨B,o,rfl,a.1,by rw[←e];exact a.2.1⟩
  have w9:lb=#[.pointer (some ⟨B,o,none⟩)]:=by
   refine Sf (by simpa using RQ) fun i h1 h2=>?_
   have:i=0:=by omega
   subst this;exact hp
  have hB:=Dy B o zy;have hBb:B≠b:=fun e=>hS o (e▸zy);rw[w9]
  have hcon:=AnyE.slices_DeleteFunc Tryz.layDel (Value.int .i64) (fun _=>rfl) (fun x=>decide (x=v)) 36 #[.pointer (some ⟨B,o,none⟩)] (enters_of Tryz.func36 (by kernel_rfl) rfl) 0 Tryz.zeroValue3 b 0 cap zs.toArray w
   (px v B o w hB Dk) (pq v B o b 0 zs.toArray.size w hB hBb Dk) ww (by simp;omega) (by simpa using hc)
  refine hcon.mono ?_
  rintro e w' ⟨rfl,q,rfl⟩
  have efl:(zs.toArray.toList.filter fun x=>!decide (x=v))=Ce zs v:=by simp
  rw[efl];refine⟨rfl,(Ce zs v++List.replicate (zs.length-(Ce zs v).length) 0).toArray.map fun z=>Value.int .i64 z,_,q,#[],?_,rfl,?_,fun cs hcs=>?_,fun g w _=>?_,?_⟩
  ·rw[oz];simp;omega
  ·simp;omega
  ·obtain⟨x,_,rfl⟩:=Ar.1 hcs;rfl
  ·rw[MO];have e:((Ce zs v++List.replicate (zs.length-(Ce zs v).length) 0).toArray.map fun z=>Value.int .i64 z).toList=(Ce zs v++List.replicate (zs.length-(Ce zs v).length) 0).map fun z=>Value.int .i64 z:=by simp
   rw[e];exact Qs _ _ _ _ fun x hx=>by
    obtain⟨z,_,rfl⟩:=Ar.1 hx;rfl
  ·rw[VK,grow_empty];simp
end Go.Eng

namespace Go.Eng
open Go.Proofs
theorem vV(l:List Int)(hl:CL l):Bo Tryz.prog 35 [sl B8 l] (Ag [] Aa) fun r h'=>r=.msl 2000 l.length∧h'=Ag [(2000,.arr 1 (l.map B8))] Aa:=by
 refine CH (MN (s5 1)) [(2,2000)] rfl CI hm rfl Tryz.func35 (by kernel_rfl) rfl (Nz rfl) (by kernel_rfl) rfl ?_;have GL:BW 1 (l.map B8)∧([]:List (List AV)).length=0∧(([]:List (List AV)).length+(l.map B8).length)*8≤140737488355328∧([]:List (List AV)).length+(l.map B8).length≤9223372036854775807:=by
  refine⟨Du (enc:=B8) (n:=1) (fun _=>rfl) l,rfl,?_,?_⟩<;>simp only[Ah,Lm]<;>unfold CL at hl<;>omega
 have e1:AV.msl 2000 (([]:List (List AV)).length+(l.map B8).length)=.msl 2000 l.length:=by simp
 refine Xi 0 ?_;refine Xi 0 ?_;refine Yi ?_ ?_
 ·intro _;refine Xi ⟨[(0,sl B8 l)],[],Aa⟩ (Yi ⟨Z1,Tv,Fh,At (by kernel_rfl)⟩ ?_)
  refine Xi 2 ?_;refine Yi GL ?_;exact Xi _ (Yi (.refl _) (Yi e1 rfl))
 ·intro h;have h:l.map B8=[]:=h;refine Yi ?_ ?_
  ·refine Xi ⟨[],[],Aa⟩ (Yi ⟨trivial,trivial,fun _=>.inl rfl,At (by kernel_rfl)⟩ ?_)
   refine Xi 2 ?_;exact Xi _ (Yi (.refl _) (Yi (show AV.msl 2000 0=_ by rw[EW.1 h];rfl) (show Ag [(2000,HO.arr 1 [])] Aa=_ by rw[h])))
  ·refine Xi ⟨[(0,sl B8 l)],[],Aa⟩ (Yi ⟨Z1,Tv,Fh,At (by kernel_rfl)⟩ ?_)
   refine Xi 2 ?_;refine Yi GL ?_;exact Xi _ (Yi (.refl _) (Yi e1 rfl))
def PX(n i:Nat):List Int:=(List.range n).map fun k=>if k<i then(k:Int)else 0
@[simp] theorem RR (n i:Nat):(PX n i).length=n:=by unfold PX;simp
theorem ib(n:Nat):List.replicate ((n:Int)).toNat [vi 0]=(PX n 0).map B8:=by
 rw[AX];refine List.ext_getElem (by simp[PX]) fun k h1 h2=>?_;simp[PX]
theorem ly{n i:Nat}(h:i<n):((PX n i).map B8)[i]?=some [vi 0]:=by
 rw[AJ,PX,AJ,List.getElem?_range h];simp
theorem lz{n i:Nat}(_h:i<n):((PX n i).map B8).set i [vi (i:Nat)]=(PX n (i+1)).map B8:=by
 refine List.ext_getElem (by simp[PX]) fun k h1 h2=>?_;rw[List.getElem_set];simp only[PX,LV,List.getElem_range]
 by_cases e:i=k
 ·subst e;rw[Ax rfl,Ax (by omega)]
 ·rw[Aq e]
  by_cases q:k<i
  ·rw[Ax q,Ax (by omega)]
  ·rw[Aq q,Aq (by omega)]
def Cz(roots:List Rq)(l:List Int):List Rq:=l.filterMap fun k=>roots[k.toNat]?
theorem aq{roots:List Rq}{l:List Int}{j:Nat}{z:Int}{q:Rq}(h:l[j]?=some z)(hq:roots[z.toNat]?=some q):Cz roots (l.take (j+1))=Cz roots (l.take j)++[q]:=by
 unfold Cz;rw[Bd,h,List.filterMap_append];simp[hq]
theorem VD(roots:List Rq)(l:List Int):(Cz roots l).length≤l.length:=List.length_filterMap_le ..
theorem VE{roots:List Rq}{l:List Int}{q:Rq}(h:q∈Cz roots l):q∈roots:=by
 unfold Cz at h;obtain⟨k,_,hk⟩:=List.mem_filterMap.1 h;exact AA hk
def E7(x:List Rl)(roots:List Rq)(kept:List Int)(z:Int):List Int :=
 if Et x (Cz roots (Ce kept z))=0∧(EO x (Cz roots (Ce kept z))).found=false then Ce kept z else kept
def Ih(x:List Rl)(roots:List Rq):Nat→List Int→List Int
 |0,kept=>kept
 |i+1,kept=>Ih x roots i (E7 x roots kept (i:Nat))
def Mf(x:List Rl)(roots:List Rq):List Int:=Ih x roots roots.length (PX roots.length roots.length)
theorem Me{x:List Rl}{roots:List Rq}{i:Nat}{kept:List Int}(h:0<i):Ih x roots i kept=Ih x roots (i-1) (E7 x roots kept ((i:Int)-1)):=by
 obtain⟨m,rfl⟩:∃m,i=m+1:=⟨i-1,by omega⟩;rw[show(((m+1:Nat):Int)-1)=(m:Nat) by omega];rfl
def G5(x:List Rl)(roots:List Rq):Int:=if Et x roots≠0 then Et x roots else if(EO x roots).found=true then 8 else 0
def Nq(x:List Rl)(roots:List Rq):List Int:=if G5 x roots=0 then Mf x roots else []
theorem VP{x:List Rl}(h:Et x []=0):(EO x []).found=true:=by
 unfold Et at h;split at h
 ·rename_i hv;split at h
  ·cases h
  ·rename_i hf;unfold EO;rw[Ax ⟨hv,by simpa using hf⟩]
   rfl
 ·cases h
theorem kL{x:List Rl}{roots:List Rq}(h1:Et x roots=0)(h2:(EO x roots).found=false):PX roots.length roots.length≠[]:=by
 intro e;have hl:=RR roots.length roots.length;rw[e]at hl;have hr:roots=[]:=AK hl.symm;subst hr;rw[VP h1]at h2;cases h2
theorem Oh{x:List Rl}{roots:List Rq}{kept:List Int}{z:Int}(h:kept≠[]):E7 x roots kept z≠[]:=by
 unfold E7;split
 ·rename_i hc;intro e;rw[e]at hc
  have:=VP (x:=x) hc.1
  rw[show Cz roots []=[]from rfl]at hc;rw[this]at hc;cases hc.2
 ·exact h
structure bX(n:Nat)(kept:List Int):Prop where
 rng:∀z∈kept,0≤z∧z<n
 len:kept.length≤n
theorem bX.less{n:Nat}{kept:List Int}(h:bX n kept)(i:Int):bX n (Ce kept i) :=
 ⟨fun z hz=>h.rng z (BM.1 hz).1,Bw (Bp _ _) h.len⟩
theorem bX.step{n:Nat}{kept:List Int}(h:bX n kept)(x:List Rl)(roots:List Rq)(i:Int):bX n (E7 x roots kept i):=by
 unfold E7;split
 ·exact h.less _
 ·exact h
theorem bX.id(n:Nat):bX n (PX n n):=⟨fun z hz=>by
 unfold PX at hz;obtain⟨k,hk,rfl⟩:=Ar.1 hz;rw[Iw]at hk;rw[Ax hk];omega,by rw[RR];exact Ao _⟩
theorem Wk{x:List Rl}{roots:List Rq}{e:Int}(h:G5 x roots=e)(he:e≠0):GI (.tup [.v (.slice none 0 0),vi e]) (.tup [sl B8 (Nq x roots),vi (G5 x roots)]):=by
 unfold Nq;rw[h,Aq he];exact GI.tup ⟨.nil,.refl _,trivial⟩
theorem mR{x:List Rl}{roots:List Rq}{kept:List Int}(h:G5 x roots=0)(hk:kept=Mf x roots):GI (.tup [sl B8 kept,vi 0]) (.tup [sl B8 (Nq x roots),vi (G5 x roots)]):=by
 unfold Nq;rw[h,Ax rfl,hk];exact .refl _
set_option maxHeartbeats 4000000 in
theorem s13(x:List Rl)(ifs:List (List AV))(roots:List Rq)(hx:∀r∈x,Gj r)(hr:∀q∈roots,H4 q)(hn:roots.length≤1000000):PC 13 [L6 x ifs,sl Al roots] (.tup [sl B8 (Nq x roots),vi (G5 x roots)]):=by
 have ub:(roots.map Al).length=roots.length:=Lm _;have ld:=ut x ifs roots hx hr;obtain⟨A0,p6⟩:∃A0,A0=EO x roots:=⟨_,rfl⟩;obtain⟨e0,rU⟩:∃e0,e0=Et x roots:=⟨_,rfl⟩;have ld:PC 21 [L6 x ifs,sl Al roots] (.tup [.agg (Jw A0),vi e0]):=by rw[p6,rU];exact ld
 refine Ps ⟨[2],[(12,2)],[(30,1)],[(50,[10])],[],[],[],[],[],[(200012,8),(200016,11)],[2,4,7,11,12,14,16,21,22,23,24,25,26]⟩ Tryz.func13 rfl (Nz rfl) ?_;refine Yi (Nz rfl) ?_;refine Xi .pure (Xi _ (Yi ld ?_));refine Yi (Nz rfl) ?_;refine Xi ⟨[(1,sl Al roots),(2,.ref 2 0),(6,.ref 6 0),(7,vi (e0:Int))],[(2,.ro (Ic x ifs)),(6,.cells (Jw A0))],Aa⟩ (Yi ⟨Z4,Z2,Fh,Tv⟩ ?_)
 refine Yi (fun h1=>?_) (fun h1=>?_)
 ·have h1:((e0:Int):Int)≠(0:Int):=h1;exact Wk (show G5 x roots=e0 by unfold G5;rw[←rU,Ax h1]) h1
 have h1:((e0:Int):Int)=(0:Int):=Ch h1;refine Xi ⟨[(1,sl Al roots),(2,.ref 2 0),(6,.ref 6 0)],[(2,.ro (Ic x ifs)),(6,.cells (Jw A0))],Aa⟩ (Yi ⟨Z3,Z2,Fh,Tv⟩ ?_)
 refine Yi (fun h3=>?_) (fun h3=>?_)
 ·have h3:A0.found=true:=h3;exact Wk (show G5 x roots=8 by unfold G5;rw[←rU,←p6,Aq (fun h=>h h1),Ax h3]) (by decide)
 have h3:A0.found=false:=h3;have wi:=kL (rU.symm.trans h1) (show(EO x roots).found=false by rw[←p6];exact h3);refine Yi (show(0:Int)≤(roots.map Al).length∧((roots.map Al).length:Int)≤(roots.map Al).length∧((roots.map Al).length:Int)*8≤140737488355328∧((roots.map Al).length:Int)≤9223372036854775807 by rw[Lm];omega) ?_;refine Xi ⟨[(1,sl Al roots),(2,.ref 2 0),(8,.msl 30 roots.length)],[(2,.ro (Ic x ifs)),(30,.arr 1 ((PX roots.length 0).map B8))],Aa⟩ (Yi ⟨⟨Zr,Zr,⟨(show AV.msl 30 (List.replicate (((roots.map Al).length:Nat):Int).toNat [vi 0]).length=.msl 30 roots.length by simp),rfl⟩,Tv⟩,⟨Zr,⟨(show HO.arr 1 (List.replicate (((roots.map Al).length:Nat):Int).toNat [vi 0])=.arr 1 ((PX roots.length 0).map B8) by rw[Lm,ib]),rfl⟩,Tv⟩,Fh,Tv⟩ ?_)
 refine Xi {q:Nat // q≤roots.length} (Xi (fun q=>⟨[(1,sl Al roots),(2,.ref 2 0),(8,.msl 30 roots.length),(32,vi roots.length),(33,vi q.1)],[(2,.ro (Ic x ifs)),(30,.arr 1 ((PX roots.length q.1).map B8))],Aa⟩) (Xi (fun q=>roots.length-q.1) (Yi (Xi ⟨0,AL _⟩ ?_) ?_)))
 ·exact⟨Z5,Z2,Fh,Tv⟩
 intro⟨i,i1⟩;have i1:i≤roots.length:=i1;refine Yi (fun h5=>?_) (fun h5=>?_)
 ·have h5:(i:Int)<(roots.length:Int):=h5;have n5:i<roots.length:=by omega
  have g5:roots[i]?=some roots[i]:=Ge n5
  skip
  refine Yi (by show(0:Int)≤i∧(i:Int)<(roots.length:Nat);omega) ?_;refine Yi (show roots.length=((PX roots.length i).map B8).length by simp) (Xi [vi 0] (Yi (ly (show i<roots.length by omega)) (Yi (Nz rfl) ?_)));refine Xi ⟨[(1,sl Al roots),(2,.ref 2 0),(8,.msl 30 roots.length),(32,vi roots.length),(33,vi i)],[(2,.ro (Ic x ifs)),(30,.arr 1 (((PX roots.length i).map B8).set i [vi i]))],Aa⟩ (Yi ⟨Z5,Z2,Fh,Tv⟩ ?_)
  refine Yi (Ii i (by omega)) ?_;refine Xi ⟨i+1,by omega⟩ ?_;exact⟨Dl roots.length i (by omega),Z5,⟨Zr,⟨(Ac (HO.arr 1) (lz (show i<roots.length by have q:=h5;omega))),rfl⟩,Tv⟩,Fh,Tv⟩
 have h5:¬((i:Int)<(roots.length:Int)):=h5;have n5:¬i<roots.length:=by omega
 refine Yi (show roots.length=((PX roots.length i).map B8).length by rw[Lm,RR]) ?_;refine Xi ⟨[(1,sl Al roots),(2,.ref 2 0),(8,sl B8 (PX roots.length i))],[(2,.ro (Ic x ifs))],Aa⟩ (Yi ⟨Z3,Z1,Fh,Tv⟩ ?_)
 refine Yi (by show A9 (((roots.map Al).length:Int)-(1:Int));unfold A9;omega) ?_;refine Yi (Nz rfl) ?_;refine Xi {q:Nat×List Int // q.1≤roots.length∧bX roots.length q.2∧q.2≠[]∧Ih x roots q.1 q.2=Mf x roots} (Xi (fun q=>⟨[(1,sl Al roots),(2,.ref 2 0),(8,sl B8 q.1.2),(10,.ref 10 0)],[(2,.ro (Ic x ifs)),(10,.cells [vi ((q.1.1:Int)-1)])],Aa⟩) (Xi (fun q=>q.1.1) (Yi (Xi ⟨(roots.length,PX roots.length roots.length),Ao _,.id _,wi,rfl⟩ ?_) ?_)))
 ·exact⟨⟨Zr,Zr,⟨(show sl B8 (PX roots.length i)=sl B8 (PX roots.length roots.length) by rw[show i=roots.length by omega]),rfl⟩,Zr,Tv⟩,⟨Zr,⟨(show HO.cells [vi (((roots.map Al).length:Int)-(1:Int))]=.cells [vi ((roots.length:Int)-1)] by rw[Lm]),rfl⟩,Tv⟩,Fh,Tv⟩
 intro⟨⟨i,kept⟩,i1,k1,k2,k3⟩;have i1:i≤roots.length:=i1;have k1:bX roots.length kept:=k1;have k2:kept≠[]:=k2;have k3:Ih x roots i kept=Mf x roots:=k3;have hll:(Ce kept ((i:Int)-1)).length≤roots.length:=(k1.less _).len;refine Yi (fun h7=>?_) (fun h7=>?_)
 ·have h7:(0:Int)≤(((i:Int)-1):Int):=h7;refine Xi (.gen [] 1) (Yi rfl (Bo.imp (vV kept (by have q:=k1.len;unfold CL;omega)) ?_));intro v8 g8 q8;have q8a:=q8.1;have q8b:=q8.2;subst q8a;subst q8b;refine Xi (.gen [(14900,1000)] 1) (Yi rfl (Bo.imp (s34 kept ((i:Int)-1) (by have q:=k1.len;unfold CL;omega) k2) ?_));intro v9 g9 q9;have pC:=q9.1;have pD:=q9.2;subst pC;subst pD;refine Yi (show(Ce kept ((i:Int)-1)).length=((Ce kept ((i:Int)-1)).map B8).length by rw[Lm]) ?_;refine Xi ⟨[(1,sl Al roots),(2,.ref 2 0),(8,sl B8 kept),(10,.ref 10 0),(11,sl B8 (Ce kept ((i:Int)-1)))],[(2,.ro (Ic x ifs)),(10,.ro [vi ((i:Int)-1)])],Aa⟩ (Yi ⟨Z5,Z2,Fh,Tv⟩ ?_)
  refine Xi {q:Nat // q≤(Ce kept ((i:Int)-1)).length} (Xi (fun q=>⟨[(1,sl Al roots),(2,.ref 2 0),(8,sl B8 kept),(10,.ref 10 0),(11,sl B8 (Ce kept ((i:Int)-1))),(12,.slice (.id 12 2) ((Cz roots ((Ce kept ((i:Int)-1)).take q.1)).map Al)),(52,sl B8 (Ce kept ((i:Int)-1))),(53,vi ((Ce kept ((i:Int)-1)).map B8).length),(54,vi q.1)],[(2,.ro (Ic x ifs)),(10,.ro [vi ((i:Int)-1)]),(12,.tok 2 (Cz roots ((Ce kept ((i:Int)-1)).take q.1)).length)],Aa⟩) (Xi (fun q=>(Ce kept ((i:Int)-1)).length-q.1) (Yi (Xi ⟨0,AL _⟩ ?_) ?_)))
  ·exact⟨Z9,Z3,Fh,Tv⟩
  intro⟨j,j1⟩;have j1:j≤(Ce kept ((i:Int)-1)).length:=j1;refine Yi (fun bj=>?_) (fun bj=>?_)
  ·have bj:(j:Int)<(((Ce kept ((i:Int)-1)).map B8).length:Int):=bj;have n10:j<(Ce kept ((i:Int)-1)).length:=by have q:=bj;rw[Lm]at q;omega
   have g10:(Ce kept ((i:Int)-1))[j]?=some (Ce kept ((i:Int)-1))[j]:=Ge n10;have nj:j<(Ce kept ((i:Int)-1)).length:=by have q:=bj;rw[Lm]at q;omega
   refine Xi [vi ((Ce kept ((i:Int)-1))[j])] (Yi (Yi (Nn j) (Cg (Ge nj))) (Yi rfl ?_));have m7:(Cz roots ((Ce kept ((i:Int)-1)).take j)).length≤roots.length:=by have a:=VD roots ((Ce kept ((i:Int)-1)).take j);have b:=(k1.less ((i:Int)-1)).len;rw[AG]at a;omega
   have hz:=k1.rng _ (BM.1 (Am nj)).1;refine Bb (show ∃rq,roots[((Ce kept ((i:Int)-1))[j]).toNat]?=some rq from⟨_,Ge (show((Ce kept ((i:Int)-1))[j]).toNat<roots.length by omega)⟩) (fun rq qj=>?_);refine Xi (Al rq) (Yi (Yi hz.1 (Cg qj)) (Yi rfl ?_));refine Yi (Nz rfl) ?_;have fA:BW 2 [(Al rq)]∧((Cz roots ((Ce kept ((i:Int)-1)).take j)).map Al).length=(Cz roots ((Ce kept ((i:Int)-1)).take j)).length∧(((Cz roots ((Ce kept ((i:Int)-1)).take j)).map Al).length+([(Al rq)]:List (List AV)).length)*40≤140737488355328∧((Cz roots ((Ce kept ((i:Int)-1)).take j)).map Al).length+([(Al rq)]:List (List AV)).length≤9223372036854775807:=⟨⟨rfl,trivial⟩,(by rw[Lm]),(by simp only[Lm,Aj,Ah];omega),(by simp only[Lm,Aj,Ah];omega)⟩;refine Yi fA ?_;refine Xi ⟨[(1,sl Al roots),(2,.ref 2 0),(8,sl B8 kept),(10,.ref 10 0),(11,sl B8 (Ce kept ((i:Int)-1))),(12,.slice (.id 12 2) (((Cz roots ((Ce kept ((i:Int)-1)).take j)).map Al)++[(Al rq)])),(52,sl B8 (Ce kept ((i:Int)-1))),(53,vi ((Ce kept ((i:Int)-1)).map B8).length),(54,vi j)],[(2,.ro (Ic x ifs)),(10,.ro [vi ((i:Int)-1)]),(12,.tok 2 (((Cz roots ((Ce kept ((i:Int)-1)).take j)).map Al).length+([(Al rq)]:List (List AV)).length))],Aa⟩ (Yi ⟨Z9,Z3,Fh,Tv⟩ ?_)
   refine Yi (Ii j (by omega)) ?_;have lu:Cz roots ((Ce kept ((i:Int)-1)).take (j+1))=Cz roots ((Ce kept ((i:Int)-1)).take j)++[rq]:=aq (Ge nj) qj;refine Xi ⟨j+1,nj⟩ ?_;exact⟨by show(Ce kept ((i:Int)-1)).length-(j+1)<(Ce kept ((i:Int)-1)).length-j;omega,⟨Zr,Zr,Zr,Zr,Zr,⟨(show AV.slice (.id 12 2) ((Cz roots ((Ce kept ((i:Int)-1)).take j)).map Al++[Al rq])=.slice (.id 12 2) ((Cz roots ((Ce kept ((i:Int)-1)).take (j+1))).map Al) by rw[lu,Az];rfl),rfl⟩,Zr,Zr,Zr,Tv⟩,⟨Zr,Zr,⟨(show HO.tok 2 (((Cz roots ((Ce kept ((i:Int)-1)).take j)).map Al).length+([Al rq]:List (List AV)).length)=.tok 2 (Cz roots ((Ce kept ((i:Int)-1)).take (j+1))).length by rw[lu,Ad,Lm];rfl),rfl⟩,Tv⟩,Fh,Tv⟩
  have bj:¬((j:Int)<(((Ce kept ((i:Int)-1)).map B8).length:Int)):=bj;have n10:¬j<(Ce kept ((i:Int)-1)).length:=by have q:=bj;rw[Lm]at q;omega
  refine Xi ⟨[(1,sl Al roots),(2,.ref 2 0),(8,sl B8 kept),(10,.ref 10 0),(11,sl B8 (Ce kept ((i:Int)-1))),(12,.slice (.id 12 2) ((Cz roots ((Ce kept ((i:Int)-1)).take j)).map Al))],[(2,.ro (Ic x ifs)),(10,.ro [vi ((i:Int)-1)]),(12,.tok 2 (Cz roots ((Ce kept ((i:Int)-1)).take j)).length)],Aa⟩ (Yi ⟨Z6,Z3,Fh,Tv⟩ ?_)
  refine Yi (Nz rfl) ?_;have hs:=ut x ifs (Cz roots (Ce kept ((i:Int)-1))) hx (fun q hq=>hr q (VE hq));refine Bb (show ∃A1,A1=EO x (Cz roots (Ce kept ((i:Int)-1)))from⟨_,rfl⟩) (fun A1 cP=>?_);refine Bb (show ∃e1,e1=Et x (Cz roots (Ce kept ((i:Int)-1)))from⟨_,rfl⟩) (fun e1 rV=>?_);have hs:PC 21 [L6 x ifs,sl Al (Cz roots (Ce kept ((i:Int)-1)))] (.tup [.agg (Jw A1),vi e1]):=by rw[cP,rV];exact hs
  have hs:PC 21 [L6 x ifs,sl Al (Cz roots ((Ce kept ((i:Int)-1)).take j))] (.tup [.agg (Jw A1),vi e1]):=by rw[AC (by have q:=bj;rw[Lm]at q;omega)];exact hs
  refine Xi .pure (Xi _ (Yi hs ?_));refine Yi (Nz rfl) ?_;refine Xi ⟨[(1,sl Al roots),(2,.ref 2 0),(8,sl B8 kept),(10,.ref 10 0),(11,sl B8 (Ce kept ((i:Int)-1))),(15,.ref 15 0),(16,vi (e1:Int))],[(2,.ro (Ic x ifs)),(10,.ro [vi ((i:Int)-1)]),(15,.cells (Jw A1))],Aa⟩ (Yi ⟨Z7,Z3,Fh,Tv⟩ ?_)
  refine Yi (fun Uy=>?_) (fun Uy=>?_)
  ·have Uy:((e1:Int):Int)=(0:Int):=Uy;refine Yi (fun Vh=>?_) (fun Vh=>?_)
   ·have Vh:A1.found=true:=Vh;refine Xi ⟨[(1,sl Al roots),(2,.ref 2 0),(8,sl B8 kept),(10,.ref 10 0)],[(2,.ro (Ic x ifs)),(10,.ro [vi ((i:Int)-1)])],Aa⟩ (Yi ⟨Z4,Z2,Fh,Tv⟩ ?_)
    refine Xi ⟨[(1,sl Al roots),(2,.ref 2 0),(8,sl B8 kept),(80,vi ((i:Int)-1))],[(2,.ro (Ic x ifs))],Aa⟩ (Yi ⟨Z4,Z1,Fh,Tv⟩ ?_)
    refine Yi (Nz rfl) ?_;refine Xi ⟨[(1,sl Al roots),(2,.ref 2 0),(8,sl B8 kept),(10,.ref 10 0)],[(2,.ro (Ic x ifs)),(10,.cells [vi ((i:Int)-1)])],Aa⟩ (Yi ⟨Z4,Z2,Fh,Tv⟩ ?_)
    refine Yi (by show A9 ((((i:Int)-1):Int)-(1:Int));unfold A9;omega) ?_;refine Yi (Nz rfl) ?_;have eZ:0<i:=by omega
    have GD:E7 x roots kept ((i:Int)-1)=kept:=by unfold E7;rw[Aq];rintro⟨c1,c2⟩;rw[←cP,Vh]at c2;cases c2
    have DB:kept≠[]:=by rw[←GD];exact Oh k2
    have sc:bX roots.length kept:=by rw[←GD];exact k1.step x roots _
    have GY:Ih x roots (i-1) kept=Mf x roots:=by rw[←k3,Me eZ,GD]
    refine Xi ⟨(i-1,kept),by show i-1≤roots.length;omega,sc,DB,GY⟩ ?_;exact⟨by show(i-1)<i;omega,Z4,⟨Zr,⟨(show HO.cells [vi (((i:Int)-1)-(1:Int))]=.cells [vi (((i-1:Nat):Int)-1)] by rw[show((i-1:Nat):Int)=(i:Int)-1 by omega]),rfl⟩,Tv⟩,Fh,Tv⟩
   have Vh:A1.found=false:=Vh;refine Xi ⟨[(1,sl Al roots),(2,.ref 2 0),(10,.ref 10 0),(11,sl B8 (Ce kept ((i:Int)-1)))],[(2,.ro (Ic x ifs)),(10,.ro [vi ((i:Int)-1)])],Aa⟩ (Yi ⟨Z4,Z2,Fh,Tv⟩ ?_)
   refine Xi ⟨[(1,sl Al roots),(2,.ref 2 0),(8,sl B8 (Ce kept ((i:Int)-1))),(10,.ref 10 0)],[(2,.ro (Ic x ifs)),(10,.ro [vi ((i:Int)-1)])],Aa⟩ (Yi ⟨Z4,Z2,Fh,Tv⟩ ?_)
   refine Xi ⟨[(1,sl Al roots),(2,.ref 2 0),(8,sl B8 (Ce kept ((i:Int)-1))),(80,vi ((i:Int)-1))],[(2,.ro (Ic x ifs))],Aa⟩ (Yi ⟨Z4,Z1,Fh,Tv⟩ ?_)
   refine Yi (Nz rfl) ?_;refine Xi ⟨[(1,sl Al roots),(2,.ref 2 0),(8,sl B8 (Ce kept ((i:Int)-1))),(10,.ref 10 0)],[(2,.ro (Ic x ifs)),(10,.cells [vi ((i:Int)-1)])],Aa⟩ (Yi ⟨Z4,Z2,Fh,Tv⟩ ?_)
   refine Yi (by show A9 ((((i:Int)-1):Int)-(1:Int));unfold A9;omega) ?_;refine Yi (Nz rfl) ?_;have eZ:0<i:=by omega
   have GD:E7 x roots kept ((i:Int)-1)=(Ce kept ((i:Int)-1)):=by unfold E7;rw[Ax ⟨by rw[←rV];exact Uy,by rw[←cP];exact Vh⟩]
   have DB:(Ce kept ((i:Int)-1))≠[]:=by rw[←GD];exact Oh k2
   have sc:bX roots.length (Ce kept ((i:Int)-1)):=by rw[←GD];exact k1.step x roots _
   have GY:Ih x roots (i-1) (Ce kept ((i:Int)-1))=Mf x roots:=by rw[←k3,Me eZ,GD]
   refine Xi ⟨(i-1,(Ce kept ((i:Int)-1))),by show i-1≤roots.length;omega,sc,DB,GY⟩ ?_;exact⟨by show(i-1)<i;omega,Z4,⟨Zr,⟨(show HO.cells [vi (((i:Int)-1)-(1:Int))]=.cells [vi (((i-1:Nat):Int)-1)] by rw[show((i-1:Nat):Int)=(i:Int)-1 by omega]),rfl⟩,Tv⟩,Fh,Tv⟩
  have Uy:¬(((e1:Int):Int)=(0:Int)):=Uy;refine Xi ⟨[(1,sl Al roots),(2,.ref 2 0),(8,sl B8 kept),(10,.ref 10 0)],[(2,.ro (Ic x ifs)),(10,.ro [vi ((i:Int)-1)])],Aa⟩ (Yi ⟨Z4,Z2,Fh,Tv⟩ ?_)
  refine Xi ⟨[(1,sl Al roots),(2,.ref 2 0),(8,sl B8 kept),(80,vi ((i:Int)-1))],[(2,.ro (Ic x ifs))],Aa⟩ (Yi ⟨Z4,Z1,Fh,Tv⟩ ?_)
  refine Yi (Nz rfl) ?_;refine Xi ⟨[(1,sl Al roots),(2,.ref 2 0),(8,sl B8 kept),(10,.ref 10 0)],[(2,.ro (Ic x ifs)),(10,.cells [vi ((i:Int)-1)])],Aa⟩ (Yi ⟨Z4,Z2,Fh,Tv⟩ ?_)
  refine Yi (by show A9 ((((i:Int)-1):Int)-(1:Int));unfold A9;omega) ?_;refine Yi (Nz rfl) ?_;have eZ:0<i:=by omega
  have GD:E7 x roots kept ((i:Int)-1)=kept:=by unfold E7;rw[Aq];rintro⟨c1,c2⟩;exact Uy (rV.trans c1)
  have DB:kept≠[]:=by rw[←GD];exact Oh k2
  have sc:bX roots.length kept:=by rw[←GD];exact k1.step x roots _
  have GY:Ih x roots (i-1) kept=Mf x roots:=by rw[←k3,Me eZ,GD]
  refine Xi ⟨(i-1,kept),by show i-1≤roots.length;omega,sc,DB,GY⟩ ?_;exact⟨by show(i-1)<i;omega,Z4,⟨Zr,⟨(show HO.cells [vi (((i:Int)-1)-(1:Int))]=.cells [vi (((i-1:Nat):Int)-1)] by rw[show((i-1:Nat):Int)=(i:Int)-1 by omega]),rfl⟩,Tv⟩,Fh,Tv⟩
 have h7:¬((0:Int)≤(((i:Int)-1):Int)):=h7;have hi:i=0:=by omega
 have m0:kept=Mf x roots:=by have q:=k3;rw[hi]at q;exact q
 exact mR (show G5 x roots=0 by unfold G5;rw[←rU,←p6,Aq (fun h=>h h1),Aq (by rw[h3];decide)]) m0
end Go.Eng

namespace Go.Eng
open Go.Proofs
section
variable {x:List Rl}{roots:List Rq}
def Sj(x:List Rl)(roots:List Rq):Prop:=∃s,nD x roots s
theorem YW(hv:Dc x roots=true)(hx:x.length≤16):Et x roots=0:=by
 unfold Et;rw[Ax hv,Oe hx];rfl
theorem VO(hv:Dc x roots=true)(hx:x.length≤16):EO x roots=fo x roots:=by
 unfold EO;rw[Ax ⟨hv,Oe hx⟩]
theorem Vf(hv:Dc x roots=true)(hx:x.length≤16):(EO x roots).found=true↔Sj x roots:=by
 obtain⟨h0,h1⟩:=K6 hv;have hR:=Qz h0 h1;have hf:=Oe (roots:=roots) hx;rw[VO hv hx];unfold fo;generalize Fc x roots=o at *
 constructor
 ·intro h
  by_cases Ui:o.found=true
  ·obtain⟨_,t,sl,y2,y3,y4,y5⟩:=hR.yes Ui;have hm:o.dec∈BS x roots (x.length+1) []:=List.mem_of_head? y5;exact⟨_,(MW (.nil x) (.nil roots) _ hm).sol h0⟩
  ·rw[Aq Ui]at h;cases h
 ·rintro⟨s,hs⟩
  by_cases Ui:o.found=true
  ·rw[Ax Ui]
  ·have Ui:o.found=false:=by simpa using Ui
   obtain⟨n4,n5⟩:=(hR.no Ui).2.2 hf;have oX:DC o.ss o.res=[]:=by
    cases h:DC o.ss o.res with
    |nil=>rfl
    |cons u l =>
     rw[h]at n5
     have:=(Lk.1 n5).2 u (Ab ..)
     cases this
   have lk:DC o.ss o.res∈o.ss.drv:=AA (EY n4)
   have:=Jv hs (fun _ h=>by cases h) hR.der.der _ lk
   rw[oX]at this;cases this
theorem mA(hv:Dc x roots=true)(hx:x.length≤16):(Gs x roots=0↔Sj x roots)∧(Gs x roots=17↔¬Sj x roots):=by
 unfold Gs;rw[YW hv hx,Aq (fun h=>h rfl),←Vf hv hx]
 by_cases h:(EO x roots).found=true
 ·rw[Ax h];simp[h]
 ·rw[Aq h];simp[h]
-- numbers and roots
theorem Qm(l m:List Int):Cz roots (l++m)=Cz roots l++Cz roots m:=List.filterMap_append
end
end Go.Eng

namespace Go.Eng
open Go.Proofs
theorem M4(s:List Sl):∀cs∈s.map Ak,cs.length=4:=fun cs h=>by
 obtain⟨x,_,rfl⟩:=Ar.1 h;rfl
abbrev Qt(s:List Sl)(k:Nat):List (List AV):=((s.map Ak).take (((s.map Ak).length:Nat):Int).toNat).drop ((k:Nat):Int).toNat
abbrev jU(s:List Sl)(k:Nat):List (List AV):=((s.map Ak).take ((k:Nat):Int).toNat).drop ((0:Int)).toNat
theorem W0(s:List Sl)(k:Nat):Qt s k=(s.drop k).map Ak:=by
 unfold Qt;rw[AX,AX,AC (Ao _),List.map_drop]
theorem gM(s:List Sl)(k:Nat):jU s k=(s.take k).map Ak:=by
 unfold jU;rw[AX,show(0:Int).toNat=0 from rfl,Kx,Rx]
theorem qJ(s:List Sl)(x:Sl)(k:Nat)(h:s.length≤1073741824):BW 4 (Qt s k)∧[Ak x].length=1∧([Ak x].length+(Qt s k).length)*40≤140737488355328∧[Ak x].length+(Qt s k).length≤9223372036854775807:=by
 rw[W0];refine⟨KF (M4 _),rfl,?_,?_⟩<;>rw[Lm,B4,AB]<;>omega
theorem qK(s:List Sl)(x:Sl)(k:Nat)(hk:k≤s.length)(h:s.length≤1073741824):BW 4 ([Ak x]++Qt s k)∧(jU s k).length=((k:Nat):Int).toNat-((0:Int)).toNat∧((jU s k).length+([Ak x]++Qt s k).length)*40≤140737488355328∧(jU s k).length+([Ak x]++Qt s k).length≤9223372036854775807:=by
 rw[W0,gM];refine⟨⟨rfl,KF (M4 _)⟩,?_,?_,?_⟩
 ·rw[Lm,AG,AX];show min k s.length=k-0;omega
 ·rw[Ad,Lm,Lm,AG,B4,AB];omega
 ·rw[Ad,Lm,Lm,AG,B4,AB];omega
theorem sJ(s:List Sl)(x:Sl)(k:Nat):jU s k++([Ak x]++Qt s k)=(s.take k++([x]++s.drop k)).map Ak:=by
 rw[W0,gM,Az,Az];rfl
theorem Yj{s:List Sl}{x:Sl}{k:Nat}(hs:Pz s)(hn:∀y∈s,y.path≠x.path)(h1:∀j (hj:j<s.length),k≤j→EN x.path s[j].path=true)(h2:k=0∨∃h:k-1<s.length,EN x.path s[k-1].path=false)(hk:k≤s.length) :
  Pz (s.take k++([x]++s.drop k)):=by
 have Ul : s.Pairwise fun a b=>EN a.path b.path=true:=hs;have ht:∀y∈s.take k,EN y.path x.path=true:=fun y hy=>by
  obtain⟨j,hj,rfl⟩:=CG.1 hy;rw[H8];rw[AG]at hj;have hjs:j<s.length:=by omega
  rcases h2 with h | ⟨h,hb⟩
  ·omega
  ·have Dy:EN s[k-1].path x.path=true:=by
    cases e:EN s[k-1].path x.path with
    |true=>rfl
    |false=>exact absurd (I7 e hb) (hn _ (Am h))
   rcases BZ j (k-1)with z | z
   ·exact Ep ((Bm.1 Ul) j (k-1) hjs h z) Dy
   ·have:j=k-1:=by omega
    subst this;exact Dy
 have hd:∀y∈s.drop k,EN x.path y.path=true:=fun y hy=>by
  obtain⟨j,hj,rfl⟩:=CG.1 hy;rw[B4]at hj;rw[List.getElem_drop];exact h1 _ (by omega) (by omega)
 show(s.take k++([x]++s.drop k)).Pairwise _;rw[List.pairwise_append];refine⟨Ul.sublist (List.take_sublist _ _),?_,fun a ha b hb=>?_⟩
 ·rw[H5,Dg];exact⟨hd,Ul.sublist (List.drop_sublist _ _)⟩
 ·rw[H5]at hb;rcases AF.1 hb with rfl | hb
  ·exact ht a ha
  ·exact Ep (ht a ha) (hd b hb)
theorem Vq(s:List Sl)(x:Sl)(k:Nat):(s.take k++([x]++s.drop k)).Perm (x::s):=by
 have:=List.perm_middle (a:=x) (l₁:=s.take k) (l₂:=s.drop k)
 rw[Ek]at this;exact this
def Md(r:Rl)(l:List Sl):Bool:=r.reqs.any fun q=>l.any fun y=>decide (y.path=q.path)&&!has q.set (place y.ver)
theorem nq{l s:List Sl}{i:Nat}(hn:(l.map (·.path)).Nodup)(hp:s.Perm (l.take i))(hi:i<l.length):∀y∈s,y.path≠l[i].path:=fun y hy e=>by
 obtain⟨j,hj,rfl⟩:=CG.1 (hp.mem_iff.1 hy);rw[H8]at e;rw[AG]at hj
 have:=(Bm.1 hn) j i (by rw[Lm];omega) (by rw[Lm];exact hi) (by omega)
 rw[LV,LV]at this;exact this e
set_option maxHeartbeats 4000000 in
theorem s74(l:List Sl)(hl:CL l)(hn:(l.map (·.path)).Nodup):PC 74 [sl Ak l] (sl Ak (Dp l)):=by
 have hl:l.length≤1073741824:=hl;refine Ps ⟨[],[(3,0)],[],[],[],[],[],[],[],[],[4,7]⟩ Tryz.func74 rfl (Nz rfl) ?_;refine Xi {q:Nat×List Sl // q.1≤l.length∧q.2.Perm (l.take q.1)∧Pz q.2} (Xi (fun q=>⟨[(0,sl Ak l),(3,sl Ak q.1.2),(4,vi q.1.1)],[],Aa⟩) (Xi (fun q=>l.length-q.1.1) (Yi (Xi ⟨(0,[]),AL _,.refl _,.nil⟩ ?_) ?_)))
 ·exact⟨Z3,Tv,Fh,Tv⟩
 intro⟨⟨i,s⟩,i1,i2,i3⟩;have i1:i≤l.length:=i1;have i2:s.Perm (l.take i):=i2;have i3:Pz s:=i3;have Um:s.length≤l.length:=by have q:=i2.length_eq;rw[AG]at q;omega
 refine Yi (fun h1=>?_) (fun h1=>?_)
 ·have h1:(i:Int)<((l.map Ak).length:Int):=h1;have n1:i<l.length:=by have q:=h1;rw[Lm]at q;omega
  have g1:l[i]?=some l[i]:=Ge n1;refine Xi {q:Nat // q≤s.length∧∀j (hj:j<s.length),q≤j→EN l[i].path s[j].path=true} (Xi (fun q=>⟨[(0,sl Ak l),(3,sl Ak s),(4,vi i),(5,vi q.1)],[],Aa⟩) (Xi (fun q=>q.1) (Yi (Xi ⟨s.length,Ao _,fun j hj IL=>by omega⟩ ?_) ?_)))
  ·exact⟨⟨Zr,Zr,Zr,⟨(show vi ((s.map Ak).length:Int)=vi (s.length:Int) by rw[Lm]),rfl⟩,Tv⟩,Tv,Fh,Tv⟩
  intro⟨k,k1,k2⟩;have k1:k≤s.length:=k1;have k2:∀j (hj:j<s.length),k≤j→EN l[i].path s[j].path=true:=k2;refine Yi (fun h2=>?_) (fun h2=>?_)
  ·have h2:(0:Int)<(k:Int):=h2;refine Yi (by show A9 ((k:Int)-(1:Int));unfold A9;omega) ?_;have qf:k-1<s.length:=by omega
   refine Xi (Ak (s[k-1])) (Yi (Yi (show(0:Int)≤(k:Int)-1 by omega) (by rw[show((k:Int)-1).toNat=k-1 by omega];exact Cg (Ge qf))) (Yi rfl ?_));refine Xi (Ak l[i]) (Yi (Yi (Nn i) (Cg (Ge n1))) (Yi rfl ?_));refine Yi (fun h3=>?_) (fun h3=>?_)
   ·have h3:EN l[i].path (s[k-1]).path=true:=(Fm _ _).trans h3;refine Yi (by kernel_rfl) ?_;refine Xi ⟨[(0,sl Ak l),(3,sl Ak s),(4,vi i),(5,vi k)],[],Aa⟩ (Yi ⟨Z4,Tv,Fh,Tv⟩ ?_)
    refine Yi (by show A9 ((k:Int)-(1:Int));unfold A9;omega) ?_;refine Xi ⟨k-1,by omega,fun j hj IL=>by
      rcases BZ j k with z | z
      ·have e:j=k-1:=by omega
       subst e;exact h3
      ·exact k2 j hj z⟩ ?_
    exact⟨by show(k-1:Nat)<k;omega,⟨Zr,Zr,Zr,⟨(show vi ((k:Int)-1)=vi ((k-1:Nat):Int)from Ac vi (by omega)),rfl⟩,Tv⟩,Tv,Fh,Tv⟩
   have h3:EN l[i].path (s[k-1]).path=false:=(Fm _ _).trans (AI.2 h3);have Ik:k=0∨∃h:k-1<s.length,EN l[i].path s[k-1].path=false:=.inr ⟨qf,h3⟩;refine Yi (by kernel_rfl) ?_;refine Yi (show(0:Int)≤0∧(0:Int)≤k∧(k:Int)=k∧(k:Int)≤((s.map Ak).length:Nat) by rw[Lm];omega) (Yi (M4 s) ?_);refine Xi (Ak l[i]) (Yi (Yi (Nn i) (Cg (Ge n1))) (Yi rfl ?_));refine Yi (Nz rfl) ?_;refine Yi (show(0:Int)≤k∧(k:Int)≤((s.map Ak).length:Nat)∧(((s.map Ak).length:Nat):Int)≤((s.map Ak).length:Nat) by rw[Lm];omega) (Yi (M4 s) ?_);refine Yi (qJ s l[i] k (by omega)) ?_;refine Yi (qK s l[i] k k1 (by omega)) ?_;refine Yi (by kernel_rfl) ?_;refine Xi ⟨[(0,sl Ak l),(3,.slice .none (jU s k++([Ak l[i]]++Qt s k))),(4,vi i)],[],Aa⟩ (Yi ⟨Z3,Tv,Fh,Tv⟩ ?_)
   refine Yi (Ii i (by omega)) ?_;have ng:l.take (i+1)=l.take i++[l[i]]:=CO n1;have bt:∀y∈s,y.path≠l[i].path:=nq hn i2 n1;refine Xi ⟨(i+1,s.take k++([l[i]]++s.drop k)),n1,by show(s.take k++([l[i]]++s.drop k)).Perm (l.take (i+1));rw[ng];exact(Vq s _ k).trans ((i2.cons _).trans (Oq _ _).symm),Yj i3 bt k2 Ik k1⟩ ?_;exact⟨Dl l.length i (by omega),⟨Zr,⟨(show AV.slice .none (jU s k++([Ak l[i]]++Qt s k))=sl Ak (s.take k++([l[i]]++s.drop k))from Ac (AV.slice .none) (sJ s l[i] k)),rfl⟩,Zr,Tv⟩,Tv,Fh,Tv⟩
  have h2:¬((0:Int)<(k:Int)):=h2;have Ik:k=0∨∃h:k-1<s.length,EN l[i].path s[k-1].path=false:=.inl (by omega);refine Yi (by kernel_rfl) ?_;refine Yi (show(0:Int)≤0∧(0:Int)≤k∧(k:Int)=k∧(k:Int)≤((s.map Ak).length:Nat) by rw[Lm];omega) (Yi (M4 s) ?_);refine Xi (Ak l[i]) (Yi (Yi (Nn i) (Cg (Ge n1))) (Yi rfl ?_));refine Yi (Nz rfl) ?_;refine Yi (show(0:Int)≤k∧(k:Int)≤((s.map Ak).length:Nat)∧(((s.map Ak).length:Nat):Int)≤((s.map Ak).length:Nat) by rw[Lm];omega) (Yi (M4 s) ?_);refine Yi (qJ s l[i] k (by omega)) ?_;refine Yi (qK s l[i] k k1 (by omega)) ?_;refine Yi (by kernel_rfl) ?_;refine Xi ⟨[(0,sl Ak l),(3,.slice .none (jU s k++([Ak l[i]]++Qt s k))),(4,vi i)],[],Aa⟩ (Yi ⟨Z3,Tv,Fh,Tv⟩ ?_)
  refine Yi (Ii i (by omega)) ?_;have ng:l.take (i+1)=l.take i++[l[i]]:=CO n1;have bt:∀y∈s,y.path≠l[i].path:=nq hn i2 n1;refine Xi ⟨(i+1,s.take k++([l[i]]++s.drop k)),n1,by show(s.take k++([l[i]]++s.drop k)).Perm (l.take (i+1));rw[ng];exact(Vq s _ k).trans ((i2.cons _).trans (Oq _ _).symm),Yj i3 bt k2 Ik k1⟩ ?_;exact⟨Dl l.length i (by omega),⟨Zr,⟨(show AV.slice .none (jU s k++([Ak l[i]]++Qt s k))=sl Ak (s.take k++([l[i]]++s.drop k))from Ac (AV.slice .none) (sJ s l[i] k)),rfl⟩,Zr,Tv⟩,Tv,Fh,Tv⟩
 have h1:¬((i:Int)<((l.map Ak).length:Int)):=h1;have n1:¬i<l.length:=by have q:=h1;rw[Lm]at q;omega
 have hi:l.take i=l:=AC (by have q:=h1;rw[Lm]at q;omega);exact .of_eq (Ac (fun z=>sl Ak z) (NK i3 (M5 hn) fun y=>by rw[Ht,i2.mem_iff,hi]))
def TM(q:Rq)(y:Sl):Bool:=decide (y.path=q.path)&&!has q.set (place y.ver)
def iC(l:List Sl)(q:Rq):Bool:=l.any (TM q)
theorem lL{l:List Sl}{l0:List Sl}{y:Sl}(h:l=l0++[y]):(0:Int)≤((l.map Ak).length:Int)-1∧(l.map Ak)[(((l.map Ak).length:Int)-1).toNat]?=some (Ak y):=by
 subst h;rw[Lm,Ad,AB];refine⟨by omega,?_⟩;rw[show(((l0.length+1:Nat):Int)-1).toNat=l0.length by omega,Az,AR (by rw[Lm];exact Ao _),Lm,Fk];rfl
set_option maxHeartbeats 4000000 in
theorem yZ(x:List Rl)(ifs:List (List AV))(l l0:List Sl)(y:Sl)(r:Rl)(hx:∀r∈x,Gj r)(NY:CL x)(hl:l.length≤100000)(hly:l=l0++[y])(hr:FR x ⟨y.path,y.ver⟩=some r)(hv:∀y∈l,CJ y.ver=true)(hq:∀q∈r.reqs,CL q.set)(hrl:r.reqs.length≤100000) :
  PC 77 [L6 x ifs,sl Ak l] (vb (Md r l)):=by
 have ub:(l.map Ak).length=l.length:=Lm _;have rm:=zj x ifs y.path y.ver hx NY;rw[hr]at rm;refine Ps ⟨[2],[],[],[],[],[],[],[],[],[],[2,3,8,10]⟩ Tryz.func77 rfl (Nz rfl) ?_;refine Yi (by show A9 (((l.map Ak).length:Int)-(1:Int));unfold A9;omega) ?_;refine Xi (Ak y) (Yi (lL hly) (Yi rfl ?_));refine Yi (Nz rfl) ?_;refine Yi (Nz rfl) ?_;refine Xi ⟨[(1,sl Ak l),(2,.ref 2 0),(5,.ref 5 0)],[(2,.ro (Ic x ifs)),(5,.cells (Ak y))],Aa⟩ (Yi ⟨Z3,Z2,Fh,Tv⟩ ?_)
 refine Yi (Nz rfl) ?_;refine Yi (Nz rfl) ?_;refine Xi .pure (Xi _ (Yi rm ?_));refine Yi (Nz rfl) ?_;refine Xi ⟨[(1,sl Ak l),(6,.ref 6 0)],[(6,.cells (AY r))],Aa⟩ (Yi ⟨Z2,Z1,Fh,Tv⟩ ?_)
 refine Xi {q:Nat // q≤r.reqs.length∧∀j (hj:j<r.reqs.length),j<q→iC l r.reqs[j]=false} (Xi (fun q=>⟨[(1,sl Ak l),(6,.ref 6 0),(8,vi q.1)],[(6,.cells (AY r))],Aa⟩) (Xi (fun q=>r.reqs.length-q.1) (Yi (Xi ⟨0,AL _,fun _ _ h=>absurd h (M9 _)⟩ ?_) ?_)))
 ·exact⟨Z3,Z1,Fh,Tv⟩
 intro⟨i,i1,i2⟩;have i1:i≤r.reqs.length:=i1;have i2:∀j (hj:j<r.reqs.length),j<i→iC l r.reqs[j]=false:=i2;refine Yi (fun h1=>?_) (fun h1=>?_)
 ·have h1:(i:Int)<((r.reqs.map Al).length:Int):=h1;have n1:i<r.reqs.length:=by have q:=h1;rw[Lm]at q;omega
  have g1:r.reqs[i]?=some r.reqs[i]:=Ge n1;refine Xi {q:Nat // q≤l.length∧∀j (hj:j<l.length),j<q→TM r.reqs[i] l[j]=false} (Xi (fun q=>⟨[(1,sl Ak l),(6,.ref 6 0),(8,vi i),(9,vi q.1)],[(6,.cells (AY r))],Aa⟩) (Xi (fun q=>l.length-q.1) (Yi (Xi ⟨0,AL _,fun _ _ h=>absurd h (M9 _)⟩ ?_) ?_)))
  ·exact⟨Z4,Z1,Fh,Tv⟩
  intro⟨k,k1,k2⟩;have k1:k≤l.length:=k1;have k2:∀j (hj:j<l.length),j<k→TM r.reqs[i] l[j]=false:=k2;refine Yi (fun h2=>?_) (fun h2=>?_)
  ·have h2:(k:Int)<((l.map Ak).length:Int):=h2;have n2:k<l.length:=by have q:=h2;rw[Lm]at q;omega
   have g2:l[k]?=some l[k]:=Ge n2;refine Xi (Ak l[k]) (Yi (Yi (Nn k) (Cg g2)) (Yi rfl ?_));refine Xi (Al r.reqs[i]) (Yi (Yi (Nn i) (Cg g1)) (Yi rfl ?_));refine Yi (fun h3=>?_) (fun h3=>?_)
   ·have h3:(l[k].path:ByteArray)=r.reqs[i].path:=h3;refine Xi (Al r.reqs[i]) (Yi (Yi (Nn i) (Cg g1)) (Yi rfl ?_));refine Xi (Ak l[k]) (Yi (Yi (Nn k) (Cg g2)) (Yi rfl ?_));refine Yi (Nz rfl) ?_;refine Xi _ (Yi (tV l[k].ver (hv _ (Am n2))) ?_);refine BO (Bt (has r.reqs[i].set (place l[k].ver))) (fun h4=>?_) (fun h4=>?_)
    ·have h4:(has r.reqs[i].set (place l[k].ver))=true:=h4;have gI:=(ku r.reqs[i].set (place l[k].ver) (hq _ (Am n1)));rw[show(has r.reqs[i].set (place l[k].ver))=true from h4]at gI;refine Xi _ (Yi gI ?_);refine Yi (by kernel_rfl) ?_;refine Xi ⟨[(1,sl Ak l),(6,.ref 6 0),(8,vi i),(9,vi k)],[(6,.cells (AY r))],Aa⟩ (Yi ⟨Z4,Z1,Fh,Tv⟩ ?_)
     refine Yi (Ii k (by omega)) ?_;have sf:TM r.reqs[i] l[k]=false:=by unfold TM;rw[Av h3,h4];rfl
     refine Xi ⟨k+1,n2,fun j hj IL=>if e:j<k then k2 j hj e else by
       have e:j=k:=by omega
       subst e;exact sf⟩ ?_
     exact⟨Dl l.length k (by omega),Z4,Z1,Fh,Tv⟩
    have h4:(has r.reqs[i].set (place l[k].ver))=false:=h4;have zD:=(ku r.reqs[i].set (place l[k].ver) (hq _ (Am n1)));rw[show(has r.reqs[i].set (place l[k].ver))=false from h4]at zD;refine Xi _ (Yi zD ?_);refine Yi (by kernel_rfl) ?_;refine Xi ⟨[],[],Aa⟩ (Yi ⟨Tv,Tv,Fh,Tv⟩ ?_)
    exact .of_eq (Ac vb (show true=Md r l from(A5.2 ⟨r.reqs[i],Am n1,A5.2 ⟨l[k],Am n2,by rw[Av h3,h4];rfl⟩⟩).symm))
   have h3:¬(l[k].path:ByteArray)=r.reqs[i].path:=h3;refine Yi (by kernel_rfl) ?_;refine Xi ⟨[(1,sl Ak l),(6,.ref 6 0),(8,vi i),(9,vi k)],[(6,.cells (AY r))],Aa⟩ (Yi ⟨Z4,Z1,Fh,Tv⟩ ?_)
   refine Yi (Ii k (by omega)) ?_;have sf:TM r.reqs[i] l[k]=false:=by unfold TM;rw[Au h3];rfl
   refine Xi ⟨k+1,n2,fun j hj IL=>if e:j<k then k2 j hj e else by
     have e:j=k:=by omega
     subst e;exact sf⟩ ?_
   exact⟨Dl l.length k (by omega),Z4,Z1,Fh,Tv⟩
  have h2:¬((k:Int)<((l.map Ak).length:Int)):=h2;have n2:¬k<l.length:=by have q:=h2;rw[Lm]at q;omega
  refine Yi (Ii i (by omega)) ?_;refine Xi ⟨i+1,n1,fun j hj IL=>if e:j<i then i2 j hj e else by
    have e:j=i:=by omega
    subst e;exact CM.2 fun y hy=>by
     obtain⟨m,hm,rfl⟩:=CG.1 hy;rw[k2 m hm (by have q:=h2;rw[Lm]at q;omega)];decide⟩ ?_
  exact⟨Dl r.reqs.length i (by omega),Z3,Z1,Fh,Tv⟩
 have h1:¬((i:Int)<((r.reqs.map Al).length:Int)):=h1;have n1:¬i<r.reqs.length:=by have q:=h1;rw[Lm]at q;omega
 have hcf:Md r l=false:=CM.2 fun q hq=>by
  obtain⟨m,hm,rfl⟩:=CG.1 hq;show ¬iC l r.reqs[m]=true;rw[i2 m hm (by have q:=h1;rw[Lm]at q;omega)];decide
 exact .of_eq (Ac vb hcf.symm)
end Go.Eng

namespace Go.Eng
open Go.Proofs
def tk(F:List (List Sl))(L:List (List Cd))(m:Nat):List (List Sl):=F++(Nh L).take (m-F.length)
theorem jF(F:List (List Sl))(m:Nat):tk F [] m=F:=by unfold tk;simp
theorem aL{F:List (List Sl)}{L M:List (List Cd)}{m:Nat}(h:(tk F L m).length<m):tk F (L++M) m=tk (tk F L m) M m:=by
 have hl:(Nh L).length≤m-F.length:=by
  unfold tk at h;rw[Ad,AG]at h;omega
 have e:tk F L m=F++Nh L:=by unfold tk;rw[AC hl]
 rw[e];unfold tk;rw[show Nh (L++M)=Nh L++Nh M from Az,List.take_append,AC hl,Ad,BH,Nat.sub_sub]
theorem bQ{F:List (List Sl)}{L M:List (List Cd)}{m:Nat}(h:m≤(tk F L m).length)(hF:F.length≤m):tk F (L++M) m=tk F L m:=by
 unfold tk at h⊢;rw[Ad,AG]at h;rw[show Nh (L++M)=Nh L++Nh M from Az,Eg (by omega)]
def LP(x:List Rl)(roots:List Rq)(n:Nat)(dec:List Cd)(N:List Nd)(p:ByteArray)(r:Rl):List (List Cd):=if r.path=p∧r.yanked=false then Rf x roots n dec N ⟨plc r.ver,r⟩else []
def VZ(f:Rl→List (List Cd))(x:List Rl)(i:Nat):List (List Cd):=((x.take i).map f).flatten
theorem Y1(f:Rl→List (List Cd))(x:List Rl):VZ f x 0=[]:=rfl
theorem Pt{f:Rl→List (List Cd)}{x:List Rl}{i:Nat}(h:i<x.length):VZ f x (i+1)=VZ f x i++f x[i]:=by
 unfold VZ;rw[CO h,Az,Cc];simp
theorem IX{f:Rl→List (List Cd)}{x:List Rl}{i:Nat}(h:i<x.length)(hf:f x[i]=[]):VZ f x (i+1)=VZ f x i:=by rw[Pt h,hf,CV]
theorem V0(f:Rl→List (List Cd))(x:List Rl)(i:Nat):VZ f x x.length=VZ f x i++((x.drop i).map f).flatten:=by
 unfold VZ;rw[CN,←Cc,←Az,Ek]
theorem Zn{α:Type}(x:List Rl)(p:ByteArray)(g:Cd→List α):((Br x p).map g).flatten=(x.map fun r=>if r.path=p∧r.yanked=false then g ⟨plc r.ver,r⟩else []).flatten:=by
 induction x with
 |nil=>rfl
 |cons r x ih =>
  unfold Br at ih⊢
  by_cases h:r.path=p∧r.yanked=false
  ·rw[JV (by simp[h.1,h.2]),AN,AN,Bu,ih,AN,Bu,Ax h]
  ·rw[G0 (by simpa using h),ih,AN,Bu,Aq h];rfl
theorem ZY{x:List Rl}{roots:List Rq}{n:Nat}{dec:List Cd}{n0:Nd}{l:List Nd}(h:(DR roots dec).2=n0::l) :
  BS x roots (n+1) dec=VZ (LP x roots n dec (n0::l) (DR roots dec).1) x x.length:=by
 unfold BS VZ;rw[h,CN];exact Zn x _ _
theorem Ss{α:Type}{f g:α→Bool}:∀{l:List α},(∀a∈l,f a=g a)→l.any f=l.any g
 | [],_=>rfl
 |a::l,h=>by rw[BX,BX,h a (Ab ..),Ss fun b hb=>h b (Ai _ hb)]
section
variable {x:List Rl}{roots:List Rq}{dec:List Cd}
theorem TN(hx:Ba x=0)(hd:D6 x dec):EH x roots (Ap dec)=DH roots dec:=by
 unfold EH DH
 congr 2
 rw[BY];refine A8 fun c hc=>?_;have h:=Jh hx (hd.cand c hc).1;show Hj x (Ng c)=c.rel.reqs;unfold Hj;rw[show Ng c=FF c.rel from rfl,h]
theorem OJ{p:ByteArray}{N:List Nd}(hN:ki roots dec p N)(k:Int):GB (DH roots dec) p k=false↔∀n∈N,has n.rq.set k=true:=by
 unfold GB;rw[CM,←Jm];constructor
 ·intro h n hn;obtain⟨h1,h2⟩:=(hN.mem n).1 hn
  have:=h n.rq (Ar.2 ⟨n,h1,rfl⟩)
  rw[Av h2]at this;simpa using this
 ·intro h q hq;obtain⟨n,h1,rfl⟩:=Ar.1 hq
  by_cases h2:n.rq.path=p
  ·rw[h n ((hN.mem n).2 ⟨h1,h2⟩)];simp
  ·rw[Au h2];simp
theorem SF(hx:Ba x=0){c:Cd}(hd:D6 x (dec++[c])):Md c.rel (Ap (dec++[c]))=(Co dec c).isSome:=by
 have m7:∀d∈dec++[c],d.place=place d.rel.ver:=fun d h=>by
  have h1:=hd.cand d h;rw[h1.2.2,((CQ hx).1 _ h1.1).plc]
 have hm:∀n:Nd,TK (dec++[c]) n=(Ap (dec++[c])).any fun y=>decide (y.path=n.rq.path)&&!has n.rq.set (place y.ver):=fun n=>by
  unfold TK;rw[List.any_map];exact Ss fun d h=>by
   show _=(decide (d.rel.path=n.rq.path)&&!has n.rq.set (place d.rel.ver));rw[m7 d h]
 unfold Co;rw[List.isSome_find?];unfold Md Pg;have key:∀(l:List Rq) (i:Nat),((Lv (fun q i=>(⟨q,c.rel.path,c.place,i⟩:Nd)) i l).any (TK (dec++[c])))=l.any fun q=>(Ap (dec++[c])).any fun y=>decide (y.path=q.path)&&!has q.set (place y.ver):=fun l=>by
  induction l with
  |nil=>intro i;rfl
  |cons q l ih =>
   intro i;unfold Lv;rw[BX,BX,ih,hm]
 exact(key _ _).symm
end
end Go.Eng
