/- Lemmas 24. -/
import Derived.Test.YtkjhcikodmiceaaGreatDoorCA23
import Derived.Laws.Strings2
import Derived.Deep.RegionLaw
import Derived.Maps.AppendAt
set_option maxRecDepth 100000
set_option maxHeartbeats 4000000
namespace Go.Proofs
open Go.Proofs.Tryz
open Go.Shelf Go.RowKit Go.Lib Go.Sort Go.Eng
abbrev As3:=ByteArray
abbrev As4:=List Value
abbrev As5:=List (List Value)
abbrev Ab5:=@Lib.cell_of_heap
abbrev Af0:=@Lib.frozen_of_heap
abbrev Af5:=@Below.heap_alloc
abbrev UL(s:As3)(p:Nat)(e:Int):Obj:=.cells #[.string s,.int .i64 (p:Int),.int .i64 e] 225 (0,0)
theorem Acq{s:As3}{p R:Nat}{e:Int}{W:World}(h:W.heap[R]?=some (UL s p e)):O (aj W) W DS (.cptr [vs s,G (p:Int),G e]) (pA R 0):=by
 have CL:R<W.heap.size:=(Ag.1 h).1;refine .cptr _ _ _ _ (fun j=>(#[.string s,.int .i64 (p:Int),.int .i64 e]:Array Value)[j]?.getD undef) (fun j av q=>?_) (fun j av q=>?_)
 .refine⟨CL,?_,?_⟩
  .grind [Lib.cell_of_heap]
  .match j,q with
   |0,_ |1,_ |2,_=>rfl
 grind [O.v]
theorem NF{g:D}{W:World}{U:Nat->Prop}{vs:As4}{x:Value}(h:O g W U (.tup (vs.map .v)) x):x=.tuple vs.toArray:=by
 cases h with
 |tup _ _ us hs hr=>
  refine Aa Value.tuple (PL aa0 fun i h1 h2=>?_);have h2' : i<vs.length:=I
  have:=hr i (.v vs[i]) us[i] aa0 (BB h1)
  grind [O.v_eq]
theorem yZ(s:As3)(R p a:Nat)(e:Int)(hs:s.size<=2^62)(ha:a<=2^62)(W:World)(h:W.heap[R]?=some (UL s p e))(hM:HM W) :
  Calls prog 451 #[pA R 0,.int .i64 (a:Int)] W fun x w'=>x=.returned (.tuple #[.int .u64 ((F0 s a).1:Int),.int .i64 ((F0 s a).2.1:Int),.bool (F0 s a).2.2])/\Below W.heap.size W w':=by
 refine(GY (vals:=#[pA R 0,.int .i64 (a:Int)]) (Adm s p a e hs ha) hM rfl (fun i av x e1 e2=>?_)).mono fun x W' ⟨⟨v,g',U,e1,e2⟩,hb⟩=>⟨by rw[e1,NF (vs:=[.int .u64 ((F0 s a).1:Int),.int .i64 ((F0 s a).2.1:Int),.bool (F0 s a).2.2]) e2],hb⟩
 grind [Acq,O.v]
abbrev jp(s:As3)(a:Nat):Bool:=(F0 s a).2.2&&decide ((F0 s a).1<2^63)
theorem bR(s:As3)(R p a:Nat)(e:Int)(hs:s.size<=2^62)(ha:a<=2^62)(W:World)(h:W.heap[R]?=some (UL s p e))(hM:HM W) :
  Calls prog 448 #[pA R 0,.int .i64 (a:Int)] W fun x w'=>x=.returned (.tuple #[.int .i64 (wrap64 ((F0 s a).1:Int)),.int .i64 ((F0 s a).2.1:Int),.bool (jp s a)])/\Below W.heap.size W w':=by
 have q:=yZ s R p a e hs ha W h hM;unfold jp;generalize F0 s a=r at q⊢;obtain⟨n,k,t⟩:=r;have hz:((n:Int) / 9223372036854775808 == 0)=decide (n<2^63):=by
  grind
 go_enter func448,ntmps448
 cases t with
 |false=>
  go_wp2_with (go_at_call 451;refine q.mono ?_;rintro x w' ⟨rfl,hb⟩)
  go_ret3
  simp_all
 |true=>
  go_wp2_with (go_at_call 451;refine q.mono ?_;rintro x w' ⟨rfl,hb⟩)
  go_ret3
  simp_all
theorem t7:∀(l:List UInt8) (j m p:Nat),(MH j m p l).2.2=true->(MH j m p l).2.1<=p+l.length
 | [],_,_,_,h=>by grind [MH]
 |b::r,j,m,p,h=>by
  by_cases c1:10<=j
  .grind [MH]
  by_cases c2:j=9/\1<b.toNat
  .grind [MH]
  by_cases c3:b.toNat<128
  .grind [MH]
  .simp only[MH,AB c1,AB c2,AB c3,AK]at h⊢
   have:=t7 r _ _ _ h
   omega
theorem SE{s:As3}{a:Nat}(ha:a<=s.size)(h:(F0 s a).2.2=true):(F0 s a).2.1<=s.size:=by
 have q:(F0 s a).2.1<=_:=t7 _ _ _ _ h;simp_all
def J9(s:As3)(a:Nat):As3×Nat×Bool:=
 if jp s a=true/\(F0 s a).1<=s.size-(F0 s a).2.1 then(s.extract (F0 s a).2.1 ((F0 s a).2.1+(F0 s a).1),(F0 s a).2.1+(F0 s a).1,true)else(⟨#[]⟩,0,false)
theorem y6(s:As3)(R p a:Nat)(e:Int)(hs:s.size<=2^62)(ha:a<=s.size)(W:World)(h:W.heap[R]?=some (UL s p e))(hM:HM W) :
  Calls prog 450 #[pA R 0,.int .i64 (a:Int)] W fun x w'=>x=.returned (.tuple #[.string (J9 s a).1,.int .i64 ((J9 s a).2.1:Int),.bool (J9 s a).2.2])/\Below W.heap.size W w':=by
 have q:=bR s R p a e hs I W h hM;have Jo:=SE ha;have CL:R<W.heap.size:=(Ag.1 h).1;unfold J9;generalize hu:jp s a=u at q⊢;unfold jp at hu;generalize F0 s a=r at q Jo hu⊢;obtain⟨n,k,t⟩:=r
 go_enter func450,ntmps450
 cases u with
 |true=>
  obtain⟨rfl,h2⟩:t=true/\n<2^63:=aa0
  have Jo:k<=s.size:=Jo rfl;have hw:wrap64 (n:Int)=(n:Int):=by grind [wrap64]
  simp only[hw]at q
  by_cases h3:n<=s.size-k
  .rw[AO ⟨rfl,h3⟩];have VO:=fun wx=>run_slice_string (P:=prog) wx 9 s .i64 .i64 (k:Int) ((k:Int)+(n:Int)) underlying9 I I I;rw[show((k:Int)+(n:Int)).toNat=k+n by omega,show(k:Int).toNat=k by omega]at VO
   go_wp2_with (go_at_call 448;refine q.mono ?_;rintro x w' ⟨rfl,hb⟩;have c0:w'.cell? ⟨R,0,none⟩=some (.string s):=Ab5 ((hb.block R CL).trans h) 0)
   all_goals first | (exfalso;omega) | (go_ret3;simp_all) | trace_state
  .rw[AB (fun c=>h3 c.2)]
   go_wp2_with (go_at_call 448;refine q.mono ?_;rintro x w' ⟨rfl,hb⟩;have c0:w'.cell? ⟨R,0,none⟩=some (.string s):=Ab5 ((hb.block R CL).trans h) 0)
   all_goals first | (exfalso;omega) | (go_ret3;simp_all) | trace_state
 |false=>
  rw[AB (fun c=>Bool.false_ne_true c.1)]
  go_wp2_with (go_at_call 448;refine q.mono ?_;rintro x w' ⟨rfl,hb⟩)
  go_ret3
  simp_all
end Go.Proofs
namespace Go.Proofs
open Go.Proofs.Tryz
open Go.Shelf Go.RowKit Go.Lib Go.Sort Go.Eng
abbrev N:=Nat×Int
def tk{α:Type}(z:α)(r:α×Nat×Bool)(q:N):α×N:=if q.2=0 then(bif r.2.2 then(r.1,(r.2.1,0))else(z,(q.1,9)))else(z,q)
abbrev szR(s:As3)(a:Nat):Nat×Nat×Bool:=((F0 s a).1,(F0 s a).2.1,jp s a)
abbrev ctR(s:As3)(most a:Nat):Nat×Nat×Bool:=((F0 s a).1,(F0 s a).2.1,jp s a&&decide ((F0 s a).1<=most))
def Iw(s:As3)(q:N):Nat×N:=tk 0 (szR s q.1) q
def DB(s:As3)(q:N):As3×N:=tk ⟨#[]⟩ (J9 s q.1) q
def JR(s:As3)(most:Nat)(q:N):Nat×N:=tk 0 (ctR s most q.1) q
structure ROk(R:Nat)(s:As3)(q:N)(W:World):Prop where
 hR:W.heap[R]?=some (UL s q.1 q.2)
 hM:HM W
 hp:q.1<=s.size
 hs:s.size<=2^62
 he:q.2=0\/q.2=9
theorem ROk.lt{R:Nat}{s:As3}{q:N}{W:World}(h:ROk R s q W):R<W.heap.size:=(Ag.1 h.hR).1
theorem pc{R:Nat}{s:As3}{p:Nat}{e:Int}{W w' : World}(h:w'.heap[R]?=some (UL s p e))(hb:Below W.heap.size W w')(k:Nat)(v:Value)(p' : Nat)(e' : Int)(hk:(#[.string s,.int .i64 (p:Int),.int .i64 e]:Array Value).setIfInBounds k v=#[.string s,.int .i64 (p' : Int),.int .i64 e']) :
  (w'.setCell ⟨R,k,none⟩ v).heap[R]?=some (UL s p' e')/\MR W.heap.size R W (w'.setCell ⟨R,k,none⟩ v):=by
 grind [World.setCell,Go.Proofs.MR.mk,Go.RowKit.Below.os,Go.RowKit.Below.tape,Go.RowKit.Below.output,Go.RowKit.Below.size,Go.RowKit.Below.block]
theorem jC(R:Nat)(s:As3)(p:Nat)(e:Int)(W:World)(h:ROk R s (p,e) W)(V:Value)(n:Nat)(u:Bool)(xf:e=0->Calls prog 448 #[pA R 0,.int .i64 (p:Int)] W fun x w'=>x=.returned (.tuple #[V,.int .i64 (n:Int),.bool u])/\Below W.heap.size W w') :
  Calls prog 446 #[pA R 0,.func (.func 448) #[pA R 0] #[]] W fun x w'=>x=.returned (if e=0 then(bif u then V else .int .i64 0)else .int .i64 0)/\w'.heap[R]?=some (UL s (if e=0 then(bif u then n else p)else p) (if e=0 then(bif u then 0 else 9)else e))/\MR W.heap.size R W w':=by
 have CL:=h.lt;have c0:W.cell? ⟨R,1,none⟩=some (.int .i64 (p:Int)):=Ab5 h.hR 1;have c1:W.cell? ⟨R,2,none⟩=some (.int .i64 e):=Ab5 h.hR 2;have ef:∀args w,(callFunc 448 args).run prog w=.ok (.enter 448 args) w:=enters_of func448 aa5 rfl
 by_cases he:e=0
 .have hq:=xf he;subst he;simp only[AO];cases u with
  |true=>
   go_enter func446,ntmps446
   go_wp2_with (first | (go_at_call 448;refine hq.mono ?_;rintro x w' ⟨rfl,hb⟩;have hR:=(hb.block R CL).trans h.hR;have f1:=Af0 hR 1;have c2:=Ab5 hR 1) | (go_at_fn 448;refine hq.mono ?_;rintro x w' ⟨rfl,hb⟩;have hR:=(hb.block R CL).trans h.hR;have f1:=Af0 hR 1;have c2:=Ab5 hR 1))
   go_ret
   exact⟨rfl,pc hR hb 1 _ n 0 rfl⟩
  |false=>
   go_enter func446,ntmps446
   go_wp2_with (first | (go_at_call 448;refine hq.mono ?_;rintro x w' ⟨rfl,hb⟩;have hR:=(hb.block R CL).trans h.hR;have f1:=Af0 hR 2;have c2:=Ab5 hR 2) | (go_at_fn 448;refine hq.mono ?_;rintro x w' ⟨rfl,hb⟩;have hR:=(hb.block R CL).trans h.hR;have f1:=Af0 hR 2;have c2:=Ab5 hR 2))
   go_ret
   exact⟨rfl,pc hR hb 2 _ p 9 rfl⟩
 .simp only[AB he]
  go_enter func446,ntmps446
  go_wp2
  go_ret
  exact⟨rfl,h.hR,rfl,rfl,rfl,Af _,fun _ _ _=>rfl⟩
theorem jB(R:Nat)(B C:Nat)(s:As3)(p:Nat)(e:Int)(W:World)(h:ROk R s (p,e) W)(V:Value)(n:Nat)(u:Bool)(xf:e=0->Calls prog 447 #[.int .i64 (p:Int),pA B 0,pA C 0] W fun x w'=>x=.returned (.tuple #[V,.int .i64 (n:Int),.bool u])/\Below W.heap.size W w') :
  Calls prog 446 #[pA R 0,.func (.func 447) #[] #[pA B 0,pA C 0]] W fun x w'=>x=.returned (if e=0 then(bif u then V else .int .i64 0)else .int .i64 0)/\w'.heap[R]?=some (UL s (if e=0 then(bif u then n else p)else p) (if e=0 then(bif u then 0 else 9)else e))/\MR W.heap.size R W w':=by
 have CL:=h.lt;have c0:W.cell? ⟨R,1,none⟩=some (.int .i64 (p:Int)):=Ab5 h.hR 1;have c1:W.cell? ⟨R,2,none⟩=some (.int .i64 e):=Ab5 h.hR 2;have ef:∀args w,(callFunc 447 args).run prog w=.ok (.enter 447 args) w:=enters_of func447 aa5 rfl
 by_cases he:e=0
 .have hq:=xf he;subst he;simp only[AO];cases u with
  |true=>
   go_enter func446,ntmps446
   go_wp2_with (first | (go_at_call 447;refine hq.mono ?_;rintro x w' ⟨rfl,hb⟩;have hR:=(hb.block R CL).trans h.hR;have f1:=Af0 hR 1;have c2:=Ab5 hR 1) | (go_at_fn 447;refine hq.mono ?_;rintro x w' ⟨rfl,hb⟩;have hR:=(hb.block R CL).trans h.hR;have f1:=Af0 hR 1;have c2:=Ab5 hR 1))
   go_ret
   exact⟨rfl,pc hR hb 1 _ n 0 rfl⟩
  |false=>
   go_enter func446,ntmps446
   go_wp2_with (first | (go_at_call 447;refine hq.mono ?_;rintro x w' ⟨rfl,hb⟩;have hR:=(hb.block R CL).trans h.hR;have f1:=Af0 hR 2;have c2:=Ab5 hR 2) | (go_at_fn 447;refine hq.mono ?_;rintro x w' ⟨rfl,hb⟩;have hR:=(hb.block R CL).trans h.hR;have f1:=Af0 hR 2;have c2:=Ab5 hR 2))
   go_ret
   exact⟨rfl,pc hR hb 2 _ p 9 rfl⟩
 .simp only[AB he]
  go_enter func446,ntmps446
  go_wp2
  go_ret
  exact⟨rfl,h.hR,rfl,rfl,rfl,Af _,fun _ _ _=>rfl⟩
theorem jD(R:Nat)(s:As3)(p:Nat)(e:Int)(W:World)(h:ROk R s (p,e) W)(V:Value)(n:Nat)(u:Bool)(xf:e=0->Calls prog 450 #[pA R 0,.int .i64 (p:Int)] W fun x w'=>x=.returned (.tuple #[V,.int .i64 (n:Int),.bool u])/\Below W.heap.size W w') :
  Calls prog 449 #[pA R 0,.func (.func 450) #[pA R 0] #[]] W fun x w'=>x=.returned (if e=0 then(bif u then V else .string ⟨#[]⟩)else .string ⟨#[]⟩)/\w'.heap[R]?=some (UL s (if e=0 then(bif u then n else p)else p) (if e=0 then(bif u then 0 else 9)else e))/\MR W.heap.size R W w':=by
 have CL:=h.lt;have c0:W.cell? ⟨R,1,none⟩=some (.int .i64 (p:Int)):=Ab5 h.hR 1;have c1:W.cell? ⟨R,2,none⟩=some (.int .i64 e):=Ab5 h.hR 2;have ef:∀args w,(callFunc 450 args).run prog w=.ok (.enter 450 args) w:=enters_of func450 aa5 rfl
 by_cases he:e=0
 .have hq:=xf he;subst he;simp only[AO];cases u with
  |true=>
   go_enter func449,ntmps449
   go_wp2_with (first | (go_at_call 450;refine hq.mono ?_;rintro x w' ⟨rfl,hb⟩;have hR:=(hb.block R CL).trans h.hR;have f1:=Af0 hR 1;have c2:=Ab5 hR 1) | (go_at_fn 450;refine hq.mono ?_;rintro x w' ⟨rfl,hb⟩;have hR:=(hb.block R CL).trans h.hR;have f1:=Af0 hR 1;have c2:=Ab5 hR 1))
   go_ret
   exact⟨rfl,pc hR hb 1 _ n 0 rfl⟩
  |false=>
   go_enter func449,ntmps449
   go_wp2_with (first | (go_at_call 450;refine hq.mono ?_;rintro x w' ⟨rfl,hb⟩;have hR:=(hb.block R CL).trans h.hR;have f1:=Af0 hR 2;have c2:=Ab5 hR 2) | (go_at_fn 450;refine hq.mono ?_;rintro x w' ⟨rfl,hb⟩;have hR:=(hb.block R CL).trans h.hR;have f1:=Af0 hR 2;have c2:=Ab5 hR 2))
   go_ret
   exact⟨rfl,pc hR hb 2 _ p 9 rfl⟩
 .simp only[AB he]
  go_enter func449,ntmps449
  go_wp2
  go_ret
  exact⟨rfl,h.hR,rfl,rfl,rfl,Af _,fun _ _ _=>rfl⟩
end Go.Proofs
namespace Go.Proofs
open Go.Proofs.Tryz
open Go.Shelf Go.RowKit Go.Lib Go.Sort Go.Eng
abbrev Tf(R:Nat)(s:As3)(q:N)(W w' : World):Prop:=w'.heap[R]?=some (UL s q.1 q.2)/\MR W.heap.size R W w'
theorem PK{n:Nat}(h:n<2^63):wrap64 (n:Int)=(n:Int):=by grind [wrap64]
theorem bA{s:As3}{a:Nat}(h:jp s a=true):(F0 s a).1<2^63:=aa0
theorem ur{α:Type}(f:α->Value)(z:α)(r:α×Nat×Bool)(p:Nat)(e:Int)(V:Value)(hV:r.2.2=true->V=f r.1) :
  (if e=0 then(bif r.2.2 then V else f z)else f z)=f (tk z r (p,e)).1/\(if e=0 then(bif r.2.2 then r.2.1 else p)else p)=(tk z r (p,e)).2.1/\(if e=0 then(bif r.2.2 then 0 else 9)else e)=(tk z r (p,e)).2.2:=by
 grind [tk]
theorem y9(R:Nat)(s:As3)(q:N)(W:World)(h:ROk R s q W) :
  Calls prog 444 #[pA R 0] W fun x w'=>x=.returned (.int .i64 ((Iw s q).1:Int))/\Tf R s (Iw s q).2 W w':=by
 obtain⟨p,e⟩:=q;obtain⟨t1,t2,t3⟩:=ur (fun n:Nat=>Value.int .i64 (n:Int)) 0 (szR s p) p e (.int .i64 (wrap64 ((F0 s p).1:Int))) (fun hu=>Aa (Value.int .i64) (PK (bA hu)));have hq:=jC R s p e W h (.int .i64 (wrap64 ((F0 s p).1:Int))) (F0 s p).2.1 (jp s p) (fun _=>bR s R p p e h.hs (by have:=h.hs;have:p<=s.size:=h.hp;omega) W h.hR h.hM);have hq:Calls prog 446 #[pA R 0,.func (.func 448) #[pA R 0] #[]] W fun x w'=>x=.returned (.int .i64 ((Iw s (p,e)).1:Int))/\Tf R s (Iw s (p,e)).2 W w':=hq.mono fun x w' ⟨a1,a2,a3⟩=>⟨a1.trans (Aa Ending.returned t1),by grind [Iw],a3⟩
 go_enter func444,ntmps444
 go_wp2_with (go_at_call 446;refine hq.mono ?_;rintro x w' ⟨rfl,hb⟩)
 go_ret
 exact⟨rfl,hb⟩
theorem y8(R:Nat)(s:As3)(q:N)(W:World)(h:ROk R s q W) :
  Calls prog 445 #[pA R 0] W fun x w'=>x=.returned (.string (DB s q).1)/\Tf R s (DB s q).2 W w':=by
 obtain⟨p,e⟩:=q;obtain⟨t1,t2,t3⟩:=ur Value.string ⟨#[]⟩ (J9 s p) p e (.string (J9 s p).1) (fun _=>rfl);have hq:=jD R s p e W h (.string (J9 s p).1) (J9 s p).2.1 (J9 s p).2.2 (fun _=>y6 s R p p e h.hs h.hp W h.hR h.hM);have hq:Calls prog 449 #[pA R 0,.func (.func 450) #[pA R 0] #[]] W fun x w'=>x=.returned (.string (DB s (p,e)).1)/\Tf R s (DB s (p,e)).2 W w':=hq.mono fun x w' ⟨a1,a2,a3⟩=>⟨a1.trans (Aa Ending.returned t1),by grind [DB],a3⟩
 go_enter func445,ntmps445
 go_wp2_with (go_at_call 449;refine hq.mono ?_;rintro x w' ⟨rfl,hb⟩)
 go_ret
 exact⟨rfl,hb⟩
theorem y7(R B C most:Nat)(s:As3)(p a:Nat)(e:Int)(hs:s.size<=2^62)(ha:a<=s.size)(W:World)(h:W.heap[R]?=some (UL s p e))(hM:HM W)(hB:W.cell? ⟨B,0,none⟩=some (pA R 0))(hC:W.cell? ⟨C,0,none⟩=some (.int .i64 (most:Int))) :
  Calls prog 447 #[.int .i64 (a:Int),pA B 0,pA C 0] W fun x w'=>x=.returned (.tuple #[.int .i64 (wrap64 ((F0 s a).1:Int)),.int .i64 ((F0 s a).2.1:Int),.bool (jp s a&&decide ((F0 s a).1<=most))])/\Below W.heap.size W w':=by
 have q:=bR s R p a e hs I W h hM;generalize hu:jp s a=u at q⊢;have CL:=bA (s:=s) (a:=a);rw[hu]at CL;generalize F0 s a=r at q CL⊢;obtain⟨n,k,t⟩:=r;cases u with
 |true=>
  have hw:=PK (CL rfl);simp only[hw]at q⊢
  go_enter func447,ntmps447
  go_wp2_with (go_at_call 448;refine q.mono ?_;rintro x w' ⟨rfl,hb⟩;have c1:w'.cell? ⟨C,0,none⟩=some (.int .i64 (most:Int)):=(hb.cell (LD hC)).trans hC)
  have c2:w'.drew.cell? ⟨C,0,none⟩=some (.int .i64 (most:Int)):=c1
  go_region
  all_goals go_wp2
  all_goals go_ret3
  all_goals exact⟨rfl,hb.drew⟩
 |false=>
  go_enter func447,ntmps447
  go_wp2_with (go_at_call 448;refine q.mono ?_;rintro x w' ⟨rfl,hb⟩)
  go_region
  all_goals go_wp2
  all_goals go_ret3
  all_goals exact⟨rfl,hb.drew⟩
theorem ROk.alloc{R:Nat}{s:As3}{q:N}{W:World}(h:ROk R s q W)(o:Obj):ROk R s q (W.alloc o):=⟨(Af5 _ _ _ h.lt).trans h.hR,h.hM.alloc o,h.hp,h.hs,h.he⟩
theorem ROk.drew{R:Nat}{s:As3}{q:N}{W:World}(h:ROk R s q W):ROk R s q W.drew:=⟨h.hR,h.hM,h.hp,h.hs,h.he⟩
theorem uX(R most:Nat)(s:As3)(q:N)(W:World)(h:ROk R s q W) :
  Calls prog 443 #[pA R 0,.int .i64 (most:Int)] W fun x w'=>x=.returned (.int .i64 ((JR s most q).1:Int))/\Tf R s (JR s most q).2 W w':=by
 obtain⟨p,e⟩:=q;obtain⟨t1,t2,t3⟩:=ur (fun n:Nat=>Value.int .i64 (n:Int)) 0 (ctR s most p) p e (.int .i64 (wrap64 ((F0 s p).1:Int))) (fun hu=>Aa (Value.int .i64) (PK (bA ((Ao _ _▸hu:_/\_).1))));have nJ:p<=s.size:=h.hp;have Aou:∀args w,(callFunc 447 args).run prog w=.ok (.enter 447 args) w:=enters_of func447 aa5 rfl;obtain⟨W1,zz⟩:∃W1,W1=(W.alloc (.cells #[pA R 0] 125)).alloc (.cells #[.int .i64 (most:Int)] 3):=⟨_,rfl⟩;have h1:ROk R s (p,e) W1:=by grind [Go.Proofs.ROk.alloc]
 have k0:W1.heap[W.heap.size]?=some (.cells #[pA R 0] 125):=by grind [Below.heap_alloc,Dk]
 have k1:W1.heap[W.heap.size+1]?=some (.cells #[.int .i64 (most:Int)] 3):=by
  grind [Dk,Go.World.size_alloc]
 have c0:=Ab5 k0 0;have c1:=Ab5 k1 0;have b1:MR W.heap.size R W W1:=by
  rw[zz];exact⟨rfl,rfl,rfl,by grind,fun k hk _=>(Af5 _ _ _ (by simp;omega)).trans (Af5 _ _ _ hk)⟩
 have hq:=jB R W.heap.size (W.heap.size+1) s p e W1 h1 (.int .i64 (wrap64 ((F0 s p).1:Int))) (F0 s p).2.1 (ctR s most p).2.2 (fun _=>y7 R W.heap.size (W.heap.size+1) most s p p e h.hs nJ W1 h1.hR h1.hM c0 c1);have hq:Calls prog 446 #[pA R 0,.func (.func 447) #[] #[pA W.heap.size 0,pA (W.heap.size+1) 0]] W1 fun x w'=>x=.returned (.int .i64 ((JR s most (p,e)).1:Int))/\Tf R s (JR s most (p,e)).2 W w':=hq.mono fun x w' ⟨a1,a2,a3⟩=>⟨a1.trans (Aa Ending.returned t1),by grind [JR],b1.trans a3⟩;have HW:Hid _:=zz
 go_enter func443,ntmps443
 go_wp2_with (go_at_call 446;rw[<-HW.out];refine hq.mono ?_;rintro x w' ⟨rfl,hb⟩)
 go_ret
 exact⟨rfl,hb⟩
abbrev lrO(R most:Nat):Obj:=.cells #[pA R 0,.int .i64 (most:Int)] 128 (0,0)
structure RW(R D:Nat)(s:As3)(most:Nat)(q:N)(W:World):Prop extends ROk R s q W where
 hD:W.heap[D]?=some (lrO R most)
 ne:D≠R
structure RB(R b:Nat)(W w' : World):Prop where
 os:w'.os=W.os
 tape:w'.tape=W.tape
 output:w'.output=W.output
 size:W.heap.size<=w'.heap.size
 block:∀k,k<W.heap.size->k≠R->k≠b->w'.heap[k]?=W.heap[k]?
theorem RB.trans{R b:Nat}{W w w' : World}(h:RB R b W w)(k:RB R b w w'):RB R b W w':=
 ⟨k.os.trans h.os,k.tape.trans h.tape,k.output.trans h.output,Az h.size k.size,fun i hi n1 n2=>(k.block i (AF hi h.size) n1 n2).trans (h.block i hi n1 n2)⟩
theorem RB.undrew{R b:Nat}{W w' : World}(h:RB R b W.drew w'):RB R b W w':=⟨h.os,h.tape,h.output,h.size,h.block⟩
abbrev MP(R b:Nat)(s:As3)(q:N)(cs:Array Value)(T:Nat)(W w' : World):Prop:=w'.heap[R]?=some (UL s q.1 q.2)/\w'.heap[b]?=some (.cells cs T (0,0))/\RB R b W w'
theorem Aaa{R b o T:Nat}{s:As3}{q:N}{W w' : World}{cs:Array Value}{v:Value}(hb:b≠R)(hB:W.heap[b]?=some (.cells cs T (0,0)))(h:Tf R s q W w'):MP R b s q (cs.setIfInBounds o v) T W (w'.setCell ⟨b,o,none⟩ v):=by
 grind [World.setCell,Go.Proofs.MR.block,Go.Proofs.RB.mk,Go.Proofs.MR.os,Go.Proofs.MR.tape,Go.Proofs.MR.output,Go.Proofs.MR.size]
theorem ZB(R D most b o T:Nat)(s:As3)(q:N)(W:World)(h:RW R D s most q W)(cs:Array Value)(hb:b≠R)(hB:W.heap[b]?=some (.cells cs T (0,0)))(ho:o<cs.size) :
  Calls prog 441 #[pA D 0,pA b o] W fun x w'=>x=.returned (.tuple #[])/\MP R b s (Iw s q).2 (cs.setIfInBounds o (.int .i64 ((Iw s q).1:Int))) T W w':=by
 have CL:b<W.heap.size:=(Ag.1 hB).1;have c0:W.cell? ⟨D,0,none⟩=some (pA R 0):=Ab5 h.hD 0
 go_enter func441,ntmps441
 go_wp2_with (go_at_call 444;refine(y9 R s q W h.toROk).mono ?_;rintro x w' ⟨rfl,hr⟩;have pS:=(hr.2.block b CL hb).trans hB;have c1:w'.cell? ⟨b,o,none⟩=some cs[o]:=(Ab5 pS o).trans (BB ho);have f1:=Af0 pS o)
 exact bodyPost_end (results_none rfl _ _ _) rfl ⟨rfl,Aaa hb hB hr⟩
theorem SZ(R D most b o T:Nat)(s:As3)(q:N)(W:World)(h:RW R D s most q W)(cs:Array Value)(hb:b≠R)(hB:W.heap[b]?=some (.cells cs T (0,0)))(ho:o<cs.size) :
  Calls prog 442 #[pA D 0,pA b o] W fun x w'=>x=.returned (.tuple #[])/\MP R b s (DB s q).2 (cs.setIfInBounds o (.string (DB s q).1)) T W w':=by
 have CL:b<W.heap.size:=(Ag.1 hB).1;have c0:W.cell? ⟨D,0,none⟩=some (pA R 0):=Ab5 h.hD 0
 go_enter func442,ntmps442
 go_wp2_with (go_at_call 445;refine(y8 R s q W h.toROk).mono ?_;rintro x w' ⟨rfl,hr⟩;have pS:=(hr.2.block b CL hb).trans hB;have c1:w'.cell? ⟨b,o,none⟩=some cs[o]:=(Ab5 pS o).trans (BB ho);have f1:=Af0 pS o)
 exact bodyPost_end (results_none rfl _ _ _) rfl ⟨rfl,Aaa hb hB hr⟩
theorem Ad3(R D most:Nat)(n:Value)(s:As3)(q:N)(W:World)(h:RW R D s most q W) :
  Calls prog 440 #[pA D 0,n] W fun x w'=>x=.returned (.int .i64 ((JR s most q).1:Int))/\Tf R s (JR s most q).2 W w':=by
 have c0:W.drew.cell? ⟨D,0,none⟩=some (pA R 0):=Ab5 (w:=W.drew) h.hD 0;have c1:W.drew.cell? ⟨D,1,none⟩=some (.int .i64 (most:Int)):=Ab5 (w:=W.drew) h.hD 1
 go_enter func440,ntmps440
 go_wp2
 go_region_with (go_at_call 443;refine(uX R most s q W.drew h.toROk.drew).mono ?_;rintro x w' ⟨rfl,hr⟩)
 all_goals go_wp2
 all_goals go_ret
 all_goals exact⟨rfl,hr.1,hr.2.undrew⟩
theorem uY(R p:Nat)(e:Int)(s:As3)(W:World)(h:W.heap[R]?=some (UL s p e)) :
  Calls prog 193 #[pA R 0] W fun x w'=>x=.returned (.int .i64 e)/\w'=W:=by
 have c1:W.cell? ⟨R,2,none⟩=some (.int .i64 e):=Ab5 h 2
 go_enter func193,ntmps193
 go_wp2
 go_ret
 simp_all
theorem Ad4(R p:Nat)(e:Int)(s:As3)(W:World)(h9:e=0\/e=9)(h:W.heap[R]?=some (UL s p e)) :
  Calls prog 65 #[pA R 0] W fun x w'=>x=.returned (.int .i64 (if e=0 then(if p<s.size then 9 else 0)else e))/\w'=W.drew:=by
 have c0:W.drew.cell? ⟨R,0,none⟩=some (.string s):=Ab5 (w:=W.drew) h 0;have c1:W.drew.cell? ⟨R,1,none⟩=some (.int .i64 (p:Int)):=Ab5 (w:=W.drew) h 1;have c2:W.drew.cell? ⟨R,2,none⟩=some (.int .i64 e):=Ab5 (w:=W.drew) h 2
 by_cases he:e=0
 .subst he;simp only[AO]
  by_cases hp:p<s.size
  .rw[AO hp]
   go_enter func65,ntmps65
   go_wp2
   go_region
   all_goals go_wp2
   all_goals go_ret
   simp_all
  .rw[AB hp]
   go_enter func65,ntmps65
   go_wp2
   go_region
   all_goals go_wp2
   all_goals go_ret
   simp_all
 .obtain rfl:e=9:=h9.resolve_left he;simp only[AB he]
  go_enter func65,ntmps65
  go_wp2
  go_region
  all_goals go_wp2
  all_goals go_ret
  simp_all
theorem Ad5(s:As3)(W:World):Calls prog 64 #[.string s] W fun x w'=>x=.returned (pA W.heap.size 0)/\w'=W.alloc (UL s 0 0):=by
 go_enter func64,ntmps64
 go_wp2
 go_ret
 exact⟨rfl,rfl⟩
end Go.Proofs
namespace Go.Proofs
open Go.Shelf Go.RowKit Go.Lib Go.Sort Go.Eng
abbrev ifR(D:Nat):Value:=.iface 124 (pA D 0)
theorem ux{s:As3}{a:Nat}(ha:a<=s.size)(h:(J9 s a).2.2=true):(J9 s a).2.1<=s.size:=by
 grind [J9,SE]
theorem ut{α:Type}{z:α}{r:α×Nat×Bool}{s:As3}{q:N}(h:q.1<=s.size/\(q.2=0\/q.2=9))(hr:r.2.2=true->r.2.1<=s.size):(tk z r q).2.1<=s.size/\((tk z r q).2.2=0\/(tk z r q).2.2=9):=by
 grind [tk]
abbrev Og(s:As3)(q:N):Prop:=q.1<=s.size/\(q.2=0\/q.2=9)
theorem Ri{s:As3}{a:Nat}(h:jp s a=true):(F0 s a).2.2=true:=aa0
theorem bh{s:As3}{q:N}(h:Og s q):Og s (Iw s q).2:=ut h fun hu=>SE h.1 (Ri hu)
theorem H9{s:As3}{q:N}(h:Og s q):Og s (DB s q).2:=ut h fun hu=>ux h.1 hu
theorem lL{s:As3}{most:Nat}{q:N}(h:Og s q):Og s (JR s most q).2:=ut h fun hu=>SE h.1 (Ri ((Ao _ _▸hu:_/\_).1))
theorem RW.step{R D b most:Nat}{s:As3}{q q' : N}{W w' : World}(h:RW R D s most q W)(hR:w'.heap[R]?=some (UL s q'.1 q'.2))(hb:RB R b W w')(hD:b≠D)(h0:b≠0)(hq:Og s q'):RW R D s most q' w':=
 have bU:0≠R:=by
  rintro rfl
  obtain⟨m,hm⟩:=h.hM;rw[Ab5 h.hR 0]at hm;cases hm
 ⟨⟨hR,h.hM.imp fun m hm=>by grind [World.cell?,Go.Proofs.RB.block],hq.1,h.hs,hq.2⟩,(hb.block D (Ag.1 h.hD).1 h.ne hD.symm).trans h.hD,h.ne⟩
theorem RW.qok{R D most:Nat}{s:As3}{q:N}{W:World}(h:RW R D s most q W):Og s q:=⟨h.hp,h.he⟩
theorem RW.drew{R D most:Nat}{s:As3}{q:N}{W:World}(h:RW R D s most q W):RW R D s most q W.drew:={ h.toROk.drew with hD:=h.hD,ne:=h.ne }
theorem RW.alloc{R D most:Nat}{s:As3}{q:N}{W:World}(h:RW R D s most q W)(o:Obj):RW R D s most q (W.alloc o):={ h.toROk.alloc o with hD:=(Af5 _ _ _ (Ag.1 h.hD).1).trans h.hD,ne:=h.ne }
def l7(s:As3)(q:N):Nat->N
 |0=>q
 |k+1=>(Iw s (l7 s q k)).2
abbrev XC(s:As3)(q:N)(i:Nat):Nat:=(Iw s (l7 s q i)).1
def uc(s:As3)(q:N)(o:Nat->Nat)(cs:Array Value):Nat->Array Value
 |0=>cs
 |k+1=>(uc s q o cs k).setIfInBounds (o k) (.int .i64 (XC s q k:Int))
theorem PH{s:As3}{q:N}(h:Og s q):∀k,Og s (l7 s q k)
 |0=>h
 |k+1=>bh (PH h k)
theorem N8(s:As3)(q:N)(o:Nat->Nat)(cs:Array Value):∀k,(uc s q o cs k).size=cs.size
 |0=>rfl
 |k+1=>by rw[uc,Ua,N8 s q o cs k]
theorem Aak (a : Addr) (w : World) : (nilAhead 601 124 (.pointer (some a)) "modcert/lock.number").run Tryz.prog w=.ok (some false) w:=by kernel_rfl
theorem Aaj (a : Addr) (w : World) : (method 601 124 (.pointer (some a)) "modcert/lock.number").run Tryz.prog w=.ok (441, .pointer (some a)) w:=by kernel_rfl
theorem my (a : Addr) (w : World) : (nilAhead 601 124 (.pointer (some a)) "modcert/lock.text").run Tryz.prog w=.ok (some false) w:=by kernel_rfl
theorem mw (a : Addr) (w : World) : (method 601 124 (.pointer (some a)) "modcert/lock.text").run Tryz.prog w=.ok (442, .pointer (some a)) w:=by kernel_rfl
theorem Ah8 (a : Addr) (w : World) : (nilAhead 601 124 (.pointer (some a)) "modcert/lock.count").run Tryz.prog w=.ok (some false) w:=by kernel_rfl
theorem Ah7 (a : Addr) (w : World) : (method 601 124 (.pointer (some a)) "modcert/lock.count").run Tryz.prog w=.ok (440, .pointer (some a)) w:=by kernel_rfl
theorem Ah9(a:Addr)(w:World):(Instr.typeAssert (.iface 124 (.pointer (some a))) 197 124 true).run Tryz.prog w=.ok (.tuple #[.pointer (some a),.bool true]) w:=by kernel_rfl
theorem Aha(a:Addr)(w:World):(Instr.typeAssert (.iface 124 (.pointer (some a))) 197 124 false).run Tryz.prog w=.ok (.pointer (some a)) w:=by kernel_rfl
theorem RB.refl(R b:Nat)(W:World):RB R b W W:=⟨rfl,rfl,rfl,Af _,fun _ _ _ _=>rfl⟩
theorem RB.cell{R b c k:Nat}{W w' : World}(h:RB R b W w')(h1:c≠R)(h2:c≠b){v:Value}(hv:W.cell? ⟨c,k,none⟩=some v):w'.cell? ⟨c,k,none⟩=some v:=by
 grind [World.cell?,Go.Proofs.RB.block]
theorem Mh(R D b C cap most T n:Nat)(o:Nat->Nat)(s:As3)(q:N)(W:World)(cs:Array Value)(h:RW R D s most q W)(QA:b≠R)(Qz:b≠D)(OA:b≠0)(hCR:C≠R)(hCb:C≠b)(hn:n<=100)(hB:W.heap[b]?=some (.cells cs T (0,0)))
  (hp:∀i,i<n->W.cell? ⟨C,i,none⟩=some (pA b (o i))/\o i<cs.size) :
  Calls Tryz.prog 124 #[ifR D,.slice (some ⟨C,0,none⟩) n cap] W fun x w'=>x=.returned (.tuple #[])/\MP R b s (l7 s q n) (uc s q o cs n) T W w':=by
 have n1:=Aak ⟨D,0,none⟩;have m1:=Aaj ⟨D,0,none⟩
 go_enter Tryz.func124,Tryz.ntmps124
 go_wp2
 go_loopw [8] (fun i wr=>∃k:Nat,k<=n/\i=.int .i64 k/\MP R b s (l7 s q k) (uc s q o cs k) T W wr) (fun i _=>n-(intOf i).toNat)
 case atStart=>exact⟨0,Ai _,rfl,h.hR,hB,.refl _ _ _⟩
 case round=>
  obtain⟨k,hk,rfl,hR',pS,hw⟩:=hrel;rcases BR k n with CL | dq
  .obtain⟨p1,p2⟩:=hp k CL;have c1:=hw.cell hCR hCb p1
   go_wp2_with (go_at_call 441;refine(ZB R D most b (o k) T s (l7 s q k) _ (h.step hR' hw Qz OA (PH h.qok k)) _ QA pS (by grind [N8])).mono ?_;rintro e w' ⟨rfl,hR2,hB2,kz⟩)
   go_roundw
   case rel=>exact⟨k+1,CL,by go_num,hR2,hB2,hw.trans kz⟩
   grind [intOf]
  .obtain rfl:k=n:=I
   go_wp2
   exact bodyPost_end (results_none rfl _ _ _) rfl ⟨rfl,hR',pS,hw⟩
end Go.Proofs
namespace Go.Proofs
open Go.Proofs.Tryz
open Go.Shelf Go.RowKit Go.Lib Go.Sort Go.Eng
def wrt(cs:Array Value)(o:Nat):As4->Array Value
 | []=>cs
 |v::r=>wrt (cs.setIfInBounds o v) (o+1) r
abbrev gS(S:Nat->Nat->Prop):D:=⟨fun _=>undef,fun _=>0,fun _=>false,fun _=>none,S⟩
structure Ka(S:Nat->Nat->Prop)(W w' : World)(avs:List AV)(vs:As4):Prop where
 len:vs.length=avs.length
 fresh:∀b o,S b o->W.heap.size<=b/\b<w'.heap.size
 rep:∀(j:Nat) (av:AV) (v:Value),avs[j]?=some av->vs[j]?=some v->O (gS S) w' DS av v/\v.oneCell'=true
def RC{α:Type}(f:Nat)(enc:α->List AV)(rd:As3->Nat->N->α×N)(zs:As4):Prop:=
 ∀(R D b off T most:Nat) (s:As3) (q:N) (W:World) (cs:Array Value),RW R D s most q W->b≠R->b≠D->b≠0->W.heap[b]?=some (.cells cs T (0,0))->(∀j z,zs[j]?=some z->cs[off+j]?=some z)->most<=10^6 ->
 Calls prog f #[ifR D,pA b off] W fun x w'=>x=.returned (.tuple #[])/\∃vs S,MP R b s (rd s most q).2 (wrt cs off vs) T W w'/\Ka S W w' (enc (rd s most q).1) vs
theorem RB.alloc{R b:Nat}{W w' : World}{o:Obj}(h:RB R b (W.alloc o) w'):RB R b W w':=
 have e:(W.alloc o).heap.size=W.heap.size+1:=aa1
 ⟨h.os,h.tape,h.output,by have:=h.size;omega,fun k hk n1 n2=>(h.block k I n1 n2).trans (Af5 _ _ _ hk)⟩
theorem UK{W:World}{b C n:Nat}{o:Nat->Nat}{vs:Array Value}{T m:Nat}(hC:C=W.heap.size)(hv:∀i,i<n->vs[i]?=some (pA b (o i))/\o i<m) :
  ∀i,i<n->(W.alloc (.cells vs T)).drew.cell? ⟨C,i,none⟩=some (pA b (o i))/\o i<m:=fun i hi=>by
 simp_all
theorem Gv{W w' : World}(us:As4)(h1:∀v∈us,v.oneCell'=true):Ka (fun _ _=>False) W w' (us.map .v) us where
 len:=aa0
 fresh:=fun _ _ h=>h.elim
 rep:=fun j av v e1 e2=>by
  grind [O.v]
theorem fH{cs:Array Value}{k:Nat}{v:Value}(h:cs[k]?=some v):cs.setIfInBounds k v=cs:=by
 grind
def fu(s:As3)(_:Nat)(q:N):(Int×Int)×N:=(((XC s q 0:Int),(XC s q 1:Int)),l7 s q 2)
def ft(s:As3)(_:Nat)(q:N):Lo×N:=
 (⟨(DB s q).1,⟨0,(XC s (DB s q).2 0:Int),(XC s (DB s q).2 1:Int)⟩,(DB s (l7 s (DB s q).2 2)).1,(DB s (DB s (l7 s (DB s q).2 2)).2).1⟩,(DB s (DB s (l7 s (DB s q).2 2)).2).2)
def jb(s:As3)(_:Nat)(q:N):Nf×N:=
 (⟨((Iw s q).1:Int),(DB s (Iw s q).2).1,(XC s (DB s (Iw s q).2).2 0:Int),(XC s (DB s (Iw s q).2).2 1:Int),(XC s (DB s (Iw s q).2).2 2:Int),(XC s (DB s (Iw s q).2).2 3:Int)⟩,l7 s (DB s (Iw s q).2).2 4)
def oZ(s:As3)(_:Nat)(q:N):Sk×N:=
 (⟨(DB s q).1,(XC s (DB s q).2 0:Int),(XC s (DB s q).2 1:Int)⟩,l7 s (DB s q).2 2)
theorem zf:RC 123 Y fu [zI,zI]:=by
 intro R D b off T most s q W cs h QA Qz OA hB hz _;have EC:off+1<cs.size:=(Ag.1 (hz 1 _ rfl)).1;have CL:b<W.heap.size:=(Ag.1 hB).1
 go_enter func123,ntmps123
 go_wp2
 go_region_with (go_at_call 124;(refine(Mh R D b W.heap.size 2 most T 2 (fun i=>off+(0+i)) s _ _ _ (h.alloc _).drew QA Qz OA (by have:=h.toROk.lt;omega) I (By rfl) ((Af5 _ _ _ (Ag.1 hB).1).trans hB) (UK rfl fun i hi=>by grind)).mono ?_;rintro x w1 ⟨rfl,r1,k1,c1⟩))
 all_goals
  have d1:RB R b W w1:=c1.undrew.alloc;refine bodyPost_end (results_none rfl _ _ _) rfl ⟨rfl,_,_,⟨r1,?_,d1⟩,Gv [.int .i64 (XC s q 0:Int),.int .i64 (XC s q 1:Int)] (by simp[Value.oneCell'])⟩;exact k1
theorem Ad6:RC 126 Cr ft [zT,zI,zI,zI,zT,zT]:=by
 intro R D b off T most s q W cs h QA Qz OA hB hz _;have EC:off+5<cs.size:=(Ag.1 (hz 5 _ rfl)).1;have CL:b<W.heap.size:=(Ag.1 hB).1;have tn:=my ⟨D,0,none⟩;have tm:=mw ⟨D,0,none⟩
 go_enter func126,ntmps126
 go_wp2
 go_region_with (go_at_call 442;(refine(SZ R D most b (off+0) T s _ _ h.drew _ QA hB I).mono ?_;rintro x w1 ⟨rfl,r1,k1,c1⟩))
 all_goals
  have d1:RB R b W w1:=c1.undrew;have h1:=h.step r1 d1 Qz OA (H9 h.qok)
  go_wp2
  go_region_with (go_at_call 124;(refine(Mh R D b w1.heap.size 2 most T 2 (fun i=>off+(2+i)) s _ _ _ (h1.alloc _).drew QA Qz OA aa2 aa2 (By rfl) ((Af5 _ _ _ (Ag.1 k1).1).trans k1) (UK rfl fun i hi=>by grind)).mono ?_;rintro x w2 ⟨rfl,r2,k2,c2⟩))
  all_goals
   have d2:RB R b W w2:=d1.trans c2.undrew.alloc;have h2:=h.step r2 d2 Qz OA (PH h1.qok 2)
   go_wp2
   go_region_with (go_at_call 442;(refine(SZ R D most b (off+4) T s _ _ h2.drew _ QA k2 (by simp only[Ua,N8];omega)).mono ?_;rintro x w3 ⟨rfl,r3,k3,c3⟩))
   all_goals
    have d3:RB R b W w3:=d2.trans c3.undrew;have h3:=h.step r3 d3 Qz OA (H9 h2.qok)
    go_wp2
    go_region_with (go_at_call 442;(refine(SZ R D most b (off+5) T s _ _ h3.drew _ QA k3 (by simp only[Ua,N8];omega)).mono ?_;rintro x w4 ⟨rfl,r4,k4,c4⟩))
    all_goals
     have d4:RB R b W w4:=d3.trans c4.undrew;refine bodyPost_end (results_none rfl _ _ _) rfl ⟨rfl,_,_,⟨r4,?_,d4⟩,Gv [.string (DB s q).1,zI,.int .i64 (XC s (DB s q).2 0:Int),.int .i64 (XC s (DB s q).2 1:Int),.string (DB s (l7 s (DB s q).2 2)).1,.string (DB s (DB s (l7 s (DB s q).2 2)).2).1] (by simp[Value.oneCell'])⟩;show _=some (Obj.cells (wrt ((cs.setIfInBounds off (.string (DB s q).1)).setIfInBounds (off+1) zI) (off+2) _) T (0,0));rw[fH aa0];exact k4
theorem Ad7:RC 128 A8 jb [zI,zT,zI,zI,zI,zI]:=by
 intro R D b off T most s q W cs h QA Qz OA hB hz _;have EC:off+5<cs.size:=(Ag.1 (hz 5 _ rfl)).1;have CL:b<W.heap.size:=(Ag.1 hB).1;have tn:=my ⟨D,0,none⟩;have tm:=mw ⟨D,0,none⟩;have nn:=Aak ⟨D,0,none⟩;have nm:=Aaj ⟨D,0,none⟩
 go_enter func128,ntmps128
 go_wp2
 go_region_with (go_at_call 441;(refine(ZB R D most b (off+0) T s _ _ h.drew _ QA hB I).mono ?_;rintro x w1 ⟨rfl,r1,k1,c1⟩))
 all_goals
  have d1:RB R b W w1:=c1.undrew;have h1:=h.step r1 d1 Qz OA (bh h.qok)
  go_wp2
  go_region_with (go_at_call 442;(refine(SZ R D most b (off+1) T s _ _ h1.drew _ QA k1 aa2).mono ?_;rintro x w2 ⟨rfl,r2,k2,c2⟩))
  all_goals
   have d2:RB R b W w2:=d1.trans c2.undrew;have h2:=h.step r2 d2 Qz OA (H9 h1.qok)
   go_wp2
   go_region_with (go_at_call 124;(refine(Mh R D b w2.heap.size 4 most T 4 (fun i=>off+(2+i)) s _ _ _ (h2.alloc _).drew QA Qz OA aa2 aa2 (By rfl) ((Af5 _ _ _ (Ag.1 k2).1).trans k2) (UK rfl fun i hi=>by match i,hi with | 0,_ | 1,_ | 2,_ | 3,_=>grind)).mono ?_;rintro x w3 ⟨rfl,r3,k3,c3⟩))
   all_goals
    have d3:RB R b W w3:=d2.trans c3.undrew.alloc;refine bodyPost_end (results_none rfl _ _ _) rfl ⟨rfl,_,_,⟨r3,?_,d3⟩,Gv [.int .i64 ((Iw s q).1:Int),.string (DB s (Iw s q).2).1,.int .i64 (XC s (DB s (Iw s q).2).2 0:Int),.int .i64 (XC s (DB s (Iw s q).2).2 1:Int),.int .i64 (XC s (DB s (Iw s q).2).2 2:Int),.int .i64 (XC s (DB s (Iw s q).2).2 3:Int)] (by simp[Value.oneCell'])⟩;exact k3
theorem ze:RC 130 AT oZ [zT,zI,zI]:=by
 intro R D b off T most s q W cs h QA Qz OA hB hz _;have EC:off+2<cs.size:=(Ag.1 (hz 2 _ rfl)).1;have CL:b<W.heap.size:=(Ag.1 hB).1;have tn:=my ⟨D,0,none⟩;have tm:=mw ⟨D,0,none⟩
 go_enter func130,ntmps130
 go_wp2
 go_region_with (go_at_call 442;(refine(SZ R D most b (off+0) T s _ _ h.drew _ QA hB I).mono ?_;rintro x w1 ⟨rfl,r1,k1,c1⟩))
 all_goals
  have d1:RB R b W w1:=c1.undrew;have h1:=h.step r1 d1 Qz OA (H9 h.qok)
  go_wp2
  go_region_with (go_at_call 124;(refine(Mh R D b w1.heap.size 2 most T 2 (fun i=>off+(1+i)) s _ _ _ (h1.alloc _).drew QA Qz OA aa2 aa2 (By rfl) ((Af5 _ _ _ (Ag.1 k1).1).trans k1) (UK rfl fun i hi=>by grind)).mono ?_;rintro x w2 ⟨rfl,r2,k2,c2⟩))
  all_goals
   have d2:RB R b W w2:=d1.trans c2.undrew.alloc;refine bodyPost_end (results_none rfl _ _ _) rfl ⟨rfl,_,_,⟨r2,?_,d2⟩,Gv [.string (DB s q).1,.int .i64 (XC s (DB s q).2 0:Int),.int .i64 (XC s (DB s q).2 1:Int)] (by simp[Value.oneCell'])⟩;exact k2
end Go.Proofs
namespace Go.Proofs
open Go.Shelf Go.RowKit Go.Lib Go.Sort Go.Eng
theorem Uo{P:Program}{ops:Array Oper}{o:Oper}{a:Act}{w:World}{K:Act->World->Prop}{Q:Exit->Act->World->Prop}{E:Prop}
  (hg:o.guard=none) (s x:Operand) (t:TypeId) (hop:o.op=Op.call { callee:=Callee.builtin Builtin.append,args:=#[s,x],argTypes:=#[t,t] })
  (base:Nat) (e:TypeId) (i:TypeInfo) (z:Value) (size bytes:Nat) (ht:P.underlying t=some (.slice e)) (hi:P.info? e=some i) (hz:i.zero=some z)
  (rL:i.size=size) (hby:i.bytes=bytes) (hzs:z.cells.size=size) (EC:0<size)
  (v:Value) (n:Nat) (xs:As4) (hs:a.eval s=v) (Ph:w.ownsRow base e size v n xs)
  (ad:Addr) (m c:Nat) (news:As4) (hx:a.eval x=.slice (some ad) m c) (hl:news.length=m*size) (Hr:∀j u,news[j]?=some u->w.cell? (ad.add j)=some u) (h1:∀u∈news,u.oneCell'=true)
  (h63:n+m<=maxLen) (Abt:(n+m)*bytes<=2^47) (AeU:base<=w.heap.size)
  (hK:∀v' w',w'.ownsRow base e size v' (n+m) (xs++news)->w.grownBy w' v.ownBlock->(v'.ownBlock=v.ownBlock\/v'.ownBlock=some w.heap.size)->(∃q k c,v'=.slice q k c)->K (a.put o.dst v') w') :
  if Region.wanted o (yielded ops a.tmps)=true then Oper.wp P o a w K Q else E:=by
 have hw:Region.wanted o (yielded ops a.tmps)=true:=by grind [Region.wanted]
 rw[AO hw];obtain⟨v',w',hr,h2,h3,h4,h5⟩:=run_append_own_at (P:=P) w base t o.type e i z size bytes ht hi hz rL hby hzs EC v n xs Ph ad m c news hl Hr h1 h63 Abt AeU;unfold Oper.wp execOp;simp only[hop,resolve,invoke,builtin,Sem.run_bind,Sem.run_pure,Result.andThen_ok,List.map_toArray,A7,HC,hs,hx,hr];exact hK v' w' h2 h3 h5 (by rcases h2.2 with ⟨e,_⟩ | ⟨g,cap,DU,e,_⟩<;>exact⟨_,_,_,e⟩)
def ER{α:Type}(one:N->α×N):Nat->N->List α->List α×N
 |0,q,acc=>(acc,q)
 |n+1,q,acc=>if(one q).2.2=0 then ER one n (one q).2 (acc++[(one q).1])else(acc++[(one q).1],(one q).2)
def FL{α:Type}(rd:As3->Nat->N->α×N)(s:As3)(most:Nat)(q:N):List α×N:=ER (rd s most) (JR s most q).1 (JR s most q).2 []
structure F4{α:Type}(B E sz:Nat)(enc:α->List AV)(S:Nat->Nat->Prop)(w:World)(v:Value)(xs:List α)(us:List (As4)):Prop where
 own:w.ownsRow B E sz v xs.length us.flatten
 len:us.length=xs.length
 fresh:∀b o,S b o->B<=b/\b<w.heap.size/\some b≠v.ownBlock
 row:∀(i:Nat) (x:α) (u:As4),xs[i]?=some x->us[i]?=some u->u.length=sz/\∀(j:Nat) (av:AV) (y:Value),(enc x)[j]?=some av->u[j]?=some y->O (gS S) w DS av y/\y.oneCell'=true
def RF{α:Type}(f c E sz:Nat)(enc:α->List AV)(rd:As3->Nat->N->α×N):Prop:=
 ∀(R D b off T most:Nat) (s:As3) (q:N) (W:World) (cs:Array Value),RW R D s most q W->b≠R->b≠D->b≠0->W.heap[b]?=some (.cells cs T (0,0))->cs[off]?=some (.slice none 0 0)->most<=10^6 ->
 Calls Tryz.prog f #[ifR D,pA b off,.func (.func c) #[] #[]] W fun x w'=>x=.returned (.tuple #[])/\∃v S us,MP R b s (FL rd s most q).2 (cs.setIfInBounds off v) T W w'/\F4 W.heap.size E sz enc S w' v (FL rd s most q).1 us
theorem AkT{vs:As4}(h:vs.length=2):∃a b,vs=[a,b]:=by
 match vs,h with
 | [a,b],_=>simp_all
theorem Rb{B E sz n:Nat}{v:Value}{xs:As4}{w w' : World}(h:w.ownsRow B E sz v n xs)(hb:∀k,B<=k->k<w.heap.size->some k=v.ownBlock->w'.heap[k]?=w.heap[k]?):w'.ownsRow B E sz v n xs:=by
 refine⟨h.1,h.2.imp id fun⟨g,cap,DU,h1,h2,h3,h4⟩=>⟨g,cap,DU,h1,h2,?_,h4⟩⟩;rw[hb g h2 (Ag.1 h3).1 (by rw[h1];rfl)];exact h3
theorem Rc{B E sz n:Nat}{v:Value}{xs:As4}{w:World}(h:w.ownsRow B E sz v n xs){g:Nat}(hg:some g=v.ownBlock):B<=g/\g<w.heap.size:=by
 rcases h.2 with ⟨e,_⟩ | ⟨g',cap,DU,e,h1,h2,_⟩
 .rw[e]at hg;cases hg
 .rw[e]at hg;cases hg<;>grind [Array.getElem?_eq_some_iff]
theorem F4.push{α:Type}{B E sz:Nat}{enc:α->List AV}{S S2:Nat->Nat->Prop}{wr wa w2 w4:World}{v v' : Value}{xs:List α}{us:List (As4)}{x:α}{u:As4}
  (h:F4 B E sz enc S wr v xs us) (za:wr.heap.size<=wa.heap.size) (he:Ka S2 wa w2 (enc x) u) (EC:u.length=sz) (k2:∀k,B<=k->k<wr.heap.size->w2.heap[k]?=wr.heap[k]?) (z2:wa.heap.size<=w2.heap.size)
  (k4:∀k,B<=k->k<w2.heap.size->some k≠v.ownBlock->w4.heap[k]?=w2.heap[k]?) (Ph:w4.ownsRow B E sz v' (xs.length+1) (us.flatten++u)) (vo:∀g,some g=v'.ownBlock->some g=v.ownBlock\/w2.heap.size<=g)
  (z4:w2.heap.size<=w4.heap.size) (hBw:B<=wr.heap.size):F4 B E sz enc (fun b o=>S b o\/S2 b o) w4 v' (xs++[x]) (us++[u]):=by
 have hS:∀b o,S b o->w4.heap[b]?=wr.heap[b]?:=fun b o q=>
  have f:=h.fresh b o q
  (k4 b f.1 I f.2.2).trans (k2 b f.1 f.2.1)
 have hv:∀g,some g=v.ownBlock->g<wr.heap.size:=fun g q=>(Rc h.own q).2;have hS2:∀b o,S2 b o->w4.heap[b]?=w2.heap[b]?:=fun b o q=>
  have f:=he.fresh b o q
  k4 b I f.2 (fun e=>by grind)
 refine⟨?_,by simp[h.len],fun b o q=>?_,fun i y us' e1 e2=>?_⟩
 .simp_all
 .rcases q with q | q
  .have f:=h.fresh b o q
   grind
  .have f:=he.fresh b o q
   grind
 .rcases BR i xs.length with hi | hi
  .rw[Cm hi]at e1;rw[Cm (by rw[h.len];exact hi)]at e2;obtain⟨r1,r2⟩:=h.row i y us' e1 e2;refine⟨r1,fun j av z a1 a2=>⟨(r2 j av z a1 a2).1.mono (fun b o q=>?_) (fun _ q=>q) (.refl _ _),(r2 j av z a1 a2).2⟩⟩
   grind [World.cell?]
  .rw[Ba hi]at e1;rw[Ba (by grind [Go.Proofs.F4.len]),h.len]at e2;obtain⟨i',Oi⟩:∃i',i-xs.length=i':=⟨_,rfl⟩;rw[Oi]at e1 e2
   match i',e1,e2 with
   |0,e1,e2=>
    cases e1;cases e2
    refine⟨EC,fun j av z a1 a2=>⟨(he.rep j av z a1 a2).1.mono (fun b o q=>?_) (fun _ q=>q) (.refl _ _),(he.rep j av z a1 a2).2⟩⟩
    grind [World.cell?]
theorem M3{us:List (As4)}{sz:Nat}(h:∀u∈us,u.length=sz):∀(i j:Nat) (u:As4),us[i]?=some u->j<sz->us.flatten[i*sz+j]?=u[j]?:=by
 induction us with
 |nil=>simp_all
 |cons a l ih=>
  intro i j u e hj;have ha:=h a (.head _);rw[BQ]
  match i,e with
  |0,e=>
   grind
  |i+1,e=>
   rw[Ba aa2,ha,show(i+1)*sz+j-sz=i*sz+j by grind];simp_all
theorem F4.done{α:Type}{B E sz:Nat}{enc:α->List AV}{S:Nat->Nat->Prop}{W w:World}{v:Value}{xs:List α}{us:List (As4)}(h:F4 B E sz enc S w v xs us)(hB:W.heap.size<=B)(hz:∀x,(enc x).length=sz) :
  Ka (fun b o=>S b o\/some b=v.ownBlock) W w [sl enc xs] [v]:=by
 refine⟨rfl,fun b o q=>?_,fun j av y e1 e2=>?_⟩
 .rcases q with q | q
  .have f:=h.fresh b o q;omega
  .have f:=Rc h.own q;omega
 .match j,e1,e2 with
  |0,e1,e2=>
   cases e1;cases e2
   rcases h.own.2 with ⟨e,e0⟩ | ⟨g,cap,DU,e,h1,h2,h3,h4,h5,h6⟩
   .subst e
    have:xs=[]:=AI e0
    subst this;exact⟨.snil _ _ _,rfl⟩
   .subst e;refine⟨?_,rfl⟩;have hu:∀u∈us,u.length=sz:=fun u hu=>by
     obtain⟨i,hi⟩:=B4.1 hu;have rC:i<xs.length:=by grind [Go.Proofs.F4.len]
     exact(h.row i xs[i] u (AC rC) hi).1
    have key:∀(i:Nat) (cs:List AV) (j:Nat) (av:AV),(xs.map enc)[i]?=some cs->cs[j]?=some av->∃y,w.cell? ⟨g,0+i*sz+j,none⟩=some y/\O (gS S) w DS av y/\y.oneCell'=true:=fun i cs j av e1 e2=>by
     rw[BC]at e1;obtain⟨x,ex,rfl⟩:=BH.1 e1;have rC:i<us.length:=by grind [Go.Proofs.F4.len]
     have eu:=AC rC;obtain⟨r1,r2⟩:=h.row i x us[i] ex eu;have hj:j<sz:=aa2
     have ey:=AC (l:=us[i]) (i:=j) I;obtain⟨r3,r4⟩:=r2 j av _ e2 ey;refine⟨_,?_,r3,r4⟩;rw[Ab5 h2,Dp,<-BY];have hf:=(M3 hu i j us[i] eu hj).trans ey
     grind
    have hm:(xs.map enc).length=xs.length:=Bs _;have hk:D8 (gS S) w (gS fun b o=>S b o\/some b=(Value.slice (some ⟨g,0,none⟩) xs.length cap).ownBlock) w:=fun b o q=>⟨.inl q,rfl,fun _ _ z=>z⟩
    have hs:=O.slice (g:=gS fun b o=>S b o\/some b=(Value.slice (some ⟨g,0,none⟩) xs.length cap).ownBlock) (w:=w) DS (xs.map enc) g 0 sz cap (fun i j=>(w.cell? ⟨g,0+i*sz+j,none⟩).getD undef) I
     (fun i cs q=>by grind)
     (fun i cs j av a1 a2=>by
      obtain⟨y,y1,y2,y3⟩:=key i cs j av a1 a2;rw[y1];exact⟨.inr rfl,rfl,y3⟩)
     (fun i cs j av a1 a2=>by
      obtain⟨y,y1,y2,y3⟩:=key i cs j av a1 a2;rw[y1];exact y2.mono hk (fun _ z=>z) (.refl _ _))
    simp_all
theorem lK{s:As3}{most:Nat}{q:N}:(JR s most q).1<=most:=by
 grind [JR,tk]
end Go.Proofs
