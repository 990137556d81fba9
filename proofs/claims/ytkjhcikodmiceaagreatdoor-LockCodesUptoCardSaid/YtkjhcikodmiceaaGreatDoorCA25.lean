/- Lemmas 25. -/
import Derived.Test.YtkjhcikodmiceaaGreatDoorCA24
import Derived.Laws.Rows
import Derived.Laws.ResultCell
set_option maxRecDepth 100000
set_option maxHeartbeats 40000000
namespace Go.Proofs
open Go.Proofs.Tryz
open Go.Shelf Go.RowKit Go.Lib Go.Sort Go.Eng
abbrev As6:=ByteArray
abbrev As7:=List UInt8
abbrev As8:=List AV
abbrev As9:=List (List Value)
abbrev At0:=List Value
abbrev Af9:=@Lib.cell_of_heap
abbrev Ag5:=@Lib.frozen_of_heap
abbrev Ag8:=@Below.heap_setCell
abbrev Ai0:=@Below.heap_alloc
theorem X2(w:World)(vs:At0)(T:Nat):∀j u,vs[j]?=some u->(w.alloc (.cells vs.toArray T)).drew.cell? ((⟨w.heap.size,0,none⟩:Addr).add j)=some u:=fun j u e=>by
 have h:(w.alloc (.cells vs.toArray T)).drew.cell? ⟨w.heap.size,j,none⟩=some u:=(Af9 (Dk w (.cells vs.toArray T)) j).trans aa0
 grind [Addr.add]
theorem i7{α:Type}{one:N->α×N}{n k:Nat}{q:N}{xs:List α}(h:k<n)(e:(one q).2.2=0):ER one (n-k) q xs=ER one (n-(k+1)) (one q).2 (xs++[(one q).1]):=by
 rw[show n-k=(n-(k+1))+1 by omega,ER,AO e]
theorem Ww{α:Type}{one:N->α×N}{n k:Nat}{q:N}{xs:List α}(h:k<n)(e:(one q).2.2=9):ER one (n-k) q xs=(xs++[(one q).1],(one q).2):=by
 rw[show n-k=(n-(k+1))+1 by omega,ER,AB I]
structure Jy(R b:Nat)(W w2 w4:World)(own:Option Nat):Prop where
 rb:RB R b W w4
 hR:w4.heap[R]?=w2.heap[R]?
 old:∀k,W.heap.size<=k->k<w2.heap.size->some k≠own->w4.heap[k]?=w2.heap[k]?
 z4:w2.heap.size<=w4.heap.size
theorem Aew{R b off:Nat}{W wr w2 w3:World}{o o2:Obj}{own:Option Nat}{v:Value}(hw:RB R b W wr)(d2:RB R wr.heap.size (wr.alloc o) w2)(hg:(w2.alloc o2).drew.grownBy w3 own)(Ec:∀k,k<W.heap.size->some k≠own)(CL:b<W.heap.size)(hR:R<W.heap.size)(QA:b≠R) :
  Jy R b W w2 (w3.setCell ⟨b,off,none⟩ v) own:=by
 have z1:=hw.size;have z2:=d2.size;have z3:=hg.size;have za:(wr.alloc o).heap.size=wr.heap.size+1:=aa1
 have zb:(w2.alloc o2).drew.heap.size=w2.heap.size+1:=aa0
 have zc:(w3.setCell ⟨b,off,none⟩ v).heap.size=w3.heap.size:=aa0
 have s3:∀k,k<w2.heap.size->some k≠own->w3.heap[k]?=w2.heap[k]?:=fun k k1 k2=>(hg.block k I k2).trans (Ai0 w2 _ _ k1);have s4:∀k,k≠b->(w3.setCell ⟨b,off,none⟩ v).heap[k]?=w3.heap[k]?:=fun k k1=>Ag8 _ _ _ _ k1;refine⟨⟨?_,?_,?_,by omega,fun k k1 k2 k3=>?_⟩,?_,fun k k1 k2 k3=>?_,by omega⟩
 .exact hg.os.trans (d2.os.trans hw.os)
 .exact hg.tape.trans (d2.tape.trans hw.tape)
 .exact hg.output.trans (d2.output.trans hw.output)
 all_goals grind [Below.heap_alloc,Go.Proofs.RB.block]
theorem ph{w3:World}{b off T:Nat}{cs:Array Value}{v v' : Value}(h:w3.heap[b]?=some (.cells (cs.setIfInBounds off v) T (0,0))):(w3.setCell ⟨b,off,none⟩ v').heap[b]?=some (.cells (cs.setIfInBounds off v') T (0,0)):=by
 show(w3.heap.modify b _)[b]?=_
 grind [Array.setIfInBounds_setIfInBounds]
theorem AkU{vs:At0}(h:vs.length=3):∃a b c,vs=[a,b,c]:=by
 match vs,h with
 | [a,b,c],_=>simp_all
theorem AfK{vs:At0}(h:vs.length=6):∃a b c d e f,vs=[a,b,c,d,e,f]:=by
 match vs,h with
 | [a,b,c,d,e,f],_=>simp_all
theorem lP{s:As6}{most:Nat}{q:N}(h:Og s q):Og s (fu s most q).2:=PH h 2
theorem bj{s:As6}{most:Nat}{q:N}(h:Og s q):Og s (ft s most q).2:=H9 (H9 (PH (H9 h) 2))
theorem bl{s:As6}{most:Nat}{q:N}(h:Og s q):Og s (jb s most q).2:=PH (H9 (bh h)) 4
theorem lO{s:As6}{most:Nat}{q:N}(h:Og s q):Og s (oZ s most q).2:=PH (H9 h) 2
theorem fq{α:Type}{s:As6}{one:N->α×N}(h1:∀q,Og s q->Og s (one q).2):∀(n:Nat) (q:N) (xs:List α),Og s q->Og s (ER one n q xs).2
 |0,_,_,h=>h
 |n+1,q,xs,h=>by
  rw[ER];split
  .exact fq h1 n _ _ (h1 q h)
  grind
theorem IS{α:Type}{s:As6}{most:Nat}{rd:As6->Nat->N->α×N}{q:N}(h1:∀q,Og s q->Og s (rd s most q).2)(h:Og s q):Og s (FL rd s most q).2:=fq h1 _ _ _ (lL h)
def bm(s:As6)(most:Nat)(q:N):Rq×N:=(⟨(DB s q).1,(FL fu s most (DB s q).2).1⟩,(FL fu s most (DB s q).2).2)
theorem bn{s:As6}{most:Nat}{q:N}(h:Og s q):Og s (bm s most q).2:=IS (fun _ k=>lP k) (H9 h)
variable {f c E T n zp:Nat}{zs:At0}
theorem K5.info(h:K5 f c E T n zp zs):∃i:TypeInfo,prog.info? E=some i/\i.zero=some (.agg zs.toArray)/\i.size=n/\i.bytes=zp:=by
 cases h<;>exact info_parts aa5
theorem K5.under(h:K5 f c E T n zp zs):prog.underlying T=some (.slice E):=by
 cases h<;>kernel_rfl
theorem Ka.one{S:Nat->Nat->Prop}{W w:World}{avs:As8}{vs:At0}(h:Ka S W w avs vs):∀u∈vs,u.oneCell'=true:=fun u hu=>by
 obtain⟨j,hj⟩:=B4.1 hu
 have:=(AN.1 hj).1
 exact(h.rep j _ u (AC (by have:=h.len;omega)) hj).2
theorem gN{w:World}{g T:Nat}{cs:Array Value}(h:w.heap[g]?=some (.cells cs T (0,0))):w.cell? ⟨g,0,none⟩=cs[0]?/\w.cell? ⟨g,1,none⟩=cs[1]?/\w.cell? ⟨g,2,none⟩=cs[2]?/\w.cell? ⟨g,3,none⟩=cs[3]?/\w.cell? ⟨g,4,none⟩=cs[4]?/\w.cell? ⟨g,5,none⟩=cs[5]?:=
 ⟨Af9 h 0,Af9 h 1,Af9 h 2,Af9 h 3,Af9 h 4,Af9 h 5⟩
def Ai9{α:Type}(R b off Ty E n most:Nat)(cs:Array Value)(enc:α->As8)(rd:As6->Nat->N->α×N)(s:As6)(q:N)(W:World)(i:Value)(wr:World):Prop:=
 ∃(k:Nat) (q' : N) (xs:List α) (v:Value) (S:Nat->Nat->Prop) (us:As9),i=.int .i64 k/\k<=(JR s most q).1/\xs.length=k/\ER (rd s most) ((JR s most q).1-k) q' xs=FL rd s most q/\Og s q'/\wr.heap[R]?=some (UL s q'.1 q'.2)/\wr.heap[b]?=some (.cells (cs.setIfInBounds off v) Ty (0,0))/\RB R b W wr/\F4 W.heap.size E n enc S wr v xs us
theorem Ro{α:Type}{enc:α->As8}{rd:As6->Nat->N->α×N}(K:K5 f c E T n zp zs)(hc:RC c enc rd zs)(hn:∀x,(enc x).length=n)(Is:∀{s most q},Og s q->Og s (rd s most q).2):RF f c E n enc rd:=by
  intro R D b off Ty most s q W cs h QA Qz OA hB hz TK;have CL:b<W.heap.size:=(Ag.1 hB).1;have AbF:off<cs.size:=(Ag.1 hz).1;obtain⟨i0,hi,hz0,hz1,nM⟩:=K.info;have hT:=K.under;have n1:=Ah8 ⟨D,0,none⟩;have m1:=Ah7 ⟨D,0,none⟩;have ta:=Ah9 ⟨D,0,none⟩;have tb:=Aha ⟨D,0,none⟩;have c0:W.drew.cell? ⟨b,off,none⟩=some (.slice none 0 0):=(Af9 (w:=W.drew) hB off).trans hz;have Aez:=K.enter;obtain⟨Rel,Abo⟩:∃Rel,Rel=Ai9 R b off Ty E n most cs enc rd s q W:=⟨_,rfl⟩;cases K
  case' a=>go_enter func122,ntmps122
  case' b=>go_enter func120,ntmps120
  case' c=>go_enter func125,ntmps125
  case' d=>go_enter func127,ntmps127
  case' e=>go_enter func129,ntmps129
  all_goals
    go_wp2
    go_region_with (go_at_call 440;(refine(Ad3 R D most _ s q _ ?_).mono ?_;exact h.drew;rintro x w1 ⟨rfl,hR1,c1⟩))
    all_goals
      have d1:MR W.heap.size R W w1:=c1.undrew;have hB1:=(d1.block b CL QA).trans hB;have f1:=Ag5 hB1 off;have g1:w1.cell? ⟨b,off,none⟩=some (.slice none 0 0):=(Af9 hB1 off).trans hz
      go_wp2
      go_loopw [30] Rel (fun i _=>(JR s most q).1-(intOf i).toNat)
      case atStart=>
        rw[Abo];exact⟨0,(JR s most q).2,[],.slice none 0 0,fun _ _=>False,[],rfl,Ai _,rfl,rfl,lL h.qok,(Ag8 _ _ _ _ (show R≠b from QA.symm)).trans hR1,by show(w1.heap.modify b _)[b]?=_;rw[Array.getElem?_modify,AO rfl,hB1];rfl,⟨d1.os,d1.tape,d1.output,by simp[World.setCell];exact d1.size,fun k k1 k2 k3=>(Ag8 _ _ _ _ k3).trans (d1.block k k1 k2)⟩,⟨rfl,.inl ⟨rfl,rfl⟩⟩,rfl,fun _ _ e=>e.elim,fun i x u e _=>by simp at e⟩
      case round=>
        rw[Abo]at hrel;obtain⟨k,q',xs,v,S,us,rfl,hk,rP,Xu,ax,hR',pS,hw,Hh⟩:=hrel;rcases BR k (JR s most q).1 with nH | dq
        · have hW':=h.step hR' hw Qz OA ax
          have wJ:=(Ag.1 pS).1;have Ap0:=hW'.toROk.lt;have AoO:=(Ag.1 hW'.hD).1;obtain⟨va,vn,vc,rfl⟩:∃q k c,v=.slice q k c:=by rcases Hh.own.2 with ⟨e,_⟩ | ⟨g,cap,DU,e,_⟩<;>exact⟨_,_,_,e⟩
          have hRW:=h.toROk.lt;have zw:=hw.size;have Ec:∀k,k<W.heap.size->some k≠(Value.slice va vn vc).ownBlock:=fun k k1 e=>by have:=(Rc Hh.own e).1;omega
          have hcl:xs.length+1<=10^6:=by have:=lK (s:=s) (most:=most) (q:=q);omega
          go_wp2_with ((first | go_at_call 123 | go_at_call 121 | go_at_call 126 | go_at_call 128 | go_at_call 130);(refine(hc R D wr.heap.size 0 _ most s q' _ _ (hW'.alloc _) I I (by have:=CL;omega) (Dk _ _) (fun j z e=>by rw[Dp,<-BY];exact e) TK).mono ?_;rintro x w2 ⟨rfl,vs,S2,⟨hR2,hX2,d2⟩,he⟩;have hl:=he.len.trans (hn _);have IZ:=he.one;have zw2:=(Ag.1 hX2).1;(first | (obtain⟨u0,u1,rfl⟩:=AkT hl;have hX:w2.heap[wr.heap.size]?=some (.cells #[u0,u1] _):=hX2;obtain⟨x0,x1,x2,x3,x4,x5⟩:=gN (w:=w2.drew) hX) | (obtain⟨u0,u1,u2,rfl⟩:=AkU hl;have hX:w2.heap[wr.heap.size]?=some (.cells #[u0,u1,u2] _):=hX2;obtain⟨x0,x1,x2,x3,x4,x5⟩:=gN (w:=w2.drew) hX) | (obtain⟨u0,u1,u2,u3,u4,u5,rfl⟩:=AfK hl;have hX:w2.heap[wr.heap.size]?=some (.cells #[u0,u1,u2,u3,u4,u5] _):=hX2;obtain⟨x0,x1,x2,x3,x4,x5⟩:=gN (w:=w2.drew) hX));have hB2:=(d2.block b (by simp;omega) QA I).trans ((Ai0 _ _ _ wJ).trans pS);have c2:w2.drew.cell? ⟨b,off,none⟩=some (.slice va vn vc):=(Af9 (w:=w2.drew) hB2 off).trans (by rw[HH,AO rfl,AO AbF])))
          have QB:∀k,W.heap.size<=k->k<wr.heap.size->w2.heap[k]?=wr.heap[k]?:=fun k k1 k2=>(d2.block k (by simp;omega) I I).trans (Ai0 _ _ _ k2);have AeM : ∀o,(w2.alloc o).drew.heap[b]?=some (.cells (cs.setIfInBounds off (.slice va vn vc)) Ty (0,0)):=fun o=>(Ai0 w2 _ _ I).trans hB2;have c3:∀o,(w2.alloc o).drew.cell? ⟨b,off,none⟩=some (.slice va vn vc):=fun o=>(Af9 (AeM o) off).trans (by rw[HH,AO rfl,AO AbF])
          go_region_law (refine Uo rfl (.tmp 38) (.tmp 40) _ rfl W.heap.size _ i0 _ _ _ hT hi hz0 hz1 nM rfl aa3 (.slice va vn vc) xs.length us.flatten (by simp[Act.eval]) (Rb Hh.own (fun k k1 k2 _=>(Ai0 w2 _ _ I).trans (QB k k1 k2))) ⟨w2.heap.size,0,none⟩ 1 1 _ (by simp[Act.eval]) hl (X2 w2 _ _) IZ (by unfold maxLen;omega) I (by show _<=(w2.alloc _).heap.size;simp;omega) ?_;intro v' w3 Afn Yh vo VO;obtain⟨wa,wn,wc,rfl⟩:=VO;have hB3:w3.heap[b]?=some (.cells (cs.setIfInBounds off (.slice va vn vc)) Ty (0,0)):=(Yh.block b (by show b<(w2.alloc _).heap.size;simp;omega) (Ec b CL)).trans (AeM _);have f3:=Ag5 hB3 off;have c4:w3.cell? ⟨b,off,none⟩=some (.slice va vn vc):=(Af9 hB3 off).trans (by rw[HH,AO rfl,AO AbF]))
          all_goals
            have ch:=Aew (v:=Value.slice wa wn wc) (off:=off) hw d2 Yh Ec CL hRW QA;have hB4:=ph (v':=.slice wa wn wc) hB3;have hR4:=ch.hR.trans hR2;have hW4:=h.step hR4 ch.rb Qz OA (Is ax);have c5:(w3.setCell ⟨b,off,none⟩ (.slice wa wn wc)).cell? ⟨D,0,none⟩=some (pA R 0):=Af9 hW4.hD 0;have zM:=Hh.push (v':=.slice wa wn wc) (w4:=w3.setCell ⟨b,off,none⟩ (.slice wa wn wc)) aa1 he hl QB d2.size ch.old (Rb Afn (fun k k1 _ _=>Ag8 _ _ _ _ (show k≠b by omega))) (fun g e=>vo.elim (fun z=>.inl (e.trans z)) (fun z=>.inr (by rw[z]at e;cases e;show _<=(w2.alloc _).heap.size;simp))) ch.z4 zw;rcases(Is (most:=most) ax).2 with hE | hE
            all_goals
              rw[hE]at hR4
              go_wp2_with (go_at_call 193;(refine(uY R _ _ s _ hR4).mono ?_;rintro x w' ⟨rfl,rfl⟩))
              rw[<-hE]at hR4
              first
                |exact bodyPost_ret (results_none rfl _ _ _) rfl ⟨rfl,.slice wa wn wc,_,_,⟨by rw[<-Xu,Ww nH hE];exact hR4,hB4,ch.rb⟩,by rw[<-Xu,Ww nH hE];exact zM⟩
                |(go_roundw
                  case rel=>rw[Abo];exact⟨k+1,_,xs++[_],.slice wa wn wc,_,us++[_],by go_num,nH,by simp[rP],by rw[<-Xu,i7 nH hE],Is ax,hR4,hB4,ch.rb,zM⟩
                  case measure=>show _-_<_-_;simp only[intOf];omega)
        · obtain rfl:k=(JR s most q).1:=I
          have iq:FL rd s most q=(xs,q'):=by rw[<-Xu,IW,ER]
          go_wp2
          exact bodyPost_ret (results_none rfl _ _ _) rfl ⟨rfl,v,_,_,⟨by rw[iq];exact hR',pS,hw⟩,by rw[iq];exact Hh⟩
theorem jF:RF 122 123 64 2 Y fu:=Ro .a zf (fun _=>rfl) fun h=>lP h
theorem zd:RC 121 Ak bm [zT,.slice none 0 0]:=by
 intro R D b off T most s q W cs h QA Qz OA hB hz TK;have EC:off+1<cs.size:=(Ag.1 (hz 1 _ rfl)).1;have tn:=my ⟨D,0,none⟩;have tm:=mw ⟨D,0,none⟩
 go_enter func121,ntmps121
 go_wp2
 go_region_with (go_at_call 442;(refine(SZ R D most b (off+0) T s q _ ?_ cs QA ?_ I).mono ?_;exact h.drew;exact hB;rintro x w1 ⟨rfl,r1,k1,c1⟩))
 all_goals (have d1:RB R b W w1:=c1.undrew)
 all_goals (have h1:=h.step r1 d1 Qz OA (H9 h.qok))
 all_goals go_wp2_with (go_at_call 122;(refine(jF R D b (off+1) T most s (DB s q).2 _ (cs.setIfInBounds off (.string (DB s q).1)) h1 QA Qz OA k1 (by rw[HH,AB I];exact hz 1 _ rfl) TK).mono ?_;rintro x w2 ⟨rfl,v,S,us,⟨r2,k2,c2⟩,hr⟩;have he:Ka _ w1 w2 _ _:=hr.done (Af _) (fun _=>rfl)))
 all_goals refine bodyPost_end (results_none rfl _ _ _) rfl ⟨rfl,[.string (DB s q).1,v],_,⟨r2,k2,d1.trans c2⟩,rfl,fun b o y=>⟨Az d1.size (he.fresh b o y).1,(he.fresh b o y).2⟩,fun j av y e1 e2=>?_⟩
 all_goals
  match j,e1,e2 with
  |0,e1,e2=>cases e1;cases e2;exact⟨.v _ _,rfl⟩
  |1,e1,e2=>cases e1;cases e2;exact he.rep 0 _ _ rfl rfl
theorem jE:RF 120 121 68 2 Ak bm:=Ro .b zd (fun _=>rfl) fun h=>bn h
theorem jG:RF 125 126 53 6 Cr ft:=Ro .c Ad6 (fun _=>rfl) fun h=>bj h
theorem jH:RF 127 128 96 6 A8 jb:=Ro .d Ad7 (fun _=>rfl) fun h=>bl h
theorem jI:RF 129 130 92 3 AT oZ:=Ro .e ze (fun _=>rfl) fun h=>lO h
end Go.Proofs
namespace Go.Proofs
open Go.Shelf Go.RowKit Go.Lib Go.Sort Go.Eng
def Sy(s:As6)(most:Nat)(q:N):Lk×N:=
 (⟨(FL bm s most q).1,(FL ft s most (FL bm s most q).2).1,(FL jb s most (FL ft s most (FL bm s most q).2).2).1,(FL oZ s most (FL jb s most (FL ft s most (FL bm s most q).2).2).2).1⟩,(FL oZ s most (FL jb s most (FL ft s most (FL bm s most q).2).2).2).2)
theorem bi{s:As6}{most:Nat}{q:N}(h:Og s q):Og s (Sy s most q).2:=
 IS (fun _ k=>lO k) (IS (fun _ k=>bl k) (IS (fun _ k=>bj k) (IS (fun _ k=>bn k) h)))
theorem F4.keep{α:Type}{B E sz:Nat}{enc:α->As8}{S:Nat->Nat->Prop}{w w' : World}{v:Value}{xs:List α}{us:As9}(h:F4 B E sz enc S w v xs us)(z:w.heap.size<=w'.heap.size)(e:∀k,B<=k->k<w.heap.size->((∃o,S k o)\/some k=v.ownBlock)->w'.heap[k]?=w.heap[k]?):F4 B E sz enc S w' v xs us:=by
 refine⟨Rb h.own (fun k k1 k2 k3=>e k k1 k2 (.inr k3)),h.len,fun b o q=>?_,fun i x u e1 e2=>?_⟩
 .have f:=h.fresh b o q
  grind
 .obtain⟨r1,r2⟩:=h.row i x u e1 e2;refine⟨r1,fun j av y a1 a2=>⟨(r2 j av y a1 a2).1.mono (fun b o q=>?_) (fun _ z=>z) (.refl _ _),(r2 j av y a1 a2).2⟩⟩;have f:=h.fresh b o q;have g:=e b f.1 f.2.1 (.inl ⟨o,q⟩)
  grind [World.cell?]
theorem F4.later{α:Type}{B E sz R b:Nat}{enc:α->As8}{S:Nat->Nat->Prop}{w w' : World}{v:Value}{xs:List α}{us:As9}(h:F4 B E sz enc S w v xs us)(d:RB R b w w')(hR:R<B)(hb:b<B):F4 B E sz enc S w' v xs us:=
 h.keep d.size fun k k1 k2 _=>d.block k k2 I I
abbrev ZG{α:Type}(B c E sz:Nat)(enc:α->As8)(w:World)(v:Value)(xs:List α):Prop:=∃S us,F4 B E sz enc S w v xs us/\(∀b o,S b o->b<c)/\∀g,some g=v.ownBlock->g<c
theorem F4.lrb{α:Type}{B E sz:Nat}{enc:α->As8}{S:Nat->Nat->Prop}{w:World}{v:Value}{xs:List α}{us:As9}(h:F4 B E sz enc S w v xs us):ZG B w.heap.size E sz enc w v xs:=⟨S,us,h,fun b o q=>(h.fresh b o q).2.1,fun _ q=>(Rc h.own q).2⟩
theorem ZG.later{α:Type}{B c E sz R b:Nat}{enc:α->As8}{w w' : World}{v:Value}{xs:List α}(h:ZG B c E sz enc w v xs)(d:RB R b w w')(hR:R<B)(hb:b<B):ZG B c E sz enc w' v xs:=
 let ⟨S,us,h1,h2,h3⟩:=h
 ⟨S,us,h1.later d hR hb,h2,h3⟩
theorem ZG.keep{α:Type}{B c E sz:Nat}{enc:α->As8}{w w' : World}{v:Value}{xs:List α}(h:ZG B c E sz enc w v xs)(z:w.heap.size<=w'.heap.size)(e:∀k,B<=k->k<c->k<w.heap.size->w'.heap[k]?=w.heap[k]?):ZG B c E sz enc w' v xs:=
 let ⟨S,us,h1,h2,h3⟩:=h
 ⟨S,us,h1.keep z fun k k1 k2 k3=>e k k1 (k3.elim (fun⟨o,q⟩=>h2 k o q) (h3 k)) k2,h2,h3⟩
theorem F4.base{α:Type}{B B' E sz:Nat}{enc:α->As8}{S:Nat->Nat->Prop}{w:World}{v:Value}{xs:List α}{us:As9}(h:F4 B E sz enc S w v xs us)(hB:B'<=B):F4 B' E sz enc S w v xs us:=
 ⟨⟨h.own.1,h.own.2.imp id fun⟨g,cap,DU,h1,h2,h3⟩=>⟨g,cap,DU,h1,Az hB h2,h3⟩⟩,h.len,fun b o q=>⟨Az hB (h.fresh b o q).1,(h.fresh b o q).2⟩,h.row⟩
structure AdX(B c1 c2:Nat)(w:World)(l:Lk)(v0 v1 v2 v3:Value):Prop where
 r0:ZG B c1 68 2 Ak w v0 l.roots
 r1:ZG c1 c2 53 6 Cr w v1 l.ents
 r2:ZG c2 w.heap.size 96 6 A8 w v2 l.infs
 r3:ZG c2 w.heap.size 92 3 AT w v3 l.skips
 b1:B<=c1
 b2:c1<=c2
 b3:c2<=w.heap.size
theorem uZ(R D b T most:Nat)(s:As6)(q:N)(W:World)(h:RW R D s most q W)(QA:b≠R)(Qz:b≠D)(OA:b≠0)(hB:W.heap[b]?=some (.cells #[.slice none 0 0,.slice none 0 0,.slice none 0 0,.slice none 0 0] T (0,0)))(TK:most<=10^6) :
  Calls Tryz.prog 63 #[ifR D,pA b 0] W fun x w'=>x=.returned (.tuple #[])/\∃v0 v1 v2 v3,MP R b s (Sy s most q).2 #[v0,v1,v2,v3] T W w'/\∃c1 c2,AdX W.heap.size c1 c2 w' (Sy s most q).1 v0 v1 v2 v3:=by
 have CL:b<W.heap.size:=(Ag.1 hB).1;have hR:=h.toROk.lt
 go_enter Tryz.func63,Tryz.ntmps63
 go_wp2_with (first
  |(go_at_call 120;go_loud (refine(jE R D b 0 T most s q _ _ h QA Qz OA hB rfl TK).mono ?_;rintro x w1 ⟨rfl,v0,S0,us0,⟨q1,k1,d1⟩,l0⟩;have h1:=h.step q1 d1 Qz OA (IS (fun _ k=>bn k) h.qok)))
  |(go_at_call 125;go_loud (refine(jG R D b 1 T most s _ _ _ h1 QA Qz OA k1 rfl TK).mono ?_;rintro x w2 ⟨rfl,v1,S1,us1,⟨q2,k2,d2⟩,l1⟩;have h2:=h1.step q2 d2 Qz OA (IS (fun _ k=>bj k) h1.qok)))
  |(go_at_call 127;go_loud (refine(jH R D b 2 T most s _ _ _ h2 QA Qz OA k2 rfl TK).mono ?_;rintro x w3 ⟨rfl,v2,S2,us2,⟨q3,k3,d3⟩,l2⟩;have h3:=h2.step q3 d3 Qz OA (IS (fun _ k=>bl k) h2.qok)))
  |(go_at_call 129;go_loud (refine(jI R D b 3 T most s _ _ _ h3 QA Qz OA k3 rfl TK).mono ?_;rintro x w4 ⟨rfl,v3,S3,vw,⟨q4,k4,d4⟩,l3⟩)))
 have z1:=d1.size;have z2:=d2.size;have z3:=d3.size;have z4:=d4.size
 refine bodyPost_end (results_none rfl _ _ _) rfl ⟨rfl,v0,v1,v2,v3,⟨q4,k4,((d1.trans d2).trans d3).trans d4⟩,w1.heap.size,w2.heap.size,
  ((l0.lrb.later d2 hR CL).later d3 hR CL).later d4 hR CL,(l1.lrb.later d3 I I).later d4 I I,?_,?_,z1,z2,by omega⟩
 .exact((l2.later d4 I I)).lrb
 .exact(l3.base z3).lrb
end Go.Proofs
namespace Go.Proofs
open Go.Shelf Go.RowKit Go.Lib Go.Sort Go.Eng
abbrev K8(p:As6):Int:=(AR p).getD 0
def JT(e:Lo):Lo:=⟨e.path,⟨K8 e.path,e.ver.b,e.ver.c⟩,e.arch,e.ifc⟩
def Xz(xs:List Lo)(k:Nat):List Lo:=(xs.take k).map JT++xs.drop k
theorem so(xs:List Lo)(k:Nat):(Xz xs k).length=xs.length:=by
 grind [Xz]
theorem sn{xs:List Lo}{k:Nat}(h:k<xs.length):(Xz xs k)[k]?=some xs[k]:=by
 grind [Xz]
theorem oh{xs:List Lo}{k:Nat}(h:k<xs.length):(Xz xs k).set k (JT xs[k])=Xz xs (k+1):=by
 grind [Xz,List.drop_eq_getElem_cons,List.take_add_one]
theorem sm(xs:List Lo):Xz xs xs.length=xs.map JT:=by
 grind [Xz]
theorem cZ{us:As9}{sz:Nat}{v:Value}(h:∀u∈us,u.length=sz):∀(k j:Nat) (u:At0),us[k]?=some u->j<sz->us.flatten.set (k*sz+j) v=(us.set k (u.set j v)).flatten:=by
 induction us with
 |nil=>simp_all
 |cons a l ih=>
  intro k j u e hj;have ha:=h a (.head _)
  match k,e with
  |0,e=>
   simp_all
  |k+1,e=>
   grind
theorem UM{α:Type}{B E sz:Nat}{enc:α->As8}{S:Nat->Nat->Prop}{w:World}{v:Value}{xs:List α}{us:As9}(h:F4 B E sz enc S w v xs us):∀u∈us,u.length=sz:=fun u hu=>by
 obtain⟨i,hi⟩:=B4.1 hu;have rC:i<xs.length:=by grind [Go.Proofs.F4.len]
 exact(h.row i xs[i] u (AC rC) hi).1
theorem yf{B:Nat}{S:Nat->Nat->Prop}{w:World}{g cap k n:Nat}{xs:List Lo}{us:As9}{x:Lo}{m:Int}(h:F4 B 53 6 Cr S w (.slice (some ⟨g,0,none⟩) n cap) xs us)(hx:xs[k]?=some x) :
  ∃us',F4 B 53 6 Cr S (w.setCell ⟨g,k*6+1,none⟩ (.int .i64 m)) (.slice (some ⟨g,0,none⟩) n cap) (xs.set k ⟨x.path,⟨m,x.ver.b,x.ver.c⟩,x.arch,x.ifc⟩) us':=by
 have hkx:k<xs.length:=(AN.1 hx).1;have hku:k<us.length:=by grind [Go.Proofs.F4.len]
 have hu:=AC hku;obtain⟨r1,r2⟩:=h.row k x _ hx hu;have hS:∀b o,S b o->(w.setCell ⟨g,k*6+1,none⟩ (.int .i64 m)).heap[b]?=w.heap[b]?:=fun b o q=>Ag8 _ _ _ _ (fun e=>(h.fresh b o q).2.2 (by rw[e];rfl));have hz:(w.setCell ⟨g,k*6+1,none⟩ (.int .i64 m)).heap.size=w.heap.size:=aa0
 have hk:D8 (gS S) w (gS S) (w.setCell ⟨g,k*6+1,none⟩ (.int .i64 m)):=fun b o q=>⟨q,by grind [World.cell?],fun _ _ z=>(hS b o q).trans z⟩;refine⟨us.set k (us[k].set 1 (.int .i64 m)),⟨?_,?_⟩,by simp[h.len],fun b o q=>by rw[hz];exact h.fresh b o q,fun i y u' e1 e2=>?_⟩
 .rw[JY,<-cZ (UM h) k 1 _ hu I,JY];exact h.own.1
 .rw[JY,<-cZ (UM h) k 1 _ hu I];rcases h.own.2 with ⟨e,_⟩ | ⟨g',P0,DU,e,h1,h2,h3,h4,h5,h6⟩
  .cases e
  .injection e with e1 en e2
   injection e1 with e1
   injection e1 with e1
   subst e1 e2;refine .inr ⟨g,cap,DU.setIfInBounds (k*6+1) (.int .i64 m),by rw[en],h1,?_,h3,h4,by simp_all,?_⟩
   .show(w.heap.modify g _)[g]?=_
    grind
   grind [List.take_set]
 .rcases Nat.decEq i k with Ec | rfl
  .grind [Go.Proofs.F4.row,O.mono,JA.refl]
  .rw[Xj hkx]at e1;rw[Xj hku]at e2;cases e1;cases e2;refine⟨by simp_all,fun j av z a1 a2=>?_⟩;rcases Nat.decEq j 1 with hj | rfl
   .grind [O.mono,JA.refl]
   .rw[Xj I]at a2;cases a1;cases a2;exact⟨.v _ _,rfl⟩
theorem zg(p:As6)(hp:Er p)(W:World)(hM:HM W):∃(nm:As6) (e:Int),Calls Tryz.prog 66 #[.string p] W fun x w'=>x=.returned (.tuple #[.string nm,.int .i64 (K8 p),.int .i64 e])/\Below W.heap.size W w':=by
 have h:=jw p hp;have go:∀(nm:As6) (m e:Int),PC 66 [vs p] (.tup [vs nm,G m,G e])->Calls Tryz.prog 66 #[.string p] W fun x w'=>x=.returned (.tuple #[.string nm,.int .i64 m,.int .i64 e])/\Below W.heap.size W w':=fun nm m e hc=>by
  refine(GY (vals:=#[.string p]) hc hM rfl (fun i av x e1 e2=>?_)).mono fun x W' ⟨⟨v,g',U,e1,e2⟩,hb⟩=>⟨by rw[e1,NF (vs:=[.string nm,.int .i64 m,.int .i64 e]) e2],hb⟩
  grind [O.v]
 unfold K8;cases e:AR p with
 |none=>rw[e]at h;exact⟨_,_,go _ _ _ h⟩
 |some m=>rw[e]at h;exact⟨_,_,go _ _ _ h⟩
abbrev Nj(l:Lk):Lk:=⟨l.roots,l.ents.map JT,l.infs,l.skips⟩
abbrev Um(s:As6):Lk×N:=Sy s s.size (0,0)
def gW(s:As6):Bool:=decide ((Um s).2.2=0/\¬(Um s).2.1<s.size)&&Cz (Nj (Um s).1)
def MB(s:As6):Lk×Int:=if gW s=true then(Nj (Um s).1,0)else(⟨[],[],[],[]⟩,9)
theorem IT{α:Type}{B E sz:Nat}{enc:α->As8}{S:Nat->Nat->Prop}{w:World}{g cap n:Nat}{xs:List α}{us:As9}(h:F4 B E sz enc S w (.slice (some ⟨g,0,none⟩) n cap) xs us){k j:Nat}{u:At0}{y:Value}(hu:us[k]?=some u)(hj:u[j]?=some y):w.cell? ⟨g,k*sz+j,none⟩=some y/\w.frozen? ⟨g,k*sz+j,none⟩=false:=by
 rcases h.own.2 with ⟨e,_⟩ | ⟨g',P0,DU,e,h1,h2,h3,h4,h5,h6⟩
 .cases e
 .injection e with e1 _ _
  injection e1 with e1
  injection e1 with e1
  subst e1;have hul:=UM h u (Ax hu);have hk:k<us.length:=(AN.1 hu).1;have hjl:j<sz:=aa2
  refine⟨?_,Ag5 h2 _⟩;rw[Af9 h2,<-BY];have hf:=(M3 (UM h) k j u hu hjl).trans hj
  grind
theorem sc{B0 B1 B2 B3 d0 d1 d2 d3:Nat}{W w:World}{l:Lk}{v0 v1 v2 v3:Value}(r0:ZG B0 d0 68 2 Ak w v0 l.roots)(r1:ZG B1 d1 53 6 Cr w v1 l.ents)(r2:ZG B2 d2 96 6 A8 w v2 l.infs)(r3:ZG B3 d3 92 3 AT w v3 l.skips)(b0:W.heap.size<=B0)(b1:W.heap.size<=B1)(b2:W.heap.size<=B2)(b3:W.heap.size<=B3) :
  ∃S,(∀b o,S b o->W.heap.size<=b/\b<w.heap.size)/\O (gS S) w DS (.agg (Bu l)) (.agg #[v0,v1,v2,v3]):=by
 obtain⟨S0,u0,h0,_,_⟩:=r0;obtain⟨S1,u1,h1,_,_⟩:=r1;obtain⟨S2,u2,h2,_,_⟩:=r2;obtain⟨S3,u3,h3,_,_⟩:=r3;have e0:=h0.done b0 (fun _=>rfl);have e1:=h1.done b1 (fun _=>rfl);have e2:=h2.done b2 (fun _=>rfl);have e3:=h3.done b3 (fun _=>rfl);have up:∀{S S' : Nat->Nat->Prop} {av:AV} {v:Value},(∀b o,S b o->S' b o)->Ka S W w [av] [v]->O (gS S') w DS av v/\v.oneCell'=true:=fun hS e=>
  ⟨(e.rep 0 _ _ rfl rfl).1.mono (fun b o q=>⟨hS b o q,rfl,fun _ _ z=>z⟩) (fun _ z=>z) (.refl _ _),(e.rep 0 _ _ rfl rfl).2⟩
 have key:∀T:Nat->Nat->Prop,(∀b o,(S0 b o\/some b=v0.ownBlock)->T b o)->(∀b o,(S1 b o\/some b=v1.ownBlock)->T b o)->(∀b o,(S2 b o\/some b=v2.ownBlock)->T b o)->(∀b o,(S3 b o\/some b=v3.ownBlock)->T b o)->O (gS T) w DS (.agg (Bu l)) (.agg #[v0,v1,v2,v3]):=fun T t0 t1 t2 t3=>by
  grind [O.agg]
 refine⟨fun b o=>(S0 b o\/some b=v0.ownBlock)\/(S1 b o\/some b=v1.ownBlock)\/(S2 b o\/some b=v2.ownBlock)\/(S3 b o\/some b=v3.ownBlock),fun b o q=>?_,key _ (fun _ _ q=>.inl q) (fun _ _ q=>.inr (.inl q)) (fun _ _ q=>.inr (.inr (.inl q))) (fun _ _ q=>.inr (.inr (.inr q)))⟩;rcases q with q | q | q | q
 .exact e0.fresh b o q
 .exact e1.fresh b o q
 .exact e2.fresh b o q
 .exact e3.fresh b o q
abbrev GR:Array Value:=#[.slice none 0 0,.slice none 0 0,.slice none 0 0,.slice none 0 0]
theorem Zk{f:Func}(hf:f.results=Tryz.f28.results)(tmps:Array Value)(w:World)(g:Nat)(cs:Array Value)(e:Value)(hp:tmps.getD 2 undef=pA g 0)(he:tmps.getD 3 undef=e)(hg:w.heap[g]?=some (.cells cs 33 (0,0)))(EC:cs.size=4):(results f tmps).run Tryz.prog w=.ok (.tuple #[.agg cs,e]) w:=by
 rw[results_cell_tmp (p:=2) (u:=3) (ty:=33) hf,hp,he];show((loadVar 33 ⟨g,0,none⟩).run Tryz.prog w).andThen _=_;rw[run_loadVar_row w g 33 33 cs (0,0) _ hg Tryz.underlying33 rfl (by rw[EC];kernel_rfl)]
 rfl
theorem EG{w:World}{g k T:Nat}{cs:Array Value}{v:Value}(h:w.heap[g]?=some (.cells cs T (0,0))):(w.setCell ⟨g,k,none⟩ v).heap[g]?=some (.cells (cs.setIfInBounds k v) T (0,0)):=by
 show(w.heap.modify g _)[g]?=_
 grind
abbrev pg(w:World)(g:Nat)(a b c d:Value):World:=(((w.setCell ⟨g,0,none⟩ a).setCell ⟨g,1,none⟩ b).setCell ⟨g,2,none⟩ c).setCell ⟨g,3,none⟩ d
theorem Ls{w:World}{g:Nat}(a b c d:Value)(h:w.heap[g]?=some (.cells GR 33 (0,0))):(pg w g a b c d).heap[g]?=some (.cells #[a,b,c,d] 33 (0,0)):=EG (EG (EG (EG h)))
theorem l5{w:World}{g k:Nat}{a b c d:Value}(h:k≠g):(pg w g a b c d).heap[k]?=w.heap[k]?:=
 (Ag8 _ _ _ _ h).trans ((Ag8 _ _ _ _ h).trans ((Ag8 _ _ _ _ h).trans (Ag8 _ _ _ _ h)))
theorem Zl{w:World}{g:Nat}{a b c d:Value}:(pg w g a b c d).heap.size=w.heap.size:=aa0
theorem WL{W w:World}{a b c d:Value}(h:Below W.heap.size W w):Below W.heap.size W (pg w W.heap.size a b c d):=
 ⟨h.os,h.tape,h.output,by rw[Zl];exact h.size,fun k hk=>(l5 I).trans (h.block k hk)⟩
theorem xF(w:World):O (gS fun _ _=>False) w DS (.agg (Bu ⟨[],[],[],[]⟩)) (.agg GR):=by
 refine .agg _ _ _ rfl (fun j x e=>?_) (fun j av x a1 a2=>?_)
 .match j,e with
  |0,e |1,e |2,e |3,e=>cases e;rfl
 grind [O.snil]
theorem lc{f:Nat}{l:Lk}{v a:Value}{S:Nat->Nat->Prop}{wr w:World}(hc:PC f [.agg (Bu l)] (.v v))(hr:O (gS S) wr DS (.agg (Bu l)) a)(hS:∀b o,S b o->b<wr.heap.size)(hh:w.heap=wr.heap)(hM:HM w):Calls Tryz.prog f #[a] w fun e w'=>e=.returned v/\Below w.heap.size w w':=by
 refine(GY (vals:=#[a]) hc hM rfl (fun i av y e1 e2=>?_)).mono fun e W' ⟨⟨v,g',U,e1,e2⟩,hb⟩=>⟨by rw[e1,e2.v_eq],hb⟩
 match i with
 |0=>cases e1;cases e2;exact O.mono (g:=gS S) (w:=wr) (g':=aj w) (w':=w) (fun b o q=>⟨by show b<w.heap.size;grind,by grind [World.cell?],fun _ _ z=>by simp_all⟩) hr (fun _ z=>z) (fun _ z=>z.elim)
 |_+1=>simp_all
def pW(W:World)(r:Lk×Int)(x:Ending)(w' : World):Prop:=∃v0 v1 v2 v3 S,x=.returned (.tuple #[.agg #[v0,v1,v2,v3],.int .i64 r.2])/\Below W.heap.size W w'/\(∀b o,S b o->W.heap.size<=b/\b<w'.heap.size)/\O (gS S) w' DS (.agg (Bu r.1)) (.agg #[v0,v1,v2,v3])
theorem jX{W wr w:World}{l:Lk}{v0 v1 v2 v3:Value}{S:Nat->Nat->Prop}(hb:Below W.heap.size W wr)(b:Below wr.heap.size wr w)(hS:∀b o,S b o->W.heap.size+1<=b/\b<wr.heap.size)(hr:O (gS S) wr DS (.agg (Bu l)) (.agg #[v0,v1,v2,v3])) :
  pW W (l,0) (.returned (.tuple #[.agg #[v0,v1,v2,v3],.int .i64 0])) (pg w W.heap.size v0 v1 v2 v3):=
 ⟨_,_,_,_,S,rfl,WL (hb.trans (b.mono hb.size)),fun b' o q=>⟨by grind,by rw[Zl];have:=(hS b' o q).2;have:=b.size;omega⟩,O.mono (g:=gS S) (w:=wr) (fun b' o q=>by
  have e:=(l5 (a:=v0) (b:=v1) (c:=v2) (d:=v3) (show b'≠W.heap.size by grind)).trans (b.block b' (hS b' o q).2);exact⟨q,by simp only[World.cell?,e],fun _ _ z=>e.trans z⟩) hr (fun _ z=>z) (.refl _ _)⟩
theorem Ut{W w:World}(hb:Below W.heap.size W w):pW W (⟨[],[],[],[]⟩,9) (.returned (.tuple #[.agg GR,.int .i64 9])) (pg w W.heap.size (.slice none 0 0) (.slice none 0 0) (.slice none 0 0) (.slice none 0 0)):=
 ⟨_,_,_,_,fun _ _=>False,rfl,WL hb,fun _ _ q=>q.elim,xF _⟩
structure Fr(c1 c2:Nat)(w w' : World):Prop where
 os:w'.os=w.os
 tape:w'.tape=w.tape
 output:w'.output=w.output
 size:w.heap.size<=w'.heap.size
 blk:∀k,k<w.heap.size->(k<c1\/c2<=k)->w'.heap[k]?=w.heap[k]?
abbrev gX(W:World)(s:As6):World:=(((W.alloc (.cells GR 33)).alloc (UL s 0 0)).alloc (lrO (W.heap.size+1) s.size)).alloc (.cells GR 33)
theorem wg(s:As6)(hs:s.size<=10^6)(W:World)(hM:HM W):RW (W.heap.size+1) (W.heap.size+1+1) s s.size (0,0) (gX W s)/\(gX W s).heap[W.heap.size+1+1+1]?=some (.cells GR 33)/\(gX W s).heap[W.heap.size]?=some (.cells GR 33)/\Below W.heap.size W (gX W s)/\(gX W s).heap.size=W.heap.size+4:=by
 have z1:(W.alloc (.cells GR 33)).heap.size=W.heap.size+1:=aa1
 have z2:((W.alloc (.cells GR 33)).alloc (UL s 0 0)).heap.size=W.heap.size+1+1:=aa1
 have z3:(((W.alloc (.cells GR 33)).alloc (UL s 0 0)).alloc (lrO (W.heap.size+1) s.size)).heap.size=W.heap.size+1+1+1:=aa1
 have k0:=Dk W (.cells GR 33);have k1:=Dk (W.alloc (.cells GR 33)) (UL s 0 0);have k2:=Dk ((W.alloc (.cells GR 33)).alloc (UL s 0 0)) (lrO (W.heap.size+1) s.size);have k3:=Dk (((W.alloc (.cells GR 33)).alloc (UL s 0 0)).alloc (lrO (W.heap.size+1) s.size)) (.cells GR 33);rw[z1]at k1;rw[z2]at k2;rw[z3]at k3;refine⟨⟨⟨?_,((hM.alloc _).alloc _).alloc _ |>.alloc _,Ai _,by omega,.inl rfl⟩,?_,by omega⟩,k3,?_,?_,by simp⟩
 all_goals grind [Below.heap_alloc,Below.refl,Go.RowKit.Below.alloc]
theorem Lr{α:Type}{B c E sz:Nat}{enc:α->As8}{w:World}{v:Value}{xs:List α}(h:ZG B c E sz enc w v xs):∃a k,v=.slice a xs.length k:=by
 obtain⟨S,us,h1,_,_⟩:=h;rcases h1.own.2 with ⟨e,e0⟩ | ⟨g,cap,DU,e,_⟩<;>simp_all
theorem pK(s:As6)(hs:s.size<=10^6)(hp:∀e∈(Um s).1.ents,Er e.path)(hf:(Um s).2.2=0->¬(Um s).2.1<s.size->PC 48 [.agg (Bu (Nj (Um s).1))] (Q (Cz (Nj (Um s).1))))(W:World)(hM:HM W) :
  Calls Tryz.prog 28 #[.string s] W (pW W (MB s)):=by
 go_enter Tryz.func28,Tryz.ntmps28
 obtain⟨f1,f2,f3,f4,f5⟩:=wg s hs W hM
 go_wp2_with (first
  |(go_at_call 64;refine(Ad5 s _).mono ?_;rintro x w1 ⟨rfl,rfl⟩)
  |(go_at_call 63;go_loud (refine(uZ (W.heap.size+1) (W.heap.size+1+1) (W.heap.size+1+1+1) 33 s.size s (0,0) (gX W s) f1 I I I f2 hs).mono ?_;rintro x w5 ⟨rfl,v0,v1,v2,v3,⟨q5,k5,d5⟩,c1,c2,lk⟩;obtain⟨a1,n1,rfl⟩:=Lr lk.r1;obtain⟨a0,n0,rfl⟩:=Lr lk.r0;obtain⟨a2,n2,rfl⟩:=Lr lk.r2;obtain⟨a3,n3,rfl⟩:=Lr lk.r3;have hD5:=(d5.block (W.heap.size+1+1) I I I).trans f1.hD;have x0:=Af9 hD5 0;have x1:=Af9 k5 1)))
 generalize hl0:(Sy s s.size (0,0)).1=l0 at lk hp k5 x1⊢
 go_loopw [29] (fun i wr=>∃k:Nat,i=.int .i64 k/\k<=l0.ents.length/\ZG c1 c2 53 6 Cr wr (.slice a1 l0.ents.length n1) (Xz l0.ents k)/\Fr c1 c2 w5 wr) (fun i _=>l0.ents.length-(intOf i).toNat)
 case atStart=>exact⟨0,rfl,Ai _,lk.r1,rfl,rfl,rfl,Af _,fun _ _ _=>rfl⟩
 case round=>
  obtain⟨k,rfl,hk,⟨S,us,Hh,hS,hO⟩,VL⟩:=hrel;rcases BR k l0.ents.length with CL | dq
  .have hx:=sn CL;have hml:=so l0.ents k;obtain⟨g,rfl,kG,hnl⟩:∃g,a1=some ⟨g,0,none⟩/\c1<=g/\l0.ents.length<=2^63-1:=by
    rcases Hh.own.2 with ⟨e,e0⟩ | ⟨g,cap,DU,e,e2,_,e3,e4,_⟩<;>grind [maxLen]
   have hg2:=hO g rfl;have hku:k<us.length:=by grind [Go.Proofs.F4.len]
   have hu:=AC hku;obtain⟨r1,r2⟩:=Hh.row k _ _ hx hu;obtain⟨u0,u1,u2,u3,u4,u5,Na⟩:=AfK r1;rw[Na]at hu r2;obtain rfl:u0=.string l0.ents[k].path:=(r2 0 _ u0 rfl rfl).1.v_eq;obtain rfl:u1=.int .i64 l0.ents[k].ver.a:=(r2 1 _ u1 rfl rfl).1.v_eq;obtain rfl:u2=.int .i64 l0.ents[k].ver.b:=(r2 2 _ u2 rfl rfl).1.v_eq;obtain rfl:u3=.int .i64 l0.ents[k].ver.c:=(r2 3 _ u3 rfl rfl).1.v_eq;obtain rfl:u4=.string l0.ents[k].arch:=(r2 4 _ u4 rfl rfl).1.v_eq;obtain rfl:u5=.string l0.ents[k].ifc:=(r2 5 _ u5 rfl rfl).1.v_eq;have g0:=(IT Hh hu (j:=0) rfl).1;have g1:=(IT Hh hu (j:=1) rfl).1;have g2:=(IT Hh hu (j:=2) rfl).1;have g3:=(IT Hh hu (j:=3) rfl).1;have g4:=(IT Hh hu (j:=4) rfl).1;have g5:=(IT Hh hu (j:=5) rfl).1;rw[FF]at g0;have hb5:W.heap.size+1+1+1<c1:=by have:=lk.b1;omega
   have z5:=lk.b3;have hM5:HM w5:=f1.hM.imp fun m hm=>by
    rw[<-hm];simp only[World.cell?,d5.block 0 (LD hm) I I]
   have TJ:HM wr:=hM5.imp fun m hm=>by
    rw[<-hm];simp only[World.cell?,VL.blk 0 (LD hm) (.inl I)]
   have EC:=VL.size;have hgr:=(Ag.1 (show ∃DU,wr.heap[g]?=some DU from aa2).choose_spec).1;have kb:=(VL.blk (W.heap.size+1+1+1) I (.inl hb5)).trans k5;obtain⟨nm,er,Afh⟩:=zg l0.ents[k].path (hp _ (Am CL)) (wr.alloc (.cells #[.string l0.ents[k].path,.int .i64 l0.ents[k].ver.a,.int .i64 l0.ents[k].ver.b,.int .i64 l0.ents[k].ver.c,.string l0.ents[k].arch,.string l0.ents[k].ifc] 53)) (TJ.alloc _)
   go_wp2_with (go_at_call 66;go_loud (refine Afh.mono ?_;rintro x w6 ⟨rfl,d6⟩;have s6:∀j,j<wr.heap.size->w6.heap[j]?=wr.heap[j]?:=(fun j hj=>(d6.block j (by simp;omega)).trans (Ai0 _ _ _ hj));have kb6:=(s6 (W.heap.size+1+1+1) I).trans kb;have cb6:=Af9 kb6 1;have tU:=Hh.keep (w':=w6) (by have:=d6.size;simp at this;omega) (fun j _ j2 _=>s6 j j2);have cg6:=(IT tU hu (j:=1) rfl).1;have fg6:=(IT tU hu (j:=1) rfl).2))
   obtain⟨us',yd⟩:=yf (m:=K8 l0.ents[k].path) tU hx;rw[show(⟨l0.ents[k].path,⟨K8 l0.ents[k].path,l0.ents[k].ver.b,l0.ents[k].ver.c⟩,l0.ents[k].arch,l0.ents[k].ifc⟩:Lo)=JT l0.ents[k]from rfl,oh CL]at yd
   go_roundw
   case rel=>
    refine⟨k+1,by go_num,CL,⟨S,us',yd,hS,hO⟩,d6.os.trans VL.os,d6.tape.trans VL.tape,d6.output.trans VL.output,?_,fun j j1 j2=>?_⟩
    .have:=d6.size
     grind [World.setCell,Go.World.size_alloc]
    grind [Below.heap_setCell,Go.Proofs.Fr.blk]
   grind [intOf]
  .obtain rfl:k=l0.ents.length:=I
   have hb5:W.heap.size+1+1+1<c1:=by have:=lk.b1;omega
   have z5:=lk.b3;have z6:=lk.b2;have EC:=VL.size;rw[sm]at Hh;have kR:=(VL.blk (W.heap.size+1) I (.inl I)).trans q5;have kb:=(VL.blk (W.heap.size+1+1+1) I (.inl hb5)).trans k5;have k0:wr.heap[W.heap.size]?=some (.cells GR 33):=(VL.blk W.heap.size I (.inl I)).trans ((d5.block W.heap.size I I I).trans f3);have hM5:HM w5:=f1.hM.imp fun m hm=>by
    grind [World.cell?,Go.Proofs.RB.block]
   have TJ:HM wr:=hM5.imp fun m hm=>by
    grind [World.cell?,Go.Proofs.Fr.blk]
   have ar:Below W.heap.size W wr:=f4.trans ⟨VL.os.trans d5.os,VL.tape.trans d5.tape,VL.output.trans d5.output,Az d5.size VL.size,fun j j1=>(VL.blk j I (.inl I)).trans (d5.block j I I I)⟩;have kH:∀j,j<w5.heap.size->(j<c1\/c2<=j)->wr.heap[j]?=w5.heap[j]?:=VL.blk;obtain⟨S',Pe,DN⟩:=sc (W:=gX W s) (w:=wr) (l:=Nj l0) (lk.r0.keep EC fun j _ j2 j3=>kH j j3 (.inl j2)) ⟨S,us,Hh,hS,hO⟩ (lk.r2.keep EC fun j j1 _ j3=>kH j j3 (.inr j1)) (lk.r3.keep EC fun j j1 _ j3=>kH j j3 (.inr j1)) (Af _) lk.b1 (Az lk.b1 z6) (Az lk.b1 z6);have e65:∀args w,(callFunc 65 args).run Tryz.prog w=.ok (.enter 65 args) w:=enters_of Tryz.func65 aa5 rfl;have M8:=Ad4 (W.heap.size+1) _ _ s wr (bi (q:=(0,0)) ⟨Ai _,.inl rfl⟩).2 kR;have hl1:Nj (Um s).1=Nj l0:=aa0
   by_cases hE:(Um s).2.2=0/\¬(Um s).2.1<s.size
   .have hv:(if(Sy s s.size (0,0)).2.2=0 then(if(Sy s s.size (0,0)).2.1<s.size then 9 else 0)else(Sy s s.size (0,0)).2.2)=(0:Int):=aa0
    rw[hv]at M8;have hf:=hf hE.1 hE.2;rw[hl1]at hf;have y0:wr.drew.cell? ⟨W.heap.size+1+1+1,0,none⟩=some (.slice a0 l0.roots.length n0):=Af9 (w:=wr.drew) kb 0;have y1:wr.drew.cell? ⟨W.heap.size+1+1+1,1,none⟩=some (.slice a1 l0.ents.length n1):=Af9 (w:=wr.drew) kb 1;have y2:wr.drew.cell? ⟨W.heap.size+1+1+1,2,none⟩=some (.slice a2 l0.infs.length n2):=Af9 (w:=wr.drew) kb 2;have y3:wr.drew.cell? ⟨W.heap.size+1+1+1,3,none⟩=some (.slice a3 l0.skips.length n3):=Af9 (w:=wr.drew) kb 3;have hfm:=lc (w:=wr.drew) hf DN (fun b o q=>(Pe b o q).2) rfl TJ.drew;generalize ip:Cz (Nj l0)=fb at hfm;cases fb with
    |true=>
     have ry:MB s=(Nj l0,0):=by unfold MB gW;simp_all
     go_wp2_with (first
      |(go_at_call 65;refine M8.mono ?_;rintro x w' ⟨rfl,rfl⟩)
      |(go_at_fn 65;refine M8.mono ?_;rintro x w' ⟨rfl,rfl⟩)
      |(go_at_call 48;go_loud (refine hfm.mono ?_;rintro x w8 ⟨rfl,b8⟩;have kb8:=(b8.block (W.heap.size+1+1+1) (by show _<wr.heap.size;omega)).trans kb;have aH:=(b8.block W.heap.size (by show _<wr.heap.size;omega)).trans k0;have t0:=Af9 kb8 0;have t1:=Af9 kb8 1;have t2:=Af9 kb8 2;have t3:=Af9 kb8 3;have m0:=Af9 aH 0;have m1:=Af9 aH 1;have m2:=Af9 aH 2;have m3:=Af9 aH 3;have j0:=Ag5 aH 0;have j1:=Ag5 aH 1;have j2:=Ag5 aH 2;have j3:=Ag5 aH 3)))
     rw[ry];exact bodyPost_ret (Zk rfl _ _ W.heap.size _ (.int .i64 0) rfl rfl (Ls _ _ _ _ aH) rfl) rfl (jX (w:=w8) ar ((Below.refl _ wr).drew.trans b8) (fun b o q=>⟨by have:=(Pe b o q).1;omega,(Pe b o q).2⟩) DN)
    |false=>
     have ry:MB s=(⟨[],[],[],[]⟩,9):=by unfold MB gW;simp_all
     go_wp2_with (first
      |(go_at_call 65;refine M8.mono ?_;rintro x w' ⟨rfl,rfl⟩)
      |(go_at_fn 65;refine M8.mono ?_;rintro x w' ⟨rfl,rfl⟩)
      |(go_at_call 48;go_loud (refine hfm.mono ?_;rintro x w8 ⟨rfl,b8⟩;have aH:=(b8.block W.heap.size (by show _<wr.heap.size;omega)).trans k0;have m0:=Af9 aH 0;have m1:=Af9 aH 1;have m2:=Af9 aH 2;have m3:=Af9 aH 3;have j0:=Ag5 aH 0;have j1:=Ag5 aH 1;have j2:=Ag5 aH 2;have j3:=Ag5 aH 3)))
     rw[ry];exact bodyPost_ret (Zk rfl _ _ W.heap.size GR (.int .i64 9) rfl rfl (Ls _ _ _ _ aH) rfl) rfl (Ut (ar.drew.trans (b8.mono ar.size)))
   .have ry:MB s=(⟨[],[],[],[]⟩,9):=by unfold MB gW;grind
    have hv:(if(Sy s s.size (0,0)).2.2=0 then(if(Sy s s.size (0,0)).2.1<s.size then 9 else 0)else(Sy s s.size (0,0)).2.2)=(9:Int):=by
     by_cases h1:(Sy s s.size (0,0)).2.2=0
     .simp_all
     .grind [bi]
    rw[hv]at M8
    go_wp2_with (first
     |(go_at_call 65;refine M8.mono ?_;rintro x w' ⟨rfl,hw'⟩;have kd:w'.heap[W.heap.size]?=some (.cells GR 33):=(by rw[hw'];exact k0);have m0:=Af9 kd 0;have m1:=Af9 kd 1;have m2:=Af9 kd 2;have m3:=Af9 kd 3;have j0:=Ag5 kd 0;have j1:=Ag5 kd 1;have j2:=Ag5 kd 2;have j3:=Ag5 kd 3;have hw2:Hid (w'=wr.drew):=hw';clear hw')
     |(go_at_fn 65;refine M8.mono ?_;rintro x w' ⟨rfl,hw'⟩;have kd:w'.heap[W.heap.size]?=some (.cells GR 33):=(by rw[hw'];exact k0);have m0:=Af9 kd 0;have m1:=Af9 kd 1;have m2:=Af9 kd 2;have m3:=Af9 kd 3;have j0:=Ag5 kd 0;have j1:=Ag5 kd 1;have j2:=Ag5 kd 2;have j3:=Ag5 kd 3;have hw2:Hid (w'=wr.drew):=hw';clear hw'))
    rw[ry];exact bodyPost_ret (Zk rfl _ _ W.heap.size GR (.int .i64 9) rfl rfl (Ls _ _ _ _ kd) rfl) rfl (Ut (by rw[hw2.out];exact ar.drew))
end Go.Proofs
namespace Go.Proofs
open Go.Eng
abbrev dr(s:As6)(p:Nat):As7:=s.data.toList.drop p
theorem Vk{s:As6}{p:Nat}{a r:As7}(h:dr s p=a++r):dr s (p+a.length)=r:=by
 grind [List.drop_left,List.drop_drop]
structure Mi{α:Type}(s:As6)(rd:N->α×N)(enc:α->As7)(V:α->Prop):Prop where
 err:∀q:N,q.2≠0->(rd q).2=q
 snd:∀p p',(rd (p,0)).2=(p',0)->V (rd (p,0)).1/\dr s p=enc (rd (p,0)).1++dr s p'/\p'=p+(enc (rd (p,0)).1).length
 cpl:∀p x r,V x->dr s p=enc x++r->rd (p,0)=(x,(p+(enc x).length,0))
theorem Mi.seq{α β:Type}{s:As6}{r1:N->α×N}{r2:N->β×N}{e1:α->As7}{e2:β->As7}{V1:α->Prop}{V2:β->Prop}(h1:Mi s r1 e1 V1)(h2:Mi s r2 e2 V2) :
  Mi s (fun q=>(((r1 q).1,(r2 (r1 q).2).1),(r2 (r1 q).2).2)) (fun x=>e1 x.1++e2 x.2) (fun x=>V1 x.1/\V2 x.2) where
 err:=fun q hq=>by
  grind [Go.Proofs.Mi.err]
 snd:=fun p p' hq=>by
  have hq:(r2 (r1 (p,0)).2).2=(p',0):=hq;obtain⟨⟨p1,e⟩,hp1⟩:∃q,q=(r1 (p,0)).2:=⟨_,rfl⟩;rw[<-hp1]at hq;have he:e=0:=AH fun he=>by
   grind [Go.Proofs.Mi.err]
  subst he;obtain⟨a1,a2,a3⟩:=h1.snd p p1 hp1.symm<;>grind [Go.Proofs.Mi.snd]
 cpl:=fun p x r hv hq=>by
  have hq:dr s p=(e1 x.1++e2 x.2)++r:=hq;rw[Ct]at hq;have a:=h1.cpl p x.1 _ hv.1 hq;have b:=h2.cpl (p+(e1 x.1).length) x.2 r hv.2 (Vk hq)
  grind
theorem Mi.map{α β:Type}{s:As6}{rd:N->α×N}{enc:α->As7}{V:α->Prop}(h:Mi s rd enc V)(f:α->β)(g:β->α)(en:β->As7)(W:β->Prop)(hf:∀x,V x->W (f x)/\en (f x)=enc x)(hg:∀y,W y->V (g y)/\f (g y)=y/\en y=enc (g y)) :
  Mi s (fun q=>(f (rd q).1,(rd q).2)) en W where
 err:=h.err
 snd:=fun p p' hq=>by
  grind [Go.Proofs.Mi.snd]
 cpl:=fun p y r hv hq=>by
  obtain⟨a1,a2,a3⟩:=hg y hv;have b:=h.cpl p (g y) r a1 aa0;simp_all
theorem WW(n:Nat):1<=(uL n).length:=by
 grind [uL]
theorem lY:∀(l:As7) (j m p n e:Nat),MH j m p l=(n,e,true)->∃k,n=m+k*128 ^ j/\(∃r,l=uL k++r)/\e=p+(uL k).length/\(0<k\/j=0)
 | [],j,m,p,n,e,h=>by grind [MH]
 |b::r,j,m,p,n,e,h=>by
  have hB:b.toNat<256:=b.toNat_lt
  by_cases c1:10<=j
  .grind [MH]
  by_cases c2:j=9/\1<b.toNat
  .grind [MH]
  by_cases c3:b.toNat<128
  .simp only[MH,AB c1,AB c2,AO c3,Uc]at h;obtain⟨rfl,rfl,h3⟩:=h;have h3:=B7 h3;refine⟨b.toNat,rfl,⟨r,?_⟩,?_,h3⟩
   all_goals grind [Zx,UInt8.ofNat_toNat]
  .simp only[MH,AB c1,AB c2,AB c3]at h;obtain⟨k,k1,⟨r',k2⟩,k3,k4⟩:=lY r (j+1) _ (p+1) n e h;have hk:0<k:=k4.resolve_right I;have e1:(b.toNat-128+128*k) % 128=b.toNat-128:=I
   have e2:(b.toNat-128+128*k) / 128=k:=I
   have hu:uL (b.toNat-128+128*k)=b::uL k:=by
    grind [fO,UInt8.ofNat_toNat]
   grind
theorem lX:∀(l:As7) (j m p k:Nat) (r:As7),l=uL k++r->(0<k\/j=0)->k*128 ^ j<18446744073709551616->MH j m p l=(m+k*128 ^ j,p+(uL k).length,true)
 | [],j,m,p,k,r,h,_,_=>by
  grind [WW,List.length_append]
 |b::t,j,m,p,k,r,h,h0,hk=>by
  have hj:¬10<=j:=fun hj=>by
   have h1:0<k:=h0.resolve_right I;have h2:128 ^ 10<=128 ^ j:=MN aa3 hj;have h3:1*128 ^ j<=k*128 ^ j:=A6 _ h1;omega
  have h9:j=9->k<=1:=fun hj=>by
   grind
  by_cases c:k<128
  .grind [Zx,MH,UInt8.toNat_ofNat']
  .rw[fO c]at h⊢
   injection h with h1 h2
   subst h1;have hb:(UInt8.ofNat (k % 128+128)).toNat=k % 128+128:=by simp;omega
   simp only[MH,AB hj,hb];rw[AB I,AB I];have QB:k / 128*128 ^ (j+1)<=k*128 ^ j:=by
    rw[Nat.pow_succ,Nat.mul_comm (128 ^ j) 128,<-Nat.mul_assoc];exact A6 _ (Nat.div_mul_le_self k 128)
   rw[lX t (j+1) _ (p+1) (k / 128) r h2 (.inl I) I];have e1:m+(k % 128+128-128)*128 ^ j+k / 128*128 ^ (j+1)=m+k*128 ^ j:=by
    rw[Nat.add_sub_cancel,Nat.pow_succ,Nat.mul_comm (128 ^ j) 128,<-Nat.mul_assoc,Nat.add_assoc,<-Kd]
    grind
   grind
end Go.Proofs
namespace Go.Proofs
open Go.Eng
variable {s:As6}
theorem bE{α:Type}{z:α}{r:α×Nat×Bool}{q:N}(h:q.2≠0):tk z r q=(z,q):=by
 grind [tk]
theorem Rj{α:Type}{z:α}{r:α×Nat×Bool}{p:Nat}:tk z r (p,0)=bif r.2.2 then(r.1,(r.2.1,0))else(z,(p,9)):=by
 grind [tk]
theorem ju{α:Type}{z:α}{r:α×Nat×Bool}{p p' : Nat}(h:(tk z r (p,0)).2=(p',0)):r.2.2=true/\r.2.1=p'/\(tk z r (p,0)).1=r.1:=by
 grind [Rj]
theorem jk{p:Nat}(h:(F0 s p).2.2=true):dr s p=uL (F0 s p).1++dr s (F0 s p).2.1/\(F0 s p).2.1=p+(uL (F0 s p).1).length:=by
 grind [lY,Vk]
theorem jj{p k:Nat}{r:As7}(h:dr s p=uL k++r)(hk:k<2^63):F0 s p=(k,p+(uL k).length,true):=by
 grind [lX]
theorem G8:Mi s (Iw s) uL (fun n=>n<2^63) where
 err:=fun q hq=>by grind [Iw,bE]
 snd:=fun p p' hq=>by
  obtain⟨a1,a2,a3⟩:=ju hq<;>grind [Iw,jk]
 cpl:=fun p x r hv hq=>by
  have e:=jj hq hv
  grind [Iw,Rj]
theorem we(most:Nat):Mi s (JR s most) uL (fun n=>n<2^63/\n<=most) where
 err:=fun q hq=>by grind [JR,bE]
 snd:=fun p p' hq=>by
  obtain⟨a1,a2,a3⟩:=ju hq<;>grind [JR,jk]
 cpl:=fun p x r hv hq=>by
  have e:=jj hq hv.1
  grind [JR,Rj]
theorem qN{k n:Nat}:(s.extract k (k+n)).data.toList=(dr s k).take n:=by
 simp_all
theorem LH:Mi s (DB s) tL (fun x=>x.size<2^63) where
 err:=fun q hq=>by grind [DB,bE]
 snd:=fun p p' hq=>by
  obtain⟨a1,a2,a3⟩:=ju hq;have a3:(DB s (p,0)).1=(J9 s p).1:=a3;rw[a3];unfold J9 at a1 a2⊢;split at a1
  .rename_i c;rw[AO c]at a2⊢;have a2:(F0 s p).2.1+(F0 s p).1=p':=a2;obtain⟨b1,b2⟩:dr s p=uL (F0 s p).1++dr s (F0 s p).2.1/\(F0 s p).2.1=p+(uL (F0 s p).1).length:=jk (Ri c.1);have hl:=Aa List.length b1;have hu:=WW (F0 s p).1;have z1:(dr s p).length=s.size-p:=GV ..;have z2:(dr s (F0 s p).2.1).length=s.size-(F0 s p).2.1:=GV ..;rw[Ac,z1,z2]at hl;have c2:(F0 s p).1<=s.size-(F0 s p).2.1:=c.2;have EC:(s.extract (F0 s p).2.1 ((F0 s p).2.1+(F0 s p).1)).size=(F0 s p).1:=by
    grind [ByteArray.size_extract]
   grind [tL,qN,List.drop_drop,List.take_append_drop]
  simp_all
 cpl:=fun p x r hv hq=>by
  have hq:dr s p=(uL x.size++x.data.toList)++r:=hq;rw[Ct]at hq;have e:=jj hq hv;have hq2:=Vk hq;have hl:=Aa List.length hq2;have z2:(dr s (p+(uL x.size).length)).length=s.size-(p+(uL x.size).length):=GV ..;have hx:x.data.toList.length=x.size:=rfl;rw[Ac,z2,hx]at hl;unfold DB;rw[Rj];have et:J9 s p=(x,p+(uL x.size).length+x.size,true):=by
   unfold J9;rw[AO ⟨by simp_all,by simp_all⟩,e]
   have:s.extract (p+(uL x.size).length) (p+(uL x.size).length+x.size)=x:=by
    refine MI (Mt.1 ?_);simp_all
   simp_all
  grind [List.length_append]
theorem Zg{α:Type}{rd:N->α×N}{enc:α->As7}{V:α->Prop}(h:Mi s rd enc V):∀(n p p' : Nat) (acc ys:List α),ER rd n (p,0) acc=(ys,(p',0))->∃xs,ys=acc++xs/\xs.length=n/\(∀x∈xs,V x)/\dr s p=xs.flatMap enc++dr s p'/\p'=p+(xs.flatMap enc).length
 |0,p,p',acc,ys,e=>by
  rw[ER]at e;simp_all
 |n+1,p,p',acc,ys,e=>by
  rw[ER]at e;obtain⟨⟨p1,e1⟩,hp⟩:∃q,q=(rd (p,0)).2:=⟨_,rfl⟩;rw[<-hp]at e;split at e
  .rename_i c;have c:e1=0:=c;subst c;obtain⟨a1,a2,a3⟩:=h.snd p p1 hp.symm;obtain⟨xs,b1,b2,b3,b4,b5⟩:=Zg h n p1 p' _ ys e<;>grind
  simp_all
theorem Ze{α:Type}{rd:N->α×N}{enc:α->As7}{V:α->Prop}(h:Mi s rd enc V):∀(xs:List α) (p:Nat) (r:As7) (acc:List α),(∀x∈xs,V x)->dr s p=xs.flatMap enc++r->ER rd xs.length (p,0) acc=(acc++xs,(p+(xs.flatMap enc).length,0))
 | [],p,r,acc,_,_=>by simp[ER]
 |x::xs,p,r,acc,hv,e=>by
  rw[List.flatMap_cons,Ct]at e;have a:=h.cpl p x _ (hv x (.head _)) e;have b:=Ze h xs (p+(enc x).length) r (acc++[x]) (fun y q=>hv y (.tail _ q)) (Vk e)
  grind [ER]
theorem X6{α:Type}{rc:N->Nat×N}{rd:N->α×N}{enc:α->As7}{V:α->Prop}{VC:Nat->Prop}(hc:Mi s rc uL VC)(h0:∀q:N,q.2≠0->(rc q).1=0)(h:Mi s rd enc V):Mi s (fun q=>ER rd (rc q).1 (rc q).2 []) (G9 enc) (fun xs=>(∀x∈xs,V x)/\VC xs.length) where
 err:=fun q hq=>by
  rw[h0 q hq,hc.err q hq];rfl
 snd:=fun p p' hq=>by
  obtain⟨⟨p1,e1⟩,hp⟩:∃q,q=(rc (p,0)).2:=⟨_,rfl⟩;rw[<-hp]at hq⊢;have he:e1=0:=AH fun he=>by
   have:∀n acc,(ER rd n (p1,e1) acc).2.2≠0:=fun n=>by
    induction n<;>grind [ER,Go.Proofs.Mi.err]
   grind
  subst he;obtain⟨a1,a2,a3⟩:=hc.snd p p1 hp.symm;obtain⟨xs,b1,b2,b3,b4,b5⟩:=Zg h _ p1 p' [] (ER rd (rc (p,0)).1 (p1,0) []).1 (by rw[<-hq])<;>grind [G9]
 cpl:=fun p xs r hv hq=>by
  unfold G9 at hq⊢;rw[Ct]at hq;have a:=hc.cpl p xs.length _ hv.2 hq;have b:=Ze h xs (p+(uL xs.length).length) r [] hv.1 (Vk hq)
  grind
theorem MY{α:Type}{rd:As6->Nat->N->α×N}{most:Nat}{enc:α->As7}{V:α->Prop}(h:Mi s (rd s most) enc V):Mi s (FL rd s most) (G9 enc) (fun xs=>(∀x∈xs,V x)/\xs.length<2^63/\xs.length<=most):=
 X6 (we most) (fun q hq=>by grind [JR,bE]) h
end Go.Proofs
namespace Go.Proofs
open Go.Eng
variable {s:As6}
abbrev bX(x:As6):Prop:=x.size<2^63
theorem D1{n:Nat}(h:n<2^63):HB (n:Int):=⟨J6 n,by omega⟩
theorem ME(a b:Nat):MK [a,b]=uL a++uL b:=by simp[MK]
theorem sM(a b c d:Nat):MK [a,b,c,d]=uL a++(uL b++(uL c++uL d)):=by simp[MK]
theorem HB.cast{n:Int}(h:HB n):((n.toNat:Nat):Int)=n:=Int.toNat_of_nonneg h.1
theorem Ab1(most:Nat):Mi s (fu s most) T7 (fun x=>HB x.1/\HB x.2):=
 (G8.seq G8).map (fun x=>((x.1:Int),(x.2:Int))) (fun y=>(y.1.toNat,y.2.toNat)) T7 _ (fun _ hx=>⟨⟨D1 hx.1,D1 hx.2⟩,ME _ _⟩) (fun _ hy=>⟨⟨hy.1.nat,hy.2.nat⟩,UV hy.1.cast hy.2.cast,ME _ _⟩)
structure LoW(e:Lo):Prop where
 a:e.ver.a=0
 p:bX e.path
 b:HB e.ver.b
 c:HB e.ver.c
 d:bX e.arch
 i:bX e.ifc
theorem AaX(most:Nat):Mi s (ft s most) MD LoW:=
 (LH.seq (G8.seq (G8.seq (LH.seq LH)))).map (fun x=>(⟨x.1,⟨0,(x.2.1:Int),(x.2.2.1:Int)⟩,x.2.2.2.1,x.2.2.2.2⟩:Lo)) (fun y=>(y.path,y.ver.b.toNat,y.ver.c.toNat,y.arch,y.ifc)) MD _
  (fun x hx=>⟨⟨rfl,hx.1,D1 hx.2.1,D1 hx.2.2.1,hx.2.2.2.1,hx.2.2.2.2⟩,by grind [MD,ME]⟩)
  (fun y hy=>⟨⟨hy.p,hy.b.nat,hy.c.nat,hy.d,hy.i⟩,by
   obtain⟨p,⟨a,b,c⟩,d,i⟩:=y;have ha:a=0:=hy.a;have hb:((b.toNat:Nat):Int)=b:=hy.b.cast;have hc:((c.toNat:Nat):Int)=c:=hy.c.cast;simp_all,by grind [MD,ME]⟩)
structure NfW(i:Nf):Prop where
 k:HB i.kind
 p:bX i.path
 a:HB i.place
 b:HB i.number
 c:HB i.left
 d:HB i.right
theorem AaY(most:Nat):Mi s (jb s most) Oj NfW:=
 (G8.seq (LH.seq (G8.seq (G8.seq (G8.seq G8))))).map (fun x=>(⟨(x.1:Int),x.2.1,(x.2.2.1:Int),(x.2.2.2.1:Int),(x.2.2.2.2.1:Int),(x.2.2.2.2.2:Int)⟩:Nf)) (fun y=>(y.kind.toNat,y.path,y.place.toNat,y.number.toNat,y.left.toNat,y.right.toNat)) Oj _
  (fun x hx=>⟨⟨D1 hx.1,hx.2.1,D1 hx.2.2.1,D1 hx.2.2.2.1,D1 hx.2.2.2.2.1,D1 hx.2.2.2.2.2⟩,by grind [Oj,sM,Int.toNat_natCast]⟩)
  (fun y hy=>⟨⟨hy.k.nat,hy.p,hy.a.nat,hy.b.nat,hy.c.nat,hy.d.nat⟩,by
   grind [Nf,Go.Proofs.HB.cast,Go.Proofs.NfW.k,Go.Proofs.NfW.a,Go.Proofs.NfW.b,Go.Proofs.NfW.c,Go.Proofs.NfW.d],by grind [Oj,sM]⟩)
structure SkW(i:Sk):Prop where
 p:bX i.path
 a:HB i.place
 b:HB i.inf
theorem Ab0(most:Nat):Mi s (oZ s most) Rv SkW:=
 (LH.seq (G8.seq G8)).map (fun x=>(⟨x.1,(x.2.1:Int),(x.2.2:Int)⟩:Sk)) (fun y=>(y.path,y.place.toNat,y.inf.toNat)) Rv _
  (fun x hx=>⟨⟨hx.1,D1 hx.2.1,D1 hx.2.2⟩,by grind [Rv,ME]⟩)
  (fun y hy=>⟨⟨hy.p,hy.a.nat,hy.b.nat⟩,by
   grind [Sk,Go.Proofs.HB.cast,Go.Proofs.SkW.a,Go.Proofs.SkW.b],by grind [Rv,ME]⟩)
abbrev LW{α:Type}(V:α->Prop)(most:Nat)(xs:List α):Prop:=(∀x∈xs,V x)/\xs.length<2^63/\xs.length<=most
structure RqW(most:Nat)(q:Rq):Prop where
 p:bX q.path
 s:LW (fun x:Int×Int=>HB x.1/\HB x.2) most q.set
theorem AaZ(most:Nat):Mi s (bm s most) I3 (RqW most):=
 (LH.seq (MY (Ab1 most))).map (fun x=>(⟨x.1,x.2⟩:Rq)) (fun y=>(y.path,y.set)) I3 _ (fun _ hx=>⟨⟨hx.1,hx.2⟩,rfl⟩) (fun _ hy=>⟨⟨hy.p,hy.s⟩,rfl,rfl⟩)
end Go.Proofs
