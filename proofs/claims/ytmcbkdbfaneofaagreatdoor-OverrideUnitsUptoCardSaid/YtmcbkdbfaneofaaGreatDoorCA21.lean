/- Lemmas for the claims of this seat, without a condition: part 21 (C65, C66, C67, C68, C69, C56, C57, C58, C59, C70, C71, C72, C73, LayStrs, O15, S17, O1, C0, O2, R1, R2, R3, R4, R5, C60, C61, C62, C63, C64, R6, R7, R8, R9, R10, R11). -/
import Derived.Test.YtmcbkdbfaneofaaGreatDoorCA20
import Derived.Test.YtmcbkdbfaneofaaGreatDoorCA16
import Derived.Shelf.Sort.Plain
import Derived.Shelf.Slices.CompactS
import Derived.Ground.NamesProg
namespace Go.Eng
open Go.Proofs
theorem K5:∀(y:List Rl) (acc:List ByteArray) (r:Rl),AQ (y++[r]) acc=if(AQ y acc).any (fun p=>decide (p=r.path))then AQ y acc else AQ y acc++[r.path]
 | [],acc,r=>rfl
 |s::y,acc,r=>by rw[It,AQ,AQ,K5 y]
theorem EH:∀(y:List Rl) (acc:List ByteArray),acc.Nodup→(AQ y acc).Nodup
 | [],_,h=>h
 |s::y,acc,h=>by
  rw[AQ];refine EH y _ ?_;split
  ·exact h
  ·rename_i hn;rw[F0];refine⟨h,by simp,fun a ha b hb e=>?_⟩;rw[Al]at hb;exact hn (N3.2 (by rw[←hb,←e];exact ha))
abbrev M6(y:List Rl)(p:ByteArray):List (List AV):=(y.filter fun r=>decide (r.path=p)).map Ai
abbrev eJ(y:List Rl)(q:ByteArray×Nat):Value×AV:=(.string q.1,.slice (.id (q.2+50) 9) (M6 y q.1))
abbrev Rj(y:List Rl):List (Value×AV):=(AQ y []).zipIdx.map (eJ y)
def Jo(y:List Rl)(l:Nat):HO:=match(AQ y [])[l]? with
 |some q=>.tok 9 (M6 y q).length
 |none=>.free
def UN(y:List Rl)(j:Nat):HO:=bif Nat.ble 50 j then Jo y (j-50)else .free
theorem Hq(y:List Rl)(l:Nat):UN y (l+50)=Jo y l:=by
 unfold UN;rw[show Nat.ble 50 (l+50)=true by rw[Db];omega,Nat.add_sub_cancel];rfl
theorem mH(y:List Rl){j:Nat}(h:j<50):UN y j=.free:=by
 unfold UN;rw[show Nat.ble 50 j=false by rw[AI];intro hc;rw[Db]at hc;omega];rfl
theorem Io(y:List Rl)(r:Rl)(q:ByteArray):M6 (y++[r]) q=if r.path=q then M6 y q++[Ai r]else M6 y q:=by
 unfold M6;rw[Eg]
 by_cases h:r.path=q
 ·rw[Aw h,RC (by simpa using h)];simp
 ·rw[Ak h,RB (by simpa using h)];simp
theorem Ia{l:List ByteArray}{q:ByteArray×Nat}(h:q∈l.zipIdx):l[q.2]?=some q.1:=by
 obtain⟨a,b⟩:=q;exact Fp.1 h
open Classical in
theorem L3{B2:List (Value×AV)}{k:Value}{a:AV}(h:∀a',(k,a')∉B2):EK B2 k a=B2++[(k,a)]:=by
 unfold EK;rw[Ak (fun⟨a',h'⟩=>h a' h')]
open Classical in
theorem XR{B2:List (Value×AV)}{k:Value}{a a' : AV}(h:(k,a')∈B2):EK B2 k a=B2.map fun p=>if p.1=k then(k,a)else p:=by
 unfold EK;rw[Aw ⟨a',h⟩]
section
variable {y:List Rl}{r:Rl}{k:Nat}
theorem I2(h:(AQ y [])[k]?=some r.path):AQ (y++[r]) []=AQ y []:=by
 rw[K5,Aw (N3.2 (Av h))]
theorem I1(h:r.path∉AQ y []):AQ (y++[r]) []=AQ y []++[r.path]:=by
 rw[K5,Ak (fun hc=>h (N3.1 hc))]
theorem IZ{l:List ByteArray}(hd:l.Nodup){i j:Nat}{p:ByteArray}(h1:l[i]?=some p)(h2:l[j]?=some p):i=j:=by
 obtain⟨a1,a2⟩:=As.1 h1;obtain⟨b1,b2⟩:=As.1 h2;exact(List.getElem_inj hd).1 (a2.trans b2.symm)
open Classical in
theorem jn(h:(AQ y [])[k]?=some r.path):EK (Rj y) (.string r.path) (.slice (.id (k+50) 9) (M6 y r.path++[Ai r]))=Rj (y++[r]):=by
 have hd:=EH y [] E2;have hm:eJ y (r.path,k)∈Rj y:=Am.2 ⟨_,Fp.2 h,rfl⟩;rw[XR (a':=.slice (.id (k+50) 9) (M6 y r.path)) hm];unfold Rj;rw[I2 h,BN];refine Be fun q hq=>?_;have hg:=Ia hq;obtain⟨q,j⟩:=q;show(if Value.string q=Value.string r.path then _ else _)=eJ (y++[r]) (q,j);have hg:(AQ y [])[j]?=some q:=hg
 by_cases he:q=r.path
 ·subst he
  have:j=k:=IZ hd hg h
  subst this;rw[Aw rfl];show _=(Value.string r.path,AV.slice (.id (j+50) 9) (M6 (y++[r]) r.path));rw[Io,Aw rfl]
 ·rw[Ak (fun e=>he (by simpa using e))];show(Value.string q,AV.slice (.id (j+50) 9) (M6 y q))=(Value.string q,AV.slice (.id (j+50) 9) (M6 (y++[r]) q));rw[Io,Ak (fun e=>he e.symm)]
theorem ax(h:r.path∉AQ y []):M6 y r.path=[]:=by
 have:y.filter (fun s=>decide (s.path=r.path))=[]:=by
  rw[G9];intro s hs he;exact h ((G6 y [] r.path).2 (.inr ⟨s,hs,BJ he⟩))
 unfold M6;rw[this];rfl
theorem Xn(h:r.path∉AQ y [])(a:AV):(Value.string r.path,a)∉Rj y:=by
 intro hc;obtain⟨q,h1,h2⟩:=Am.1 hc;simp only[eJ,FD,Value.string.injEq]at h2;exact h (by rw[←h2.1];exact Av (Ia h1))
theorem jm(h:r.path∉AQ y []):EK (Rj y) (.string r.path) (.slice (.id ((AQ y []).length+50) 9) [Ai r])=Rj (y++[r]):=by
 rw[L3 (fun a=>Xn h a)];unfold Rj;rw[I1 h,List.zipIdx_append,AH]
 congr 1
 ·refine Be fun q hq=>?_;have hg:=Ia hq
  have:q.1≠r.path:=fun e=>h (by rw[←e];exact Av hg)
  show(Value.string q.1,AV.slice (.id (q.2+50) 9) (M6 y q.1))=(Value.string q.1,AV.slice (.id (q.2+50) 9) (M6 (y++[r]) q.1));rw[Io,Ak (fun e=>this e.symm)]
 ·show [_]=[(Value.string r.path,AV.slice (.id (0+(AQ y []).length+50) 9) (M6 (y++[r]) r.path))];rw[Io,Aw rfl,ax h,Bi];rfl
theorem eS{p:ByteArray}{j:Nat}(h:(AQ y [])[j]?=some p):(Value.string p,AV.slice (.id (j+50) 9) (M6 y p))∈Rj y∧∀b,(Value.string p,b)∈Rj y→b=AV.slice (.id (j+50) 9) (M6 y p):=by
 refine⟨Am.2 ⟨(p,j),Fp.2 h,rfl⟩,fun b hb=>?_⟩;obtain⟨q,h1,h2⟩:=Am.1 hb;simp only[eJ,FD,Value.string.injEq]at h2;have hg:=Ia h1;rw[h2.1]at hg
 have:=IZ (EH y [] E2) hg h
 rw[←h2.2,h2.1,this]
theorem il{p:ByteArray}{j:Nat}(h:(AQ y [])[j]?=some p):Jo y j=.tok 9 (M6 y p).length:=by
 unfold Jo;rw[h]
theorem kJ(h:(AQ y [])[k]?=some r.path)(l:Nat):(bif Nat.beq (l+50) (k+50)then HO.tok 9 ((M6 y r.path).length+1)else Jo y l)=Jo (y++[r]) l:=by
 by_cases he:l=k
 ·subst he;rw[show Nat.beq (l+50) (l+50)=true from CV _];unfold Jo;rw[I2 h,h];show HO.tok 9 _=HO.tok 9 (M6 (y++[r]) r.path).length;rw[Io,Aw rfl,Ad];rfl
 ·rw[show Nat.beq (l+50) (k+50)=false by rw[AI];intro hc;have:=AL hc;omega];show Jo y l=_;unfold Jo;rw[I2 h];cases hq:(AQ y [])[l]? with
  |none=>rfl
  |some q =>
   show HO.tok 9 (M6 y q).length=HO.tok 9 (M6 (y++[r]) q).length;rw[Io,Ak];intro e;subst e;exact he (IZ (EH y [] E2) hq h)
theorem kH(h:r.path∉AQ y [])(l:Nat):(bif Nat.beq (l+50) ((AQ y []).length+50)then HO.tok 9 1 else Jo y l)=Jo (y++[r]) l:=by
 by_cases he:l=(AQ y []).length
 ·subst he;rw[show Nat.beq ((AQ y []).length+50) ((AQ y []).length+50)=true from CV _];unfold Jo;rw[I1 h];simp only[A2 (Aj _),F1,A7];show HO.tok 9 1=HO.tok 9 (M6 (y++[r]) r.path).length;rw[Io,Aw rfl,ax h];rfl
 ·rw[show Nat.beq (l+50) ((AQ y []).length+50)=false by rw[AI];intro hc;have:=AL hc;omega];show Jo y l=_;unfold Jo;rw[I1 h]
  by_cases hl:l<(AQ y []).length
  ·rw[AW hl,Ge hl];show HO.tok 9 (M6 y (AQ y [])[l]).length=HO.tok 9 (M6 (y++[r]) (AQ y [])[l]).length;rw[Io,Ak];intro e;exact h (by rw[e];exact Aq hl)
  ·rw[A4 (by omega),A4 (by rw[Ad];simp;omega)]
end
theorem PE{h:Nat→HO}:∀{B2:List (Value×AV)},(∀p∈B2,T9 h p.2=true)→QC h B2=true
 | [],_=>rfl
 |p::r,hk=>by
  unfold QC;rw[hk p (Aa ..)];exact PE (fun q hq=>hk q (Af _ hq))
theorem KP(y:List Rl){h:Nat→HO}(hh:∀l,h (l+50)=Jo y l):QC h (Rj y)=true:=by
 refine PE fun p hp=>?_;obtain⟨q,h1,rfl⟩:=Am.1 hp;show Rc h (q.2+50)=true;unfold Rc;rw[hh,il (Ia h1)]
theorem I7{y:List Rl}{h h' : Nat→HO}(hh:∀l,h (l+50)=Jo y l)(j:Nat):UN y j=.free∨(h j=UN y j∧Xx h' (UN y j)=true):=by
 by_cases hj:j<50
 ·exact .inl (mH y hj)
 ·obtain⟨l,rfl⟩:∃l,j=l+50:=⟨j-50,by omega⟩
  right
  rw[Hq];refine⟨hh l,?_⟩;unfold Jo;cases (AQ y [])[l]?<;>rfl
theorem ku{x:List Rl}(hx:Bb x=0){i:Nat}(hi:i<x.length):EK ((x.take i).map UY) (SQ (GJ x[i])) (.agg (Ai x[i]))=(x.take (i+1)).map UY:=by
 rw[L3]
 ·rw[Bs,Ge hi,AH];rfl
 intro a ha;obtain⟨r,hr,he,_⟩:=jS ha;obtain⟨j,hj,e2⟩:=DP.1 hr;rw[AJ]at hj;rw[J5]at e2;have hp:=(CI hx).2
 have:=(Bh.1 hp) j i (by omega) hi (by omega)
 rw[e2]at this;exact K2 this he
abbrev qN:TK:=⟨[],[],[],[],[8,9],[9],[40],[],[],[],[8,9,10,11]⟩
abbrev zT:List AV:=[.v (.map none),.v (.map none)]
theorem jd(x:List Rl)(ifs:List (List AV))(mB:PC 20 [Rd x ifs] (vi (Bb x)))(h0:Bb x≠0):kP x ifs:=by
 have ht:ZB x=.tup [.agg [.cmap WD [],.cmap C3 []],vi (Bb x)]:=by unfold ZB;rw[Ak h0]
 unfold kP;rw[ht];refine Ps qN Tryz.func73 rfl (Nz rfl) ?_;refine Xi 0 ?_;refine Xi 0 ?_;refine Yi (Nz rfl) ?_;refine Xi 0 ?_;refine Yi (Nz rfl) ?_;refine Xi .pure (Xi _ (Yi (mB) ?_));refine Xi 0 ?_;refine Yi ?_ ?_
 ·intro _;refine Xi 0 ?_;refine Yi (Nz rfl) ?_;refine Yi (Nz rfl) ?_;refine Yi (Nz rfl) ?_;exact .refl _
 ·intro h;exact absurd h (fun hc=>hc h0)
theorem G5:∀(y:List Rl) (acc:List ByteArray),(AQ y acc).length≤acc.length+y.length
 | [],acc=>by simp[AQ]
 |r::y,acc=>by
  rw[AQ];refine A3 (G5 y _) ?_;split
  ·simp only[At];omega
  ·simp only[Ad,At,AC];omega
section
attribute [local irreducible] H5
theorem mn(x:List Rl)(ifs:List (List AV))(mB:PC 20 [Rd x ifs] (vi (Bb x)))(h0:Bb x=0)(CE:x.length≤256):kP x ifs:=by
 have ht:ZB x=.tup [.agg [.cmap WD (x.map UY),.cmap C3 ((AQ x []).map (lA x))],vi 0]:=by unfold ZB;rw[Aw h0]
 unfold kP;rw[ht];rw[h0]at mB;refine Ps qN Tryz.func73 rfl (Nz rfl) ?_;refine Xi 0 ?_;refine Xi 0 ?_;refine Yi (Nz rfl) ?_;refine Xi 0 ?_;refine Yi (Nz rfl) ?_;refine Xi .pure (Xi _ (Yi (mB) ?_));refine Xi 0 ?_;refine Yi ?_ ?_
 ·intro hc;exact absurd (show(0:Int)≠0 from hc) (by decide)
 intro _;refine Xi 0 ?_;refine Xi {i:Nat // i≤x.length} (Xi (fun i=>⟨[(2,.ref 2 0),(4,.ref 4 0),(18,sl Ai x),(19,vi (x.map Ai).length),(20,vi i.1)],[(2,.cells zT),(4,.cells [.mref 8,.mref 9]),(8,.map WD ((x.take i.1).map UY)),(9,.mapU C3 (Rj (x.take i.1)))],UN (x.take i.1)⟩) (Xi (fun i=>x.length-i.1) (Yi (Xi ⟨0,AN _⟩ ?_) ?_)))
 ·refine⟨Z5,Z4,fun j=>.inl ?_,Tv⟩;show UN [] j=.free;unfold UN;cases Nat.ble 50 j<;>rfl
 intro⟨i,i1⟩;have i1:i≤x.length:=i1;refine Xi 0 ?_;refine Yi ?_ ?_
 ·intro h;have h:(i:Int)<(x.map Ai).length:=h;have h:i<x.length:=by simpa using h
  have hg:x[i]?=some x[i]:=Ge h;have Kl:x.take (i+1)=x.take i++[x[i]]:=by rw[Bs,hg];rfl
  refine Xi 0 ?_;refine Xi (Ai x[i]) (Yi (Yi (Nn i) (by simp[hg])) (Yi rfl ?_));refine Yi (Nz rfl) (Yi (Nz rfl) ?_);refine Xi ⟨[(2,.ref 2 0),(4,.ref 4 0),(7,.ref 7 0),(18,sl Ai x),(19,vi (x.map Ai).length),(20,vi i)],[(2,.cells zT),(4,.cells [.mref 8,.mref 9]),(7,.cells (Ai x[i])),(8,.map WD ((x.take i).map UY)),(9,.mapU C3 (Rj (x.take i)))],UN (x.take i)⟩ (Yi ?_ ?_)
  ·exact⟨Z6,⟨Zr,Zr,Zr,Zr,⟨rfl,KP _ (Hq _)⟩,Tv⟩,I7 (Hq _),Tv⟩
  refine Xi 0 ?_;refine Yi (Nz rfl) ?_;refine Xi _ (Yi (ma x[i]) ?_);refine Yi (Nz rfl) ?_;refine Yi (by kernel_rfl) ?_;have e8:EK ((x.take i).map UY) (SQ (GJ x[i])) (.agg (Ai x[i]))=(x.take (i+1)).map UY:=ku h0 h;refine Xi ⟨[(2,.ref 2 0),(4,.ref 4 0),(7,.ref 7 0),(18,sl Ai x),(19,vi (x.map Ai).length),(20,vi i)],[(2,.cells zT),(4,.cells [.mref 8,.mref 9]),(7,.cells (Ai x[i])),(8,.map WD ((x.take (i+1)).map UY)),(9,.mapU C3 (Rj (x.take i)))],UN (x.take i)⟩ (Yi ?_ ?_)
  ·exact⟨Z6,⟨Zr,Zr,Zr,⟨Ac (HO.map WD) e8,rfl⟩,⟨rfl,KP _ (Hq _)⟩,Tv⟩,I7 (Hq _),Tv⟩
  have hL:((x.take i).filter (fun r=>decide (r.path=x[i].path))).length≤256:=by
   have:=BD (fun r:Rl=>decide (r.path=x[i].path)) (x.take i)
   rw[AJ]at this;omega
  have hP:∀l,UN (x.take i) (l+50)=Jo (x.take i) l:=Hq _;refine BV (Classical.em (x[i].path∈AQ (x.take i) [])) (fun hp=>?_) (fun hp=>?_)
  ·refine Dn (B8.1 hp) (fun k hk=>?_);have hu:=eS hk;refine Xi 0 ?_;refine Or.inl (Xi (.slice (.id (k+50) 9) (M6 (x.take i) x[i].path)) (Yi hu ?_));refine Yi (Nz rfl) ?_;have hr:UN (x.take i) (k+50)=.tok 9 (M6 (x.take i) x[i].path).length:=by rw[hP,il hk]
   have hl:(M6 (x.take i) x[i].path).length≤256:=by rw[Lm];exact hL
   refine Qr (e:=45) (m:=8) (es2:=[Ai x[i]]) rfl rfl rfl (fun _ h=>h) hr ⟨rfl,trivial⟩ (by show(_+1)*120≤_;omega) (by show _+1≤_;omega) ?_;have p6:k<256:=by
    have:=(As.1 hk).1
    have:=G5 (x.take i) []
    rw[AJ]at this;simp only[AC]at this;omega
   have mV:=hk;refine Yi (IN ⟨AZ _,AZ _,AZ _,AZ _,AZ _,AZ _,AZ _,AZ _,AZ _,AZ _,D0 (show 39<10000000 by decide),D0 (by show _+50<10000000;omega),D0 (show 9<10000000 by decide),trivial⟩ (by kernel_rfl)) ?_;have e9:EK (Rj (x.take i)) (.string x[i].path) (.slice (.id (k+50) 9) (M6 (x.take i) x[i].path++[Ai x[i]]))=Rj (x.take (i+1)):=by rw[Kl];exact jn mV
   have hG:∀l,(bif Nat.beq (l+50) (k+50)then HO.tok 9 ((M6 (x.take i) x[i].path).length+1)else Jo (x.take i) l)=Jo (x.take (i+1)) l:=by rw[Kl];exact kJ mV
   refine Xi ⟨[(2,.ref 2 0),(4,.ref 4 0),(18,sl Ai x),(19,vi (x.map Ai).length),(20,vi i)],[(2,.cells zT),(4,.cells [.mref 8,.mref 9]),(8,.map WD ((x.take (i+1)).map UY)),(9,.mapU C3 (Rj (x.take (i+1))))],UN (x.take (i+1))⟩ (Yi ?_ ?_)
   ·refine⟨Z5,⟨Zr,Zr,Zr,⟨Ac (HO.mapU C3) e9,KP _ (Hq _)⟩,Tv⟩,I7 (fun l=>?_),Tv⟩;show(bif Nat.beq (l+50) (k+50)then HO.tok 9 ((M6 (x.take i) x[i].path).length+1)else UN (x.take i) (l+50))=_;rw[hP];exact hG l
   refine Xi 0 ?_;refine Yi (Ii i (by omega)) ?_;refine Xi ⟨i+1,by omega⟩ ?_;exact⟨Dl x.length i (by omega),Z5,⟨Zr,Zr,Zr,⟨rfl,KP _ (Hq _)⟩,Tv⟩,I7 (Hq _),Tv⟩
  ·have mV:=hp;have Lj:(AQ (x.take i) []).length≤256:=by
    have:=G5 (x.take i) []
    rw[AJ]at this;simp only[AC]at this;omega
   have hn:=Xn hp;refine Xi ((AQ (x.take i) []).length+50) ?_;refine Or.inr (Yi hn ?_);refine Yi (Nz rfl) ?_;have hr:UN (x.take i) ((AQ (x.take i) []).length+50)=.free:=by
    rw[hP];unfold Jo;rw[A4 (Aj _)]
   refine Qq (e:=45) (m:=8) (es2:=[Ai x[i]]) rfl rfl rfl (fun _ h=>h) hr rfl ⟨rfl,trivial⟩ (by show 1*120≤_;omega) (by show 1≤_;omega) ?_;refine Yi (IN ⟨AZ _,AZ _,AZ _,AZ _,AZ _,AZ _,AZ _,AZ _,AZ _,AZ _,D0 (show 39<10000000 by decide),D0 (by show _+50<10000000;omega),D0 (show 9<10000000 by decide),trivial⟩ (by kernel_rfl)) ?_;have e9:EK (Rj (x.take i)) (.string x[i].path) (.slice (.id ((AQ (x.take i) []).length+50) 9) [Ai x[i]])=Rj (x.take (i+1)):=by rw[Kl];exact jm mV
   have hG:∀l,(bif Nat.beq (l+50) ((AQ (x.take i) []).length+50)then HO.tok 9 1 else Jo (x.take i) l)=Jo (x.take (i+1)) l:=by rw[Kl];exact kH mV
   refine Xi ⟨[(2,.ref 2 0),(4,.ref 4 0),(18,sl Ai x),(19,vi (x.map Ai).length),(20,vi i)],[(2,.cells zT),(4,.cells [.mref 8,.mref 9]),(8,.map WD ((x.take (i+1)).map UY)),(9,.mapU C3 (Rj (x.take (i+1))))],UN (x.take (i+1))⟩ (Yi ?_ ?_)
   ·refine⟨Z5,⟨Zr,Zr,Zr,⟨Ac (HO.mapU C3) e9,KP _ (Hq _)⟩,Tv⟩,I7 (fun l=>?_),Tv⟩;show(bif Nat.beq (l+50) ((AQ (x.take i) []).length+50)then HO.tok 9 1 else UN (x.take i) (l+50))=_;rw[hP];exact hG l
   refine Xi 0 ?_;refine Yi (Ii i (by omega)) ?_;refine Xi ⟨i+1,by omega⟩ ?_;exact⟨Dl x.length i (by omega),Z5,⟨Zr,Zr,Zr,⟨rfl,KP _ (Hq _)⟩,Tv⟩,I7 (Hq _),Tv⟩
 ·intro h;have h:¬(i:Int)<(x.map Ai).length:=h;have h:¬i<x.length:=by simpa using h
  have et:x.take i=x:=AT (by omega);refine Xi ⟨[(2,.ref 2 0),(4,.ref 4 0)],[(2,.cells zT),(4,.cells [.mref 8,.mref 9]),(8,.map WD ((x.take i).map UY)),(9,.mapU C3 (Rj (x.take i)))],UN (x.take i)⟩ (Yi ?_ ?_)
  ·exact⟨Z2,⟨Zr,Zr,Zr,⟨rfl,KP _ (Hq _)⟩,Tv⟩,I7 (Hq _),Tv⟩
  refine Xi 0 ?_;refine Yi (Nz rfl) ?_;refine Yi (Nz rfl) ?_;refine Yi (Nz rfl) ?_;have es:∀h:Nat→HO,Rf h (Rj (x.take i))=(AQ x []).map (lA x):=fun h=>by
   rw[et];unfold Rf Rj;rw[BN];refine Cz fun j=>?_;rw[AG,AG,List.getElem?_zipIdx];cases (AQ x [])[j]?<;>rfl
  have e1:(x.take i).map UY=x.map UY:=by rw[et]
  exact .of_eq (show AV.tup [.agg [.cmap WD ((x.take i).map UY),.cmap C3 (Rf _ (Rj (x.take i)))],vi 0]=_ by rw[e1,es])
end
theorem c84(x:List Rl)(ifs:List (List AV))(hx:∀r∈x,J3 r):kP x ifs:=by
 by_cases h0:Bb x=0
 ·exact mn x ifs (pe YA x ifs hx) h0 (PG h0).1
 ·exact jd x ifs (pe YA x ifs hx) h0
abbrev u7(n:Nat):TK:=⟨[],[(2,n)],[],[],[],[],[5],[],[],[],[2,3]⟩
theorem pd(l:List Sl)(hl:Cp l):Bd Tryz.prog 89 [sl Ae l] (Ah [] Ab) fun r h'=>r=.slice (.id 2000 4) (l.map Ae)∧h'=Ah [(2000,.tok 4 (l.map Ae).length)] Ab:=by
 refine Cm (Mo (u7 4)) [(2,2000)] rfl CK hm rfl Tryz.func89 (by kernel_rfl) rfl (Nz rfl) (by kernel_rfl) rfl ?_;have Gl:Do 4 (l.map Ae)∧([]:List (List AV)).length=0∧(([]:List (List AV)).length+(l.map Ae).length)*40≤140737488355328∧([]:List (List AV)).length+(l.map Ae).length≤9223372036854775807:=by
  refine⟨Eu (enc:=Ae) (n:=4) (fun _=>rfl) l,rfl,?_,?_⟩<;>simp only[AC,Lm]<;>unfold Cp at hl<;>omega
 have e2:HO.tok 4 (([]:List (List AV)).length+(l.map Ae).length)=.tok 4 (l.map Ae).length:=by rw[AC,Bi]
 have e3:AV.slice (.id 2000 4) ([]++l.map Ae)=.slice (.id 2000 4) (l.map Ae):=rfl;refine Xi 0 ?_;refine Xi 0 ?_;refine Yi ?_ ?_
 ·intro _;refine Xi ⟨[(0,sl Ae l)],[],Ab⟩ (Yi ⟨Z1,Tv,Fh,Ax (by kernel_rfl)⟩ ?_)
  refine Xi 2 ?_;refine Yi Gl ?_;exact Xi _ (Yi (.refl _) (Yi e3 (Ac (fun o=>Ah [(2000,o)] Ab) e2)))
 ·intro h;have h:l.map Ae=[]:=h;refine Yi ?_ ?_
  ·refine Xi ⟨[],[],Ab⟩ (Yi ⟨trivial,trivial,fun _=>.inl rfl,Ax (by kernel_rfl)⟩ ?_)
   refine Xi 0 ?_;exact Xi _ (Yi (.refl _) (Yi (show AV.slice (.id 2000 4) []=_ by rw[h]) (show Ah [(2000,HO.tok 4 0)] Ab=_ by rw[h];rfl)))
  ·refine Xi ⟨[(0,sl Ae l)],[],Ab⟩ (Yi ⟨Z1,Tv,Fh,Ax (by kernel_rfl)⟩ ?_)
   refine Xi 2 ?_;refine Yi Gl ?_;exact Xi _ (Yi (.refl _) (Yi e3 (Ac (fun o=>Ah [(2000,o)] Ab) e2)))
section
variable {S:Type}{x:List Rl}{roots:List Rq}{s:List Sl}{step:S→x6→S}{st0:S}{before:List Sl}{needs:List Rq}{n:Nat}{st:S}
end
def Md(q:Rq):Bool:=decide (q.path.size≤100)&&decide (q.set.length≤8)
def IV(l:List Rq):Bool:=l.all Md&&decide (l.length≤20)
theorem yg(l:List Rq)(hl:Cp l):PC 29 [sl AM l] (vb (IV l)):=by
 unfold Cp at hl;refine Ps Gc Tryz.func29 rfl (Nz rfl) ?_;refine Xi {i:Nat // i≤l.length∧∀j (hj:j<l.length),j<i→Md l[j]=true} (Xi (fun i=>⟨[(0,sl AM l),(3,vi i.1)],[],Ab⟩) (Xi (fun i=>l.length-i.1) (Yi (Xi ⟨0,AN _,fun j _ h=>by omega⟩ ?_) ?_)))
 ·exact⟨Z2,Tv,Fh,Tv⟩
 intro⟨i,h1,h2⟩;refine Yi ?_ ?_
 ·intro h;have h:(i:Int)<(l.map AM).length:=h;have h:i<l.length:=by simpa using h
  have hg:l[i]?=some l[i]:=Ge h;have no:Md l[i]=false→false=IV l:=fun e=>by
   unfold IV
   have:l.all Md=false:=by
    rw[AI];intro ha
    have:=Bp.1 ha _ (Aq h)
    rw[e]at this;cases this
   rw[this];rfl
  refine Xi (AM l[i]) (Yi (Yi (Nn i) (by simp[hg])) (Yi rfl ?_));refine Yi ?_ ?_
  ·intro h3;have h3:(100:Int)<((l[i].path.size:Nat):Int):=h3;exact .of_eq (Ac vb (no (by unfold Md;rw[Ap (by omega)];rfl)))
  intro h3;have h3:¬(100:Int)<((l[i].path.size:Nat):Int):=h3;refine Xi (AM l[i]) (Yi (Yi (Nn i) (by simp[hg])) (Yi rfl ?_));refine Yi ?_ ?_
  ·intro h4;have h4:(8:Int)<((l[i].set.map Ao).length:Int):=h4;rw[Lm]at h4;exact .of_eq (Ac vb (no (by unfold Md;rw[Ap (by omega:¬l[i].set.length≤8),DE])))
  intro h4;have h4:¬(8:Int)<((l[i].set.map Ao).length:Int):=h4;have h5:l[i].set.length≤8:=by rw[Lm]at h4;omega
  refine Yi (Ii i (by omega)) ?_;refine Xi ⟨i+1,by omega,fun j hj HT=>?_⟩ ?_
  ·rcases Ez j i with z | z
   ·exact h2 j hj z
   ·have:j=i:=by omega
    subst this;unfold Md;rw[AA (by omega),AA h5];rfl
  ·exact⟨Dl l.length i (by omega),Z2,Tv,Fh,Tv⟩
 ·intro h;have h:¬(i:Int)<(l.map AM).length:=h;have h:¬i<l.length:=by simpa using h
  have ha:l.all Md=true:=Bp.2 fun q hq=>by
   obtain⟨j,hj,rfl⟩:=Fu hq;exact h2 j hj (by omega)
  refine Yi ?_ ?_
  ·intro h3;have h3:((l.map AM).length:Int)≤20:=h3;rw[Lm]at h3;exact .of_eq (Ac vb (show true=IV l by unfold IV;rw[ha,AA (by omega)];rfl))
  ·intro h3;have h3:¬((l.map AM).length:Int)≤20:=h3;rw[Lm]at h3;exact .of_eq (Ac vb (show false=IV l by unfold IV;rw[Ap (by omega),DE]))
def Jl(r:Rl):Bool:=decide (r.path.size≤100)&&decide (r.arch.size≤100)&&decide (r.ifc.size≤100)&&decide (r.cert.size≤100)&&IV r.reqs
def Jm(x:List Rl)(n:Nat):Bool:=x.all Jl&&decide (x.length≤n)
theorem wq(x:List Rl)(n:Nat)(hl:Cp x)(hr:∀r∈x,Cp r.reqs):PC 60 [sl Ai x,vi n] (vb (Jm x n)):=by
 unfold Cp at hl;refine Ps Gc Tryz.func60 rfl (Nz rfl) ?_;refine Xi {i:Nat // i≤x.length∧∀j (hj:j<x.length),j<i→Jl x[j]=true} (Xi (fun i=>⟨[(0,sl Ai x),(1,vi n),(5,vi i.1)],[],Ab⟩) (Xi (fun i=>x.length-i.1) (Yi (Xi ⟨0,AN _,fun j _ h=>by omega⟩ ?_) ?_)))
 ·exact⟨Z3,Tv,Fh,Tv⟩
 intro⟨i,h1,h2⟩;refine Yi ?_ ?_
 ·intro h;have h:(i:Int)<(x.map Ai).length:=h;have h:i<x.length:=by simpa using h
  have hg:x[i]?=some x[i]:=Ge h;have no:Jl x[i]=false→false=Jm x n:=fun e=>by
   unfold Jm
   have:x.all Jl=false:=by
    rw[AI];intro ha
    have:=Bp.1 ha _ (Aq h)
    rw[e]at this;cases this
   rw[this];rfl
  have hc:=yg x[i].reqs (hr _ (Aq h));refine Xi (Ai x[i]) (Yi (Yi (Nn i) (by simp[hg])) (Yi rfl ?_));refine Yi ?_ ?_
  ·intro h3;have h3:(100:Int)<((x[i].path.size:Nat):Int):=h3;exact .of_eq (Ac vb (no (by unfold Jl;rw[Ap (by omega:¬x[i].path.size≤100)];simp)))
  intro h3;have h3:¬(100:Int)<((x[i].path.size:Nat):Int):=h3;refine Xi (Ai x[i]) (Yi (Yi (Nn i) (by simp[hg])) (Yi rfl ?_));refine Yi ?_ ?_
  ·intro h4;have h4:(100:Int)<((x[i].arch.size:Nat):Int):=h4;exact .of_eq (Ac vb (no (by unfold Jl;rw[Ap (by omega:¬x[i].arch.size≤100)];simp)))
  intro h4;have h4:¬(100:Int)<((x[i].arch.size:Nat):Int):=h4;refine Xi (Ai x[i]) (Yi (Yi (Nn i) (by simp[hg])) (Yi rfl ?_));refine Yi ?_ ?_
  ·intro h5;have h5:(100:Int)<((x[i].ifc.size:Nat):Int):=h5;exact .of_eq (Ac vb (no (by unfold Jl;rw[Ap (by omega:¬x[i].ifc.size≤100)];simp)))
  intro h5;have h5:¬(100:Int)<((x[i].ifc.size:Nat):Int):=h5;refine Xi (Ai x[i]) (Yi (Yi (Nn i) (by simp[hg])) (Yi rfl ?_));refine Yi ?_ ?_
  ·intro h6;have h6:(100:Int)<((x[i].cert.size:Nat):Int):=h6;exact .of_eq (Ac vb (no (by unfold Jl;rw[Ap (by omega:¬x[i].cert.size≤100)];simp)))
  intro h6;have h6:¬(100:Int)<((x[i].cert.size:Nat):Int):=h6;refine Xi (Ai x[i]) (Yi (Yi (Nn i) (by simp[hg])) (Yi rfl ?_));refine BV (Bt (IV x[i].reqs)) (fun e=>?_) (fun e=>?_)
  rotate_left
  ·rw[e]at hc;refine Xi .pure (Xi _ (Yi (hc) ?_));exact .of_eq (Ac vb (no (by unfold Jl;rw[e,DE])))
  rw[e]at hc;refine Xi .pure (Xi _ (Yi (hc) ?_));refine Yi (Ii i (by omega)) ?_;refine Xi ⟨i+1,by omega,fun j hj HT=>?_⟩ ?_
  ·rcases Ez j i with z | z
   ·exact h2 j hj z
   ·have:j=i:=by omega
    subst this;unfold Jl;rw[AA (by omega:x[j].path.size≤100),AA (by omega:x[j].arch.size≤100),AA (by omega:x[j].ifc.size≤100),AA (by omega:x[j].cert.size≤100),e];rfl
  ·exact⟨Dl x.length i (by omega),Z3,Tv,Fh,Tv⟩
 ·intro h;have h:¬(i:Int)<(x.map Ai).length:=h;have h:¬i<x.length:=by simpa using h
  have ha:x.all Jl=true:=Bp.2 fun q hq=>by
   obtain⟨j,hj,rfl⟩:=Fu hq;exact h2 j hj (by omega)
  refine Yi ?_ ?_
  ·intro h3;have h3:((x.map Ai).length:Int)≤n:=h3;rw[Lm]at h3;exact .of_eq (Ac vb (show true=Jm x n by unfold Jm;rw[ha,AA (by omega)];rfl))
  ·intro h3;have h3:¬((x.map Ai).length:Int)≤n:=h3;rw[Lm]at h3;exact .of_eq (Ac vb (show false=Jm x n by unfold Jm;rw[Ap (by omega),DE]))
section
variable {l:List Rl}{roots t:List Rq}{d:List ByteArray}{n:Nat}
end
structure wl(x:List Rl)(roots:List Rq):Prop where
 ix:Cp x
 rs:Cp roots
 rel:∀r∈x,Cp r.reqs∧J3 r
 rq:∀q∈roots,NW q
end Go.Eng
namespace Go.Proofs
open Go.Shelf
def Tryz.laySortStr_ren:Go.Shelf.Ren:=⟨fun | 190=>102 | 125=>130 | 258=>132 | 128=>170 | 129=>171 | 302=>173 | 303=>174 | 304=>175 | 305=>176 | 306=>177 | 307=>178 | 308=>179 | 309=>180 | 310=>181 | 333=>211 | 329=>207 | 330=>208 | 334=>212 | 335=>213 | 336=>81 | 344=>239 | n=>n,fun | 31=>129 | 9=>9 | 3=>3 | 46=>185 | 0=>0 | 51=>220 | 53=>222 | 4=>4 | 183=>214 | 182=>213 | 131=>133 | 5=>5 | 218=>248 | 222=>252 | 228=>270 | 229=>271 | n=>n,fun | n=>n⟩
theorem Tryz.laySortStr:Go.Proofs.Lays.n190 Tryz.prog Tryz.laySortStr_ren:={
 mixed:=by kernel_rfl
 f125:=Tryz.func130.trans (congrArg some (by kernel_rfl))
 f128:=Tryz.func170.trans (congrArg some (by kernel_rfl))
 f129:=Tryz.func171.trans (congrArg some (by kernel_rfl))
 f190:=Tryz.func102.trans (congrArg some (by kernel_rfl))
 f258:=Tryz.func132.trans (congrArg some (by kernel_rfl))
 f302:=Tryz.func173.trans (congrArg some (by kernel_rfl))
 f303:=Tryz.func174.trans (congrArg some (by kernel_rfl))
 f304:=Tryz.func175.trans (congrArg some (by kernel_rfl))
 f305:=Tryz.func176.trans (congrArg some (by kernel_rfl))
 f306:=Tryz.func177.trans (congrArg some (by kernel_rfl))
 f307:=Tryz.func178.trans (congrArg some (by kernel_rfl))
 f308:=Tryz.func179.trans (congrArg some (by kernel_rfl))
 f309:=Tryz.func180.trans (congrArg some (by kernel_rfl))
 f310:=Tryz.func181.trans (congrArg some (by kernel_rfl))
 f329:=Tryz.func207.trans (congrArg some (by kernel_rfl))
 f330:=Tryz.func208.trans (congrArg some (by kernel_rfl))
 f333:=Tryz.func211.trans (congrArg some (by kernel_rfl))
 f334:=Tryz.func212.trans (congrArg some (by kernel_rfl))
 f335:=Tryz.func213.trans (congrArg some (by kernel_rfl))
 f336:=Tryz.func81.trans (congrArg some (by kernel_rfl))
 f344:=Tryz.func239.trans (congrArg some (by kernel_rfl))
 t0:=Tryz.underlying0
 a0:=Tryz.isAgg0
 z0:=Tryz.sizeOf0
 v0:=Tryz.zeroValue0
 t3:=Tryz.underlying3
 a3:=Tryz.isAgg3
 z3:=Tryz.sizeOf3
 v3:=Tryz.zeroValue3
 t4:=Tryz.underlying4
 a4:=Tryz.isAgg4
 z4:=Tryz.sizeOf4
 v4:=Tryz.zeroValue4
 t5:=Tryz.underlying5
 a5:=Tryz.isAgg5
 z5:=Tryz.sizeOf5
 v5:=Tryz.zeroValue5
 t9:=Tryz.underlying9
 a9:=Tryz.isAgg9
 z9:=Tryz.sizeOf9
 v9:=Tryz.zeroValue9
 t31:=Tryz.underlying129
 a31:=Tryz.isAgg129
 z31:=Tryz.sizeOf129
 v31:=Tryz.zeroValue129
 t46:=Tryz.underlying185
 a46:=Tryz.isAgg185
 z46:=Tryz.sizeOf185
 v46:=Tryz.zeroValue185
 t51:=Tryz.underlying220
 a51:=Tryz.isAgg220
 z51:=Tryz.sizeOf220
 v51:=Tryz.zeroValue220
 t53:=Tryz.underlying222
 a53:=Tryz.isAgg222
 z53:=Tryz.sizeOf222
 v53:=Tryz.zeroValue222
 t131:=Tryz.underlying133
 a131:=Tryz.isAgg133
 z131:=Tryz.sizeOf133
 v131:=Tryz.zeroValue133
 t182:=Tryz.underlying213
 a182:=Tryz.isAgg213
 z182:=Tryz.sizeOf213
 v182:=Tryz.zeroValue213
 t183:=Tryz.underlying214
 a183:=Tryz.isAgg214
 z183:=Tryz.sizeOf214
 v183:=Tryz.zeroValue214
 t218:=Tryz.underlying248
 a218:=Tryz.isAgg248
 z218:=Tryz.sizeOf248
 v218:=Tryz.zeroValue248
 t222:=Tryz.underlying252
 a222:=Tryz.isAgg252
 z222:=Tryz.sizeOf252
 v222:=Tryz.zeroValue252
 t228:=Tryz.underlying270
 a228:=Tryz.isAgg270
 z228:=Tryz.sizeOf270
 v228:=Tryz.zeroValue270
 t229:=Tryz.underlying271
 a229:=Tryz.isAgg271
 z229:=Tryz.sizeOf271
 v229:=Tryz.zeroValue271 }
def Tryz.layCompactStr_ren:Go.Shelf.Ren:=⟨fun | 194=>104 | n=>n,fun | 31=>129 | 9=>9 | 3=>3 | 4=>4 | 0=>0 | n=>n,fun | n=>n⟩
theorem Tryz.layCompactStr:Go.Proofs.Lays.n194 Tryz.prog Tryz.layCompactStr_ren:={
 mixed:=by kernel_rfl
 f194:=Tryz.func104.trans (congrArg some (by kernel_rfl))
 t0:=Tryz.underlying0
 a0:=Tryz.isAgg0
 z0:=Tryz.sizeOf0
 v0:=Tryz.zeroValue0
 t3:=Tryz.underlying3
 a3:=Tryz.isAgg3
 z3:=Tryz.sizeOf3
 v3:=Tryz.zeroValue3
 t4:=Tryz.underlying4
 a4:=Tryz.isAgg4
 z4:=Tryz.sizeOf4
 v4:=Tryz.zeroValue4
 t9:=Tryz.underlying9
 a9:=Tryz.isAgg9
 z9:=Tryz.sizeOf9
 v9:=Tryz.zeroValue9
 t31:=Tryz.underlying129
 a31:=Tryz.isAgg129
 z31:=Tryz.sizeOf129
 v31:=Tryz.zeroValue129 }
end Go.Proofs
namespace Go.Eng
open Go.Proofs Go.Shelf Go.RowKit Go.Lib Go.Sort
abbrev ZJ(s:ByteArray):List UInt8:=s.data.toList
abbrev iz(l:List UInt8):ByteArray:=⟨l.toArray⟩
theorem iY(s:ByteArray):iz (ZJ s)=s:=by cases s;simp
theorem Mq(zs:List (List UInt8)):((zs.map iz).map DI).flatten=(zs.map Go.Proofs.encStr).map AV.v:=by
 induction zs with
 |nil=>rfl
 |cons z zs ih=>rw[AP,AP,By,ih];rfl
theorem VI(ss:List ByteArray):(ss.map ZJ).map iz=ss:=by
 rw[BN,show iz ∘ ZJ=id from funext iY,Jw]
theorem uL(ss t:List ByteArray)(hl:Cp ss)(Dz:ss≠[])(hp:t.Perm ss)(ht:(t.map ZJ).Pairwise fun a b=>a≤b) :
  Bd Tryz.prog 102 [.msl 1000 ss.length] (Ah [(1000,.arr 1 (ss.map DI))] Ab) fun r h'=>r=.tup []∧h'=Ah [(1000,.arr 1 (t.map DI))] Ab:=by
 have hl:ss.length≤1073741824:=hl;have hE:FS Tryz.prog 102:=dj 102 Tryz.func102 (by kernel_rfl) rfl;obtain⟨zs,hz⟩:∃zs,zs=ss.map ZJ:=⟨_,rfl⟩;have EB:ss=zs.map iz:=by rw[hz,VI]
 have G2:=Pn (P:=Tryz.prog) (f:=102) (es:=ss.map DI) (sz:=1) (rest:=[]) (Q:=fun Ft=>Ft=t.map DI) hE ?_ ?_
 ·rw[Lm]at G2;refine⟨hE,fun g w vals q1 q2 q3=>(G2.2 g w vals q1 q2 q3).mono fun _ _ ⟨v,r,h',g',e1,⟨e2,Ft,p1,p3⟩,rest⟩=>⟨v,r,h',g',e1,⟨e2,by rw[p3,p1]⟩,rest⟩⟩
 ·intro e;exact absurd (Dq.1 e) Dz
 ·intro g w b cap F hr hF hH hb;have pz:F.toList=zs.map Go.Proofs.encStr:=K8 (by rw[←Mq,←EB];exact hr);have eX:F=zs.toArray.map Go.Proofs.encStr:=Ir.1 (by rw[pz];simp);have MN:zs.length=ss.length:=by rw[hz,Lm]
  have pA:Holds Go.Proofs.encStr w b 0 zs.toArray:=fun j hj=>by
   have:=hH j (by rw[eX];simpa using hj)
   refine⟨this.1.trans ?_,this.2⟩;rw[eX,Dy _ j (by simpa using hj),Dy _ j hj];simp
  have hc:=Any.slices_Sort_string Tryz.laySortStr b 0 cap zs w pA hb (by omega);have zH:(zs.mergeSort fun x y=>decide (x≤y))=t.map ZJ:=by
   have IG:(zs.mergeSort fun x y=>decide (x≤y)).Perm zs:=List.mergeSort_perm _ _;have qo:=List.pairwise_mergeSort (le:=fun x y:List UInt8=>decide (x≤y)) (fun a b c h1 h2=>by simp only[Az]at *;exact List.le_trans h1 h2) (fun a b=>by simp only[CB,Az];exact List.le_total a b) zs;refine List.Perm.eq_of_pairwise (le:=fun a b=>a≤b) (fun a b _ _ h k=>List.le_antisymm h k) (qo.imp fun h=>BJ h) ht (IG.trans ?_);rw[hz];exact(hp.map ZJ).symm
  rw[zH,MN]at hc;rw[Lm];refine hc.mono ?_
  rintro e w' ⟨rfl,n,os,rfl⟩
  have DF:t.length=ss.length:=hp.length_eq;refine⟨rfl,(t.map ZJ).toArray.map Go.Proofs.encStr,t.map DI,n,os,?_,rfl,by simp[DF],fun cs hcs=>?_,fun g w _=>?_,by rw[PQ]⟩
  ·rw[eX];simp[DF,MN]
  ·obtain⟨x,_,rfl⟩:=Am.1 hcs;rfl
  ·have e1:t.map DI=((t.map ZJ).map iz).map DI:=by rw[VI]
   rw[e1,Mq];have e:(((t.map ZJ).toArray.map Go.Proofs.encStr).toList)=(t.map ZJ).map Go.Proofs.encStr:=by simp
   rw[e];exact MH _ _ _ _ fun x hx=>by
    obtain⟨z,_,rfl⟩:=Am.1 hx;rfl
def B6(ss:List ByteArray):List ByteArray:=(Lib.compact (ss.map ZJ)).map iz
theorem Qt(zs:List (List UInt8)):(Lib.compact zs).length≤zs.length:=by
 unfold Lib.compact Lib.compactUpTo;rw[Lm];exact A3 (BD _ _) (by rw[Qm];exact Aj _)
theorem uM(ss:List ByteArray)(hl:Cp ss)(Dz:ss≠[]) :
  Bd Tryz.prog 104 [.msl 1000 ss.length] (Ah [(1000,.arr 1 (ss.map DI))] Ab) fun r h'=>r=.msl 2000 (B6 ss).length∧h'=Ah [(1000,.dead),(2000,.arr 1 ((B6 ss).map DI))] Ab:=by
 have hl:ss.length≤1073741824:=hl;have hE:FS Tryz.prog 104:=dj 104 Tryz.func104 (by kernel_rfl) rfl;obtain⟨zs,hz⟩:∃zs,zs=ss.map ZJ:=⟨_,rfl⟩;have EB:ss=zs.map iz:=by rw[hz,VI]
 have MN:zs.length=ss.length:=by rw[hz,Lm]
 have hcl:=Qt zs;have G2:=Ul (P:=Tryz.prog) (f:=104) (es:=ss.map DI) (sz:=1) (rest:=[]) (n':=(Lib.compact zs).length) (Q:=fun Ft=>Ft=((Lib.compact zs++List.replicate (zs.length-(Lib.compact zs).length) []).map iz).map DI) hE (fun e=>Dz (Dq.1 e)) (by rw[Lm];omega) ?_
 ·rw[Lm]at G2;have ez:B6 ss=(Lib.compact zs).map iz:=by unfold B6;rw[hz]
  refine⟨hE,fun g w vals q1 q2 q3=>(G2.2 g w vals q1 q2 q3).mono fun _ _ ⟨x,r,h',g',e1,⟨e2,Ft,p1,p2⟩,rest⟩=>⟨x,r,h',g',e1,⟨by rw[e2,ez,Lm],by
   rw[p2,p1,ez,AH,AH,DY (by rw[Lm,Lm];exact Aj _),AT (by rw[Lm,Lm];exact Aj _)]⟩,rest⟩⟩
 ·intro g w b cap F hr hF hH hb hc;rw[Lm]at hF hc⊢;have pz:F.toList=zs.map Go.Proofs.encStr:=K8 (by rw[←Mq,←EB];exact hr);have eX:F=zs.toArray.map Go.Proofs.encStr:=Ir.1 (by rw[pz];simp);have pA:Holds Go.Proofs.encStr w b 0 zs.toArray:=fun j hj=>by
   have:=hH j (by rw[eX];simpa using hj)
   refine⟨this.1.trans ?_,this.2⟩;rw[eX,Dy _ j (by simpa using hj),Dy _ j hj];simp
  have hcon:=Any.slices_Compact_string Tryz.layCompactStr b 0 cap zs w pA (by omega) (by omega);rw[MN]at hcon;refine hcon.mono ?_
  rintro e w' ⟨rfl,q,rfl⟩
  refine⟨rfl,(Lib.compact zs++List.replicate (zs.length-(Lib.compact zs).length) []).toArray.map Go.Proofs.encStr,_,q,#[],?_,rfl,?_,fun cs hcs=>?_,fun g w _=>?_,?_⟩
  ·rw[eX];simp;omega
  ·simp;omega
  ·obtain⟨x,_,rfl⟩:=Am.1 hcs;rfl
  ·rw[Mq];have e:((Lib.compact zs++List.replicate (zs.length-(Lib.compact zs).length) []).toArray.map Go.Proofs.encStr).toList=(Lib.compact zs++List.replicate (zs.length-(Lib.compact zs).length) []).map Go.Proofs.encStr:=by simp
   rw[e];exact MH _ _ _ _ fun x hx=>by
    obtain⟨z,_,rfl⟩:=Am.1 hx;rfl
  ·rw[PQ,grow_empty,MN]
end Go.Eng
namespace Go.Eng
open Go.Proofs
abbrev nw(n:Nat):TK:=⟨[],[],[(2,n),(5,n)],[],[],[],[5],[],[],[],[2,3]⟩
theorem rh(l:List Sl)(hl:Cp l):Bd Tryz.prog 89 [sl Ae l] (Ah [] Ab) fun r h'=>r=.msl 2000 l.length∧h'=Ah [(2000,.arr 4 (l.map Ae))] Ab:=by
 refine Cm (Mo (nw 4)) [(2,2000)] rfl CK hm rfl Tryz.func89 (by kernel_rfl) rfl (Nz rfl) (by kernel_rfl) rfl ?_;have Gl:Do 4 (l.map Ae)∧([]:List (List AV)).length=0∧(([]:List (List AV)).length+(l.map Ae).length)*40≤140737488355328∧([]:List (List AV)).length+(l.map Ae).length≤9223372036854775807:=by
  refine⟨Eu (enc:=Ae) (n:=4) (fun _=>rfl) l,rfl,?_,?_⟩<;>simp only[AC,Lm]<;>unfold Cp at hl<;>omega
 have e1:AV.msl 2000 (([]:List (List AV)).length+(l.map Ae).length)=.msl 2000 l.length:=by simp
 refine Xi 0 ?_;refine Xi 0 ?_;refine Yi ?_ ?_
 ·intro _;refine Xi ⟨[(0,sl Ae l)],[],Ab⟩ (Yi ⟨Z1,Tv,Fh,Ax (by kernel_rfl)⟩ ?_)
  refine Xi 2 ?_;refine Yi Gl ?_;exact Xi _ (Yi (.refl _) (Yi e1 rfl))
 ·intro h;have h:l.map Ae=[]:=h;refine Yi ?_ ?_
  ·refine Xi ⟨[],[],Ab⟩ (Yi ⟨trivial,trivial,fun _=>.inl rfl,Ax (by kernel_rfl)⟩ ?_)
   refine Xi 2 ?_;exact Xi _ (Yi (.refl _) (Yi (show AV.msl 2000 0=_ by rw[Dq.1 h];rfl) (show Ah [(2000,HO.arr 4 [])] Ab=_ by rw[h])))
  ·refine Xi ⟨[(0,sl Ae l)],[],Ab⟩ (Yi ⟨Z1,Tv,Fh,Ax (by kernel_rfl)⟩ ?_)
   refine Xi 2 ?_;refine Yi Gl ?_;exact Xi _ (Yi (.refl _) (Yi e1 rfl))
theorem we(l:List Rl)(hl:Cp l):Bd Tryz.prog 76 [sl Ai l] (Ah [] Ab) fun r h'=>r=.msl 2000 l.length∧h'=Ah [(2000,.arr 9 (l.map Ai))] Ab:=by
 refine Cm (Mo (nw 9)) [(2,2000)] rfl CK hm rfl Tryz.func76 (by kernel_rfl) rfl (Nz rfl) (by kernel_rfl) rfl ?_;have Gl:Do 9 (l.map Ai)∧([]:List (List AV)).length=0∧(([]:List (List AV)).length+(l.map Ai).length)*120≤140737488355328∧([]:List (List AV)).length+(l.map Ai).length≤9223372036854775807:=by
  refine⟨Eu (enc:=Ai) (n:=9) (fun _=>rfl) l,rfl,?_,?_⟩<;>simp only[AC,Lm]<;>unfold Cp at hl<;>omega
 have e1:AV.msl 2000 (([]:List (List AV)).length+(l.map Ai).length)=.msl 2000 l.length:=by simp
 refine Xi 0 ?_;refine Xi 0 ?_;refine Yi ?_ ?_
 ·intro _;refine Xi ⟨[(0,sl Ai l)],[],Ab⟩ (Yi ⟨Z1,Tv,Fh,Ax (by kernel_rfl)⟩ ?_)
  refine Xi 2 ?_;refine Yi Gl ?_;exact Xi _ (Yi (.refl _) (Yi e1 rfl))
 ·intro h;have h:l.map Ai=[]:=h;refine Yi ?_ ?_
  ·refine Xi ⟨[],[],Ab⟩ (Yi ⟨trivial,trivial,fun _=>.inl rfl,Ax (by kernel_rfl)⟩ ?_)
   refine Xi 2 ?_;exact Xi _ (Yi (.refl _) (Yi (show AV.msl 2000 0=_ by rw[Dq.1 h];rfl) (show Ah [(2000,HO.arr 9 [])] Ab=_ by rw[h])))
  ·refine Xi ⟨[(0,sl Ai l)],[],Ab⟩ (Yi ⟨Z1,Tv,Fh,Ax (by kernel_rfl)⟩ ?_)
   refine Xi 2 ?_;refine Yi Gl ?_;exact Xi _ (Yi (.refl _) (Yi e1 rfl))
theorem wg(l:List Rq)(hl:Cp l):Bd Tryz.prog 77 [sl AM l] (Ah [] Ab) fun r h'=>r=.msl 2000 l.length∧h'=Ah [(2000,.arr 2 (l.map AM))] Ab:=by
 refine Cm (Mo (nw 2)) [(2,2000)] rfl CK hm rfl Tryz.func77 (by kernel_rfl) rfl (Nz rfl) (by kernel_rfl) rfl ?_;have Gl:Do 2 (l.map AM)∧([]:List (List AV)).length=0∧(([]:List (List AV)).length+(l.map AM).length)*40≤140737488355328∧([]:List (List AV)).length+(l.map AM).length≤9223372036854775807:=by
  refine⟨Eu (enc:=AM) (n:=2) (fun _=>rfl) l,rfl,?_,?_⟩<;>simp only[AC,Lm]<;>unfold Cp at hl<;>omega
 have e1:AV.msl 2000 (([]:List (List AV)).length+(l.map AM).length)=.msl 2000 l.length:=by simp
 refine Xi 0 ?_;refine Xi 0 ?_;refine Yi ?_ ?_
 ·intro _;refine Xi ⟨[(0,sl AM l)],[],Ab⟩ (Yi ⟨Z1,Tv,Fh,Ax (by kernel_rfl)⟩ ?_)
  refine Xi 2 ?_;refine Yi Gl ?_;exact Xi _ (Yi (.refl _) (Yi e1 rfl))
 ·intro h;have h:l.map AM=[]:=h;refine Yi ?_ ?_
  ·refine Xi ⟨[],[],Ab⟩ (Yi ⟨trivial,trivial,fun _=>.inl rfl,Ax (by kernel_rfl)⟩ ?_)
   refine Xi 2 ?_;exact Xi _ (Yi (.refl _) (Yi (show AV.msl 2000 0=_ by rw[Dq.1 h];rfl) (show Ah [(2000,HO.arr 2 [])] Ab=_ by rw[h])))
  ·refine Xi ⟨[(0,sl AM l)],[],Ab⟩ (Yi ⟨Z1,Tv,Fh,Ax (by kernel_rfl)⟩ ?_)
   refine Xi 2 ?_;refine Yi Gl ?_;exact Xi _ (Yi (.refl _) (Yi e1 rfl))
theorem Bd.to2{P:Program}{f:Nat}{args:List AV}{h0:Nat→HO}{r0:AV}{H0:Nat→HO}{Q' : AV→(Nat→HO)→Prop}(h:Bd P f args h0 fun r h'=>r=r0∧h'=H0)(k:Q' r0 H0):Bd P f args h0 Q' :=
 h.mono fun r h' q=>⟨r,.refl _,by rw[q.1,q.2];exact k⟩
theorem cb{f:Nat}{args:List AV}{b x:Bool}(h:b=x)(hc:PC f args (vb b)):PC f args (vb x):=h▸hc
theorem KZ{α:Type}{f:α→List AV}{l:List α}{i:Nat}(h:(i:Int)<((l.map f).length:Int)):i<l.length:=by rw[Lm]at h;omega
theorem KY{α:Type}{f:α→List AV}{l:List α}{i:Nat}(h:¬(i:Int)<((l.map f).length:Int)):¬i<l.length:=by rw[Lm]at h;omega
theorem Pi{α:Type}{f:α→List AV}{l:List α}{i:Nat}(h:i<l.length):(0:Int)≤(i:Int)∧(l.map f)[((i:Nat):Int).toNat]?=some (f l[i]):=⟨NX _,by rw[Ch,AG,Ge h];rfl⟩
theorem Pf{n z:Nat}{α:Type}{f:α→List AV}{O:List α}{x:List AV}(hx:x.length=n)(h:O.length≤2147483647)(hz:z≤65536) :
  Do n [x]∧(O.map f).length=O.length∧((O.map f).length+([x]:List (List AV)).length)*z≤140737488355328∧(O.map f).length+([x]:List (List AV)).length≤9223372036854775807:=by
 refine⟨⟨hx,trivial⟩,Lm _,?_,?_⟩<;>rw[Lm]<;>simp only[At,AC]
 ·have:=Nat.mul_le_mul (show O.length+(0+1)≤2147483648 by omega) hz
  omega
 ·omega
theorem Ug{α:Type}{f:α→List AV}{O:List α}{x:α}{r n:Nat}:AV.slice (.id r n) (O.map f++[f x])=.slice (.id r n) ((O++[x]).map f):=by rw[AH];rfl
theorem T5{α:Type}{f:α→List AV}{O:List α}{x:α}{y:List AV}{n:Nat}:HO.tok n ((O.map f).length+([y]:List (List AV)).length)=.tok n (O++[x]).length:=by rw[Ad,Lm];rfl
abbrev hE(l:List Rl)(i:Nat)(r:Rl):List (List AV):=(l.map Ai).set i (over (Ai r) 4 [.junk])
theorem YV(l:List Rl)(i:Nat)(r:Rl):(hE l i r).length=l.length:=by simp
theorem py{l:List Rl}{i:Nat}(h:i<l.length):(hE l i l[i])[i]?=some (over (Ai l[i]) 4 [.junk]):=by
 rw[TR (by rw[Lm];exact h)]
theorem jt{l:List Rl}{i:Nat}(h:i<l.length):(hE l i l[i]).set i (over (over (Ai l[i]) 4 [.junk]) 4 [.slice .none (l[i].reqs.map AM)])=l.map Ai:=by
 unfold hE;rw[List.set_set];refine Cz fun k=>?_;rw[Ql];split
 ·rename_i e;subst e;rw[Aw (by rw[Lm];exact h),AG,Ge h];rfl
 ·rfl
theorem gW{qs:List Rq}{k:Nat}(h:k<qs.length):(qs.map AM).set k (over (AM qs[k]) 1 [sl Ao qs[k].set])=qs.map AM:=by
 refine Cz fun j=>?_;rw[Ql];split
 ·rename_i e;subst e;rw[Aw (by rw[Lm];exact h),AG,Ge h];rfl
 ·rfl
set_option maxHeartbeats 4000000 in
theorem rg(l:List Rl)(hl:Cp l)(hq:∀r∈l,Cp r.reqs)(hs:∀r∈l,∀q∈r.reqs,Cp q.set):Bd Tryz.prog 37 [sl Ai l] (Ah [] Ab) fun r h'=>r=.msl 2000 l.length∧h'=Ah [(2000,.arr 9 (l.map Ai))] Ab:=by
 refine Cm (Mo ⟨[],[],[],[],[],[],[],[],[],[(950011,10700)],[2,6,7,8,9,10,11]⟩) [(10700,2000)] rfl CK hm rfl Tryz.func37 (by kernel_rfl) rfl (Nz rfl) (by kernel_rfl) rfl ?_;refine Xi (.gen [] 1) (Yi rfl (Bd.imp (we l hl) ?_));intro v1 g1 q1;have gN:=q1.1;have gO:=q1.2;subst gN;subst gO;refine Xi ⟨[(3,.msl 10700 l.length)],[(10700,.arr 9 (l.map Ai))],Ab⟩ (Yi ⟨Z1,Z1,Fh,Ax (by kernel_rfl)⟩ ?_)
 refine Xi {q:Nat // q≤l.length} (Xi (fun q=>⟨[(3,.msl 10700 l.length),(9,vi l.length),(10,vi q.1)],[(10700,.arr 9 (l.map Ai))],Ab⟩) (Xi (fun q=>l.length-q.1) (Yi (Xi ⟨0,AN _⟩ ?_) ?_)))
 ·exact⟨Z3,Z1,Fh,Ax (by kernel_rfl)⟩
 intro⟨i,i1⟩;have i1:i≤l.length:=i1;refine Yi (fun h2=>?_) (fun h2=>?_)
 ·have h2:(i:Int)<(l.length:Int):=h2;have n2:i<l.length:=by omega
  have g2:l[i]?=some l[i]:=Ge n2;have ni:i<l.length:=by omega
  have hqi:l[i].reqs.length≤1073741824:=hq _ (Aq ni);refine Yi (show(0:Int)≤i∧(i:Int)<(l.length:Nat) by omega) ?_;refine Yi (show l.length=(l.map Ai).length by rw[Lm]) ?_;refine Xi (Ai l[i]) (Yi (Cf (Ge ni)) ?_);refine Xi (.gen [] 1) (Yi rfl (Bd.imp (wg l[i].reqs (hq _ (Aq ni))) ?_));intro v5 g5 q5;have q5a:=q5.1;have q5b:=q5.2;subst q5a;subst q5b;refine Yi (show(0:Int)≤i∧(i:Int)<(l.length:Nat) by omega) ?_;refine Yi (show l.length=(l.map Ai).length by rw[Lm]) ?_;refine Xi (Ai l[i]) (Yi (Cf (Ge ni)) ?_);refine Yi (Nz rfl) ?_;refine Xi ⟨[(3,.msl 10700 l.length),(4,vi i),(9,vi l.length),(10,vi i)],[(10700,.hol 9 (hE l i l[i]) i 4 (.msl 12000 l[i].reqs.length)),(12000,.arr 2 (l[i].reqs.map AM))],Ab⟩ (Yi ⟨Z4,Z2,Fh,Ax (by kernel_rfl)⟩ ?_)
  refine Yi (show(0:Int)≤i∧(i:Int)<(l.length:Nat) by omega) ?_;refine Yi (show l.length=(hE l i l[i]).length∧(i:Int).toNat=i∧4=4 from⟨(YV l i l[i]).symm,rfl,rfl⟩) ?_;refine Xi {q:Nat // q≤l[i].reqs.length} (Xi (fun q=>⟨[(3,.msl 10700 l.length),(4,vi i),(9,vi l.length),(10,vi i),(28,vi (l[i].reqs.length:Nat)),(29,vi q.1)],[(10700,.hol 9 (hE l i l[i]) i 4 (.msl 12000 l[i].reqs.length)),(12000,.arr 2 (l[i].reqs.map AM))],Ab⟩) (Xi (fun q=>l[i].reqs.length-q.1) (Yi (Xi ⟨0,AN _⟩ ?_) ?_)))
  ·exact⟨Z6,Z2,Fh,Ax (by kernel_rfl)⟩
  intro⟨k,k1⟩;have k1:k≤l[i].reqs.length:=k1;refine Xi ⟨[(3,.msl 10700 l.length),(4,vi i),(9,vi l.length),(10,vi i),(28,vi (l[i].reqs.length:Nat)),(29,vi k)],[(10700,.hol 9 (hE l i l[i]) i 4 (.msl 12000 l[i].reqs.length)),(12000,.arr 2 (l[i].reqs.map AM))],Ab⟩ (Yi ⟨Z6,Z2,Fh,Ax (by kernel_rfl)⟩ ?_)
  refine Yi (fun h3=>?_) (fun h3=>?_)
  ·have h3:(k:Int)<((l[i].reqs.length:Nat):Int):=h3;have nk:k<l[i].reqs.length:=by omega
   refine Xi ⟨[(3,.msl 10700 l.length),(4,vi i),(9,vi l.length),(10,vi i),(28,vi (l[i].reqs.length:Nat)),(29,vi k)],[(10700,.hol 9 (hE l i l[i]) i 4 (.msl 12000 l[i].reqs.length)),(12000,.arr 2 (l[i].reqs.map AM))],Ab⟩ (Yi ⟨Z6,Z2,Fh,Ax (by kernel_rfl)⟩ ?_)
   refine Xi ⟨[(3,.msl 10700 l.length),(4,vi i),(5,vi k),(9,vi l.length),(10,vi i),(28,vi (l[i].reqs.length:Nat)),(29,vi k)],[(10700,.hol 9 (hE l i l[i]) i 4 (.msl 12000 l[i].reqs.length)),(12000,.arr 2 (l[i].reqs.map AM))],Ab⟩ (Yi ⟨Z7,Z2,Fh,Ax (by kernel_rfl)⟩ ?_)
   refine Yi (show(0:Int)≤i∧(i:Int)<(l.length:Nat) by omega) ?_;refine Yi (show l.length=(hE l i l[i]).length∧(i:Int).toNat=i∧4=4 from⟨(YV l i l[i]).symm,rfl,rfl⟩) ?_;refine Yi (show(0:Int)≤i∧(i:Int)<(l.length:Nat) by omega) ?_;refine Yi (show l.length=(hE l i l[i]).length∧(i:Int).toNat=i∧4=4 from⟨(YV l i l[i]).symm,rfl,rfl⟩) ?_;refine Yi (show(0:Int)≤k∧(k:Int)<(l[i].reqs.length:Nat) by omega) ?_;refine Yi (show l[i].reqs.length=(l[i].reqs.map AM).length by rw[Lm]) ?_;refine Xi (AM l[i].reqs[k]) (Yi (Cf (Ge nk)) ?_);refine Xi _ (Yi (sJ l[i].reqs[k].set (hs _ (Aq ni) _ (Aq nk))) ?_);refine Yi (show(0:Int)≤k∧(k:Int)<(l[i].reqs.length:Nat) by omega) ?_;refine Yi (show l[i].reqs.length=(l[i].reqs.map AM).length by rw[Lm]) ?_;refine Xi (AM l[i].reqs[k]) (Yi (Cf (Ge nk)) ?_);refine Yi (Nz rfl) ?_;refine Yi (by kernel_rfl) ?_;refine Xi ⟨[(3,.msl 10700 l.length),(4,vi i),(9,vi l.length),(10,vi i),(28,vi (l[i].reqs.length:Nat)),(29,vi k)],[(10700,.hol 9 (hE l i l[i]) i 4 (.msl 12000 l[i].reqs.length)),(12000,.arr 2 (l[i].reqs.map AM))],Ab⟩ (Yi ⟨Z6,⟨Zr,⟨(show(.arr 2 ((l[i].reqs.map AM).set k (over (AM l[i].reqs[k]) 1 [sl Ao l[i].reqs[k].set])):HO)=.arr 2 (l[i].reqs.map AM)from Ac (HO.arr 2) (gW nk)),rfl⟩,Tv⟩,Fh,Ax (by kernel_rfl)⟩ ?_)
   refine Yi (Ii k (by omega)) ?_;refine Xi ⟨k+1,nk⟩ ?_;exact⟨by show l[i].reqs.length-(k+1)<l[i].reqs.length-k;omega,Z6,Z2,Fh,Ax (by kernel_rfl)⟩
  have h3:¬((k:Int)<((l[i].reqs.length:Nat):Int)):=h3;refine Yi (show l[i].reqs.length=(l[i].reqs.map AM).length by rw[Lm]) ?_;refine Xi (over (Ai l[i]) 4 [.junk]) (Yi (py ni) (Yi (Nz rfl) ?_));refine Xi ⟨[(3,.msl 10700 l.length),(9,vi l.length),(10,vi i)],[(10700,.arr 9 (l.map Ai))],Ab⟩ (Yi ⟨Z3,⟨⟨(show HO.arr 9 ((hE l i l[i]).set i (over (over (Ai l[i]) 4 [.junk]) 4 [.slice .none (l[i].reqs.map AM)]))=.arr 9 (l.map Ai)from Ac (HO.arr 9) (jt ni)),rfl⟩,Tv⟩,Fh,Ax (by kernel_rfl)⟩ ?_)
  refine Yi (Ii i (by omega)) ?_;refine Xi ⟨i+1,ni⟩ ?_;exact⟨Dl l.length i (by omega),Z3,Z1,Fh,Ax (by kernel_rfl)⟩
 have h2:¬((i:Int)<(l.length:Int)):=h2;have n2:¬i<l.length:=by omega
 exact Xi _ (Yi (.refl _) Zr)
theorem Un{n:Nat}:∀{l:List (List AV)},(∀c∈l,c.length=n)→Do n l
 | [],_=>trivial
 |c::_,h=>⟨h c (Aa ..),Un fun d hd=>h d (Af _ hd)⟩
end Go.Eng
