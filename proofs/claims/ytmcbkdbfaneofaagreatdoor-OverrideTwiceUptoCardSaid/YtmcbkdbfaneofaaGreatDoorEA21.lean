/- Lemmas for the claims of this seat, without a condition: part 21 (C65, C66, C67, C68, C69, C56, C57, C58, C59, C70, C71, C72, C73, LayStrs, O15, S17, O1, C0, O2, R1, R2, R3, R4, R5, C60, C61, C62, C63, C64, R6, R7, R8, R9, R10, R11). -/
import Derived.Test.YtmcbkdbfaneofaaGreatDoorEA20
import Derived.Test.YtmcbkdbfaneofaaGreatDoorEA16
import Derived.Shelf.Sort.Plain
import Derived.Shelf.Slices.CompactS
import Derived.Ground.NamesProg
namespace Go.Eng
open Go.Proofs
theorem Lj:∀(y:List Rl) (acc:List ByteArray) (r:Rl),AQ (y++[r]) acc=if(AQ y acc).any (fun p=>decide (p=r.path))then AQ y acc else AQ y acc++[r.path]
 | [],acc,r=>rfl
 |s::y,acc,r=>by rw[IA,AQ,AQ,Lj y]
theorem EL:∀(y:List Rl) (acc:List ByteArray),acc.Nodup→(AQ y acc).Nodup
 | [],_,h=>h
 |s::y,acc,h=>by
  rw[AQ];refine EL y _ ?_;split
  ·exact h
  ·rename_i hn;rw[F6];refine⟨h,by simp,fun a ha b hb e=>?_⟩;rw[Am]at hb;exact hn (Od.2 (by rw[←hb,←e];exact ha))
abbrev Np(y:List Rl)(p:ByteArray):List (List AV):=(y.filter fun r=>decide (r.path=p)).map Al
abbrev fw(y:List Rl)(q:ByteArray×Nat):Value×AV:=(.string q.1,.slice (.id (q.2+50) 9) (Np y q.1))
abbrev Ru(y:List Rl):List (Value×AV):=(AQ y []).zipIdx.map (fw y)
def Jw(y:List Rl)(l:Nat):HO:=match(AQ y [])[l]? with
 |some q=>.tok 9 (Np y q).length
 |none=>.free
def U3(y:List Rl)(j:Nat):HO:=bif Nat.ble 50 j then Jw y (j-50)else .free
theorem Hx(y:List Rl)(l:Nat):U3 y (l+50)=Jw y l:=by
 unfold U3;rw[show Nat.ble 50 (l+50)=true by rw[Db];omega,Nat.add_sub_cancel];rfl
theorem nl(y:List Rl){j:Nat}(h:j<50):U3 y j=.free:=by
 unfold U3;rw[show Nat.ble 50 j=false by rw[AI];intro hc;rw[Db]at hc;omega];rfl
theorem Iv(y:List Rl)(r:Rl)(q:ByteArray):Np (y++[r]) q=if r.path=q then Np y q++[Al r]else Np y q:=by
 unfold Np;rw[El]
 by_cases h:r.path=q
 ·rw[Aw h,RN (by simpa using h)];simp
 ·rw[Ah h,RM (by simpa using h)];simp
theorem Ij{l:List ByteArray}{q:ByteArray×Nat}(h:q∈l.zipIdx):l[q.2]?=some q.1:=by
 obtain⟨a,b⟩:=q;exact Fv.1 h
open Classical in
theorem Mj{B3:List (Value×AV)}{k:Value}{a:AV}(h:∀a',(k,a')∉B3):EO B3 k a=B3++[(k,a)]:=by
 unfold EO;rw[Ah (fun⟨a',h'⟩=>h a' h')]
open Classical in
theorem X4{B3:List (Value×AV)}{k:Value}{a a' : AV}(h:(k,a')∈B3):EO B3 k a=B3.map fun p=>if p.1=k then(k,a)else p:=by
 unfold EO;rw[Aw ⟨a',h⟩]
section
variable {y:List Rl}{r:Rl}{k:Nat}
theorem I9(h:(AQ y [])[k]?=some r.path):AQ (y++[r]) []=AQ y []:=by
 rw[Lj,Aw (Od.2 (Av h))]
theorem I8(h:r.path∉AQ y []):AQ (y++[r]) []=AQ y []++[r.path]:=by
 rw[Lj,Ah (fun hc=>h (Od.1 hc))]
theorem I6{l:List ByteArray}(hd:l.Nodup){i j:Nat}{p:ByteArray}(h1:l[i]?=some p)(h2:l[j]?=some p):i=j:=by
 obtain⟨a1,a2⟩:=At.1 h1;obtain⟨b1,b2⟩:=At.1 h2;exact(List.getElem_inj hd).1 (a2.trans b2.symm)
open Classical in
theorem jR(h:(AQ y [])[k]?=some r.path):EO (Ru y) (.string r.path) (.slice (.id (k+50) 9) (Np y r.path++[Al r]))=Ru (y++[r]):=by
 have hd:=EL y [] E7;have hm:fw y (r.path,k)∈Ru y:=Ak.2 ⟨_,Fv.2 h,rfl⟩;rw[X4 (a':=.slice (.id (k+50) 9) (Np y r.path)) hm];unfold Ru;rw[I9 h,BO];refine Bf fun q hq=>?_;have hg:=Ij hq;obtain⟨q,j⟩:=q;show(if Value.string q=Value.string r.path then _ else _)=fw (y++[r]) (q,j);have hg:(AQ y [])[j]?=some q:=hg
 by_cases he:q=r.path
 ·subst he
  have:j=k:=I6 hd hg h
  subst this;rw[Aw rfl];show _=(Value.string r.path,AV.slice (.id (j+50) 9) (Np (y++[r]) r.path));rw[Iv,Aw rfl]
 ·rw[Ah (fun e=>he (by simpa using e))];show(Value.string q,AV.slice (.id (j+50) 9) (Np y q))=(Value.string q,AV.slice (.id (j+50) 9) (Np (y++[r]) q));rw[Iv,Ah (fun e=>he e.symm)]
theorem aP(h:r.path∉AQ y []):Np y r.path=[]:=by
 have:y.filter (fun s=>decide (s.path=r.path))=[]:=by
  rw[Hf];intro s hs he;exact h ((Hc y [] r.path).2 (.inr ⟨s,hs,BF he⟩))
 unfold Np;rw[this];rfl
theorem XC(h:r.path∉AQ y [])(a:AV):(Value.string r.path,a)∉Ru y:=by
 intro hc;obtain⟨q,h1,h2⟩:=Ak.1 hc;simp only[fw,FJ,Value.string.injEq]at h2;exact h (by rw[←h2.1];exact Av (Ij h1))
theorem jQ(h:r.path∉AQ y []):EO (Ru y) (.string r.path) (.slice (.id ((AQ y []).length+50) 9) [Al r])=Ru (y++[r]):=by
 rw[Mj (fun a=>XC h a)];unfold Ru;rw[I8 h,List.zipIdx_append,AH]
 congr 1
 ·refine Bf fun q hq=>?_;have hg:=Ij hq
  have:q.1≠r.path:=fun e=>h (by rw[←e];exact Av hg)
  show(Value.string q.1,AV.slice (.id (q.2+50) 9) (Np y q.1))=(Value.string q.1,AV.slice (.id (q.2+50) 9) (Np (y++[r]) q.1));rw[Iv,Ah (fun e=>this e.symm)]
 ·show [_]=[(Value.string r.path,AV.slice (.id (0+(AQ y []).length+50) 9) (Np (y++[r]) r.path))];rw[Iv,Aw rfl,aP h,Bi];rfl
theorem fB{p:ByteArray}{j:Nat}(h:(AQ y [])[j]?=some p):(Value.string p,AV.slice (.id (j+50) 9) (Np y p))∈Ru y∧∀b,(Value.string p,b)∈Ru y→b=AV.slice (.id (j+50) 9) (Np y p):=by
 refine⟨Ak.2 ⟨(p,j),Fv.2 h,rfl⟩,fun b hb=>?_⟩;obtain⟨q,h1,h2⟩:=Ak.1 hb;simp only[fw,FJ,Value.string.injEq]at h2;have hg:=Ij h1;rw[h2.1]at hg
 have:=I6 (EL y [] E7) hg h
 rw[←h2.2,h2.1,this]
theorem iO{p:ByteArray}{j:Nat}(h:(AQ y [])[j]?=some p):Jw y j=.tok 9 (Np y p).length:=by
 unfold Jw;rw[h]
theorem lq(h:(AQ y [])[k]?=some r.path)(l:Nat):(bif Nat.beq (l+50) (k+50)then HO.tok 9 ((Np y r.path).length+1)else Jw y l)=Jw (y++[r]) l:=by
 by_cases he:l=k
 ·subst he;rw[show Nat.beq (l+50) (l+50)=true from CW _];unfold Jw;rw[I9 h,h];show HO.tok 9 _=HO.tok 9 (Np (y++[r]) r.path).length;rw[Iv,Aw rfl,Ad];rfl
 ·rw[show Nat.beq (l+50) (k+50)=false by rw[AI];intro hc;have:=AL hc;omega];show Jw y l=_;unfold Jw;rw[I9 h];cases hq:(AQ y [])[l]? with
  |none=>rfl
  |some q =>
   show HO.tok 9 (Np y q).length=HO.tok 9 (Np (y++[r]) q).length;rw[Iv,Ah];intro e;subst e;exact he (I6 (EL y [] E7) hq h)
theorem lp(h:r.path∉AQ y [])(l:Nat):(bif Nat.beq (l+50) ((AQ y []).length+50)then HO.tok 9 1 else Jw y l)=Jw (y++[r]) l:=by
 by_cases he:l=(AQ y []).length
 ·subst he;rw[show Nat.beq ((AQ y []).length+50) ((AQ y []).length+50)=true from CW _];unfold Jw;rw[I8 h];simp only[A5 (Aj _),F7,A8];show HO.tok 9 1=HO.tok 9 (Np (y++[r]) r.path).length;rw[Iv,Aw rfl,aP h];rfl
 ·rw[show Nat.beq (l+50) ((AQ y []).length+50)=false by rw[AI];intro hc;have:=AL hc;omega];show Jw y l=_;unfold Jw;rw[I8 h]
  by_cases hl:l<(AQ y []).length
  ·rw[AY hl,Ge hl];show HO.tok 9 (Np y (AQ y [])[l]).length=HO.tok 9 (Np (y++[r]) (AQ y [])[l]).length;rw[Iv,Ah];intro e;exact h (by rw[e];exact Ap hl)
  ·rw[A6 (by omega),A6 (by rw[Ad];simp;omega)]
end
theorem PP{h:Nat→HO}:∀{B3:List (Value×AV)},(∀p∈B3,Uo h p.2=true)→QP h B3=true
 | [],_=>rfl
 |p::r,hk=>by
  unfold QP;rw[hk p (Aa ..)];exact PP (fun q hq=>hk q (Ae _ hq))
theorem K2(y:List Rl){h:Nat→HO}(hh:∀l,h (l+50)=Jw y l):QP h (Ru y)=true:=by
 refine PP fun p hp=>?_;obtain⟨q,h1,rfl⟩:=Ak.1 hp;show Rn h (q.2+50)=true;unfold Rn;rw[hh,iO (Ij h1)]
theorem Je{y:List Rl}{h h' : Nat→HO}(hh:∀l,h (l+50)=Jw y l)(j:Nat):U3 y j=.free∨(h j=U3 y j∧XN h' (U3 y j)=true):=by
 by_cases hj:j<50
 ·exact .inl (nl y hj)
 ·obtain⟨l,rfl⟩:∃l,j=l+50:=⟨j-50,by omega⟩
  right
  rw[Hx];refine⟨hh l,?_⟩;unfold Jw;cases (AQ y [])[l]?<;>rfl
theorem ld{x:List Rl}(hx:A4 x=0){i:Nat}(hi:i<x.length):EO ((x.take i).map Vd) (Tg (GO x[i])) (.agg (Al x[i]))=(x.take (i+1)).map Vd:=by
 rw[Mj]
 ·rw[Bu,Ge hi,AH];rfl
 intro a ha;obtain⟨r,hr,he,_⟩:=ky ha;obtain⟨j,hj,e2⟩:=Dy.1 hr;rw[AJ]at hj;rw[Kf]at e2;have hp:=(Cg hx).2
 have:=(Bc.1 hp) j i (by omega) hi (by omega)
 rw[e2]at this;exact Jl this he
abbrev rz:T2:=⟨[],[],[],[],[8,9],[9],[40],[],[],[],[8,9,10,11]⟩
abbrev zT:List AV:=[.v (.map none),.v (.map none)]
theorem jH(x:List Rl)(ifs:List (List AV))(na:PC 20 [I2 x ifs] (vi (A4 x)))(h0:A4 x≠0):lx x ifs:=by
 have ht:ZU x=.tup [.agg [.cmap WR [],.cmap C3 []],vi (A4 x)]:=by unfold ZU;rw[Ah h0]
 unfold lx;rw[ht];refine Ps rz Tryz.func73 rfl (Nz rfl) ?_;refine Xi 0 ?_;refine Xi 0 ?_;refine Yi (Nz rfl) ?_;refine Xi 0 ?_;refine Yi (Nz rfl) ?_;refine Xi .pure (Xi _ (Yi (na) ?_));refine Xi 0 ?_;refine Yi ?_ ?_
 ·intro _;refine Xi 0 ?_;refine Yi (Nz rfl) ?_;refine Yi (Nz rfl) ?_;refine Yi (Nz rfl) ?_;exact .refl _
 ·intro h;exact absurd h (fun hc=>hc h0)
theorem Hb:∀(y:List Rl) (acc:List ByteArray),(AQ y acc).length≤acc.length+y.length
 | [],acc=>by simp[AQ]
 |r::y,acc=>by
  rw[AQ];refine AU (Hb y _) ?_;split
  ·simp only[Au];omega
  ·simp only[Ad,Au,AC];omega
section
attribute [local irreducible] Ib
theorem mV(x:List Rl)(ifs:List (List AV))(na:PC 20 [I2 x ifs] (vi (A4 x)))(h0:A4 x=0)(CI:x.length≤256):lx x ifs:=by
 have ht:ZU x=.tup [.agg [.cmap WR (x.map Vd),.cmap C3 ((AQ x []).map (mc x))],vi 0]:=by unfold ZU;rw[Aw h0]
 unfold lx;rw[ht];rw[h0]at na;refine Ps rz Tryz.func73 rfl (Nz rfl) ?_;refine Xi 0 ?_;refine Xi 0 ?_;refine Yi (Nz rfl) ?_;refine Xi 0 ?_;refine Yi (Nz rfl) ?_;refine Xi .pure (Xi _ (Yi (na) ?_));refine Xi 0 ?_;refine Yi ?_ ?_
 ·intro hc;exact absurd (show(0:Int)≠0 from hc) (by decide)
 intro _;refine Xi 0 ?_;refine Xi {i:Nat // i≤x.length} (Xi (fun i=>⟨[(2,.ref 2 0),(4,.ref 4 0),(18,sl Al x),(19,vi (x.map Al).length),(20,vi i.1)],[(2,.cells zT),(4,.cells [.mref 8,.mref 9]),(8,.map WR ((x.take i.1).map Vd)),(9,.mapU C3 (Ru (x.take i.1)))],U3 (x.take i.1)⟩) (Xi (fun i=>x.length-i.1) (Yi (Xi ⟨0,AO _⟩ ?_) ?_)))
 ·refine⟨Z5,Z4,fun j=>.inl ?_,Tv⟩;show U3 [] j=.free;unfold U3;cases Nat.ble 50 j<;>rfl
 intro⟨i,i1⟩;have i1:i≤x.length:=i1;refine Xi 0 ?_;refine Yi ?_ ?_
 ·intro h;have h:(i:Int)<(x.map Al).length:=h;have h:i<x.length:=by simpa using h
  have hg:x[i]?=some x[i]:=Ge h;have Kv:x.take (i+1)=x.take i++[x[i]]:=by rw[Bu,hg];rfl
  refine Xi 0 ?_;refine Xi (Al x[i]) (Yi (Yi (Nn i) (by simp[hg])) (Yi rfl ?_));refine Yi (Nz rfl) (Yi (Nz rfl) ?_);refine Xi ⟨[(2,.ref 2 0),(4,.ref 4 0),(7,.ref 7 0),(18,sl Al x),(19,vi (x.map Al).length),(20,vi i)],[(2,.cells zT),(4,.cells [.mref 8,.mref 9]),(7,.cells (Al x[i])),(8,.map WR ((x.take i).map Vd)),(9,.mapU C3 (Ru (x.take i)))],U3 (x.take i)⟩ (Yi ?_ ?_)
  ·exact⟨Z6,⟨Zr,Zr,Zr,Zr,⟨rfl,K2 _ (Hx _)⟩,Tv⟩,Je (Hx _),Tv⟩
  refine Xi 0 ?_;refine Yi (Nz rfl) ?_;refine Xi _ (Yi (mL x[i]) ?_);refine Yi (Nz rfl) ?_;refine Yi (by kernel_rfl) ?_;have e8:EO ((x.take i).map Vd) (Tg (GO x[i])) (.agg (Al x[i]))=(x.take (i+1)).map Vd:=ld h0 h;refine Xi ⟨[(2,.ref 2 0),(4,.ref 4 0),(7,.ref 7 0),(18,sl Al x),(19,vi (x.map Al).length),(20,vi i)],[(2,.cells zT),(4,.cells [.mref 8,.mref 9]),(7,.cells (Al x[i])),(8,.map WR ((x.take (i+1)).map Vd)),(9,.mapU C3 (Ru (x.take i)))],U3 (x.take i)⟩ (Yi ?_ ?_)
  ·exact⟨Z6,⟨Zr,Zr,Zr,⟨Ac (HO.map WR) e8,rfl⟩,⟨rfl,K2 _ (Hx _)⟩,Tv⟩,Je (Hx _),Tv⟩
  have hL:((x.take i).filter (fun r=>decide (r.path=x[i].path))).length≤256:=by
   have:=BD (fun r:Rl=>decide (r.path=x[i].path)) (x.take i)
   rw[AJ]at this;omega
  have hP:∀l,U3 (x.take i) (l+50)=Jw (x.take i) l:=Hx _;refine BU (Classical.em (x[i].path∈AQ (x.take i) [])) (fun hp=>?_) (fun hp=>?_)
  ·refine Dn (B9.1 hp) (fun k hk=>?_);have hu:=fB hk;refine Xi 0 ?_;refine Or.inl (Xi (.slice (.id (k+50) 9) (Np (x.take i) x[i].path)) (Yi hu ?_));refine Yi (Nz rfl) ?_;have hr:U3 (x.take i) (k+50)=.tok 9 (Np (x.take i) x[i].path).length:=by rw[hP,iO hk]
   have hl:(Np (x.take i) x[i].path).length≤256:=by rw[Lm];exact hL
   refine QE (e:=45) (m:=8) (es2:=[Al x[i]]) rfl rfl rfl (fun _ h=>h) hr ⟨rfl,trivial⟩ (by show(_+1)*120≤_;omega) (by show _+1≤_;omega) ?_;have qA:k<256:=by
    have:=(At.1 hk).1
    have:=Hb (x.take i) []
    rw[AJ]at this;simp only[AC]at this;omega
   have nE:=hk;refine Yi (IW ⟨A2 _,A2 _,A2 _,A2 _,A2 _,A2 _,A2 _,A2 _,A2 _,A2 _,D7 (show 39<10000000 by decide),D7 (by show _+50<10000000;omega),D7 (show 9<10000000 by decide),trivial⟩ (by kernel_rfl)) ?_;have e9:EO (Ru (x.take i)) (.string x[i].path) (.slice (.id (k+50) 9) (Np (x.take i) x[i].path++[Al x[i]]))=Ru (x.take (i+1)):=by rw[Kv];exact jR nE
   have hG:∀l,(bif Nat.beq (l+50) (k+50)then HO.tok 9 ((Np (x.take i) x[i].path).length+1)else Jw (x.take i) l)=Jw (x.take (i+1)) l:=by rw[Kv];exact lq nE
   refine Xi ⟨[(2,.ref 2 0),(4,.ref 4 0),(18,sl Al x),(19,vi (x.map Al).length),(20,vi i)],[(2,.cells zT),(4,.cells [.mref 8,.mref 9]),(8,.map WR ((x.take (i+1)).map Vd)),(9,.mapU C3 (Ru (x.take (i+1))))],U3 (x.take (i+1))⟩ (Yi ?_ ?_)
   ·refine⟨Z5,⟨Zr,Zr,Zr,⟨Ac (HO.mapU C3) e9,K2 _ (Hx _)⟩,Tv⟩,Je (fun l=>?_),Tv⟩;show(bif Nat.beq (l+50) (k+50)then HO.tok 9 ((Np (x.take i) x[i].path).length+1)else U3 (x.take i) (l+50))=_;rw[hP];exact hG l
   refine Xi 0 ?_;refine Yi (Ii i (by omega)) ?_;refine Xi ⟨i+1,by omega⟩ ?_;exact⟨Dl x.length i (by omega),Z5,⟨Zr,Zr,Zr,⟨rfl,K2 _ (Hx _)⟩,Tv⟩,Je (Hx _),Tv⟩
  ·have nE:=hp;have Lx:(AQ (x.take i) []).length≤256:=by
    have:=Hb (x.take i) []
    rw[AJ]at this;simp only[AC]at this;omega
   have hn:=XC hp;refine Xi ((AQ (x.take i) []).length+50) ?_;refine Or.inr (Yi hn ?_);refine Yi (Nz rfl) ?_;have hr:U3 (x.take i) ((AQ (x.take i) []).length+50)=.free:=by
    rw[hP];unfold Jw;rw[A6 (Aj _)]
   refine QD (e:=45) (m:=8) (es2:=[Al x[i]]) rfl rfl rfl (fun _ h=>h) hr rfl ⟨rfl,trivial⟩ (by show 1*120≤_;omega) (by show 1≤_;omega) ?_;refine Yi (IW ⟨A2 _,A2 _,A2 _,A2 _,A2 _,A2 _,A2 _,A2 _,A2 _,A2 _,D7 (show 39<10000000 by decide),D7 (by show _+50<10000000;omega),D7 (show 9<10000000 by decide),trivial⟩ (by kernel_rfl)) ?_;have e9:EO (Ru (x.take i)) (.string x[i].path) (.slice (.id ((AQ (x.take i) []).length+50) 9) [Al x[i]])=Ru (x.take (i+1)):=by rw[Kv];exact jQ nE
   have hG:∀l,(bif Nat.beq (l+50) ((AQ (x.take i) []).length+50)then HO.tok 9 1 else Jw (x.take i) l)=Jw (x.take (i+1)) l:=by rw[Kv];exact lp nE
   refine Xi ⟨[(2,.ref 2 0),(4,.ref 4 0),(18,sl Al x),(19,vi (x.map Al).length),(20,vi i)],[(2,.cells zT),(4,.cells [.mref 8,.mref 9]),(8,.map WR ((x.take (i+1)).map Vd)),(9,.mapU C3 (Ru (x.take (i+1))))],U3 (x.take (i+1))⟩ (Yi ?_ ?_)
   ·refine⟨Z5,⟨Zr,Zr,Zr,⟨Ac (HO.mapU C3) e9,K2 _ (Hx _)⟩,Tv⟩,Je (fun l=>?_),Tv⟩;show(bif Nat.beq (l+50) ((AQ (x.take i) []).length+50)then HO.tok 9 1 else U3 (x.take i) (l+50))=_;rw[hP];exact hG l
   refine Xi 0 ?_;refine Yi (Ii i (by omega)) ?_;refine Xi ⟨i+1,by omega⟩ ?_;exact⟨Dl x.length i (by omega),Z5,⟨Zr,Zr,Zr,⟨rfl,K2 _ (Hx _)⟩,Tv⟩,Je (Hx _),Tv⟩
 ·intro h;have h:¬(i:Int)<(x.map Al).length:=h;have h:¬i<x.length:=by simpa using h
  have et:x.take i=x:=AT (by omega);refine Xi ⟨[(2,.ref 2 0),(4,.ref 4 0)],[(2,.cells zT),(4,.cells [.mref 8,.mref 9]),(8,.map WR ((x.take i).map Vd)),(9,.mapU C3 (Ru (x.take i)))],U3 (x.take i)⟩ (Yi ?_ ?_)
  ·exact⟨Z2,⟨Zr,Zr,Zr,⟨rfl,K2 _ (Hx _)⟩,Tv⟩,Je (Hx _),Tv⟩
  refine Xi 0 ?_;refine Yi (Nz rfl) ?_;refine Yi (Nz rfl) ?_;refine Yi (Nz rfl) ?_;have es:∀h:Nat→HO,Rp h (Ru (x.take i))=(AQ x []).map (mc x):=fun h=>by
   rw[et];unfold Rp Ru;rw[BO];refine CC fun j=>?_;rw[AG,AG,List.getElem?_zipIdx];cases (AQ x [])[j]?<;>rfl
  have e1:(x.take i).map Vd=x.map Vd:=by rw[et]
  exact .of_eq (show AV.tup [.agg [.cmap WR ((x.take i).map Vd),.cmap C3 (Rp _ (Ru (x.take i)))],vi 0]=_ by rw[e1,es])
end
theorem c84(x:List Rl)(ifs:List (List AV))(hx:∀r∈x,IR r):lx x ifs:=by
 by_cases h0:A4 x=0
 ·exact mV x ifs (jG Se x ifs hx) h0 (PR h0).1
 ·exact jH x ifs (jG Se x ifs hx) h0
abbrev vU(n:Nat):T2:=⟨[],[(2,n)],[],[],[],[],[5],[],[],[],[2,3]⟩
theorem pN(l:List Sl)(hl:Cm l):Be Tryz.prog 89 [sl Af l] (Ai [] Ab) fun r h'=>r=.slice (.id 2000 4) (l.map Af)∧h'=Ai [(2000,.tok 4 (l.map Af).length)] Ab:=by
 refine Co (MF (vU 4)) [(2,2000)] rfl CB hm rfl Tryz.func89 (by kernel_rfl) rfl (Nz rfl) (by kernel_rfl) rfl ?_;have Gp:Do 4 (l.map Af)∧([]:List (List AV)).length=0∧(([]:List (List AV)).length+(l.map Af).length)*40≤140737488355328∧([]:List (List AV)).length+(l.map Af).length≤9223372036854775807:=by
  refine⟨Ez (enc:=Af) (n:=4) (fun _=>rfl) l,rfl,?_,?_⟩<;>simp only[AC,Lm]<;>unfold Cm at hl<;>omega
 have e2:HO.tok 4 (([]:List (List AV)).length+(l.map Af).length)=.tok 4 (l.map Af).length:=by rw[AC,Bi]
 have e3:AV.slice (.id 2000 4) ([]++l.map Af)=.slice (.id 2000 4) (l.map Af):=rfl;refine Xi 0 ?_;refine Xi 0 ?_;refine Yi ?_ ?_
 ·intro _;refine Xi ⟨[(0,sl Af l)],[],Ab⟩ (Yi ⟨Z1,Tv,Fh,Ay (by kernel_rfl)⟩ ?_)
  refine Xi 2 ?_;refine Yi Gp ?_;exact Xi _ (Yi (.refl _) (Yi e3 (Ac (fun o=>Ai [(2000,o)] Ab) e2)))
 ·intro h;have h:l.map Af=[]:=h;refine Yi ?_ ?_
  ·refine Xi ⟨[],[],Ab⟩ (Yi ⟨trivial,trivial,fun _=>.inl rfl,Ay (by kernel_rfl)⟩ ?_)
   refine Xi 0 ?_;exact Xi _ (Yi (.refl _) (Yi (show AV.slice (.id 2000 4) []=_ by rw[h]) (show Ai [(2000,HO.tok 4 0)] Ab=_ by rw[h];rfl)))
  ·refine Xi ⟨[(0,sl Af l)],[],Ab⟩ (Yi ⟨Z1,Tv,Fh,Ay (by kernel_rfl)⟩ ?_)
   refine Xi 2 ?_;refine Yi Gp ?_;exact Xi _ (Yi (.refl _) (Yi e3 (Ac (fun o=>Ai [(2000,o)] Ab) e2)))
section
variable {S:Type}{x:List Rl}{roots:List Rq}{s:List Sl}{step:S→yK→S}{st0:S}{before:List Sl}{needs:List Rq}{n:Nat}{st:S}
end
def Mt(q:Rq):Bool:=decide (q.path.size≤100)&&decide (q.set.length≤8)
def GT(l:List Rq):Bool:=l.all Mt&&decide (l.length≤20)
theorem w7(l:List Rq)(hl:Cm l):PC 29 [sl AM l] (vb (GT l)):=by
 unfold Cm at hl;refine Ps F3 Tryz.func29 rfl (Nz rfl) ?_;refine Xi {i:Nat // i≤l.length∧∀j (hj:j<l.length),j<i→Mt l[j]=true} (Xi (fun i=>⟨[(0,sl AM l),(3,vi i.1)],[],Ab⟩) (Xi (fun i=>l.length-i.1) (Yi (Xi ⟨0,AO _,fun j _ h=>by omega⟩ ?_) ?_)))
 ·exact⟨Z2,Tv,Fh,Tv⟩
 intro⟨i,h1,h2⟩;refine Yi ?_ ?_
 ·intro h;have h:(i:Int)<(l.map AM).length:=h;have h:i<l.length:=by simpa using h
  have hg:l[i]?=some l[i]:=Ge h;have no:Mt l[i]=false→false=GT l:=fun e=>by
   unfold GT
   have:l.all Mt=false:=by
    rw[AI];intro ha
    have:=Br.1 ha _ (Ap h)
    rw[e]at this;cases this
   rw[this];rfl
  refine Xi (AM l[i]) (Yi (Yi (Nn i) (by simp[hg])) (Yi rfl ?_));refine Yi ?_ ?_
  ·intro h3;have h3:(100:Int)<((l[i].path.size:Nat):Int):=h3;exact .of_eq (Ac vb (no (by unfold Mt;rw[Ar (by omega)];rfl)))
  intro h3;have h3:¬(100:Int)<((l[i].path.size:Nat):Int):=h3;refine Xi (AM l[i]) (Yi (Yi (Nn i) (by simp[hg])) (Yi rfl ?_));refine Yi ?_ ?_
  ·intro h4;have h4:(8:Int)<((l[i].set.map Ao).length:Int):=h4;rw[Lm]at h4;exact .of_eq (Ac vb (no (by unfold Mt;rw[Ar (by omega:¬l[i].set.length≤8),DH])))
  intro h4;have h4:¬(8:Int)<((l[i].set.map Ao).length:Int):=h4;have h5:l[i].set.length≤8:=by rw[Lm]at h4;omega
  refine Yi (Ii i (by omega)) ?_;refine Xi ⟨i+1,by omega,fun j hj HZ=>?_⟩ ?_
  ·rcases ED j i with z | z
   ·exact h2 j hj z
   ·have:j=i:=by omega
    subst this;unfold Mt;rw[Ax (by omega),Ax h5];rfl
  ·exact⟨Dl l.length i (by omega),Z2,Tv,Fh,Tv⟩
 ·intro h;have h:¬(i:Int)<(l.map AM).length:=h;have h:¬i<l.length:=by simpa using h
  have ha:l.all Mt=true:=Br.2 fun q hq=>by
   obtain⟨j,hj,rfl⟩:=FA hq;exact h2 j hj (by omega)
  refine Yi ?_ ?_
  ·intro h3;have h3:((l.map AM).length:Int)≤20:=h3;rw[Lm]at h3;exact .of_eq (Ac vb (show true=GT l by unfold GT;rw[ha,Ax (by omega)];rfl))
  ·intro h3;have h3:¬((l.map AM).length:Int)≤20:=h3;rw[Lm]at h3;exact .of_eq (Ac vb (show false=GT l by unfold GT;rw[Ar (by omega),DH]))
def Ju(r:Rl):Bool:=decide (r.path.size≤100)&&decide (r.arch.size≤100)&&decide (r.ifc.size≤100)&&decide (r.cert.size≤100)&&GT r.reqs
def DV(x:List Rl)(n:Nat):Bool:=x.all Ju&&decide (x.length≤n)
theorem t7(x:List Rl)(n:Nat)(hl:Cm x)(hr:∀r∈x,Cm r.reqs):PC 60 [sl Al x,vi n] (vb (DV x n)):=by
 unfold Cm at hl;refine Ps F3 Tryz.func60 rfl (Nz rfl) ?_;refine Xi {i:Nat // i≤x.length∧∀j (hj:j<x.length),j<i→Ju x[j]=true} (Xi (fun i=>⟨[(0,sl Al x),(1,vi n),(5,vi i.1)],[],Ab⟩) (Xi (fun i=>x.length-i.1) (Yi (Xi ⟨0,AO _,fun j _ h=>by omega⟩ ?_) ?_)))
 ·exact⟨Z3,Tv,Fh,Tv⟩
 intro⟨i,h1,h2⟩;refine Yi ?_ ?_
 ·intro h;have h:(i:Int)<(x.map Al).length:=h;have h:i<x.length:=by simpa using h
  have hg:x[i]?=some x[i]:=Ge h;have no:Ju x[i]=false→false=DV x n:=fun e=>by
   unfold DV
   have:x.all Ju=false:=by
    rw[AI];intro ha
    have:=Br.1 ha _ (Ap h)
    rw[e]at this;cases this
   rw[this];rfl
  have hc:=w7 x[i].reqs (hr _ (Ap h));refine Xi (Al x[i]) (Yi (Yi (Nn i) (by simp[hg])) (Yi rfl ?_));refine Yi ?_ ?_
  ·intro h3;have h3:(100:Int)<((x[i].path.size:Nat):Int):=h3;exact .of_eq (Ac vb (no (by unfold Ju;rw[Ar (by omega:¬x[i].path.size≤100)];simp)))
  intro h3;have h3:¬(100:Int)<((x[i].path.size:Nat):Int):=h3;refine Xi (Al x[i]) (Yi (Yi (Nn i) (by simp[hg])) (Yi rfl ?_));refine Yi ?_ ?_
  ·intro h4;have h4:(100:Int)<((x[i].arch.size:Nat):Int):=h4;exact .of_eq (Ac vb (no (by unfold Ju;rw[Ar (by omega:¬x[i].arch.size≤100)];simp)))
  intro h4;have h4:¬(100:Int)<((x[i].arch.size:Nat):Int):=h4;refine Xi (Al x[i]) (Yi (Yi (Nn i) (by simp[hg])) (Yi rfl ?_));refine Yi ?_ ?_
  ·intro h5;have h5:(100:Int)<((x[i].ifc.size:Nat):Int):=h5;exact .of_eq (Ac vb (no (by unfold Ju;rw[Ar (by omega:¬x[i].ifc.size≤100)];simp)))
  intro h5;have h5:¬(100:Int)<((x[i].ifc.size:Nat):Int):=h5;refine Xi (Al x[i]) (Yi (Yi (Nn i) (by simp[hg])) (Yi rfl ?_));refine Yi ?_ ?_
  ·intro h6;have h6:(100:Int)<((x[i].cert.size:Nat):Int):=h6;exact .of_eq (Ac vb (no (by unfold Ju;rw[Ar (by omega:¬x[i].cert.size≤100)];simp)))
  intro h6;have h6:¬(100:Int)<((x[i].cert.size:Nat):Int):=h6;refine Xi (Al x[i]) (Yi (Yi (Nn i) (by simp[hg])) (Yi rfl ?_));refine BU (Bt (GT x[i].reqs)) (fun e=>?_) (fun e=>?_)
  rotate_left
  ·rw[e]at hc;refine Xi .pure (Xi _ (Yi (hc) ?_));exact .of_eq (Ac vb (no (by unfold Ju;rw[e,DH])))
  rw[e]at hc;refine Xi .pure (Xi _ (Yi (hc) ?_));refine Yi (Ii i (by omega)) ?_;refine Xi ⟨i+1,by omega,fun j hj HZ=>?_⟩ ?_
  ·rcases ED j i with z | z
   ·exact h2 j hj z
   ·have:j=i:=by omega
    subst this;unfold Ju;rw[Ax (by omega:x[j].path.size≤100),Ax (by omega:x[j].arch.size≤100),Ax (by omega:x[j].ifc.size≤100),Ax (by omega:x[j].cert.size≤100),e];rfl
  ·exact⟨Dl x.length i (by omega),Z3,Tv,Fh,Tv⟩
 ·intro h;have h:¬(i:Int)<(x.map Al).length:=h;have h:¬i<x.length:=by simpa using h
  have ha:x.all Ju=true:=Br.2 fun q hq=>by
   obtain⟨j,hj,rfl⟩:=FA hq;exact h2 j hj (by omega)
  refine Yi ?_ ?_
  ·intro h3;have h3:((x.map Al).length:Int)≤n:=h3;rw[Lm]at h3;exact .of_eq (Ac vb (show true=DV x n by unfold DV;rw[ha,Ax (by omega)];rfl))
  ·intro h3;have h3:¬((x.map Al).length:Int)≤n:=h3;rw[Lm]at h3;exact .of_eq (Ac vb (show false=DV x n by unfold DV;rw[Ar (by omega),DH]))
theorem c11(x:List Rl)(ifs:List (List AV))(roots:List Rq)(hl:Cm x)(hr:∀r∈x,Cm r.reqs)(hq:Cm roots):PC 36 [I2 x ifs,sl AM roots] (vb (DV x 16&&GT roots)):=by
 have h1:=t7 x 16 hl hr;have h2:=w7 roots hq;cases e:DV x 16 with
 |true =>
  rw[e]at h1;refine Ps F3 Tryz.func36 rfl (Nz rfl) ?_;refine Xi .pure (Xi _ (Yi (h1) ?_));refine Xi .pure (Xi _ (Yi (h2) ?_));exact .refl _
 |false =>
  rw[e]at h1;refine Ps F3 Tryz.func36 rfl (Nz rfl) ?_;refine Xi .pure (Xi _ (Yi (h1) ?_));exact .refl _
section
variable {l:List Rl}{roots t:List Rq}{d:List ByteArray}{n:Nat}
end
structure dW(x:List Rl)(roots:List Rq):Prop where
 ix:Cm x
 rs:Cm roots
 rel:∀r∈x,Cm r.reqs∧IR r
 rq:∀q∈roots,N6 q
theorem dW.x{x:List Rl}{roots:List Rq}(h:dW x roots):∀r∈x,IR r:=fun r hr=>(h.rel r hr).2
theorem dW.c11{x:List Rl}{roots:List Rq}(h:dW x roots)(ifs:List (List AV)):PC 36 [I2 x ifs,sl AM roots] (vb (DV x 16&&GT roots)) :=
 Go.Eng.c11 x ifs roots h.ix (fun r hr=>(h.rel r hr).1) h.rs
end Go.Eng
namespace Go.Proofs
open Go.Shelf
def Tryz.laySortStr_ren:Go.Shelf.Ren:=⟨fun | 190=>102 | 125=>130 | 258=>132 | 128=>170 | 129=>171 | 302=>173 | 303=>174 | 304=>175 | 305=>176 | 306=>177 | 307=>178 | 308=>179 | 309=>180 | 310=>181 | 333=>211 | 329=>207 | 330=>208 | 334=>212 | 335=>213 | 336=>81 | 344=>239 | n=>n,fun | 31=>129 | 9=>9 | 3=>3 | 46=>185 | 0=>0 | 51=>220 | 53=>222 | 4=>4 | 183=>214 | 182=>213 | 131=>133 | 5=>5 | 218=>248 | 222=>252 | 228=>270 | 229=>271 | n=>n,fun | n=>n⟩
theorem Tryz.laySortStr:Go.Proofs.Lays.n190 Tryz.prog Tryz.laySortStr_ren:={
 mixed:=by kernel_rfl
 f125:=Tryz.func130.trans (congrArg some (by kernel_rfl))
 f128:=Tryz.func170.trans (congrArg some (by kernel_rfl))
 f129:=Tryz.func171.trans (congrArg some (by kernel_rfl))
 f190:=Tryz.func102.trans (congrArg some (by kernel_rfl))
 f258:=Tryz.func132.trans (congrArg some (by kernel_rfl))
 f302:=Tryz.func173.trans (congrArg some (by kernel_rfl))
 f303:=Tryz.func174.trans (congrArg some (by kernel_rfl))
 f304:=Tryz.func175.trans (congrArg some (by kernel_rfl))
 f305:=Tryz.func176.trans (congrArg some (by kernel_rfl))
 f306:=Tryz.func177.trans (congrArg some (by kernel_rfl))
 f307:=Tryz.func178.trans (congrArg some (by kernel_rfl))
 f308:=Tryz.func179.trans (congrArg some (by kernel_rfl))
 f309:=Tryz.func180.trans (congrArg some (by kernel_rfl))
 f310:=Tryz.func181.trans (congrArg some (by kernel_rfl))
 f329:=Tryz.func207.trans (congrArg some (by kernel_rfl))
 f330:=Tryz.func208.trans (congrArg some (by kernel_rfl))
 f333:=Tryz.func211.trans (congrArg some (by kernel_rfl))
 f334:=Tryz.func212.trans (congrArg some (by kernel_rfl))
 f335:=Tryz.func213.trans (congrArg some (by kernel_rfl))
 f336:=Tryz.func81.trans (congrArg some (by kernel_rfl))
 f344:=Tryz.func239.trans (congrArg some (by kernel_rfl))
 t0:=Tryz.underlying0
 a0:=Tryz.isAgg0
 z0:=Tryz.sizeOf0
 v0:=Tryz.zeroValue0
 t3:=Tryz.underlying3
 a3:=Tryz.isAgg3
 z3:=Tryz.sizeOf3
 v3:=Tryz.zeroValue3
 t4:=Tryz.underlying4
 a4:=Tryz.isAgg4
 z4:=Tryz.sizeOf4
 v4:=Tryz.zeroValue4
 t5:=Tryz.underlying5
 a5:=Tryz.isAgg5
 z5:=Tryz.sizeOf5
 v5:=Tryz.zeroValue5
 t9:=Tryz.underlying9
 a9:=Tryz.isAgg9
 z9:=Tryz.sizeOf9
 v9:=Tryz.zeroValue9
 t31:=Tryz.underlying129
 a31:=Tryz.isAgg129
 z31:=Tryz.sizeOf129
 v31:=Tryz.zeroValue129
 t46:=Tryz.underlying185
 a46:=Tryz.isAgg185
 z46:=Tryz.sizeOf185
 v46:=Tryz.zeroValue185
 t51:=Tryz.underlying220
 a51:=Tryz.isAgg220
 z51:=Tryz.sizeOf220
 v51:=Tryz.zeroValue220
 t53:=Tryz.underlying222
 a53:=Tryz.isAgg222
 z53:=Tryz.sizeOf222
 v53:=Tryz.zeroValue222
 t131:=Tryz.underlying133
 a131:=Tryz.isAgg133
 z131:=Tryz.sizeOf133
 v131:=Tryz.zeroValue133
 t182:=Tryz.underlying213
 a182:=Tryz.isAgg213
 z182:=Tryz.sizeOf213
 v182:=Tryz.zeroValue213
 t183:=Tryz.underlying214
 a183:=Tryz.isAgg214
 z183:=Tryz.sizeOf214
 v183:=Tryz.zeroValue214
 t218:=Tryz.underlying248
 a218:=Tryz.isAgg248
 z218:=Tryz.sizeOf248
 v218:=Tryz.zeroValue248
 t222:=Tryz.underlying252
 a222:=Tryz.isAgg252
 z222:=Tryz.sizeOf252
 v222:=Tryz.zeroValue252
 t228:=Tryz.underlying270
 a228:=Tryz.isAgg270
 z228:=Tryz.sizeOf270
 v228:=Tryz.zeroValue270
 t229:=Tryz.underlying271
 a229:=Tryz.isAgg271
 z229:=Tryz.sizeOf271
 v229:=Tryz.zeroValue271 }
def Tryz.layCompactStr_ren:Go.Shelf.Ren:=⟨fun | 194=>104 | n=>n,fun | 31=>129 | 9=>9 | 3=>3 | 4=>4 | 0=>0 | n=>n,fun | n=>n⟩
theorem Tryz.layCompactStr:Go.Proofs.Lays.n194 Tryz.prog Tryz.layCompactStr_ren:={
 mixed:=by kernel_rfl
 f194:=Tryz.func104.trans (congrArg some (by kernel_rfl))
 t0:=Tryz.underlying0
 a0:=Tryz.isAgg0
 z0:=Tryz.sizeOf0
 v0:=Tryz.zeroValue0
 t3:=Tryz.underlying3
 a3:=Tryz.isAgg3
 z3:=Tryz.sizeOf3
 v3:=Tryz.zeroValue3
 t4:=Tryz.underlying4
 a4:=Tryz.isAgg4
 z4:=Tryz.sizeOf4
 v4:=Tryz.zeroValue4
 t9:=Tryz.underlying9
 a9:=Tryz.isAgg9
 z9:=Tryz.sizeOf9
 v9:=Tryz.zeroValue9
 t31:=Tryz.underlying129
 a31:=Tryz.isAgg129
 z31:=Tryz.sizeOf129
 v31:=Tryz.zeroValue129 }
end Go.Proofs
namespace Go.Eng
open Go.Proofs Go.Shelf Go.RowKit Go.Lib Go.Sort
abbrev ab(s:ByteArray):List UInt8:=s.data.toList
abbrev jc(l:List UInt8):ByteArray:=⟨l.toArray⟩
theorem jB(s:ByteArray):jc (ab s)=s:=by cases s;simp
theorem MH(zs:List (List UInt8)):((zs.map jc).map DM).flatten=(zs.map Go.Proofs.encStr).map AV.v:=by
 induction zs with
 |nil=>rfl
 |cons z zs ih=>rw[AN,AN,By,ih];rfl
theorem VT(ss:List ByteArray):(ss.map ab).map jc=ss:=by
 rw[BO,show jc ∘ ab=id from funext jB,JD]
theorem vF(ss t:List ByteArray)(hl:Cm ss)(DC:ss≠[])(hp:t.Perm ss)(ht:(t.map ab).Pairwise fun a b=>a≤b) :
  Be Tryz.prog 102 [.msl 1000 ss.length] (Ai [(1000,.arr 1 (ss.map DM))] Ab) fun r h'=>r=.tup []∧h'=Ai [(1000,.arr 1 (t.map DM))] Ab:=by
 have hl:ss.length≤1073741824:=hl;have hE:FX Tryz.prog 102:=dK 102 Tryz.func102 (by kernel_rfl) rfl;obtain⟨zs,hz⟩:∃zs,zs=ss.map ab:=⟨_,rfl⟩;have EF:ss=zs.map jc:=by rw[hz,VT]
 have G8:=Pz (P:=Tryz.prog) (f:=102) (es:=ss.map DM) (sz:=1) (rest:=[]) (Q:=fun Fz=>Fz=t.map DM) hE ?_ ?_
 ·rw[Lm]at G8;refine⟨hE,fun g w vals q1 q2 q3=>(G8.2 g w vals q1 q2 q3).mono fun _ _ ⟨v,r,h',g',e1,⟨e2,Fz,p1,p3⟩,rest⟩=>⟨v,r,h',g',e1,⟨e2,by rw[p3,p1]⟩,rest⟩⟩
 ·intro e;exact absurd (Dq.1 e) DC
 ·intro g w b cap F hr hF hH hb;have p8:F.toList=zs.map Go.Proofs.encStr:=Ln (by rw[←MH,←EF];exact hr);have fD:F=zs.toArray.map Go.Proofs.encStr:=Iy.1 (by rw[p8];simp);have M1:zs.length=ss.length:=by rw[hz,Lm]
  have p9:Holds Go.Proofs.encStr w b 0 zs.toArray:=fun j hj=>by
   have:=hH j (by rw[fD];simpa using hj)
   refine⟨this.1.trans ?_,this.2⟩;rw[fD,DB _ j (by simpa using hj),DB _ j hj];simp
  have hc:=Any.slices_Sort_string Tryz.laySortStr b 0 cap zs w p9 hb (by omega);have htz:(zs.mergeSort fun x y=>decide (x≤y))=t.map ab:=by
   have IN:(zs.mergeSort fun x y=>decide (x≤y)).Perm zs:=List.mergeSort_perm _ _;have qS:=List.pairwise_mergeSort (le:=fun x y:List UInt8=>decide (x≤y)) (fun a b c h1 h2=>by simp only[AA]at *;exact List.le_trans h1 h2) (fun a b=>by simp only[CE,AA];exact List.le_total a b) zs;refine List.Perm.eq_of_pairwise (le:=fun a b=>a≤b) (fun a b _ _ h k=>List.le_antisymm h k) (qS.imp fun h=>BF h) ht (IN.trans ?_);rw[hz];exact(hp.map ab).symm
  rw[htz,M1]at hc;rw[Lm];refine hc.mono ?_
  rintro e w' ⟨rfl,n,os,rfl⟩
  have DI:t.length=ss.length:=hp.length_eq;refine⟨rfl,(t.map ab).toArray.map Go.Proofs.encStr,t.map DM,n,os,?_,rfl,by simp[DI],fun cs hcs=>?_,fun g w _=>?_,by rw[Qc]⟩
  ·rw[fD];simp[DI,M1]
  ·obtain⟨x,_,rfl⟩:=Ak.1 hcs;rfl
  ·have e1:t.map DM=((t.map ab).map jc).map DM:=by rw[VT]
   rw[e1,MH];have e:(((t.map ab).toArray.map Go.Proofs.encStr).toList)=(t.map ab).map Go.Proofs.encStr:=by simp
   rw[e];exact MW _ _ _ _ fun x hx=>by
    obtain⟨z,_,rfl⟩:=Ak.1 hx;rfl
def B7(ss:List ByteArray):List ByteArray:=(Lib.compact (ss.map ab)).map jc
theorem QH(zs:List (List UInt8)):(Lib.compact zs).length≤zs.length:=by
 unfold Lib.compact Lib.compactUpTo;rw[Lm];exact AU (BD _ _) (by rw[Qz];exact Aj _)
theorem vG(ss:List ByteArray)(hl:Cm ss)(DC:ss≠[]) :
  Be Tryz.prog 104 [.msl 1000 ss.length] (Ai [(1000,.arr 1 (ss.map DM))] Ab) fun r h'=>r=.msl 2000 (B7 ss).length∧h'=Ai [(1000,.dead),(2000,.arr 1 ((B7 ss).map DM))] Ab:=by
 have hl:ss.length≤1073741824:=hl;have hE:FX Tryz.prog 104:=dK 104 Tryz.func104 (by kernel_rfl) rfl;obtain⟨zs,hz⟩:∃zs,zs=ss.map ab:=⟨_,rfl⟩;have EF:ss=zs.map jc:=by rw[hz,VT]
 have M1:zs.length=ss.length:=by rw[hz,Lm]
 have hcl:=QH zs;have G8:=Uz (P:=Tryz.prog) (f:=104) (es:=ss.map DM) (sz:=1) (rest:=[]) (n':=(Lib.compact zs).length) (Q:=fun Fz=>Fz=((Lib.compact zs++List.replicate (zs.length-(Lib.compact zs).length) []).map jc).map DM) hE (fun e=>DC (Dq.1 e)) (by rw[Lm];omega) ?_
 ·rw[Lm]at G8;have ez:B7 ss=(Lib.compact zs).map jc:=by unfold B7;rw[hz]
  refine⟨hE,fun g w vals q1 q2 q3=>(G8.2 g w vals q1 q2 q3).mono fun _ _ ⟨x,r,h',g',e1,⟨e2,Fz,p1,p2⟩,rest⟩=>⟨x,r,h',g',e1,⟨by rw[e2,ez,Lm],by
   rw[p2,p1,ez,AH,AH,D5 (by rw[Lm,Lm];exact Aj _),AT (by rw[Lm,Lm];exact Aj _)]⟩,rest⟩⟩
 ·intro g w b cap F hr hF hH hb hc;rw[Lm]at hF hc⊢;have p8:F.toList=zs.map Go.Proofs.encStr:=Ln (by rw[←MH,←EF];exact hr);have fD:F=zs.toArray.map Go.Proofs.encStr:=Iy.1 (by rw[p8];simp);have p9:Holds Go.Proofs.encStr w b 0 zs.toArray:=fun j hj=>by
   have:=hH j (by rw[fD];simpa using hj)
   refine⟨this.1.trans ?_,this.2⟩;rw[fD,DB _ j (by simpa using hj),DB _ j hj];simp
  have hcon:=Any.slices_Compact_string Tryz.layCompactStr b 0 cap zs w p9 (by omega) (by omega);rw[M1]at hcon;refine hcon.mono ?_
  rintro e w' ⟨rfl,q,rfl⟩
  refine⟨rfl,(Lib.compact zs++List.replicate (zs.length-(Lib.compact zs).length) []).toArray.map Go.Proofs.encStr,_,q,#[],?_,rfl,?_,fun cs hcs=>?_,fun g w _=>?_,?_⟩
  ·rw[fD];simp;omega
  ·simp;omega
  ·obtain⟨x,_,rfl⟩:=Ak.1 hcs;rfl
  ·rw[MH];have e:((Lib.compact zs++List.replicate (zs.length-(Lib.compact zs).length) []).toArray.map Go.Proofs.encStr).toList=(Lib.compact zs++List.replicate (zs.length-(Lib.compact zs).length) []).map Go.Proofs.encStr:=by simp
   rw[e];exact MW _ _ _ _ fun x hx=>by
    obtain⟨z,_,rfl⟩:=Ak.1 hx;rfl
  ·rw[Qc,grow_empty,M1]
end Go.Eng
namespace Go.Eng
open Go.Proofs
abbrev od(n:Nat):T2:=⟨[],[],[(2,n),(5,n)],[],[],[],[5],[],[],[],[2,3]⟩
theorem rW(l:List Sl)(hl:Cm l):Be Tryz.prog 89 [sl Af l] (Ai [] Ab) fun r h'=>r=.msl 2000 l.length∧h'=Ai [(2000,.arr 4 (l.map Af))] Ab:=by
 refine Co (MF (od 4)) [(2,2000)] rfl CB hm rfl Tryz.func89 (by kernel_rfl) rfl (Nz rfl) (by kernel_rfl) rfl ?_;have Gp:Do 4 (l.map Af)∧([]:List (List AV)).length=0∧(([]:List (List AV)).length+(l.map Af).length)*40≤140737488355328∧([]:List (List AV)).length+(l.map Af).length≤9223372036854775807:=by
  refine⟨Ez (enc:=Af) (n:=4) (fun _=>rfl) l,rfl,?_,?_⟩<;>simp only[AC,Lm]<;>unfold Cm at hl<;>omega
 have e1:AV.msl 2000 (([]:List (List AV)).length+(l.map Af).length)=.msl 2000 l.length:=by simp
 refine Xi 0 ?_;refine Xi 0 ?_;refine Yi ?_ ?_
 ·intro _;refine Xi ⟨[(0,sl Af l)],[],Ab⟩ (Yi ⟨Z1,Tv,Fh,Ay (by kernel_rfl)⟩ ?_)
  refine Xi 2 ?_;refine Yi Gp ?_;exact Xi _ (Yi (.refl _) (Yi e1 rfl))
 ·intro h;have h:l.map Af=[]:=h;refine Yi ?_ ?_
  ·refine Xi ⟨[],[],Ab⟩ (Yi ⟨trivial,trivial,fun _=>.inl rfl,Ay (by kernel_rfl)⟩ ?_)
   refine Xi 2 ?_;exact Xi _ (Yi (.refl _) (Yi (show AV.msl 2000 0=_ by rw[Dq.1 h];rfl) (show Ai [(2000,HO.arr 4 [])] Ab=_ by rw[h])))
  ·refine Xi ⟨[(0,sl Af l)],[],Ab⟩ (Yi ⟨Z1,Tv,Fh,Ay (by kernel_rfl)⟩ ?_)
   refine Xi 2 ?_;refine Yi Gp ?_;exact Xi _ (Yi (.refl _) (Yi e1 rfl))
theorem wS(l:List Rl)(hl:Cm l):Be Tryz.prog 76 [sl Al l] (Ai [] Ab) fun r h'=>r=.msl 2000 l.length∧h'=Ai [(2000,.arr 9 (l.map Al))] Ab:=by
 refine Co (MF (od 9)) [(2,2000)] rfl CB hm rfl Tryz.func76 (by kernel_rfl) rfl (Nz rfl) (by kernel_rfl) rfl ?_;have Gp:Do 9 (l.map Al)∧([]:List (List AV)).length=0∧(([]:List (List AV)).length+(l.map Al).length)*120≤140737488355328∧([]:List (List AV)).length+(l.map Al).length≤9223372036854775807:=by
  refine⟨Ez (enc:=Al) (n:=9) (fun _=>rfl) l,rfl,?_,?_⟩<;>simp only[AC,Lm]<;>unfold Cm at hl<;>omega
 have e1:AV.msl 2000 (([]:List (List AV)).length+(l.map Al).length)=.msl 2000 l.length:=by simp
 refine Xi 0 ?_;refine Xi 0 ?_;refine Yi ?_ ?_
 ·intro _;refine Xi ⟨[(0,sl Al l)],[],Ab⟩ (Yi ⟨Z1,Tv,Fh,Ay (by kernel_rfl)⟩ ?_)
  refine Xi 2 ?_;refine Yi Gp ?_;exact Xi _ (Yi (.refl _) (Yi e1 rfl))
 ·intro h;have h:l.map Al=[]:=h;refine Yi ?_ ?_
  ·refine Xi ⟨[],[],Ab⟩ (Yi ⟨trivial,trivial,fun _=>.inl rfl,Ay (by kernel_rfl)⟩ ?_)
   refine Xi 2 ?_;exact Xi _ (Yi (.refl _) (Yi (show AV.msl 2000 0=_ by rw[Dq.1 h];rfl) (show Ai [(2000,HO.arr 9 [])] Ab=_ by rw[h])))
  ·refine Xi ⟨[(0,sl Al l)],[],Ab⟩ (Yi ⟨Z1,Tv,Fh,Ay (by kernel_rfl)⟩ ?_)
   refine Xi 2 ?_;refine Yi Gp ?_;exact Xi _ (Yi (.refl _) (Yi e1 rfl))
theorem wT(l:List Rq)(hl:Cm l):Be Tryz.prog 77 [sl AM l] (Ai [] Ab) fun r h'=>r=.msl 2000 l.length∧h'=Ai [(2000,.arr 2 (l.map AM))] Ab:=by
 refine Co (MF (od 2)) [(2,2000)] rfl CB hm rfl Tryz.func77 (by kernel_rfl) rfl (Nz rfl) (by kernel_rfl) rfl ?_;have Gp:Do 2 (l.map AM)∧([]:List (List AV)).length=0∧(([]:List (List AV)).length+(l.map AM).length)*40≤140737488355328∧([]:List (List AV)).length+(l.map AM).length≤9223372036854775807:=by
  refine⟨Ez (enc:=AM) (n:=2) (fun _=>rfl) l,rfl,?_,?_⟩<;>simp only[AC,Lm]<;>unfold Cm at hl<;>omega
 have e1:AV.msl 2000 (([]:List (List AV)).length+(l.map AM).length)=.msl 2000 l.length:=by simp
 refine Xi 0 ?_;refine Xi 0 ?_;refine Yi ?_ ?_
 ·intro _;refine Xi ⟨[(0,sl AM l)],[],Ab⟩ (Yi ⟨Z1,Tv,Fh,Ay (by kernel_rfl)⟩ ?_)
  refine Xi 2 ?_;refine Yi Gp ?_;exact Xi _ (Yi (.refl _) (Yi e1 rfl))
 ·intro h;have h:l.map AM=[]:=h;refine Yi ?_ ?_
  ·refine Xi ⟨[],[],Ab⟩ (Yi ⟨trivial,trivial,fun _=>.inl rfl,Ay (by kernel_rfl)⟩ ?_)
   refine Xi 2 ?_;exact Xi _ (Yi (.refl _) (Yi (show AV.msl 2000 0=_ by rw[Dq.1 h];rfl) (show Ai [(2000,HO.arr 2 [])] Ab=_ by rw[h])))
  ·refine Xi ⟨[(0,sl AM l)],[],Ab⟩ (Yi ⟨Z1,Tv,Fh,Ay (by kernel_rfl)⟩ ?_)
   refine Xi 2 ?_;refine Yi Gp ?_;exact Xi _ (Yi (.refl _) (Yi e1 rfl))
theorem Be.to2{P:Program}{f:Nat}{args:List AV}{h0:Nat→HO}{r0:AV}{H0:Nat→HO}{Q' : AV→(Nat→HO)→Prop}(h:Be P f args h0 fun r h'=>r=r0∧h'=H0)(k:Q' r0 H0):Be P f args h0 Q' :=
 h.mono fun r h' q=>⟨r,.refl _,by rw[q.1,q.2];exact k⟩
theorem cb{f:Nat}{args:List AV}{b x:Bool}(h:b=x)(hc:PC f args (vb b)):PC f args (vb x):=h▸hc
theorem Ld{α:Type}{f:α→List AV}{l:List α}{i:Nat}(h:(i:Int)<((l.map f).length:Int)):i<l.length:=by rw[Lm]at h;omega
theorem Lc{α:Type}{f:α→List AV}{l:List α}{i:Nat}(h:¬(i:Int)<((l.map f).length:Int)):¬i<l.length:=by rw[Lm]at h;omega
theorem Pu{α:Type}{f:α→List AV}{l:List α}{i:Nat}(h:i<l.length):(0:Int)≤(i:Int)∧(l.map f)[((i:Nat):Int).toNat]?=some (f l[i]):=⟨N7 _,by rw[Ci,AG,Ge h];rfl⟩
theorem Pr{n z:Nat}{α:Type}{f:α→List AV}{O:List α}{x:List AV}(hx:x.length=n)(h:O.length≤2147483647)(hz:z≤65536) :
  Do n [x]∧(O.map f).length=O.length∧((O.map f).length+([x]:List (List AV)).length)*z≤140737488355328∧(O.map f).length+([x]:List (List AV)).length≤9223372036854775807:=by
 refine⟨⟨hx,trivial⟩,Lm _,?_,?_⟩<;>rw[Lm]<;>simp only[Au,AC]
 ·have:=Nat.mul_le_mul (show O.length+(0+1)≤2147483648 by omega) hz
  omega
 ·omega
theorem Uu{α:Type}{f:α→List AV}{O:List α}{x:α}{r n:Nat}:AV.slice (.id r n) (O.map f++[f x])=.slice (.id r n) ((O++[x]).map f):=by rw[AH];rfl
theorem Uk{α:Type}{f:α→List AV}{O:List α}{x:α}{y:List AV}{n:Nat}:HO.tok n ((O.map f).length+([y]:List (List AV)).length)=.tok n (O++[x]).length:=by rw[Ad,Lm];rfl
abbrev hE(l:List Rl)(i:Nat)(r:Rl):List (List AV):=(l.map Al).set i (over (Al r) 4 [.junk])
theorem Zd(l:List Rl)(i:Nat)(r:Rl):(hE l i r).length=l.length:=by simp
theorem p7{l:List Rl}{i:Nat}(h:i<l.length):(hE l i l[i])[i]?=some (over (Al l[i]) 4 [.junk]):=by
 rw[T9 (by rw[Lm];exact h)]
theorem jW{l:List Rl}{i:Nat}(h:i<l.length):(hE l i l[i]).set i (over (over (Al l[i]) 4 [.junk]) 4 [.slice .none (l[i].reqs.map AM)])=l.map Al:=by
 unfold hE;rw[List.set_set];refine CC fun k=>?_;rw[Qy];split
 ·rename_i e;subst e;rw[Aw (by rw[Lm];exact h),AG,Ge h];rfl
 ·rfl
theorem iB{qs:List Rq}{k:Nat}(h:k<qs.length):(qs.map AM).set k (over (AM qs[k]) 1 [sl Ao qs[k].set])=qs.map AM:=by
 refine CC fun j=>?_;rw[Qy];split
 ·rename_i e;subst e;rw[Aw (by rw[Lm];exact h),AG,Ge h];rfl
 ·rfl
set_option maxHeartbeats 4000000 in
theorem rV(l:List Rl)(hl:Cm l)(hq:∀r∈l,Cm r.reqs)(hs:∀r∈l,∀q∈r.reqs,Cm q.set):Be Tryz.prog 37 [sl Al l] (Ai [] Ab) fun r h'=>r=.msl 2000 l.length∧h'=Ai [(2000,.arr 9 (l.map Al))] Ab:=by
 refine Co (MF ⟨[],[],[],[],[],[],[],[],[],[(950011,10700)],[2,6,7,8,9,10,11]⟩) [(10700,2000)] rfl CB hm rfl Tryz.func37 (by kernel_rfl) rfl (Nz rfl) (by kernel_rfl) rfl ?_;refine Xi (.gen [] 1) (Yi rfl (Be.imp (wS l hl) ?_));intro v1 g1 q1;have ip:=q1.1;have iq:=q1.2;subst ip;subst iq;refine Xi ⟨[(3,.msl 10700 l.length)],[(10700,.arr 9 (l.map Al))],Ab⟩ (Yi ⟨Z1,Z1,Fh,Ay (by kernel_rfl)⟩ ?_)
 refine Xi {q:Nat // q≤l.length} (Xi (fun q=>⟨[(3,.msl 10700 l.length),(9,vi l.length),(10,vi q.1)],[(10700,.arr 9 (l.map Al))],Ab⟩) (Xi (fun q=>l.length-q.1) (Yi (Xi ⟨0,AO _⟩ ?_) ?_)))
 ·exact⟨Z3,Z1,Fh,Ay (by kernel_rfl)⟩
 intro⟨i,i1⟩;have i1:i≤l.length:=i1;refine Yi (fun h2=>?_) (fun h2=>?_)
 ·have h2:(i:Int)<(l.length:Int):=h2;have n2:i<l.length:=by omega
  have g2:l[i]?=some l[i]:=Ge n2;have ni:i<l.length:=by omega
  have hqi:l[i].reqs.length≤1073741824:=hq _ (Ap ni);refine Yi (show(0:Int)≤i∧(i:Int)<(l.length:Nat) by omega) ?_;refine Yi (show l.length=(l.map Al).length by rw[Lm]) ?_;refine Xi (Al l[i]) (Yi (Ch (Ge ni)) ?_);refine Xi (.gen [] 1) (Yi rfl (Be.imp (wT l[i].reqs (hq _ (Ap ni))) ?_));intro v5 g5 q5;have q5a:=q5.1;have q5b:=q5.2;subst q5a;subst q5b;refine Yi (show(0:Int)≤i∧(i:Int)<(l.length:Nat) by omega) ?_;refine Yi (show l.length=(l.map Al).length by rw[Lm]) ?_;refine Xi (Al l[i]) (Yi (Ch (Ge ni)) ?_);refine Yi (Nz rfl) ?_;refine Xi ⟨[(3,.msl 10700 l.length),(4,vi i),(9,vi l.length),(10,vi i)],[(10700,.hol 9 (hE l i l[i]) i 4 (.msl 12000 l[i].reqs.length)),(12000,.arr 2 (l[i].reqs.map AM))],Ab⟩ (Yi ⟨Z4,Z2,Fh,Ay (by kernel_rfl)⟩ ?_)
  refine Yi (show(0:Int)≤i∧(i:Int)<(l.length:Nat) by omega) ?_;refine Yi (show l.length=(hE l i l[i]).length∧(i:Int).toNat=i∧4=4 from⟨(Zd l i l[i]).symm,rfl,rfl⟩) ?_;refine Xi {q:Nat // q≤l[i].reqs.length} (Xi (fun q=>⟨[(3,.msl 10700 l.length),(4,vi i),(9,vi l.length),(10,vi i),(28,vi (l[i].reqs.length:Nat)),(29,vi q.1)],[(10700,.hol 9 (hE l i l[i]) i 4 (.msl 12000 l[i].reqs.length)),(12000,.arr 2 (l[i].reqs.map AM))],Ab⟩) (Xi (fun q=>l[i].reqs.length-q.1) (Yi (Xi ⟨0,AO _⟩ ?_) ?_)))
  ·exact⟨Z6,Z2,Fh,Ay (by kernel_rfl)⟩
  intro⟨k,k1⟩;have k1:k≤l[i].reqs.length:=k1;refine Xi ⟨[(3,.msl 10700 l.length),(4,vi i),(9,vi l.length),(10,vi i),(28,vi (l[i].reqs.length:Nat)),(29,vi k)],[(10700,.hol 9 (hE l i l[i]) i 4 (.msl 12000 l[i].reqs.length)),(12000,.arr 2 (l[i].reqs.map AM))],Ab⟩ (Yi ⟨Z6,Z2,Fh,Ay (by kernel_rfl)⟩ ?_)
  refine Yi (fun h3=>?_) (fun h3=>?_)
  ·have h3:(k:Int)<((l[i].reqs.length:Nat):Int):=h3;have nk:k<l[i].reqs.length:=by omega
   refine Xi ⟨[(3,.msl 10700 l.length),(4,vi i),(9,vi l.length),(10,vi i),(28,vi (l[i].reqs.length:Nat)),(29,vi k)],[(10700,.hol 9 (hE l i l[i]) i 4 (.msl 12000 l[i].reqs.length)),(12000,.arr 2 (l[i].reqs.map AM))],Ab⟩ (Yi ⟨Z6,Z2,Fh,Ay (by kernel_rfl)⟩ ?_)
   refine Xi ⟨[(3,.msl 10700 l.length),(4,vi i),(5,vi k),(9,vi l.length),(10,vi i),(28,vi (l[i].reqs.length:Nat)),(29,vi k)],[(10700,.hol 9 (hE l i l[i]) i 4 (.msl 12000 l[i].reqs.length)),(12000,.arr 2 (l[i].reqs.map AM))],Ab⟩ (Yi ⟨Z7,Z2,Fh,Ay (by kernel_rfl)⟩ ?_)
   refine Yi (show(0:Int)≤i∧(i:Int)<(l.length:Nat) by omega) ?_;refine Yi (show l.length=(hE l i l[i]).length∧(i:Int).toNat=i∧4=4 from⟨(Zd l i l[i]).symm,rfl,rfl⟩) ?_;refine Yi (show(0:Int)≤i∧(i:Int)<(l.length:Nat) by omega) ?_;refine Yi (show l.length=(hE l i l[i]).length∧(i:Int).toNat=i∧4=4 from⟨(Zd l i l[i]).symm,rfl,rfl⟩) ?_;refine Yi (show(0:Int)≤k∧(k:Int)<(l[i].reqs.length:Nat) by omega) ?_;refine Yi (show l[i].reqs.length=(l[i].reqs.map AM).length by rw[Lm]) ?_;refine Xi (AM l[i].reqs[k]) (Yi (Ch (Ge nk)) ?_);refine Xi _ (Yi (tw l[i].reqs[k].set (hs _ (Ap ni) _ (Ap nk))) ?_);refine Yi (show(0:Int)≤k∧(k:Int)<(l[i].reqs.length:Nat) by omega) ?_;refine Yi (show l[i].reqs.length=(l[i].reqs.map AM).length by rw[Lm]) ?_;refine Xi (AM l[i].reqs[k]) (Yi (Ch (Ge nk)) ?_);refine Yi (Nz rfl) ?_;refine Yi (by kernel_rfl) ?_;refine Xi ⟨[(3,.msl 10700 l.length),(4,vi i),(9,vi l.length),(10,vi i),(28,vi (l[i].reqs.length:Nat)),(29,vi k)],[(10700,.hol 9 (hE l i l[i]) i 4 (.msl 12000 l[i].reqs.length)),(12000,.arr 2 (l[i].reqs.map AM))],Ab⟩ (Yi ⟨Z6,⟨Zr,⟨(show(.arr 2 ((l[i].reqs.map AM).set k (over (AM l[i].reqs[k]) 1 [sl Ao l[i].reqs[k].set])):HO)=.arr 2 (l[i].reqs.map AM)from Ac (HO.arr 2) (iB nk)),rfl⟩,Tv⟩,Fh,Ay (by kernel_rfl)⟩ ?_)
   refine Yi (Ii k (by omega)) ?_;refine Xi ⟨k+1,nk⟩ ?_;exact⟨by show l[i].reqs.length-(k+1)<l[i].reqs.length-k;omega,Z6,Z2,Fh,Ay (by kernel_rfl)⟩
  have h3:¬((k:Int)<((l[i].reqs.length:Nat):Int)):=h3;refine Yi (show l[i].reqs.length=(l[i].reqs.map AM).length by rw[Lm]) ?_;refine Xi (over (Al l[i]) 4 [.junk]) (Yi (p7 ni) (Yi (Nz rfl) ?_));refine Xi ⟨[(3,.msl 10700 l.length),(9,vi l.length),(10,vi i)],[(10700,.arr 9 (l.map Al))],Ab⟩ (Yi ⟨Z3,⟨⟨(show HO.arr 9 ((hE l i l[i]).set i (over (over (Al l[i]) 4 [.junk]) 4 [.slice .none (l[i].reqs.map AM)]))=.arr 9 (l.map Al)from Ac (HO.arr 9) (jW ni)),rfl⟩,Tv⟩,Fh,Ay (by kernel_rfl)⟩ ?_)
  refine Yi (Ii i (by omega)) ?_;refine Xi ⟨i+1,ni⟩ ?_;exact⟨Dl l.length i (by omega),Z3,Z1,Fh,Ay (by kernel_rfl)⟩
 have h2:¬((i:Int)<(l.length:Int)):=h2;have n2:¬i<l.length:=by omega
 exact Xi _ (Yi (.refl _) Zr)
theorem UB{n:Nat}:∀{l:List (List AV)},(∀c∈l,c.length=n)→Do n l
 | [],_=>trivial
 |c::_,h=>⟨h c (Aa ..),UB fun d hd=>h d (Ae _ hd)⟩
end Go.Eng
