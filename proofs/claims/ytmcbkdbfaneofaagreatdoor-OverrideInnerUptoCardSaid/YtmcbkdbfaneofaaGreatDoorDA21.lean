/- Lemmas for the claims of this seat, without a condition: part 21 (C65, C66, C67, C68, C69, C56, C57, C58, C59, C70, C71, C72, C73, LayStrs, O15, S17, O1, C0, O2, R1, R2, R3, R4, R5, C60, C61, C62, C63, C64, R6, R7, R8, R9, R10, R11). -/
import Derived.Test.YtmcbkdbfaneofaaGreatDoorDA20
import Derived.Test.YtmcbkdbfaneofaaGreatDoorDA16
import Derived.Shelf.Sort.Plain
import Derived.Shelf.Slices.CompactS
import Derived.Ground.NamesProg
namespace Go.Eng
open Go.Proofs
theorem K7:∀(y:List Rl) (acc:List ByteArray) (r:Rl),AQ (y++[r]) acc=if(AQ y acc).any (fun p=>decide (p=r.path))then AQ y acc else AQ y acc++[r.path]
 | [],acc,r=>rfl
 |s::y,acc,r=>by rw[Iy,AQ,AQ,K7 y]
theorem EM:∀(y:List Rl) (acc:List ByteArray),acc.Nodup→(AQ y acc).Nodup
 | [],_,h=>h
 |s::y,acc,h=>by
  rw[AQ];refine EM y _ ?_;split
  ·exact h
  ·rename_i hn;rw[F9];refine⟨h,by simp,fun a ha b hb e=>?_⟩;rw[Ai]at hb;exact hn (N0.2 (by rw[←hb,←e];exact ha))
abbrev M5(y:List Rl)(p:ByteArray):List (List AV):=(y.filter fun r=>decide (r.path=p)).map Ah
abbrev eQ(y:List Rl)(q:ByteArray×Nat):Value×AV:=(.string q.1,.slice (.id (q.2+50) 9) (M5 y q.1))
abbrev Rh(y:List Rl):List (Value×AV):=(AQ y []).zipIdx.map (eQ y)
def Jq(y:List Rl)(l:Nat):HO:=match(AQ y [])[l]? with
 |some q=>.tok 9 (M5 y q).length
 |none=>.free
def UM(y:List Rl)(j:Nat):HO:=bif Nat.ble 50 j then Jq y (j-50)else .free
theorem Hw(y:List Rl)(l:Nat):UM y (l+50)=Jq y l:=by
 unfold UM;rw[show Nat.ble 50 (l+50)=true by rw[Db];omega,Nat.add_sub_cancel];rfl
theorem mV(y:List Rl){j:Nat}(h:j<50):UM y j=.free:=by
 unfold UM;rw[show Nat.ble 50 j=false by rw[AI];intro hc;rw[Db]at hc;omega];rfl
theorem It(y:List Rl)(r:Rl)(q:ByteArray):M5 (y++[r]) q=if r.path=q then M5 y q++[Ah r]else M5 y q:=by
 unfold M5;rw[Ej]
 by_cases h:r.path=q
 ·rw[Az h,RA (by simpa using h)];simp
 ·rw[Al h,Rz (by simpa using h)];simp
theorem Ih{l:List ByteArray}{q:ByteArray×Nat}(h:q∈l.zipIdx):l[q.2]?=some q.1:=by
 obtain⟨a,b⟩:=q;exact Fw.1 h
open Classical in
theorem L3{B4:List (Value×AV)}{k:Value}{a:AV}(h:∀a',(k,a')∉B4):EP B4 k a=B4++[(k,a)]:=by
 unfold EP;rw[Al (fun⟨a',h'⟩=>h a' h')]
open Classical in
theorem XQ{B4:List (Value×AV)}{k:Value}{a a' : AV}(h:(k,a')∈B4):EP B4 k a=B4.map fun p=>if p.1=k then(k,a)else p:=by
 unfold EP;rw[Az ⟨a',h⟩]
section
variable {y:List Rl}{r:Rl}{k:Nat}
theorem I5(h:(AQ y [])[k]?=some r.path):AQ (y++[r]) []=AQ y []:=by
 rw[K7,Az (N0.2 (Av h))]
theorem I4(h:r.path∉AQ y []):AQ (y++[r]) []=AQ y []++[r.path]:=by
 rw[K7,Al (fun hc=>h (N0.1 hc))]
theorem I2{l:List ByteArray}(hd:l.Nodup){i j:Nat}{p:ByteArray}(h1:l[i]?=some p)(h2:l[j]?=some p):i=j:=by
 obtain⟨a1,a2⟩:=As.1 h1;obtain⟨b1,b2⟩:=As.1 h2;exact(List.getElem_inj hd).1 (a2.trans b2.symm)
open Classical in
theorem jz(h:(AQ y [])[k]?=some r.path):EP (Rh y) (.string r.path) (.slice (.id (k+50) 9) (M5 y r.path++[Ah r]))=Rh (y++[r]):=by
 have hd:=EM y [] E7;have hm:eQ y (r.path,k)∈Rh y:=Am.2 ⟨_,Fw.2 h,rfl⟩;rw[XQ (a':=.slice (.id (k+50) 9) (M5 y r.path)) hm];unfold Rh;rw[I5 h,BP];refine Bf fun q hq=>?_;have hg:=Ih hq;obtain⟨q,j⟩:=q;show(if Value.string q=Value.string r.path then _ else _)=eQ (y++[r]) (q,j);have hg:(AQ y [])[j]?=some q:=hg
 by_cases he:q=r.path
 ·subst he
  have:j=k:=I2 hd hg h
  subst this;rw[Az rfl];show _=(Value.string r.path,AV.slice (.id (j+50) 9) (M5 (y++[r]) r.path));rw[It,Az rfl]
 ·rw[Al (fun e=>he (by simpa using e))];show(Value.string q,AV.slice (.id (j+50) 9) (M5 y q))=(Value.string q,AV.slice (.id (j+50) 9) (M5 (y++[r]) q));rw[It,Al (fun e=>he e.symm)]
theorem ax(h:r.path∉AQ y []):M5 y r.path=[]:=by
 have:y.filter (fun s=>decide (s.path=r.path))=[]:=by
  rw[Hg];intro s hs he;exact h ((Hd y [] r.path).2 (.inr ⟨s,hs,BG he⟩))
 unfold M5;rw[this];rfl
theorem Xm(h:r.path∉AQ y [])(a:AV):(Value.string r.path,a)∉Rh y:=by
 intro hc;obtain⟨q,h1,h2⟩:=Am.1 hc;simp only[eQ,FK,Value.string.injEq]at h2;exact h (by rw[←h2.1];exact Av (Ih h1))
theorem jy(h:r.path∉AQ y []):EP (Rh y) (.string r.path) (.slice (.id ((AQ y []).length+50) 9) [Ah r])=Rh (y++[r]):=by
 rw[L3 (fun a=>Xm h a)];unfold Rh;rw[I4 h,List.zipIdx_append,AH]
 congr 1
 ·refine Bf fun q hq=>?_;have hg:=Ih hq
  have:q.1≠r.path:=fun e=>h (by rw[←e];exact Av hg)
  show(Value.string q.1,AV.slice (.id (q.2+50) 9) (M5 y q.1))=(Value.string q.1,AV.slice (.id (q.2+50) 9) (M5 (y++[r]) q.1));rw[It,Al (fun e=>this e.symm)]
 ·show [_]=[(Value.string r.path,AV.slice (.id (0+(AQ y []).length+50) 9) (M5 (y++[r]) r.path))];rw[It,Az rfl,ax h,Bk];rfl
theorem eX{p:ByteArray}{j:Nat}(h:(AQ y [])[j]?=some p):(Value.string p,AV.slice (.id (j+50) 9) (M5 y p))∈Rh y∧∀b,(Value.string p,b)∈Rh y→b=AV.slice (.id (j+50) 9) (M5 y p):=by
 refine⟨Am.2 ⟨(p,j),Fw.2 h,rfl⟩,fun b hb=>?_⟩;obtain⟨q,h1,h2⟩:=Am.1 hb;simp only[eQ,FK,Value.string.injEq]at h2;have hg:=Ih h1;rw[h2.1]at hg
 have:=I2 (EM y [] E7) hg h
 rw[←h2.2,h2.1,this]
theorem iw{p:ByteArray}{j:Nat}(h:(AQ y [])[j]?=some p):Jq y j=.tok 9 (M5 y p).length:=by
 unfold Jq;rw[h]
theorem kX(h:(AQ y [])[k]?=some r.path)(l:Nat):(bif Nat.beq (l+50) (k+50)then HO.tok 9 ((M5 y r.path).length+1)else Jq y l)=Jq (y++[r]) l:=by
 by_cases he:l=k
 ·subst he;rw[show Nat.beq (l+50) (l+50)=true from CV _];unfold Jq;rw[I5 h,h];show HO.tok 9 _=HO.tok 9 (M5 (y++[r]) r.path).length;rw[It,Az rfl,Ad];rfl
 ·rw[show Nat.beq (l+50) (k+50)=false by rw[AI];intro hc;have:=AL hc;omega];show Jq y l=_;unfold Jq;rw[I5 h];cases hq:(AQ y [])[l]? with
  |none=>rfl
  |some q =>
   show HO.tok 9 (M5 y q).length=HO.tok 9 (M5 (y++[r]) q).length;rw[It,Al];intro e;subst e;exact he (I2 (EM y [] E7) hq h)
theorem kW(h:r.path∉AQ y [])(l:Nat):(bif Nat.beq (l+50) ((AQ y []).length+50)then HO.tok 9 1 else Jq y l)=Jq (y++[r]) l:=by
 by_cases he:l=(AQ y []).length
 ·subst he;rw[show Nat.beq ((AQ y []).length+50) ((AQ y []).length+50)=true from CV _];unfold Jq;rw[I4 h];simp only[A4 (Ak _),Ga,A8];show HO.tok 9 1=HO.tok 9 (M5 (y++[r]) r.path).length;rw[It,Az rfl,ax h];rfl
 ·rw[show Nat.beq (l+50) ((AQ y []).length+50)=false by rw[AI];intro hc;have:=AL hc;omega];show Jq y l=_;unfold Jq;rw[I4 h]
  by_cases hl:l<(AQ y []).length
  ·rw[AY hl,Ge hl];show HO.tok 9 (M5 y (AQ y [])[l]).length=HO.tok 9 (M5 (y++[r]) (AQ y [])[l]).length;rw[It,Al];intro e;exact h (by rw[e];exact Ao hl)
  ·rw[A6 (by omega),A6 (by rw[Ad];simp;omega)]
end
theorem Pz{h:Nat→HO}:∀{B4:List (Value×AV)},(∀p∈B4,T9 h p.2=true)→QA h B4=true
 | [],_=>rfl
 |p::r,hk=>by
  unfold QA;rw[hk p (Aa ..)];exact Pz (fun q hq=>hk q (Af _ hq))
theorem KX(y:List Rl){h:Nat→HO}(hh:∀l,h (l+50)=Jq y l):QA h (Rh y)=true:=by
 refine Pz fun p hp=>?_;obtain⟨q,h1,rfl⟩:=Am.1 hp;show Ra h (q.2+50)=true;unfold Ra;rw[hh,iw (Ih h1)]
theorem Ja{y:List Rl}{h h' : Nat→HO}(hh:∀l,h (l+50)=Jq y l)(j:Nat):UM y j=.free∨(h j=UM y j∧Xw h' (UM y j)=true):=by
 by_cases hj:j<50
 ·exact .inl (mV y hj)
 ·obtain⟨l,rfl⟩:∃l,j=l+50:=⟨j-50,by omega⟩
  right
  rw[Hw];refine⟨hh l,?_⟩;unfold Jq;cases (AQ y [])[l]?<;>rfl
theorem kN{x:List Rl}(hx:A9 x=0){i:Nat}(hi:i<x.length):EP ((x.take i).map UW) (SP (GQ x[i])) (.agg (Ah x[i]))=(x.take (i+1)).map UW:=by
 rw[L3]
 ·rw[Bu,Ge hi,AH];rfl
 intro a ha;obtain⟨r,hr,he,_⟩:=kb ha;obtain⟨j,hj,e2⟩:=Dz.1 hr;rw[AJ]at hj;rw[Kc]at e2;have hp:=(Cz hx).2
 have:=(Bc.1 hp) j i (by omega) hi (by omega)
 rw[e2]at this;exact Jf this he
abbrev rb:TM:=⟨[],[],[],[],[8,9],[9],[40],[],[],[],[8,9,10,11]⟩
abbrev zT:List AV:=[.v (.map none),.v (.map none)]
theorem jn(x:List Rl)(ifs:List (List AV))(mQ:PC 20 [Rb x ifs] (vi (A9 x)))(h0:A9 x≠0):ld x ifs:=by
 have ht:ZB x=.tup [.agg [.cmap WB [],.cmap C3 []],vi (A9 x)]:=by unfold ZB;rw[Al h0]
 unfold ld;rw[ht];refine Ps rb Tryz.func73 rfl (Nz rfl) ?_;refine Xi 0 ?_;refine Xi 0 ?_;refine Yi (Nz rfl) ?_;refine Xi 0 ?_;refine Yi (Nz rfl) ?_;refine Xi .pure (Xi _ (Yi (mQ) ?_));refine Xi 0 ?_;refine Yi ?_ ?_
 ·intro _;refine Xi 0 ?_;refine Yi (Nz rfl) ?_;refine Yi (Nz rfl) ?_;refine Yi (Nz rfl) ?_;exact .refl _
 ·intro h;exact absurd h (fun hc=>hc h0)
theorem Hc:∀(y:List Rl) (acc:List ByteArray),(AQ y acc).length≤acc.length+y.length
 | [],acc=>by simp[AQ]
 |r::y,acc=>by
  rw[AQ];refine A5 (Hc y _) ?_;split
  ·simp only[At];omega
  ·simp only[Ad,At,AC];omega
section
attribute [local irreducible] H9
theorem mF(x:List Rl)(ifs:List (List AV))(mQ:PC 20 [Rb x ifs] (vi (A9 x)))(h0:A9 x=0)(CB:x.length≤256):ld x ifs:=by
 have ht:ZB x=.tup [.agg [.cmap WB (x.map UW),.cmap C3 ((AQ x []).map (lO x))],vi 0]:=by unfold ZB;rw[Az h0]
 unfold ld;rw[ht];rw[h0]at mQ;refine Ps rb Tryz.func73 rfl (Nz rfl) ?_;refine Xi 0 ?_;refine Xi 0 ?_;refine Yi (Nz rfl) ?_;refine Xi 0 ?_;refine Yi (Nz rfl) ?_;refine Xi .pure (Xi _ (Yi (mQ) ?_));refine Xi 0 ?_;refine Yi ?_ ?_
 ·intro hc;exact absurd (show(0:Int)≠0 from hc) (by decide)
 intro _;refine Xi 0 ?_;refine Xi {i:Nat // i≤x.length} (Xi (fun i=>⟨[(2,.ref 2 0),(4,.ref 4 0),(18,sl Ah x),(19,vi (x.map Ah).length),(20,vi i.1)],[(2,.cells zT),(4,.cells [.mref 8,.mref 9]),(8,.map WB ((x.take i.1).map UW)),(9,.mapU C3 (Rh (x.take i.1)))],UM (x.take i.1)⟩) (Xi (fun i=>x.length-i.1) (Yi (Xi ⟨0,AM _⟩ ?_) ?_)))
 ·refine⟨Z5,Z4,fun j=>.inl ?_,Tv⟩;show UM [] j=.free;unfold UM;cases Nat.ble 50 j<;>rfl
 intro⟨i,i1⟩;have i1:i≤x.length:=i1;refine Xi 0 ?_;refine Yi ?_ ?_
 ·intro h;have h:(i:Int)<(x.map Ah).length:=h;have h:i<x.length:=by simpa using h
  have hg:x[i]?=some x[i]:=Ge h;have Kt:x.take (i+1)=x.take i++[x[i]]:=by rw[Bu,hg];rfl
  refine Xi 0 ?_;refine Xi (Ah x[i]) (Yi (Yi (Nn i) (by simp[hg])) (Yi rfl ?_));refine Yi (Nz rfl) (Yi (Nz rfl) ?_);refine Xi ⟨[(2,.ref 2 0),(4,.ref 4 0),(7,.ref 7 0),(18,sl Ah x),(19,vi (x.map Ah).length),(20,vi i)],[(2,.cells zT),(4,.cells [.mref 8,.mref 9]),(7,.cells (Ah x[i])),(8,.map WB ((x.take i).map UW)),(9,.mapU C3 (Rh (x.take i)))],UM (x.take i)⟩ (Yi ?_ ?_)
  ·exact⟨Z6,⟨Zr,Zr,Zr,Zr,⟨rfl,KX _ (Hw _)⟩,Tv⟩,Ja (Hw _),Tv⟩
  refine Xi 0 ?_;refine Yi (Nz rfl) ?_;refine Xi _ (Yi (mr x[i]) ?_);refine Yi (Nz rfl) ?_;refine Yi (by kernel_rfl) ?_;have e8:EP ((x.take i).map UW) (SP (GQ x[i])) (.agg (Ah x[i]))=(x.take (i+1)).map UW:=kN h0 h;refine Xi ⟨[(2,.ref 2 0),(4,.ref 4 0),(7,.ref 7 0),(18,sl Ah x),(19,vi (x.map Ah).length),(20,vi i)],[(2,.cells zT),(4,.cells [.mref 8,.mref 9]),(7,.cells (Ah x[i])),(8,.map WB ((x.take (i+1)).map UW)),(9,.mapU C3 (Rh (x.take i)))],UM (x.take i)⟩ (Yi ?_ ?_)
  ·exact⟨Z6,⟨Zr,Zr,Zr,⟨Ac (HO.map WB) e8,rfl⟩,⟨rfl,KX _ (Hw _)⟩,Tv⟩,Ja (Hw _),Tv⟩
  have hL:((x.take i).filter (fun r=>decide (r.path=x[i].path))).length≤256:=by
   have:=BE (fun r:Rl=>decide (r.path=x[i].path)) (x.take i)
   rw[AJ]at this;omega
  have hP:∀l,UM (x.take i) (l+50)=Jq (x.take i) l:=Hw _;refine BN (Classical.em (x[i].path∈AQ (x.take i) [])) (fun hp=>?_) (fun hp=>?_)
  ·refine Do (B9.1 hp) (fun k hk=>?_);have hu:=eX hk;refine Xi 0 ?_;refine Or.inl (Xi (.slice (.id (k+50) 9) (M5 (x.take i) x[i].path)) (Yi hu ?_));refine Yi (Nz rfl) ?_;have hr:UM (x.take i) (k+50)=.tok 9 (M5 (x.take i) x[i].path).length:=by rw[hP,iw hk]
   have hl:(M5 (x.take i) x[i].path).length≤256:=by rw[Lm];exact hL
   refine Qp (e:=45) (m:=8) (es2:=[Ah x[i]]) rfl rfl rfl (fun _ h=>h) hr ⟨rfl,trivial⟩ (by show(_+1)*120≤_;omega) (by show _+1≤_;omega) ?_;have qj:k<256:=by
    have:=(As.1 hk).1
    have:=Hc (x.take i) []
    rw[AJ]at this;simp only[AC]at this;omega
   have ng:=hk;refine Yi (IT ⟨A1 _,A1 _,A1 _,A1 _,A1 _,A1 _,A1 _,A1 _,A1 _,A1 _,D2 (show 39<10000000 by decide),D2 (by show _+50<10000000;omega),D2 (show 9<10000000 by decide),trivial⟩ (by kernel_rfl)) ?_;have e9:EP (Rh (x.take i)) (.string x[i].path) (.slice (.id (k+50) 9) (M5 (x.take i) x[i].path++[Ah x[i]]))=Rh (x.take (i+1)):=by rw[Kt];exact jz ng
   have hG:∀l,(bif Nat.beq (l+50) (k+50)then HO.tok 9 ((M5 (x.take i) x[i].path).length+1)else Jq (x.take i) l)=Jq (x.take (i+1)) l:=by rw[Kt];exact kX ng
   refine Xi ⟨[(2,.ref 2 0),(4,.ref 4 0),(18,sl Ah x),(19,vi (x.map Ah).length),(20,vi i)],[(2,.cells zT),(4,.cells [.mref 8,.mref 9]),(8,.map WB ((x.take (i+1)).map UW)),(9,.mapU C3 (Rh (x.take (i+1))))],UM (x.take (i+1))⟩ (Yi ?_ ?_)
   ·refine⟨Z5,⟨Zr,Zr,Zr,⟨Ac (HO.mapU C3) e9,KX _ (Hw _)⟩,Tv⟩,Ja (fun l=>?_),Tv⟩;show(bif Nat.beq (l+50) (k+50)then HO.tok 9 ((M5 (x.take i) x[i].path).length+1)else UM (x.take i) (l+50))=_;rw[hP];exact hG l
   refine Xi 0 ?_;refine Yi (Ii i (by omega)) ?_;refine Xi ⟨i+1,by omega⟩ ?_;exact⟨Dl x.length i (by omega),Z5,⟨Zr,Zr,Zr,⟨rfl,KX _ (Hw _)⟩,Tv⟩,Ja (Hw _),Tv⟩
  ·have ng:=hp;have Ll:(AQ (x.take i) []).length≤256:=by
    have:=Hc (x.take i) []
    rw[AJ]at this;simp only[AC]at this;omega
   have hn:=Xm hp;refine Xi ((AQ (x.take i) []).length+50) ?_;refine Or.inr (Yi hn ?_);refine Yi (Nz rfl) ?_;have hr:UM (x.take i) ((AQ (x.take i) []).length+50)=.free:=by
    rw[hP];unfold Jq;rw[A6 (Ak _)]
   refine Qo (e:=45) (m:=8) (es2:=[Ah x[i]]) rfl rfl rfl (fun _ h=>h) hr rfl ⟨rfl,trivial⟩ (by show 1*120≤_;omega) (by show 1≤_;omega) ?_;refine Yi (IT ⟨A1 _,A1 _,A1 _,A1 _,A1 _,A1 _,A1 _,A1 _,A1 _,A1 _,D2 (show 39<10000000 by decide),D2 (by show _+50<10000000;omega),D2 (show 9<10000000 by decide),trivial⟩ (by kernel_rfl)) ?_;have e9:EP (Rh (x.take i)) (.string x[i].path) (.slice (.id ((AQ (x.take i) []).length+50) 9) [Ah x[i]])=Rh (x.take (i+1)):=by rw[Kt];exact jy ng
   have hG:∀l,(bif Nat.beq (l+50) ((AQ (x.take i) []).length+50)then HO.tok 9 1 else Jq (x.take i) l)=Jq (x.take (i+1)) l:=by rw[Kt];exact kW ng
   refine Xi ⟨[(2,.ref 2 0),(4,.ref 4 0),(18,sl Ah x),(19,vi (x.map Ah).length),(20,vi i)],[(2,.cells zT),(4,.cells [.mref 8,.mref 9]),(8,.map WB ((x.take (i+1)).map UW)),(9,.mapU C3 (Rh (x.take (i+1))))],UM (x.take (i+1))⟩ (Yi ?_ ?_)
   ·refine⟨Z5,⟨Zr,Zr,Zr,⟨Ac (HO.mapU C3) e9,KX _ (Hw _)⟩,Tv⟩,Ja (fun l=>?_),Tv⟩;show(bif Nat.beq (l+50) ((AQ (x.take i) []).length+50)then HO.tok 9 1 else UM (x.take i) (l+50))=_;rw[hP];exact hG l
   refine Xi 0 ?_;refine Yi (Ii i (by omega)) ?_;refine Xi ⟨i+1,by omega⟩ ?_;exact⟨Dl x.length i (by omega),Z5,⟨Zr,Zr,Zr,⟨rfl,KX _ (Hw _)⟩,Tv⟩,Ja (Hw _),Tv⟩
 ·intro h;have h:¬(i:Int)<(x.map Ah).length:=h;have h:¬i<x.length:=by simpa using h
  have et:x.take i=x:=AT (by omega);refine Xi ⟨[(2,.ref 2 0),(4,.ref 4 0)],[(2,.cells zT),(4,.cells [.mref 8,.mref 9]),(8,.map WB ((x.take i).map UW)),(9,.mapU C3 (Rh (x.take i)))],UM (x.take i)⟩ (Yi ?_ ?_)
  ·exact⟨Z2,⟨Zr,Zr,Zr,⟨rfl,KX _ (Hw _)⟩,Tv⟩,Ja (Hw _),Tv⟩
  refine Xi 0 ?_;refine Yi (Nz rfl) ?_;refine Yi (Nz rfl) ?_;refine Yi (Nz rfl) ?_;have es:∀h:Nat→HO,Rd h (Rh (x.take i))=(AQ x []).map (lO x):=fun h=>by
   rw[et];unfold Rd Rh;rw[BP];refine CC fun j=>?_;rw[AG,AG,List.getElem?_zipIdx];cases (AQ x [])[j]?<;>rfl
  have e1:(x.take i).map UW=x.map UW:=by rw[et]
  exact .of_eq (show AV.tup [.agg [.cmap WB ((x.take i).map UW),.cmap C3 (Rd _ (Rh (x.take i)))],vi 0]=_ by rw[e1,es])
end
theorem c84(x:List Rl)(ifs:List (List AV))(hx:∀r∈x,Ka r):ld x ifs:=by
 by_cases h0:A9 x=0
 ·exact mF x ifs (pt YA x ifs hx) h0 (PD h0).1
 ·exact jn x ifs (pt YA x ifs hx) h0
abbrev vB(n:Nat):TM:=⟨[],[(2,n)],[],[],[],[],[5],[],[],[],[2,3]⟩
theorem pq(l:List Sl)(hl:Cn l):Be Tryz.prog 89 [sl Ae l] (Aj [] Ab) fun r h'=>r=.slice (.id 2000 4) (l.map Ae)∧h'=Aj [(2000,.tok 4 (l.map Ae).length)] Ab:=by
 refine Cm (Mo (vB 4)) [(2,2000)] rfl CL hm rfl Tryz.func89 (by kernel_rfl) rfl (Nz rfl) (by kernel_rfl) rfl ?_;have Gs:Dp 4 (l.map Ae)∧([]:List (List AV)).length=0∧(([]:List (List AV)).length+(l.map Ae).length)*40≤140737488355328∧([]:List (List AV)).length+(l.map Ae).length≤9223372036854775807:=by
  refine⟨Ez (enc:=Ae) (n:=4) (fun _=>rfl) l,rfl,?_,?_⟩<;>simp only[AC,Lm]<;>unfold Cn at hl<;>omega
 have e2:HO.tok 4 (([]:List (List AV)).length+(l.map Ae).length)=.tok 4 (l.map Ae).length:=by rw[AC,Bk]
 have e3:AV.slice (.id 2000 4) ([]++l.map Ae)=.slice (.id 2000 4) (l.map Ae):=rfl;refine Xi 0 ?_;refine Xi 0 ?_;refine Yi ?_ ?_
 ·intro _;refine Xi ⟨[(0,sl Ae l)],[],Ab⟩ (Yi ⟨Z1,Tv,Fh,Ax (by kernel_rfl)⟩ ?_)
  refine Xi 2 ?_;refine Yi Gs ?_;exact Xi _ (Yi (.refl _) (Yi e3 (Ac (fun o=>Aj [(2000,o)] Ab) e2)))
 ·intro h;have h:l.map Ae=[]:=h;refine Yi ?_ ?_
  ·refine Xi ⟨[],[],Ab⟩ (Yi ⟨trivial,trivial,fun _=>.inl rfl,Ax (by kernel_rfl)⟩ ?_)
   refine Xi 0 ?_;exact Xi _ (Yi (.refl _) (Yi (show AV.slice (.id 2000 4) []=_ by rw[h]) (show Aj [(2000,HO.tok 4 0)] Ab=_ by rw[h];rfl)))
  ·refine Xi ⟨[(0,sl Ae l)],[],Ab⟩ (Yi ⟨Z1,Tv,Fh,Ax (by kernel_rfl)⟩ ?_)
   refine Xi 2 ?_;refine Yi Gs ?_;exact Xi _ (Yi (.refl _) (Yi e3 (Ac (fun o=>Aj [(2000,o)] Ab) e2)))
section
variable {S:Type}{x:List Rl}{roots:List Rq}{s:List Sl}{step:S→yo→S}{st0:S}{before:List Sl}{needs:List Rq}{n:Nat}{st:S}
end
def Md(q:Rq):Bool:=decide (q.path.size≤100)&&decide (q.set.length≤8)
def IY(l:List Rq):Bool:=l.all Md&&decide (l.length≤20)
theorem yA(l:List Rq)(hl:Cn l):PC 29 [sl AN l] (vb (IY l)):=by
 unfold Cn at hl;refine Ps F7 Tryz.func29 rfl (Nz rfl) ?_;refine Xi {i:Nat // i≤l.length∧∀j (hj:j<l.length),j<i→Md l[j]=true} (Xi (fun i=>⟨[(0,sl AN l),(3,vi i.1)],[],Ab⟩) (Xi (fun i=>l.length-i.1) (Yi (Xi ⟨0,AM _,fun j _ h=>by omega⟩ ?_) ?_)))
 ·exact⟨Z2,Tv,Fh,Tv⟩
 intro⟨i,h1,h2⟩;refine Yi ?_ ?_
 ·intro h;have h:(i:Int)<(l.map AN).length:=h;have h:i<l.length:=by simpa using h
  have hg:l[i]?=some l[i]:=Ge h;have no:Md l[i]=false→false=IY l:=fun e=>by
   unfold IY
   have:l.all Md=false:=by
    rw[AI];intro ha
    have:=Bq.1 ha _ (Ao h)
    rw[e]at this;cases this
   rw[this];rfl
  refine Xi (AN l[i]) (Yi (Yi (Nn i) (by simp[hg])) (Yi rfl ?_));refine Yi ?_ ?_
  ·intro h3;have h3:(100:Int)<((l[i].path.size:Nat):Int):=h3;exact .of_eq (Ac vb (no (by unfold Md;rw[Ap (by omega)];rfl)))
  intro h3;have h3:¬(100:Int)<((l[i].path.size:Nat):Int):=h3;refine Xi (AN l[i]) (Yi (Yi (Nn i) (by simp[hg])) (Yi rfl ?_));refine Yi ?_ ?_
  ·intro h4;have h4:(8:Int)<((l[i].set.map Aq).length:Int):=h4;rw[Lm]at h4;exact .of_eq (Ac vb (no (by unfold Md;rw[Ap (by omega:¬l[i].set.length≤8),DH])))
  intro h4;have h4:¬(8:Int)<((l[i].set.map Aq).length:Int):=h4;have h5:l[i].set.length≤8:=by rw[Lm]at h4;omega
  refine Yi (Ii i (by omega)) ?_;refine Xi ⟨i+1,by omega,fun j hj HL=>?_⟩ ?_
  ·rcases EF j i with z | z
   ·exact h2 j hj z
   ·have:j=i:=by omega
    subst this;unfold Md;rw[Aw (by omega),Aw h5];rfl
  ·exact⟨Dl l.length i (by omega),Z2,Tv,Fh,Tv⟩
 ·intro h;have h:¬(i:Int)<(l.map AN).length:=h;have h:¬i<l.length:=by simpa using h
  have ha:l.all Md=true:=Bq.2 fun q hq=>by
   obtain⟨j,hj,rfl⟩:=FB hq;exact h2 j hj (by omega)
  refine Yi ?_ ?_
  ·intro h3;have h3:((l.map AN).length:Int)≤20:=h3;rw[Lm]at h3;exact .of_eq (Ac vb (show true=IY l by unfold IY;rw[ha,Aw (by omega)];rfl))
  ·intro h3;have h3:¬((l.map AN).length:Int)≤20:=h3;rw[Lm]at h3;exact .of_eq (Ac vb (show false=IY l by unfold IY;rw[Ap (by omega),DH]))
def Jn(r:Rl):Bool:=decide (r.path.size≤100)&&decide (r.arch.size≤100)&&decide (r.ifc.size≤100)&&decide (r.cert.size≤100)&&IY r.reqs
def Jo(x:List Rl)(n:Nat):Bool:=x.all Jn&&decide (x.length≤n)
theorem wI(x:List Rl)(n:Nat)(hl:Cn x)(hr:∀r∈x,Cn r.reqs):PC 60 [sl Ah x,vi n] (vb (Jo x n)):=by
 unfold Cn at hl;refine Ps F7 Tryz.func60 rfl (Nz rfl) ?_;refine Xi {i:Nat // i≤x.length∧∀j (hj:j<x.length),j<i→Jn x[j]=true} (Xi (fun i=>⟨[(0,sl Ah x),(1,vi n),(5,vi i.1)],[],Ab⟩) (Xi (fun i=>x.length-i.1) (Yi (Xi ⟨0,AM _,fun j _ h=>by omega⟩ ?_) ?_)))
 ·exact⟨Z3,Tv,Fh,Tv⟩
 intro⟨i,h1,h2⟩;refine Yi ?_ ?_
 ·intro h;have h:(i:Int)<(x.map Ah).length:=h;have h:i<x.length:=by simpa using h
  have hg:x[i]?=some x[i]:=Ge h;have no:Jn x[i]=false→false=Jo x n:=fun e=>by
   unfold Jo
   have:x.all Jn=false:=by
    rw[AI];intro ha
    have:=Bq.1 ha _ (Ao h)
    rw[e]at this;cases this
   rw[this];rfl
  have hc:=yA x[i].reqs (hr _ (Ao h));refine Xi (Ah x[i]) (Yi (Yi (Nn i) (by simp[hg])) (Yi rfl ?_));refine Yi ?_ ?_
  ·intro h3;have h3:(100:Int)<((x[i].path.size:Nat):Int):=h3;exact .of_eq (Ac vb (no (by unfold Jn;rw[Ap (by omega:¬x[i].path.size≤100)];simp)))
  intro h3;have h3:¬(100:Int)<((x[i].path.size:Nat):Int):=h3;refine Xi (Ah x[i]) (Yi (Yi (Nn i) (by simp[hg])) (Yi rfl ?_));refine Yi ?_ ?_
  ·intro h4;have h4:(100:Int)<((x[i].arch.size:Nat):Int):=h4;exact .of_eq (Ac vb (no (by unfold Jn;rw[Ap (by omega:¬x[i].arch.size≤100)];simp)))
  intro h4;have h4:¬(100:Int)<((x[i].arch.size:Nat):Int):=h4;refine Xi (Ah x[i]) (Yi (Yi (Nn i) (by simp[hg])) (Yi rfl ?_));refine Yi ?_ ?_
  ·intro h5;have h5:(100:Int)<((x[i].ifc.size:Nat):Int):=h5;exact .of_eq (Ac vb (no (by unfold Jn;rw[Ap (by omega:¬x[i].ifc.size≤100)];simp)))
  intro h5;have h5:¬(100:Int)<((x[i].ifc.size:Nat):Int):=h5;refine Xi (Ah x[i]) (Yi (Yi (Nn i) (by simp[hg])) (Yi rfl ?_));refine Yi ?_ ?_
  ·intro h6;have h6:(100:Int)<((x[i].cert.size:Nat):Int):=h6;exact .of_eq (Ac vb (no (by unfold Jn;rw[Ap (by omega:¬x[i].cert.size≤100)];simp)))
  intro h6;have h6:¬(100:Int)<((x[i].cert.size:Nat):Int):=h6;refine Xi (Ah x[i]) (Yi (Yi (Nn i) (by simp[hg])) (Yi rfl ?_));refine BN (Bt (IY x[i].reqs)) (fun e=>?_) (fun e=>?_)
  rotate_left
  ·rw[e]at hc;refine Xi .pure (Xi _ (Yi (hc) ?_));exact .of_eq (Ac vb (no (by unfold Jn;rw[e,DH])))
  rw[e]at hc;refine Xi .pure (Xi _ (Yi (hc) ?_));refine Yi (Ii i (by omega)) ?_;refine Xi ⟨i+1,by omega,fun j hj HL=>?_⟩ ?_
  ·rcases EF j i with z | z
   ·exact h2 j hj z
   ·have:j=i:=by omega
    subst this;unfold Jn;rw[Aw (by omega:x[j].path.size≤100),Aw (by omega:x[j].arch.size≤100),Aw (by omega:x[j].ifc.size≤100),Aw (by omega:x[j].cert.size≤100),e];rfl
  ·exact⟨Dl x.length i (by omega),Z3,Tv,Fh,Tv⟩
 ·intro h;have h:¬(i:Int)<(x.map Ah).length:=h;have h:¬i<x.length:=by simpa using h
  have ha:x.all Jn=true:=Bq.2 fun q hq=>by
   obtain⟨j,hj,rfl⟩:=FB hq;exact h2 j hj (by omega)
  refine Yi ?_ ?_
  ·intro h3;have h3:((x.map Ah).length:Int)≤n:=h3;rw[Lm]at h3;exact .of_eq (Ac vb (show true=Jo x n by unfold Jo;rw[ha,Aw (by omega)];rfl))
  ·intro h3;have h3:¬((x.map Ah).length:Int)≤n:=h3;rw[Lm]at h3;exact .of_eq (Ac vb (show false=Jo x n by unfold Jo;rw[Ap (by omega),DH]))
section
variable {l:List Rl}{roots t:List Rq}{d:List ByteArray}{n:Nat}
end
structure wF(x:List Rl)(roots:List Rq):Prop where
 ix:Cn x
 rs:Cn roots
 rel:∀r∈x,Cn r.reqs∧Ka r
 rq:∀q∈roots,NT q
end Go.Eng
namespace Go.Proofs
open Go.Shelf
def Tryz.laySortStr_ren:Go.Shelf.Ren:=⟨fun | 190=>102 | 125=>130 | 258=>132 | 128=>170 | 129=>171 | 302=>173 | 303=>174 | 304=>175 | 305=>176 | 306=>177 | 307=>178 | 308=>179 | 309=>180 | 310=>181 | 333=>211 | 329=>207 | 330=>208 | 334=>212 | 335=>213 | 336=>81 | 344=>239 | n=>n,fun | 31=>129 | 9=>9 | 3=>3 | 46=>185 | 0=>0 | 51=>220 | 53=>222 | 4=>4 | 183=>214 | 182=>213 | 131=>133 | 5=>5 | 218=>248 | 222=>252 | 228=>270 | 229=>271 | n=>n,fun | n=>n⟩
theorem Tryz.laySortStr:Go.Proofs.Lays.n190 Tryz.prog Tryz.laySortStr_ren:={
 mixed:=by kernel_rfl
 f125:=Tryz.func130.trans (congrArg some (by kernel_rfl))
 f128:=Tryz.func170.trans (congrArg some (by kernel_rfl))
 f129:=Tryz.func171.trans (congrArg some (by kernel_rfl))
 f190:=Tryz.func102.trans (congrArg some (by kernel_rfl))
 f258:=Tryz.func132.trans (congrArg some (by kernel_rfl))
 f302:=Tryz.func173.trans (congrArg some (by kernel_rfl))
 f303:=Tryz.func174.trans (congrArg some (by kernel_rfl))
 f304:=Tryz.func175.trans (congrArg some (by kernel_rfl))
 f305:=Tryz.func176.trans (congrArg some (by kernel_rfl))
 f306:=Tryz.func177.trans (congrArg some (by kernel_rfl))
 f307:=Tryz.func178.trans (congrArg some (by kernel_rfl))
 f308:=Tryz.func179.trans (congrArg some (by kernel_rfl))
 f309:=Tryz.func180.trans (congrArg some (by kernel_rfl))
 f310:=Tryz.func181.trans (congrArg some (by kernel_rfl))
 f329:=Tryz.func207.trans (congrArg some (by kernel_rfl))
 f330:=Tryz.func208.trans (congrArg some (by kernel_rfl))
 f333:=Tryz.func211.trans (congrArg some (by kernel_rfl))
 f334:=Tryz.func212.trans (congrArg some (by kernel_rfl))
 f335:=Tryz.func213.trans (congrArg some (by kernel_rfl))
 f336:=Tryz.func81.trans (congrArg some (by kernel_rfl))
 f344:=Tryz.func239.trans (congrArg some (by kernel_rfl))
 t0:=Tryz.underlying0
 a0:=Tryz.isAgg0
 z0:=Tryz.sizeOf0
 v0:=Tryz.zeroValue0
 t3:=Tryz.underlying3
 a3:=Tryz.isAgg3
 z3:=Tryz.sizeOf3
 v3:=Tryz.zeroValue3
 t4:=Tryz.underlying4
 a4:=Tryz.isAgg4
 z4:=Tryz.sizeOf4
 v4:=Tryz.zeroValue4
 t5:=Tryz.underlying5
 a5:=Tryz.isAgg5
 z5:=Tryz.sizeOf5
 v5:=Tryz.zeroValue5
 t9:=Tryz.underlying9
 a9:=Tryz.isAgg9
 z9:=Tryz.sizeOf9
 v9:=Tryz.zeroValue9
 t31:=Tryz.underlying129
 a31:=Tryz.isAgg129
 z31:=Tryz.sizeOf129
 v31:=Tryz.zeroValue129
 t46:=Tryz.underlying185
 a46:=Tryz.isAgg185
 z46:=Tryz.sizeOf185
 v46:=Tryz.zeroValue185
 t51:=Tryz.underlying220
 a51:=Tryz.isAgg220
 z51:=Tryz.sizeOf220
 v51:=Tryz.zeroValue220
 t53:=Tryz.underlying222
 a53:=Tryz.isAgg222
 z53:=Tryz.sizeOf222
 v53:=Tryz.zeroValue222
 t131:=Tryz.underlying133
 a131:=Tryz.isAgg133
 z131:=Tryz.sizeOf133
 v131:=Tryz.zeroValue133
 t182:=Tryz.underlying213
 a182:=Tryz.isAgg213
 z182:=Tryz.sizeOf213
 v182:=Tryz.zeroValue213
 t183:=Tryz.underlying214
 a183:=Tryz.isAgg214
 z183:=Tryz.sizeOf214
 v183:=Tryz.zeroValue214
 t218:=Tryz.underlying248
 a218:=Tryz.isAgg248
 z218:=Tryz.sizeOf248
 v218:=Tryz.zeroValue248
 t222:=Tryz.underlying252
 a222:=Tryz.isAgg252
 z222:=Tryz.sizeOf252
 v222:=Tryz.zeroValue252
 t228:=Tryz.underlying270
 a228:=Tryz.isAgg270
 z228:=Tryz.sizeOf270
 v228:=Tryz.zeroValue270
 t229:=Tryz.underlying271
 a229:=Tryz.isAgg271
 z229:=Tryz.sizeOf271
 v229:=Tryz.zeroValue271 }
def Tryz.layCompactStr_ren:Go.Shelf.Ren:=⟨fun | 194=>104 | n=>n,fun | 31=>129 | 9=>9 | 3=>3 | 4=>4 | 0=>0 | n=>n,fun | n=>n⟩
theorem Tryz.layCompactStr:Go.Proofs.Lays.n194 Tryz.prog Tryz.layCompactStr_ren:={
 mixed:=by kernel_rfl
 f194:=Tryz.func104.trans (congrArg some (by kernel_rfl))
 t0:=Tryz.underlying0
 a0:=Tryz.isAgg0
 z0:=Tryz.sizeOf0
 v0:=Tryz.zeroValue0
 t3:=Tryz.underlying3
 a3:=Tryz.isAgg3
 z3:=Tryz.sizeOf3
 v3:=Tryz.zeroValue3
 t4:=Tryz.underlying4
 a4:=Tryz.isAgg4
 z4:=Tryz.sizeOf4
 v4:=Tryz.zeroValue4
 t9:=Tryz.underlying9
 a9:=Tryz.isAgg9
 z9:=Tryz.sizeOf9
 v9:=Tryz.zeroValue9
 t31:=Tryz.underlying129
 a31:=Tryz.isAgg129
 z31:=Tryz.sizeOf129
 v31:=Tryz.zeroValue129 }
end Go.Proofs
namespace Go.Eng
open Go.Proofs Go.Shelf Go.RowKit Go.Lib Go.Sort
abbrev ZL(s:ByteArray):List UInt8:=s.data.toList
abbrev iH(l:List UInt8):ByteArray:=⟨l.toArray⟩
theorem ji(s:ByteArray):iH (ZL s)=s:=by cases s;simp
theorem Mq(zs:List (List UInt8)):((zs.map iH).map DL).flatten=(zs.map Go.Proofs.encStr).map AV.v:=by
 induction zs with
 |nil=>rfl
 |cons z zs ih=>rw[AP,AP,Bz,ih];rfl
theorem VE(ss:List ByteArray):(ss.map ZL).map iH=ss:=by
 rw[BP,show iH ∘ ZL=id from funext ji,JA]
theorem u7(ss t:List ByteArray)(hl:Cn ss)(DD:ss≠[])(hp:t.Perm ss)(ht:(t.map ZL).Pairwise fun a b=>a≤b) :
  Be Tryz.prog 102 [.msl 1000 ss.length] (Aj [(1000,.arr 1 (ss.map DL))] Ab) fun r h'=>r=.tup []∧h'=Aj [(1000,.arr 1 (t.map DL))] Ab:=by
 have hl:ss.length≤1073741824:=hl;have hE:F1 Tryz.prog 102:=dp 102 Tryz.func102 (by kernel_rfl) rfl;obtain⟨zs,hz⟩:∃zs,zs=ss.map ZL:=⟨_,rfl⟩;have EH:ss=zs.map iH:=by rw[hz,VE]
 have G9:=Pk (P:=Tryz.prog) (f:=102) (es:=ss.map DL) (sz:=1) (rest:=[]) (Q:=fun FA=>FA=t.map DL) hE ?_ ?_
 ·rw[Lm]at G9;refine⟨hE,fun g w vals q1 q2 q3=>(G9.2 g w vals q1 q2 q3).mono fun _ _ ⟨v,r,h',g',e1,⟨e2,FA,p1,p3⟩,rest⟩=>⟨v,r,h',g',e1,⟨e2,by rw[p3,p1]⟩,rest⟩⟩
 ·intro e;exact absurd (Dr.1 e) DD
 ·intro g w b cap F hr hF hH hb;have pM:F.toList=zs.map Go.Proofs.encStr:=La (by rw[←Mq,←EH];exact hr);have fb:F=zs.toArray.map Go.Proofs.encStr:=Iw.1 (by rw[pM];simp);have MM:zs.length=ss.length:=by rw[hz,Lm]
  have pN:Holds Go.Proofs.encStr w b 0 zs.toArray:=fun j hj=>by
   have:=hH j (by rw[fb];simpa using hj)
   refine⟨this.1.trans ?_,this.2⟩;rw[fb,DC _ j (by simpa using hj),DC _ j hj];simp
  have hc:=Any.slices_Sort_string Tryz.laySortStr b 0 cap zs w pN hb (by omega);have zZ:(zs.mergeSort fun x y=>decide (x≤y))=t.map ZL:=by
   have IL:(zs.mergeSort fun x y=>decide (x≤y)).Perm zs:=List.mergeSort_perm _ _;have qD:=List.pairwise_mergeSort (le:=fun x y:List UInt8=>decide (x≤y)) (fun a b c h1 h2=>by simp only[AA]at *;exact List.le_trans h1 h2) (fun a b=>by simp only[CE,AA];exact List.le_total a b) zs;refine List.Perm.eq_of_pairwise (le:=fun a b=>a≤b) (fun a b _ _ h k=>List.le_antisymm h k) (qD.imp fun h=>BG h) ht (IL.trans ?_);rw[hz];exact(hp.map ZL).symm
  rw[zZ,MM]at hc;rw[Lm];refine hc.mono ?_
  rintro e w' ⟨rfl,n,os,rfl⟩
  have DI:t.length=ss.length:=hp.length_eq;refine⟨rfl,(t.map ZL).toArray.map Go.Proofs.encStr,t.map DL,n,os,?_,rfl,by simp[DI],fun cs hcs=>?_,fun g w _=>?_,by rw[PO]⟩
  ·rw[fb];simp[DI,MM]
  ·obtain⟨x,_,rfl⟩:=Am.1 hcs;rfl
  ·have e1:t.map DL=((t.map ZL).map iH).map DL:=by rw[VE]
   rw[e1,Mq];have e:(((t.map ZL).toArray.map Go.Proofs.encStr).toList)=(t.map ZL).map Go.Proofs.encStr:=by simp
   rw[e];exact MG _ _ _ _ fun x hx=>by
    obtain⟨z,_,rfl⟩:=Am.1 hx;rfl
def B7(ss:List ByteArray):List ByteArray:=(Lib.compact (ss.map ZL)).map iH
theorem Qr(zs:List (List UInt8)):(Lib.compact zs).length≤zs.length:=by
 unfold Lib.compact Lib.compactUpTo;rw[Lm];exact A5 (BE _ _) (by rw[Qk];exact Ak _)
theorem u9(ss:List ByteArray)(hl:Cn ss)(DD:ss≠[]) :
  Be Tryz.prog 104 [.msl 1000 ss.length] (Aj [(1000,.arr 1 (ss.map DL))] Ab) fun r h'=>r=.msl 2000 (B7 ss).length∧h'=Aj [(1000,.dead),(2000,.arr 1 ((B7 ss).map DL))] Ab:=by
 have hl:ss.length≤1073741824:=hl;have hE:F1 Tryz.prog 104:=dp 104 Tryz.func104 (by kernel_rfl) rfl;obtain⟨zs,hz⟩:∃zs,zs=ss.map ZL:=⟨_,rfl⟩;have EH:ss=zs.map iH:=by rw[hz,VE]
 have MM:zs.length=ss.length:=by rw[hz,Lm]
 have hcl:=Qr zs;have G9:=Uk (P:=Tryz.prog) (f:=104) (es:=ss.map DL) (sz:=1) (rest:=[]) (n':=(Lib.compact zs).length) (Q:=fun FA=>FA=((Lib.compact zs++List.replicate (zs.length-(Lib.compact zs).length) []).map iH).map DL) hE (fun e=>DD (Dr.1 e)) (by rw[Lm];omega) ?_
 ·rw[Lm]at G9;have ez:B7 ss=(Lib.compact zs).map iH:=by unfold B7;rw[hz]
  refine⟨hE,fun g w vals q1 q2 q3=>(G9.2 g w vals q1 q2 q3).mono fun _ _ ⟨x,r,h',g',e1,⟨e2,FA,p1,p2⟩,rest⟩=>⟨x,r,h',g',e1,⟨by rw[e2,ez,Lm],by
   rw[p2,p1,ez,AH,AH,DZ (by rw[Lm,Lm];exact Ak _),AT (by rw[Lm,Lm];exact Ak _)]⟩,rest⟩⟩
 ·intro g w b cap F hr hF hH hb hc;rw[Lm]at hF hc⊢;have pM:F.toList=zs.map Go.Proofs.encStr:=La (by rw[←Mq,←EH];exact hr);have fb:F=zs.toArray.map Go.Proofs.encStr:=Iw.1 (by rw[pM];simp);have pN:Holds Go.Proofs.encStr w b 0 zs.toArray:=fun j hj=>by
   have:=hH j (by rw[fb];simpa using hj)
   refine⟨this.1.trans ?_,this.2⟩;rw[fb,DC _ j (by simpa using hj),DC _ j hj];simp
  have hcon:=Any.slices_Compact_string Tryz.layCompactStr b 0 cap zs w pN (by omega) (by omega);rw[MM]at hcon;refine hcon.mono ?_
  rintro e w' ⟨rfl,q,rfl⟩
  refine⟨rfl,(Lib.compact zs++List.replicate (zs.length-(Lib.compact zs).length) []).toArray.map Go.Proofs.encStr,_,q,#[],?_,rfl,?_,fun cs hcs=>?_,fun g w _=>?_,?_⟩
  ·rw[fb];simp;omega
  ·simp;omega
  ·obtain⟨x,_,rfl⟩:=Am.1 hcs;rfl
  ·rw[Mq];have e:((Lib.compact zs++List.replicate (zs.length-(Lib.compact zs).length) []).toArray.map Go.Proofs.encStr).toList=(Lib.compact zs++List.replicate (zs.length-(Lib.compact zs).length) []).map Go.Proofs.encStr:=by simp
   rw[e];exact MG _ _ _ _ fun x hx=>by
    obtain⟨z,_,rfl⟩:=Am.1 hx;rfl
  ·rw[PO,grow_empty,MM]
end Go.Eng
namespace Go.Eng
open Go.Proofs
abbrev nL(n:Nat):TM:=⟨[],[],[(2,n),(5,n)],[],[],[],[5],[],[],[],[2,3]⟩
theorem rD(l:List Sl)(hl:Cn l):Be Tryz.prog 89 [sl Ae l] (Aj [] Ab) fun r h'=>r=.msl 2000 l.length∧h'=Aj [(2000,.arr 4 (l.map Ae))] Ab:=by
 refine Cm (Mo (nL 4)) [(2,2000)] rfl CL hm rfl Tryz.func89 (by kernel_rfl) rfl (Nz rfl) (by kernel_rfl) rfl ?_;have Gs:Dp 4 (l.map Ae)∧([]:List (List AV)).length=0∧(([]:List (List AV)).length+(l.map Ae).length)*40≤140737488355328∧([]:List (List AV)).length+(l.map Ae).length≤9223372036854775807:=by
  refine⟨Ez (enc:=Ae) (n:=4) (fun _=>rfl) l,rfl,?_,?_⟩<;>simp only[AC,Lm]<;>unfold Cn at hl<;>omega
 have e1:AV.msl 2000 (([]:List (List AV)).length+(l.map Ae).length)=.msl 2000 l.length:=by simp
 refine Xi 0 ?_;refine Xi 0 ?_;refine Yi ?_ ?_
 ·intro _;refine Xi ⟨[(0,sl Ae l)],[],Ab⟩ (Yi ⟨Z1,Tv,Fh,Ax (by kernel_rfl)⟩ ?_)
  refine Xi 2 ?_;refine Yi Gs ?_;exact Xi _ (Yi (.refl _) (Yi e1 rfl))
 ·intro h;have h:l.map Ae=[]:=h;refine Yi ?_ ?_
  ·refine Xi ⟨[],[],Ab⟩ (Yi ⟨trivial,trivial,fun _=>.inl rfl,Ax (by kernel_rfl)⟩ ?_)
   refine Xi 2 ?_;exact Xi _ (Yi (.refl _) (Yi (show AV.msl 2000 0=_ by rw[Dr.1 h];rfl) (show Aj [(2000,HO.arr 4 [])] Ab=_ by rw[h])))
  ·refine Xi ⟨[(0,sl Ae l)],[],Ab⟩ (Yi ⟨Z1,Tv,Fh,Ax (by kernel_rfl)⟩ ?_)
   refine Xi 2 ?_;refine Yi Gs ?_;exact Xi _ (Yi (.refl _) (Yi e1 rfl))
theorem wz(l:List Rl)(hl:Cn l):Be Tryz.prog 76 [sl Ah l] (Aj [] Ab) fun r h'=>r=.msl 2000 l.length∧h'=Aj [(2000,.arr 9 (l.map Ah))] Ab:=by
 refine Cm (Mo (nL 9)) [(2,2000)] rfl CL hm rfl Tryz.func76 (by kernel_rfl) rfl (Nz rfl) (by kernel_rfl) rfl ?_;have Gs:Dp 9 (l.map Ah)∧([]:List (List AV)).length=0∧(([]:List (List AV)).length+(l.map Ah).length)*120≤140737488355328∧([]:List (List AV)).length+(l.map Ah).length≤9223372036854775807:=by
  refine⟨Ez (enc:=Ah) (n:=9) (fun _=>rfl) l,rfl,?_,?_⟩<;>simp only[AC,Lm]<;>unfold Cn at hl<;>omega
 have e1:AV.msl 2000 (([]:List (List AV)).length+(l.map Ah).length)=.msl 2000 l.length:=by simp
 refine Xi 0 ?_;refine Xi 0 ?_;refine Yi ?_ ?_
 ·intro _;refine Xi ⟨[(0,sl Ah l)],[],Ab⟩ (Yi ⟨Z1,Tv,Fh,Ax (by kernel_rfl)⟩ ?_)
  refine Xi 2 ?_;refine Yi Gs ?_;exact Xi _ (Yi (.refl _) (Yi e1 rfl))
 ·intro h;have h:l.map Ah=[]:=h;refine Yi ?_ ?_
  ·refine Xi ⟨[],[],Ab⟩ (Yi ⟨trivial,trivial,fun _=>.inl rfl,Ax (by kernel_rfl)⟩ ?_)
   refine Xi 2 ?_;exact Xi _ (Yi (.refl _) (Yi (show AV.msl 2000 0=_ by rw[Dr.1 h];rfl) (show Aj [(2000,HO.arr 9 [])] Ab=_ by rw[h])))
  ·refine Xi ⟨[(0,sl Ah l)],[],Ab⟩ (Yi ⟨Z1,Tv,Fh,Ax (by kernel_rfl)⟩ ?_)
   refine Xi 2 ?_;refine Yi Gs ?_;exact Xi _ (Yi (.refl _) (Yi e1 rfl))
theorem wA(l:List Rq)(hl:Cn l):Be Tryz.prog 77 [sl AN l] (Aj [] Ab) fun r h'=>r=.msl 2000 l.length∧h'=Aj [(2000,.arr 2 (l.map AN))] Ab:=by
 refine Cm (Mo (nL 2)) [(2,2000)] rfl CL hm rfl Tryz.func77 (by kernel_rfl) rfl (Nz rfl) (by kernel_rfl) rfl ?_;have Gs:Dp 2 (l.map AN)∧([]:List (List AV)).length=0∧(([]:List (List AV)).length+(l.map AN).length)*40≤140737488355328∧([]:List (List AV)).length+(l.map AN).length≤9223372036854775807:=by
  refine⟨Ez (enc:=AN) (n:=2) (fun _=>rfl) l,rfl,?_,?_⟩<;>simp only[AC,Lm]<;>unfold Cn at hl<;>omega
 have e1:AV.msl 2000 (([]:List (List AV)).length+(l.map AN).length)=.msl 2000 l.length:=by simp
 refine Xi 0 ?_;refine Xi 0 ?_;refine Yi ?_ ?_
 ·intro _;refine Xi ⟨[(0,sl AN l)],[],Ab⟩ (Yi ⟨Z1,Tv,Fh,Ax (by kernel_rfl)⟩ ?_)
  refine Xi 2 ?_;refine Yi Gs ?_;exact Xi _ (Yi (.refl _) (Yi e1 rfl))
 ·intro h;have h:l.map AN=[]:=h;refine Yi ?_ ?_
  ·refine Xi ⟨[],[],Ab⟩ (Yi ⟨trivial,trivial,fun _=>.inl rfl,Ax (by kernel_rfl)⟩ ?_)
   refine Xi 2 ?_;exact Xi _ (Yi (.refl _) (Yi (show AV.msl 2000 0=_ by rw[Dr.1 h];rfl) (show Aj [(2000,HO.arr 2 [])] Ab=_ by rw[h])))
  ·refine Xi ⟨[(0,sl AN l)],[],Ab⟩ (Yi ⟨Z1,Tv,Fh,Ax (by kernel_rfl)⟩ ?_)
   refine Xi 2 ?_;refine Yi Gs ?_;exact Xi _ (Yi (.refl _) (Yi e1 rfl))
theorem Be.to2{P:Program}{f:Nat}{args:List AV}{h0:Nat→HO}{r0:AV}{H0:Nat→HO}{Q' : AV→(Nat→HO)→Prop}(h:Be P f args h0 fun r h'=>r=r0∧h'=H0)(k:Q' r0 H0):Be P f args h0 Q' :=
 h.mono fun r h' q=>⟨r,.refl _,by rw[q.1,q.2];exact k⟩
theorem cb{f:Nat}{args:List AV}{b x:Bool}(h:b=x)(hc:PC f args (vb b)):PC f args (vb x):=h▸hc
theorem Jy{α:Type}{f:α→List AV}{l:List α}{i:Nat}(h:(i:Int)<((l.map f).length:Int)):i<l.length:=by rw[Lm]at h;omega
theorem Jx{α:Type}{f:α→List AV}{l:List α}{i:Nat}(h:¬(i:Int)<((l.map f).length:Int)):¬i<l.length:=by rw[Lm]at h;omega
theorem NP{α:Type}{f:α→List AV}{l:List α}{i:Nat}(h:i<l.length):(0:Int)≤(i:Int)∧(l.map f)[((i:Nat):Int).toNat]?=some (f l[i]):=⟨NU _,by rw[Ch,AG,Ge h];rfl⟩
theorem Pf{n z:Nat}{α:Type}{f:α→List AV}{O:List α}{x:List AV}(hx:x.length=n)(h:O.length≤2147483647)(hz:z≤65536) :
  Dp n [x]∧(O.map f).length=O.length∧((O.map f).length+([x]:List (List AV)).length)*z≤140737488355328∧(O.map f).length+([x]:List (List AV)).length≤9223372036854775807:=by
 refine⟨⟨hx,trivial⟩,Lm _,?_,?_⟩<;>rw[Lm]<;>simp only[At,AC]
 ·have:=Nat.mul_le_mul (show O.length+(0+1)≤2147483648 by omega) hz
  omega
 ·omega
theorem Uf{α:Type}{f:α→List AV}{O:List α}{x:α}{r n:Nat}:AV.slice (.id r n) (O.map f++[f x])=.slice (.id r n) ((O++[x]).map f):=by rw[AH];rfl
theorem T5{α:Type}{f:α→List AV}{O:List α}{x:α}{y:List AV}{n:Nat}:HO.tok n ((O.map f).length+([y]:List (List AV)).length)=.tok n (O++[x]).length:=by rw[Ad,Lm];rfl
abbrev hE(l:List Rl)(i:Nat)(r:Rl):List (List AV):=(l.map Ah).set i (over (Ah r) 4 [.junk])
theorem YV(l:List Rl)(i:Nat)(r:Rl):(hE l i r).length=l.length:=by simp
theorem pL{l:List Rl}{i:Nat}(h:i<l.length):(hE l i l[i])[i]?=some (over (Ah l[i]) 4 [.junk]):=by
 rw[TT (by rw[Lm];exact h)]
theorem jF{l:List Rl}{i:Nat}(h:i<l.length):(hE l i l[i]).set i (over (over (Ah l[i]) 4 [.junk]) 4 [.slice .none (l[i].reqs.map AN)])=l.map Ah:=by
 unfold hE;rw[List.set_set];refine CC fun k=>?_;rw[Qj];split
 ·rename_i e;subst e;rw[Az (by rw[Lm];exact h),AG,Ge h];rfl
 ·rfl
theorem ic{qs:List Rq}{k:Nat}(h:k<qs.length):(qs.map AN).set k (over (AN qs[k]) 1 [sl Aq qs[k].set])=qs.map AN:=by
 refine CC fun j=>?_;rw[Qj];split
 ·rename_i e;subst e;rw[Az (by rw[Lm];exact h),AG,Ge h];rfl
 ·rfl
set_option maxHeartbeats 4000000 in
theorem rC(l:List Rl)(hl:Cn l)(hq:∀r∈l,Cn r.reqs)(hs:∀r∈l,∀q∈r.reqs,Cn q.set):Be Tryz.prog 37 [sl Ah l] (Aj [] Ab) fun r h'=>r=.msl 2000 l.length∧h'=Aj [(2000,.arr 9 (l.map Ah))] Ab:=by
 refine Cm (Mo ⟨[],[],[],[],[],[],[],[],[],[(950011,10700)],[2,6,7,8,9,10,11]⟩) [(10700,2000)] rfl CL hm rfl Tryz.func37 (by kernel_rfl) rfl (Nz rfl) (by kernel_rfl) rfl ?_;refine Xi (.gen [] 1) (Yi rfl (Be.imp (wz l hl) ?_));intro v1 g1 q1;have gT:=q1.1;have gU:=q1.2;subst gT;subst gU;refine Xi ⟨[(3,.msl 10700 l.length)],[(10700,.arr 9 (l.map Ah))],Ab⟩ (Yi ⟨Z1,Z1,Fh,Ax (by kernel_rfl)⟩ ?_)
 refine Xi {q:Nat // q≤l.length} (Xi (fun q=>⟨[(3,.msl 10700 l.length),(9,vi l.length),(10,vi q.1)],[(10700,.arr 9 (l.map Ah))],Ab⟩) (Xi (fun q=>l.length-q.1) (Yi (Xi ⟨0,AM _⟩ ?_) ?_)))
 ·exact⟨Z3,Z1,Fh,Ax (by kernel_rfl)⟩
 intro⟨i,i1⟩;have i1:i≤l.length:=i1;refine Yi (fun h2=>?_) (fun h2=>?_)
 ·have h2:(i:Int)<(l.length:Int):=h2;have n2:i<l.length:=by omega
  have g2:l[i]?=some l[i]:=Ge n2;have ni:i<l.length:=by omega
  have hqi:l[i].reqs.length≤1073741824:=hq _ (Ao ni);refine Yi (show(0:Int)≤i∧(i:Int)<(l.length:Nat) by omega) ?_;refine Yi (show l.length=(l.map Ah).length by rw[Lm]) ?_;refine Xi (Ah l[i]) (Yi (Cg (Ge ni)) ?_);refine Xi (.gen [] 1) (Yi rfl (Be.imp (wA l[i].reqs (hq _ (Ao ni))) ?_));intro v5 g5 q5;have q5a:=q5.1;have q5b:=q5.2;subst q5a;subst q5b;refine Yi (show(0:Int)≤i∧(i:Int)<(l.length:Nat) by omega) ?_;refine Yi (show l.length=(l.map Ah).length by rw[Lm]) ?_;refine Xi (Ah l[i]) (Yi (Cg (Ge ni)) ?_);refine Yi (Nz rfl) ?_;refine Xi ⟨[(3,.msl 10700 l.length),(4,vi i),(9,vi l.length),(10,vi i)],[(10700,.hol 9 (hE l i l[i]) i 4 (.msl 12000 l[i].reqs.length)),(12000,.arr 2 (l[i].reqs.map AN))],Ab⟩ (Yi ⟨Z4,Z2,Fh,Ax (by kernel_rfl)⟩ ?_)
  refine Yi (show(0:Int)≤i∧(i:Int)<(l.length:Nat) by omega) ?_;refine Yi (show l.length=(hE l i l[i]).length∧(i:Int).toNat=i∧4=4 from⟨(YV l i l[i]).symm,rfl,rfl⟩) ?_;refine Xi {q:Nat // q≤l[i].reqs.length} (Xi (fun q=>⟨[(3,.msl 10700 l.length),(4,vi i),(9,vi l.length),(10,vi i),(28,vi (l[i].reqs.length:Nat)),(29,vi q.1)],[(10700,.hol 9 (hE l i l[i]) i 4 (.msl 12000 l[i].reqs.length)),(12000,.arr 2 (l[i].reqs.map AN))],Ab⟩) (Xi (fun q=>l[i].reqs.length-q.1) (Yi (Xi ⟨0,AM _⟩ ?_) ?_)))
  ·exact⟨Z6,Z2,Fh,Ax (by kernel_rfl)⟩
  intro⟨k,k1⟩;have k1:k≤l[i].reqs.length:=k1;refine Xi ⟨[(3,.msl 10700 l.length),(4,vi i),(9,vi l.length),(10,vi i),(28,vi (l[i].reqs.length:Nat)),(29,vi k)],[(10700,.hol 9 (hE l i l[i]) i 4 (.msl 12000 l[i].reqs.length)),(12000,.arr 2 (l[i].reqs.map AN))],Ab⟩ (Yi ⟨Z6,Z2,Fh,Ax (by kernel_rfl)⟩ ?_)
  refine Yi (fun h3=>?_) (fun h3=>?_)
  ·have h3:(k:Int)<((l[i].reqs.length:Nat):Int):=h3;have nk:k<l[i].reqs.length:=by omega
   refine Xi ⟨[(3,.msl 10700 l.length),(4,vi i),(9,vi l.length),(10,vi i),(28,vi (l[i].reqs.length:Nat)),(29,vi k)],[(10700,.hol 9 (hE l i l[i]) i 4 (.msl 12000 l[i].reqs.length)),(12000,.arr 2 (l[i].reqs.map AN))],Ab⟩ (Yi ⟨Z6,Z2,Fh,Ax (by kernel_rfl)⟩ ?_)
   refine Xi ⟨[(3,.msl 10700 l.length),(4,vi i),(5,vi k),(9,vi l.length),(10,vi i),(28,vi (l[i].reqs.length:Nat)),(29,vi k)],[(10700,.hol 9 (hE l i l[i]) i 4 (.msl 12000 l[i].reqs.length)),(12000,.arr 2 (l[i].reqs.map AN))],Ab⟩ (Yi ⟨Z7,Z2,Fh,Ax (by kernel_rfl)⟩ ?_)
   refine Yi (show(0:Int)≤i∧(i:Int)<(l.length:Nat) by omega) ?_;refine Yi (show l.length=(hE l i l[i]).length∧(i:Int).toNat=i∧4=4 from⟨(YV l i l[i]).symm,rfl,rfl⟩) ?_;refine Yi (show(0:Int)≤i∧(i:Int)<(l.length:Nat) by omega) ?_;refine Yi (show l.length=(hE l i l[i]).length∧(i:Int).toNat=i∧4=4 from⟨(YV l i l[i]).symm,rfl,rfl⟩) ?_;refine Yi (show(0:Int)≤k∧(k:Int)<(l[i].reqs.length:Nat) by omega) ?_;refine Yi (show l[i].reqs.length=(l[i].reqs.map AN).length by rw[Lm]) ?_;refine Xi (AN l[i].reqs[k]) (Yi (Cg (Ge nk)) ?_);refine Xi _ (Yi (s5 l[i].reqs[k].set (hs _ (Ao ni) _ (Ao nk))) ?_);refine Yi (show(0:Int)≤k∧(k:Int)<(l[i].reqs.length:Nat) by omega) ?_;refine Yi (show l[i].reqs.length=(l[i].reqs.map AN).length by rw[Lm]) ?_;refine Xi (AN l[i].reqs[k]) (Yi (Cg (Ge nk)) ?_);refine Yi (Nz rfl) ?_;refine Yi (by kernel_rfl) ?_;refine Xi ⟨[(3,.msl 10700 l.length),(4,vi i),(9,vi l.length),(10,vi i),(28,vi (l[i].reqs.length:Nat)),(29,vi k)],[(10700,.hol 9 (hE l i l[i]) i 4 (.msl 12000 l[i].reqs.length)),(12000,.arr 2 (l[i].reqs.map AN))],Ab⟩ (Yi ⟨Z6,⟨Zr,⟨(show(.arr 2 ((l[i].reqs.map AN).set k (over (AN l[i].reqs[k]) 1 [sl Aq l[i].reqs[k].set])):HO)=.arr 2 (l[i].reqs.map AN)from Ac (HO.arr 2) (ic nk)),rfl⟩,Tv⟩,Fh,Ax (by kernel_rfl)⟩ ?_)
   refine Yi (Ii k (by omega)) ?_;refine Xi ⟨k+1,nk⟩ ?_;exact⟨by show l[i].reqs.length-(k+1)<l[i].reqs.length-k;omega,Z6,Z2,Fh,Ax (by kernel_rfl)⟩
  have h3:¬((k:Int)<((l[i].reqs.length:Nat):Int)):=h3;refine Yi (show l[i].reqs.length=(l[i].reqs.map AN).length by rw[Lm]) ?_;refine Xi (over (Ah l[i]) 4 [.junk]) (Yi (pL ni) (Yi (Nz rfl) ?_));refine Xi ⟨[(3,.msl 10700 l.length),(9,vi l.length),(10,vi i)],[(10700,.arr 9 (l.map Ah))],Ab⟩ (Yi ⟨Z3,⟨⟨(show HO.arr 9 ((hE l i l[i]).set i (over (over (Ah l[i]) 4 [.junk]) 4 [.slice .none (l[i].reqs.map AN)]))=.arr 9 (l.map Ah)from Ac (HO.arr 9) (jF ni)),rfl⟩,Tv⟩,Fh,Ax (by kernel_rfl)⟩ ?_)
  refine Yi (Ii i (by omega)) ?_;refine Xi ⟨i+1,ni⟩ ?_;exact⟨Dl l.length i (by omega),Z3,Z1,Fh,Ax (by kernel_rfl)⟩
 have h2:¬((i:Int)<(l.length:Int)):=h2;have n2:¬i<l.length:=by omega
 exact Xi _ (Yi (.refl _) Zr)
theorem Um{n:Nat}:∀{l:List (List AV)},(∀c∈l,c.length=n)→Dp n l
 | [],_=>trivial
 |c::_,h=>⟨h c (Aa ..),Um fun d hd=>h d (Af _ hd)⟩
end Go.Eng
