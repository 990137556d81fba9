/- Lemmas for the claims of this seat, without a condition: part 22 (C65, C66, C67, C68, C69, C56, C57, C58, C59, C70, C71, C72, C73, LayStrs, O15, S17, O1, C0, O2, R1, R2, R3, R4, R5, C60, C61, C62, C63, C64, R6, R7, R8, R9, R10, R11, O3, R12, R13, O4, O5, O6, O7, O8, O9, O10, R14, R15, R16, R17, R18, R19, R20, R21, R22, R23, O11, O12, O13, O14). -/
import Derived.Test.YtddfphmpfnmknaaGreatDoorCA21
import Derived.Test.YtddfphmpfnmknaaGreatDoorCA17
import Derived.Test.YtddfphmpfnmknaaGreatDoorCA03
import Derived.Shelf.Sort.Plain
import Derived.Shelf.Slices.CompactS
import Derived.Ground.NamesProg
namespace Go.Eng
open Go.Proofs
theorem Lb:∀(y:List Rl) (acc:List ByteArray) (r:Rl),AO (y++[r]) acc=if(AO y acc).any (fun p=>decide (p=r.path))then AO y acc else AO y acc++[r.path]
 | [],acc,r=>rfl
 |s::y,acc,r=>by rw[IA,AO,AO,Lb y]
theorem EP:∀(y:List Rl) (acc:List ByteArray),acc.Nodup→(AO y acc).Nodup
 | [],_,h=>h
 |s::y,acc,h=>by
  rw[AO];refine EP y _ ?_;split
  ·exact h
  ·rename_i hn;rw[Gc];refine⟨h,by simp,fun a ha b hb e=>?_⟩;rw[Am]at hb;exact hn (N9.2 (by rw[←hb,←e];exact ha))
abbrev Ng(y:List Rl)(p:ByteArray):List (List AV):=(y.filter fun r=>decide (r.path=p)).map Ak
abbrev fo(y:List Rl)(q:ByteArray×Nat):Value×AV:=(.string q.1,.slice (.id (q.2+50) 9) (Ng y q.1))
abbrev Rn(y:List Rl):List (Value×AV):=(AO y []).zipIdx.map (fo y)
def Js(y:List Rl)(l:Nat):HO:=match(AO y [])[l]? with
 |some q=>.tok 9 (Ng y q).length
 |none=>.free
def UQ(y:List Rl)(j:Nat):HO:=bif Nat.ble 50 j then Js y (j-50)else .free
theorem Hv(y:List Rl)(l:Nat):UQ y (l+50)=Js y l:=by
 unfold UQ;rw[show Nat.ble 50 (l+50)=true by rw[CT];omega,Nat.add_sub_cancel];rfl
theorem nk(y:List Rl){j:Nat}(h:j<50):UQ y j=.free:=by
 unfold UQ;rw[show Nat.ble 50 j=false by rw[AM];intro hc;rw[CT]at hc;omega];rfl
theorem Iu(y:List Rl)(r:Rl)(q:ByteArray):Ng (y++[r]) q=if r.path=q then Ng y q++[Ak r]else Ng y q:=by
 unfold Ng;rw[Dc]
 by_cases h:r.path=q
 ·rw[Ao h,RH (by simpa using h)];simp
 ·rw[Ah h,RG (by simpa using h)];simp
theorem If{l:List ByteArray}{q:ByteArray×Nat}(h:q∈l.zipIdx):l[q.2]?=some q.1:=by
 obtain⟨a,b⟩:=q;exact Fu.1 h
open Classical in
theorem Mc{BW:List (Value×AV)}{k:Value}{a:AV}(h:∀a',(k,a')∉BW):ET BW k a=BW++[(k,a)]:=by
 unfold ET;rw[Ah (fun⟨a',h'⟩=>h a' h')]
open Classical in
theorem XZ{BW:List (Value×AV)}{k:Value}{a a' : AV}(h:(k,a')∈BW):ET BW k a=BW.map fun p=>if p.1=k then(k,a)else p:=by
 unfold ET;rw[Ao ⟨a',h⟩]
section
variable {y:List Rl}{r:Rl}{k:Nat}
theorem I5(h:(AO y [])[k]?=some r.path):AO (y++[r]) []=AO y []:=by
 rw[Lb,Ao (N9.2 (Ar h))]
theorem I4(h:r.path∉AO y []):AO (y++[r]) []=AO y []++[r.path]:=by
 rw[Lb,Ah (fun hc=>h (N9.1 hc))]
theorem I2{l:List ByteArray}(hd:l.Nodup){i j:Nat}{p:ByteArray}(h1:l[i]?=some p)(h2:l[j]?=some p):i=j:=by
 obtain⟨a1,a2⟩:=Ap.1 h1;obtain⟨b1,b2⟩:=Ap.1 h2;exact(List.getElem_inj hd).1 (a2.trans b2.symm)
open Classical in
theorem jC(h:(AO y [])[k]?=some r.path):ET (Rn y) (.string r.path) (.slice (.id (k+50) 9) (Ng y r.path++[Ak r]))=Rn (y++[r]):=by
 have hd:=EP y [] E9;have hm:fo y (r.path,k)∈Rn y:=Aj.2 ⟨_,Fu.2 h,rfl⟩;rw[XZ (a':=.slice (.id (k+50) 9) (Ng y r.path)) hm];unfold Rn;rw[I5 h,BB];refine A9 fun q hq=>?_;have hg:=If hq;obtain⟨q,j⟩:=q;show(if Value.string q=Value.string r.path then _ else _)=fo (y++[r]) (q,j);have hg:(AO y [])[j]?=some q:=hg
 by_cases he:q=r.path
 ·subst he
  have:j=k:=I2 hd hg h
  subst this;rw[Ao rfl];show _=(Value.string r.path,AV.slice (.id (j+50) 9) (Ng (y++[r]) r.path));rw[Iu,Ao rfl]
 ·rw[Ah (fun e=>he (by simpa using e))];show(Value.string q,AV.slice (.id (j+50) 9) (Ng y q))=(Value.string q,AV.slice (.id (j+50) 9) (Ng (y++[r]) q));rw[Iu,Ah (fun e=>he e.symm)]
theorem aF(h:r.path∉AO y []):Ng y r.path=[]:=by
 have:y.filter (fun s=>decide (s.path=r.path))=[]:=by
  rw[FJ];intro s hs he;exact h ((Hb y [] r.path).2 (.inr ⟨s,hs,Bv he⟩))
 unfold Ng;rw[this];rfl
theorem Xx(h:r.path∉AO y [])(a:AV):(Value.string r.path,a)∉Rn y:=by
 intro hc;obtain⟨q,h1,h2⟩:=Aj.1 hc;simp only[fo,FK,Value.string.injEq]at h2;exact h (by rw[←h2.1];exact Ar (If h1))
theorem jB(h:r.path∉AO y []):ET (Rn y) (.string r.path) (.slice (.id ((AO y []).length+50) 9) [Ak r])=Rn (y++[r]):=by
 rw[Mc (fun a=>Xx h a)];unfold Rn;rw[I4 h,List.zipIdx_append,Ax]
 congr 1
 ·refine A9 fun q hq=>?_;have hg:=If hq
  have:q.1≠r.path:=fun e=>h (by rw[←e];exact Ar hg)
  show(Value.string q.1,AV.slice (.id (q.2+50) 9) (Ng y q.1))=(Value.string q.1,AV.slice (.id (q.2+50) 9) (Ng (y++[r]) q.1));rw[Iu,Ah (fun e=>this e.symm)]
 ·show [_]=[(Value.string r.path,AV.slice (.id (0+(AO y []).length+50) 9) (Ng (y++[r]) r.path))];rw[Iu,Ao rfl,aF h,Be];rfl
theorem ft{p:ByteArray}{j:Nat}(h:(AO y [])[j]?=some p):(Value.string p,AV.slice (.id (j+50) 9) (Ng y p))∈Rn y∧∀b,(Value.string p,b)∈Rn y→b=AV.slice (.id (j+50) 9) (Ng y p):=by
 refine⟨Aj.2 ⟨(p,j),Fu.2 h,rfl⟩,fun b hb=>?_⟩;obtain⟨q,h1,h2⟩:=Aj.1 hb;simp only[fo,FK,Value.string.injEq]at h2;have hg:=If h1;rw[h2.1]at hg
 have:=I2 (EP y [] E9) hg h
 rw[←h2.2,h2.1,this]
theorem iD{p:ByteArray}{j:Nat}(h:(AO y [])[j]?=some p):Js y j=.tok 9 (Ng y p).length:=by
 unfold Js;rw[h]
theorem ld(h:(AO y [])[k]?=some r.path)(l:Nat):(bif Nat.beq (l+50) (k+50)then HO.tok 9 ((Ng y r.path).length+1)else Js y l)=Js (y++[r]) l:=by
 by_cases he:l=k
 ·subst he;rw[show Nat.beq (l+50) (l+50)=true from CK _];unfold Js;rw[I5 h,h];show HO.tok 9 _=HO.tok 9 (Ng (y++[r]) r.path).length;rw[Iu,Ao rfl,Ad];rfl
 ·rw[show Nat.beq (l+50) (k+50)=false by rw[AM];intro hc;have:=AI hc;omega];show Js y l=_;unfold Js;rw[I5 h];cases hq:(AO y [])[l]? with
  |none=>rfl
  |some q =>
   show HO.tok 9 (Ng y q).length=HO.tok 9 (Ng (y++[r]) q).length;rw[Iu,Ah];intro e;subst e;exact he (I2 (EP y [] E9) hq h)
theorem lc(h:r.path∉AO y [])(l:Nat):(bif Nat.beq (l+50) ((AO y []).length+50)then HO.tok 9 1 else Js y l)=Js (y++[r]) l:=by
 by_cases he:l=(AO y []).length
 ·subst he;rw[show Nat.beq ((AO y []).length+50) ((AO y []).length+50)=true from CK _];unfold Js;rw[I4 h];simp only[AZ (Al _),Gf,A5];show HO.tok 9 1=HO.tok 9 (Ng (y++[r]) r.path).length;rw[Iu,Ao rfl,aF h];rfl
 ·rw[show Nat.beq (l+50) ((AO y []).length+50)=false by rw[AM];intro hc;have:=AI hc;omega];show Js y l=_;unfold Js;rw[I4 h]
  by_cases hl:l<(AO y []).length
  ·rw[AX hl,Ge hl];show HO.tok 9 (Ng y (AO y [])[l]).length=HO.tok 9 (Ng (y++[r]) (AO y [])[l]).length;rw[Iu,Ah];intro e;exact h (by rw[e];exact AC hl)
  ·rw[A2 (by omega),A2 (by rw[Ad];simp;omega)]
end
theorem PE{h:Nat→HO}:∀{BW:List (Value×AV)},(∀p∈BW,Ue h p.2=true)→QD h BW=true
 | [],_=>rfl
 |p::r,hk=>by
  unfold QD;rw[hk p (Ab ..)];exact PE (fun q hq=>hk q (Ag _ hq))
theorem K6(y:List Rl){h:Nat→HO}(hh:∀l,h (l+50)=Js y l):QD h (Rn y)=true:=by
 refine PE fun p hp=>?_;obtain⟨q,h1,rfl⟩:=Aj.1 hp;show Re h (q.2+50)=true;unfold Re;rw[hh,iD (If h1)]
theorem Jd{y:List Rl}{h h' : Nat→HO}(hh:∀l,h (l+50)=Js y l)(j:Nat):UQ y j=.free∨(h j=UQ y j∧XI h' (UQ y j)=true):=by
 by_cases hj:j<50
 ·exact .inl (nk y hj)
 ·obtain⟨l,rfl⟩:∃l,j=l+50:=⟨j-50,by omega⟩
  right
  rw[Hv];refine⟨hh l,?_⟩;unfold Js;cases (AO y [])[l]?<;>rfl
theorem kQ{x:List Rl}(hx:AT x=0){i:Nat}(hi:i<x.length):ET ((x.take i).map SY) (QG (Fk x[i])) (.agg (Ak x[i]))=(x.take (i+1)).map SY:=by
 rw[Mc]
 ·rw[Bq,Ge hi,Ax];rfl
 intro a ha;obtain⟨r,hr,he,_⟩:=ap ha;obtain⟨j,hj,e2⟩:=CW.1 hr;rw[AD]at hj;rw[HS]at e2;have hp:=(Cp hx).2
 have:=(AY.1 hp) j i (by omega) hi (by omega)
 rw[e2]at this;exact H4 this he
abbrev rt:RK:=⟨[],[],[],[],[8,9],[9],[40],[],[],[],[8,9,10,11]⟩
abbrev zT:List AV:=[.v (.map none),.v (.map none)]
theorem js(x:List Rl)(ifs:List (List AV))(m9:PC 37 [Hi x ifs] (vi (AT x)))(h0:AT x≠0):dP x ifs:=by
 have ht:WB x=.tup [.agg [.cmap TU [],.cmap CM []],vi (AT x)]:=by unfold WB;rw[Ah h0]
 unfold dP;rw[ht];refine Ps rt Tryz.func41 rfl (Nz rfl) ?_;refine Xi 0 ?_;refine Xi 0 ?_;refine Yi (Nz rfl) ?_;refine Xi 0 ?_;refine Yi (Nz rfl) ?_;refine Xi .pure (Xi _ (Yi (m9) ?_));refine Xi 0 ?_;refine Yi ?_ ?_
 ·intro _;refine Xi 0 ?_;refine Yi (Nz rfl) ?_;refine Yi (Nz rfl) ?_;refine Yi (Nz rfl) ?_;exact .refl _
 ·intro h;exact absurd h (fun hc=>hc h0)
theorem Ha:∀(y:List Rl) (acc:List ByteArray),(AO y acc).length≤acc.length+y.length
 | [],acc=>by simp[AO]
 |r::y,acc=>by
  rw[AO];refine Br (Ha y _) ?_;split
  ·simp only[Au];omega
  ·simp only[Ad,Au,AE];omega
section
attribute [local irreducible] H8
theorem mQ(x:List Rl)(ifs:List (List AV))(m9:PC 37 [Hi x ifs] (vi (AT x)))(h0:AT x=0)(Cn:x.length≤256):dP x ifs:=by
 have ht:WB x=.tup [.agg [.cmap TU (x.map SY),.cmap CM ((AO x []).map (i9 x))],vi 0]:=by unfold WB;rw[Ao h0]
 unfold dP;rw[ht];rw[h0]at m9;refine Ps rt Tryz.func41 rfl (Nz rfl) ?_;refine Xi 0 ?_;refine Xi 0 ?_;refine Yi (Nz rfl) ?_;refine Xi 0 ?_;refine Yi (Nz rfl) ?_;refine Xi .pure (Xi _ (Yi (m9) ?_));refine Xi 0 ?_;refine Yi ?_ ?_
 ·intro hc;exact absurd (show(0:Int)≠0 from hc) (by decide)
 intro _;refine Xi 0 ?_;refine Xi {i:Nat // i≤x.length} (Xi (fun i=>⟨[(2,.ref 2 0),(4,.ref 4 0),(18,sl Ak x),(19,vi (x.map Ak).length),(20,vi i.1)],[(2,.cells zT),(4,.cells [.mref 8,.mref 9]),(8,.map TU ((x.take i.1).map SY)),(9,.mapU CM (Rn (x.take i.1)))],UQ (x.take i.1)⟩) (Xi (fun i=>x.length-i.1) (Yi (Xi ⟨0,AL _⟩ ?_) ?_)))
 ·refine⟨Z5,Z4,fun j=>.inl ?_,Tv⟩;show UQ [] j=.free;unfold UQ;cases Nat.ble 50 j<;>rfl
 intro⟨i,i1⟩;have i1:i≤x.length:=i1;refine Xi 0 ?_;refine Yi ?_ ?_
 ·intro h;have h:(i:Int)<(x.map Ak).length:=h;have h:i<x.length:=by simpa using h
  have hg:x[i]?=some x[i]:=Ge h;have Kx:x.take (i+1)=x.take i++[x[i]]:=by rw[Bq,hg];rfl
  refine Xi 0 ?_;refine Xi (Ak x[i]) (Yi (Yi (Nn i) (by simp[hg])) (Yi rfl ?_));refine Yi (Nz rfl) (Yi (Nz rfl) ?_);refine Xi ⟨[(2,.ref 2 0),(4,.ref 4 0),(7,.ref 7 0),(18,sl Ak x),(19,vi (x.map Ak).length),(20,vi i)],[(2,.cells zT),(4,.cells [.mref 8,.mref 9]),(7,.cells (Ak x[i])),(8,.map TU ((x.take i).map SY)),(9,.mapU CM (Rn (x.take i)))],UQ (x.take i)⟩ (Yi ?_ ?_)
  ·exact⟨Z6,⟨Zr,Zr,Zr,Zr,⟨rfl,K6 _ (Hv _)⟩,Tv⟩,Jd (Hv _),Tv⟩
  refine Xi 0 ?_;refine Yi (Nz rfl) ?_;refine Xi _ (Yi (mG x[i]) ?_);refine Yi (Nz rfl) ?_;refine Yi (by kernel_rfl) ?_;have e8:ET ((x.take i).map SY) (QG (Fk x[i])) (.agg (Ak x[i]))=(x.take (i+1)).map SY:=kQ h0 h;refine Xi ⟨[(2,.ref 2 0),(4,.ref 4 0),(7,.ref 7 0),(18,sl Ak x),(19,vi (x.map Ak).length),(20,vi i)],[(2,.cells zT),(4,.cells [.mref 8,.mref 9]),(7,.cells (Ak x[i])),(8,.map TU ((x.take (i+1)).map SY)),(9,.mapU CM (Rn (x.take i)))],UQ (x.take i)⟩ (Yi ?_ ?_)
  ·exact⟨Z6,⟨Zr,Zr,Zr,⟨Ac (HO.map TU) e8,rfl⟩,⟨rfl,K6 _ (Hv _)⟩,Tv⟩,Jd (Hv _),Tv⟩
  have hL:((x.take i).filter (fun r=>decide (r.path=x[i].path))).length≤256:=by
   have:=BA (fun r:Rl=>decide (r.path=x[i].path)) (x.take i)
   rw[AD]at this;omega
  have hP:∀l,UQ (x.take i) (l+50)=Js (x.take i) l:=Hv _;refine Dd (Classical.em (x[i].path∈AO (x.take i) [])) (fun hp=>?_) (fun hp=>?_)
  ·refine CD (B5.1 hp) (fun k hk=>?_);have hu:=ft hk;refine Xi 0 ?_;refine Or.inl (Xi (.slice (.id (k+50) 9) (Ng (x.take i) x[i].path)) (Yi hu ?_));refine Yi (Nz rfl) ?_;have hr:UQ (x.take i) (k+50)=.tok 9 (Ng (x.take i) x[i].path).length:=by rw[hP,iD hk]
   have hl:(Ng (x.take i) x[i].path).length≤256:=by rw[Lm];exact hL
   refine Qs (e:=41) (m:=8) (es2:=[Ak x[i]]) rfl rfl rfl (fun _ h=>h) hr ⟨rfl,trivial⟩ (by show(_+1)*120≤_;omega) (by show _+1≤_;omega) ?_;have qE:k<256:=by
    have:=(Ap.1 hk).1
    have:=Ha (x.take i) []
    rw[AD]at this;simp only[AE]at this;omega
   have nE:=hk;refine Yi (IV ⟨A0 _,A0 _,A0 _,A0 _,A0 _,A0 _,A0 _,A0 _,A0 _,A0 _,D7 (show 39<10000000 by decide),D7 (by show _+50<10000000;omega),D7 (show 9<10000000 by decide),trivial⟩ (by kernel_rfl)) ?_;have e9:ET (Rn (x.take i)) (.string x[i].path) (.slice (.id (k+50) 9) (Ng (x.take i) x[i].path++[Ak x[i]]))=Rn (x.take (i+1)):=by rw[Kx];exact jC nE
   have hG:∀l,(bif Nat.beq (l+50) (k+50)then HO.tok 9 ((Ng (x.take i) x[i].path).length+1)else Js (x.take i) l)=Js (x.take (i+1)) l:=by rw[Kx];exact ld nE
   refine Xi ⟨[(2,.ref 2 0),(4,.ref 4 0),(18,sl Ak x),(19,vi (x.map Ak).length),(20,vi i)],[(2,.cells zT),(4,.cells [.mref 8,.mref 9]),(8,.map TU ((x.take (i+1)).map SY)),(9,.mapU CM (Rn (x.take (i+1))))],UQ (x.take (i+1))⟩ (Yi ?_ ?_)
   ·refine⟨Z5,⟨Zr,Zr,Zr,⟨Ac (HO.mapU CM) e9,K6 _ (Hv _)⟩,Tv⟩,Jd (fun l=>?_),Tv⟩;show(bif Nat.beq (l+50) (k+50)then HO.tok 9 ((Ng (x.take i) x[i].path).length+1)else UQ (x.take i) (l+50))=_;rw[hP];exact hG l
   refine Xi 0 ?_;refine Yi (Ii i (by omega)) ?_;refine Xi ⟨i+1,by omega⟩ ?_;exact⟨Dl x.length i (by omega),Z5,⟨Zr,Zr,Zr,⟨rfl,K6 _ (Hv _)⟩,Tv⟩,Jd (Hv _),Tv⟩
  ·have nE:=hp;have Lu:(AO (x.take i) []).length≤256:=by
    have:=Ha (x.take i) []
    rw[AD]at this;simp only[AE]at this;omega
   have hn:=Xx hp;refine Xi ((AO (x.take i) []).length+50) ?_;refine Or.inr (Yi hn ?_);refine Yi (Nz rfl) ?_;have hr:UQ (x.take i) ((AO (x.take i) []).length+50)=.free:=by
    rw[hP];unfold Js;rw[A2 (Al _)]
   refine Qr (e:=41) (m:=8) (es2:=[Ak x[i]]) rfl rfl rfl (fun _ h=>h) hr rfl ⟨rfl,trivial⟩ (by show 1*120≤_;omega) (by show 1≤_;omega) ?_;refine Yi (IV ⟨A0 _,A0 _,A0 _,A0 _,A0 _,A0 _,A0 _,A0 _,A0 _,A0 _,D7 (show 39<10000000 by decide),D7 (by show _+50<10000000;omega),D7 (show 9<10000000 by decide),trivial⟩ (by kernel_rfl)) ?_;have e9:ET (Rn (x.take i)) (.string x[i].path) (.slice (.id ((AO (x.take i) []).length+50) 9) [Ak x[i]])=Rn (x.take (i+1)):=by rw[Kx];exact jB nE
   have hG:∀l,(bif Nat.beq (l+50) ((AO (x.take i) []).length+50)then HO.tok 9 1 else Js (x.take i) l)=Js (x.take (i+1)) l:=by rw[Kx];exact lc nE
   refine Xi ⟨[(2,.ref 2 0),(4,.ref 4 0),(18,sl Ak x),(19,vi (x.map Ak).length),(20,vi i)],[(2,.cells zT),(4,.cells [.mref 8,.mref 9]),(8,.map TU ((x.take (i+1)).map SY)),(9,.mapU CM (Rn (x.take (i+1))))],UQ (x.take (i+1))⟩ (Yi ?_ ?_)
   ·refine⟨Z5,⟨Zr,Zr,Zr,⟨Ac (HO.mapU CM) e9,K6 _ (Hv _)⟩,Tv⟩,Jd (fun l=>?_),Tv⟩;show(bif Nat.beq (l+50) ((AO (x.take i) []).length+50)then HO.tok 9 1 else UQ (x.take i) (l+50))=_;rw[hP];exact hG l
   refine Xi 0 ?_;refine Yi (Ii i (by omega)) ?_;refine Xi ⟨i+1,by omega⟩ ?_;exact⟨Dl x.length i (by omega),Z5,⟨Zr,Zr,Zr,⟨rfl,K6 _ (Hv _)⟩,Tv⟩,Jd (Hv _),Tv⟩
 ·intro h;have h:¬(i:Int)<(x.map Ak).length:=h;have h:¬i<x.length:=by simpa using h
  have et:x.take i=x:=AG (by omega);refine Xi ⟨[(2,.ref 2 0),(4,.ref 4 0)],[(2,.cells zT),(4,.cells [.mref 8,.mref 9]),(8,.map TU ((x.take i).map SY)),(9,.mapU CM (Rn (x.take i)))],UQ (x.take i)⟩ (Yi ?_ ?_)
  ·exact⟨Z2,⟨Zr,Zr,Zr,⟨rfl,K6 _ (Hv _)⟩,Tv⟩,Jd (Hv _),Tv⟩
  refine Xi 0 ?_;refine Yi (Nz rfl) ?_;refine Yi (Nz rfl) ?_;refine Yi (Nz rfl) ?_;have es:∀h:Nat→HO,Rg h (Rn (x.take i))=(AO x []).map (i9 x):=fun h=>by
   rw[et];unfold Rg Rn;rw[BB];refine CU fun j=>?_;rw[AF,AF,List.getElem?_zipIdx];cases (AO x [])[j]?<;>rfl
  have e1:(x.take i).map SY=x.map SY:=by rw[et]
  exact .of_eq (show AV.tup [.agg [.cmap TU ((x.take i).map SY),.cmap CM (Rg _ (Rn (x.take i)))],vi 0]=_ by rw[e1,es])
end
theorem c84(x:List Rl)(ifs:List (List AV))(hx:∀r∈x,JX r):dP x ifs:=by
 by_cases h0:AT x=0
 ·exact mQ x ifs (lr VK x ifs hx) h0 (NI h0).1
 ·exact js x ifs (lr VK x ifs hx) h0
abbrev vX(n:Nat):RK:=⟨[],[(2,n)],[],[],[],[],[5],[],[],[],[2,3]⟩
theorem pK(l:List Sl)(hl:CO l):A3 Tryz.prog 66 [sl Ae l] (Ai [] Aa) fun r h'=>r=.slice (.id 2000 4) (l.map Ae)∧h'=Ai [(2000,.tok 4 (l.map Ae).length)] Aa:=by
 refine BX (LC (vX 4)) [(2,2000)] rfl Co hm rfl Tryz.func66 (by kernel_rfl) rfl (Nz rfl) (by kernel_rfl) rfl ?_;have He:De 4 (l.map Ae)∧([]:List (List AV)).length=0∧(([]:List (List AV)).length+(l.map Ae).length)*40≤140737488355328∧([]:List (List AV)).length+(l.map Ae).length≤9223372036854775807:=by
  refine⟨Fi (enc:=Ae) (n:=4) (fun _=>rfl) l,rfl,?_,?_⟩<;>simp only[AE,Lm]<;>unfold CO at hl<;>omega
 have e2:HO.tok 4 (([]:List (List AV)).length+(l.map Ae).length)=.tok 4 (l.map Ae).length:=by rw[AE,Be]
 have e3:AV.slice (.id 2000 4) ([]++l.map Ae)=.slice (.id 2000 4) (l.map Ae):=rfl;refine Xi 0 ?_;refine Xi 0 ?_;refine Yi ?_ ?_
 ·intro _;refine Xi ⟨[(0,sl Ae l)],[],Aa⟩ (Yi ⟨Z1,Tv,Fh,Aw (by kernel_rfl)⟩ ?_)
  refine Xi 2 ?_;refine Yi He ?_;exact Xi _ (Yi (.refl _) (Yi e3 (Ac (fun o=>Ai [(2000,o)] Aa) e2)))
 ·intro h;have h:l.map Ae=[]:=h;refine Yi ?_ ?_
  ·refine Xi ⟨[],[],Aa⟩ (Yi ⟨trivial,trivial,fun _=>.inl rfl,Aw (by kernel_rfl)⟩ ?_)
   refine Xi 0 ?_;exact Xi _ (Yi (.refl _) (Yi (show AV.slice (.id 2000 4) []=_ by rw[h]) (show Ai [(2000,HO.tok 4 0)] Aa=_ by rw[h];rfl)))
  ·refine Xi ⟨[(0,sl Ae l)],[],Aa⟩ (Yi ⟨Z1,Tv,Fh,Aw (by kernel_rfl)⟩ ?_)
   refine Xi 2 ?_;refine Yi He ?_;exact Xi _ (Yi (.refl _) (Yi e3 (Ac (fun o=>Ai [(2000,o)] Aa) e2)))
def Mm(q:Rq):Bool:=decide (q.path.size≤100)&&decide (q.set.length≤8)
def F7(l:List Rq):Bool:=l.all Mm&&decide (l.length≤20)
theorem xh(l:List Rq)(hl:CO l):PC 34 [sl AK l] (vb (F7 l)):=by
 unfold CO at hl;refine Ps Gl Tryz.func34 rfl (Nz rfl) ?_;refine Xi {i:Nat // i≤l.length∧∀j (hj:j<l.length),j<i→Mm l[j]=true} (Xi (fun i=>⟨[(0,sl AK l),(3,vi i.1)],[],Aa⟩) (Xi (fun i=>l.length-i.1) (Yi (Xi ⟨0,AL _,fun j _ h=>by omega⟩ ?_) ?_)))
 ·exact⟨Z2,Tv,Fh,Tv⟩
 intro⟨i,h1,h2⟩;refine Yi ?_ ?_
 ·intro h;have h:(i:Int)<(l.map AK).length:=h;have h:i<l.length:=by simpa using h
  have hg:l[i]?=some l[i]:=Ge h;have no:Mm l[i]=false→false=F7 l:=fun e=>by
   unfold F7
   have:l.all Mm=false:=by
    rw[AM];intro ha
    have:=Bk.1 ha _ (AC h)
    rw[e]at this;cases this
   rw[this];rfl
  refine Xi (AK l[i]) (Yi (Yi (Nn i) (by simp[hg])) (Yi rfl ?_));refine Yi ?_ ?_
  ·intro h3;have h3:(100:Int)<((l[i].path.size:Nat):Int):=h3;exact .of_eq (Ac vb (no (by unfold Mm;rw[Ay (by omega)];rfl)))
  intro h3;have h3:¬(100:Int)<((l[i].path.size:Nat):Int):=h3;refine Xi (AK l[i]) (Yi (Yi (Nn i) (by simp[hg])) (Yi rfl ?_));refine Yi ?_ ?_
  ·intro h4;have h4:(8:Int)<((l[i].set.map Aq).length:Int):=h4;rw[Lm]at h4;exact .of_eq (Ac vb (no (by unfold Mm;rw[Ay (by omega:¬l[i].set.length≤8),Ec])))
  intro h4;have h4:¬(8:Int)<((l[i].set.map Aq).length:Int):=h4;have h5:l[i].set.length≤8:=by rw[Lm]at h4;omega
  refine Yi (Ii i (by omega)) ?_;refine Xi ⟨i+1,by omega,fun j hj L3=>?_⟩ ?_
  ·rcases EF j i with z | z
   ·exact h2 j hj z
   ·have:j=i:=by omega
    subst this;unfold Mm;rw[AA (by omega),AA h5];rfl
  ·exact⟨Dl l.length i (by omega),Z2,Tv,Fh,Tv⟩
 ·intro h;have h:¬(i:Int)<(l.map AK).length:=h;have h:¬i<l.length:=by simpa using h
  have ha:l.all Mm=true:=Bk.2 fun q hq=>by
   obtain⟨j,hj,rfl⟩:=Fz hq;exact h2 j hj (by omega)
  refine Yi ?_ ?_
  ·intro h3;have h3:((l.map AK).length:Int)≤20:=h3;rw[Lm]at h3;exact .of_eq (Ac vb (show true=F7 l by unfold F7;rw[ha,AA (by omega)];rfl))
  ·intro h3;have h3:¬((l.map AK).length:Int)≤20:=h3;rw[Lm]at h3;exact .of_eq (Ac vb (show false=F7 l by unfold F7;rw[Ay (by omega),Ec]))
def IG(r:Rl):Bool:=decide (r.path.size≤100)&&decide (r.arch.size≤100)&&decide (r.ifc.size≤100)&&decide (r.cert.size≤100)&&F7 r.reqs
def Gn(x:List Rl)(n:Nat):Bool:=x.all IG&&decide (x.length≤n)
theorem yX(x:List Rl)(n:Nat)(hl:CO x)(hr:∀r∈x,CO r.reqs):PC 33 [sl Ak x,vi n] (vb (Gn x n)):=by
 unfold CO at hl;refine Ps Gl Tryz.func33 rfl (Nz rfl) ?_;refine Xi {i:Nat // i≤x.length∧∀j (hj:j<x.length),j<i→IG x[j]=true} (Xi (fun i=>⟨[(0,sl Ak x),(1,vi n),(5,vi i.1)],[],Aa⟩) (Xi (fun i=>x.length-i.1) (Yi (Xi ⟨0,AL _,fun j _ h=>by omega⟩ ?_) ?_)))
 ·exact⟨Z3,Tv,Fh,Tv⟩
 intro⟨i,h1,h2⟩;refine Yi ?_ ?_
 ·intro h;have h:(i:Int)<(x.map Ak).length:=h;have h:i<x.length:=by simpa using h
  have hg:x[i]?=some x[i]:=Ge h;have no:IG x[i]=false→false=Gn x n:=fun e=>by
   unfold Gn
   have:x.all IG=false:=by
    rw[AM];intro ha
    have:=Bk.1 ha _ (AC h)
    rw[e]at this;cases this
   rw[this];rfl
  have hc:=xh x[i].reqs (hr _ (AC h));refine Xi (Ak x[i]) (Yi (Yi (Nn i) (by simp[hg])) (Yi rfl ?_));refine Yi ?_ ?_
  ·intro h3;have h3:(100:Int)<((x[i].path.size:Nat):Int):=h3;exact .of_eq (Ac vb (no (by unfold IG;rw[Ay (by omega:¬x[i].path.size≤100)];simp)))
  intro h3;have h3:¬(100:Int)<((x[i].path.size:Nat):Int):=h3;refine Xi (Ak x[i]) (Yi (Yi (Nn i) (by simp[hg])) (Yi rfl ?_));refine Yi ?_ ?_
  ·intro h4;have h4:(100:Int)<((x[i].arch.size:Nat):Int):=h4;exact .of_eq (Ac vb (no (by unfold IG;rw[Ay (by omega:¬x[i].arch.size≤100)];simp)))
  intro h4;have h4:¬(100:Int)<((x[i].arch.size:Nat):Int):=h4;refine Xi (Ak x[i]) (Yi (Yi (Nn i) (by simp[hg])) (Yi rfl ?_));refine Yi ?_ ?_
  ·intro h5;have h5:(100:Int)<((x[i].ifc.size:Nat):Int):=h5;exact .of_eq (Ac vb (no (by unfold IG;rw[Ay (by omega:¬x[i].ifc.size≤100)];simp)))
  intro h5;have h5:¬(100:Int)<((x[i].ifc.size:Nat):Int):=h5;refine Xi (Ak x[i]) (Yi (Yi (Nn i) (by simp[hg])) (Yi rfl ?_));refine Yi ?_ ?_
  ·intro h6;have h6:(100:Int)<((x[i].cert.size:Nat):Int):=h6;exact .of_eq (Ac vb (no (by unfold IG;rw[Ay (by omega:¬x[i].cert.size≤100)];simp)))
  intro h6;have h6:¬(100:Int)<((x[i].cert.size:Nat):Int):=h6;refine Xi (Ak x[i]) (Yi (Yi (Nn i) (by simp[hg])) (Yi rfl ?_));refine Dd (Bt (F7 x[i].reqs)) (fun e=>?_) (fun e=>?_)
  rotate_left
  ·rw[e]at hc;refine Xi .pure (Xi _ (Yi (hc) ?_));exact .of_eq (Ac vb (no (by unfold IG;rw[e,Ec])))
  rw[e]at hc;refine Xi .pure (Xi _ (Yi (hc) ?_));refine Yi (Ii i (by omega)) ?_;refine Xi ⟨i+1,by omega,fun j hj L3=>?_⟩ ?_
  ·rcases EF j i with z | z
   ·exact h2 j hj z
   ·have:j=i:=by omega
    subst this;unfold IG;rw[AA (by omega:x[j].path.size≤100),AA (by omega:x[j].arch.size≤100),AA (by omega:x[j].ifc.size≤100),AA (by omega:x[j].cert.size≤100),e];rfl
  ·exact⟨Dl x.length i (by omega),Z3,Tv,Fh,Tv⟩
 ·intro h;have h:¬(i:Int)<(x.map Ak).length:=h;have h:¬i<x.length:=by simpa using h
  have ha:x.all IG=true:=Bk.2 fun q hq=>by
   obtain⟨j,hj,rfl⟩:=Fz hq;exact h2 j hj (by omega)
  refine Yi ?_ ?_
  ·intro h3;have h3:((x.map Ak).length:Int)≤n:=h3;rw[Lm]at h3;exact .of_eq (Ac vb (show true=Gn x n by unfold Gn;rw[ha,AA (by omega)];rfl))
  ·intro h3;have h3:¬((x.map Ak).length:Int)≤n:=h3;rw[Lm]at h3;exact .of_eq (Ac vb (show false=Gn x n by unfold Gn;rw[Ay (by omega),Ec]))
theorem c11(x:List Rl)(ifs:List (List AV))(roots:List Rq)(hl:CO x)(hr:∀r∈x,CO r.reqs)(hq:CO roots):PC 10 [Hi x ifs,sl AK roots] (vb (Gn x 16&&F7 roots)):=by
 have h1:=yX x 16 hl hr;have h2:=xh roots hq;cases e:Gn x 16 with
 |true =>
  rw[e]at h1;refine Ps Gl Tryz.func10 rfl (Nz rfl) ?_;refine Xi .pure (Xi _ (Yi (h1) ?_));refine Xi .pure (Xi _ (Yi (h2) ?_));exact .refl _
 |false =>
  rw[e]at h1;refine Ps Gl Tryz.func10 rfl (Nz rfl) ?_;refine Xi .pure (Xi _ (Yi (h1) ?_));exact .refl _
structure lk(x:List Rl)(roots:List Rq):Prop where
 ix:CO x
 rs:CO roots
 rel:∀r∈x,CO r.reqs∧JX r
 rq:∀q∈roots,N2 q
theorem lk.x{x:List Rl}{roots:List Rq}(h:lk x roots):∀r∈x,JX r:=fun r hr=>(h.rel r hr).2
theorem lk.c11{x:List Rl}{roots:List Rq}(h:lk x roots)(ifs:List (List AV)):PC 10 [Hi x ifs,sl AK roots] (vb (Gn x 16&&F7 roots)) :=
 Go.Eng.c11 x ifs roots h.ix (fun r hr=>(h.rel r hr).1) h.rs
end Go.Eng
namespace Go.Proofs
open Go.Shelf
def Tryz.laySortStr_ren:Go.Shelf.Ren:=⟨fun | 190=>76 | 125=>98 | 258=>108 | 128=>137 | 129=>138 | 302=>148 | 303=>149 | 304=>150 | 305=>151 | 306=>152 | 307=>153 | 308=>154 | 309=>155 | 310=>156 | 333=>197 | 329=>186 | 330=>187 | 334=>198 | 335=>199 | 336=>113 | 344=>226 | n=>n,fun | 31=>139 | 9=>9 | 3=>3 | 46=>174 | 0=>0 | 51=>211 | 53=>213 | 4=>4 | 183=>205 | 182=>204 | 131=>110 | 5=>5 | 218=>245 | 222=>249 | 228=>274 | 229=>275 | n=>n,fun | n=>n⟩
theorem Tryz.laySortStr:Go.Proofs.Lays.n190 Tryz.prog Tryz.laySortStr_ren:={
 mixed:=by kernel_rfl
 f125:=Tryz.func98.trans (congrArg some (by kernel_rfl))
 f128:=Tryz.func137.trans (congrArg some (by kernel_rfl))
 f129:=Tryz.func138.trans (congrArg some (by kernel_rfl))
 f190:=Tryz.func76.trans (congrArg some (by kernel_rfl))
 f258:=Tryz.func108.trans (congrArg some (by kernel_rfl))
 f302:=Tryz.func148.trans (congrArg some (by kernel_rfl))
 f303:=Tryz.func149.trans (congrArg some (by kernel_rfl))
 f304:=Tryz.func150.trans (congrArg some (by kernel_rfl))
 f305:=Tryz.func151.trans (congrArg some (by kernel_rfl))
 f306:=Tryz.func152.trans (congrArg some (by kernel_rfl))
 f307:=Tryz.func153.trans (congrArg some (by kernel_rfl))
 f308:=Tryz.func154.trans (congrArg some (by kernel_rfl))
 f309:=Tryz.func155.trans (congrArg some (by kernel_rfl))
 f310:=Tryz.func156.trans (congrArg some (by kernel_rfl))
 f329:=Tryz.func186.trans (congrArg some (by kernel_rfl))
 f330:=Tryz.func187.trans (congrArg some (by kernel_rfl))
 f333:=Tryz.func197.trans (congrArg some (by kernel_rfl))
 f334:=Tryz.func198.trans (congrArg some (by kernel_rfl))
 f335:=Tryz.func199.trans (congrArg some (by kernel_rfl))
 f336:=Tryz.func113.trans (congrArg some (by kernel_rfl))
 f344:=Tryz.func226.trans (congrArg some (by kernel_rfl))
 t0:=Tryz.underlying0
 a0:=Tryz.isAgg0
 z0:=Tryz.sizeOf0
 v0:=Tryz.zeroValue0
 t3:=Tryz.underlying3
 a3:=Tryz.isAgg3
 z3:=Tryz.sizeOf3
 v3:=Tryz.zeroValue3
 t4:=Tryz.underlying4
 a4:=Tryz.isAgg4
 z4:=Tryz.sizeOf4
 v4:=Tryz.zeroValue4
 t5:=Tryz.underlying5
 a5:=Tryz.isAgg5
 z5:=Tryz.sizeOf5
 v5:=Tryz.zeroValue5
 t9:=Tryz.underlying9
 a9:=Tryz.isAgg9
 z9:=Tryz.sizeOf9
 v9:=Tryz.zeroValue9
 t31:=Tryz.underlying139
 a31:=Tryz.isAgg139
 z31:=Tryz.sizeOf139
 v31:=Tryz.zeroValue139
 t46:=Tryz.underlying174
 a46:=Tryz.isAgg174
 z46:=Tryz.sizeOf174
 v46:=Tryz.zeroValue174
 t51:=Tryz.underlying211
 a51:=Tryz.isAgg211
 z51:=Tryz.sizeOf211
 v51:=Tryz.zeroValue211
 t53:=Tryz.underlying213
 a53:=Tryz.isAgg213
 z53:=Tryz.sizeOf213
 v53:=Tryz.zeroValue213
 t131:=Tryz.underlying110
 a131:=Tryz.isAgg110
 z131:=Tryz.sizeOf110
 v131:=Tryz.zeroValue110
 t182:=Tryz.underlying204
 a182:=Tryz.isAgg204
 z182:=Tryz.sizeOf204
 v182:=Tryz.zeroValue204
 t183:=Tryz.underlying205
 a183:=Tryz.isAgg205
 z183:=Tryz.sizeOf205
 v183:=Tryz.zeroValue205
 t218:=Tryz.underlying245
 a218:=Tryz.isAgg245
 z218:=Tryz.sizeOf245
 v218:=Tryz.zeroValue245
 t222:=Tryz.underlying249
 a222:=Tryz.isAgg249
 z222:=Tryz.sizeOf249
 v222:=Tryz.zeroValue249
 t228:=Tryz.underlying274
 a228:=Tryz.isAgg274
 z228:=Tryz.sizeOf274
 v228:=Tryz.zeroValue274
 t229:=Tryz.underlying275
 a229:=Tryz.isAgg275
 z229:=Tryz.sizeOf275
 v229:=Tryz.zeroValue275 }
def Tryz.layCompactStr_ren:Go.Shelf.Ren:=⟨fun | 194=>78 | n=>n,fun | 31=>139 | 9=>9 | 3=>3 | 4=>4 | 0=>0 | n=>n,fun | n=>n⟩
theorem Tryz.layCompactStr:Go.Proofs.Lays.n194 Tryz.prog Tryz.layCompactStr_ren:={
 mixed:=by kernel_rfl
 f194:=Tryz.func78.trans (congrArg some (by kernel_rfl))
 t0:=Tryz.underlying0
 a0:=Tryz.isAgg0
 z0:=Tryz.sizeOf0
 v0:=Tryz.zeroValue0
 t3:=Tryz.underlying3
 a3:=Tryz.isAgg3
 z3:=Tryz.sizeOf3
 v3:=Tryz.zeroValue3
 t4:=Tryz.underlying4
 a4:=Tryz.isAgg4
 z4:=Tryz.sizeOf4
 v4:=Tryz.zeroValue4
 t9:=Tryz.underlying9
 a9:=Tryz.isAgg9
 z9:=Tryz.sizeOf9
 v9:=Tryz.zeroValue9
 t31:=Tryz.underlying139
 a31:=Tryz.isAgg139
 z31:=Tryz.sizeOf139
 v31:=Tryz.zeroValue139 }
end Go.Proofs
namespace Go.Eng
open Go.Proofs Go.Shelf Go.RowKit Go.Lib Go.Sort
abbrev Qt(s:ByteArray):List UInt8:=s.data.toList
abbrev ZQ(l:List UInt8):ByteArray:=⟨l.toArray⟩
theorem jp(s:ByteArray):ZQ (Qt s)=s:=by cases s;simp
theorem My(zs:List (List UInt8)):((zs.map ZQ).map DC).flatten=(zs.map Go.Proofs.encStr).map AV.v:=by
 induction zs with
 |nil=>rfl
 |cons z zs ih=>rw[AH,AH,Bm,ih];rfl
theorem VJ(ss:List ByteArray):(ss.map Qt).map ZQ=ss:=by
 rw[BB,show ZQ ∘ Qt=id from funext jp,JD]
theorem vQ(ss t:List ByteArray)(hl:CO ss)(Dr:ss≠[])(hp:t.Perm ss)(ht:(t.map Qt).Pairwise fun a b=>a≤b) :
  A3 Tryz.prog 76 [.msl 1000 ss.length] (Ai [(1000,.arr 1 (ss.map DC))] Aa) fun r h'=>r=.tup []∧h'=Ai [(1000,.arr 1 (t.map DC))] Aa:=by
 have hl:ss.length≤1073741824:=hl;have hE:F3 Tryz.prog 76:=dD 76 Tryz.func76 (by kernel_rfl) rfl;obtain⟨zs,hz⟩:∃zs,zs=ss.map Qt:=⟨_,rfl⟩;have EC:ss=zs.map ZQ:=by rw[hz,VJ]
 have G8:=Pp (P:=Tryz.prog) (f:=76) (es:=ss.map DC) (sz:=1) (rest:=[]) (Q:=fun Fy=>Fy=t.map DC) hE ?_ ?_
 ·rw[Lm]at G8;refine⟨hE,fun g w vals q1 q2 q3=>(G8.2 g w vals q1 q2 q3).mono fun _ _ ⟨v,r,h',g',e1,⟨e2,Fy,p1,p3⟩,rest⟩=>⟨v,r,h',g',e1,⟨e2,by rw[p3,p1]⟩,rest⟩⟩
 ·intro e;exact absurd (D5.1 e) Dr
 ·intro g w b cap F hr hF hH hb;have qb:F.toList=zs.map Go.Proofs.encStr:=Lg (by rw[←My,←EC];exact hr);have fu:F=zs.toArray.map Go.Proofs.encStr:=Ix.1 (by rw[qb];simp);have MU:zs.length=ss.length:=by rw[hz,Lm]
  have qc:Holds Go.Proofs.encStr w b 0 zs.toArray:=fun j hj=>by
   have:=hH j (by rw[fu];simpa using hj)
   refine⟨this.1.trans ?_,this.2⟩;rw[fu,Dq _ j (by simpa using hj),Dq _ j hj];simp
  have hc:=Any.slices_Sort_string Tryz.laySortStr b 0 cap zs w qc hb (by omega);have htz:(zs.mergeSort fun x y=>decide (x≤y))=t.map Qt:=by
   have IM:(zs.mergeSort fun x y=>decide (x≤y)).Perm zs:=List.mergeSort_perm _ _;have qX:=List.pairwise_mergeSort (le:=fun x y:List UInt8=>decide (x≤y)) (fun a b c h1 h2=>by simp only[As]at *;exact List.le_trans h1 h2) (fun a b=>by simp only[Cj,As];exact List.le_total a b) zs;refine List.Perm.eq_of_pairwise (le:=fun a b=>a≤b) (fun a b _ _ h k=>List.le_antisymm h k) (qX.imp fun h=>Bv h) ht (IM.trans ?_);rw[hz];exact(hp.map Qt).symm
  rw[htz,MU]at hc;rw[Lm];refine hc.mono ?_
  rintro e w' ⟨rfl,n,os,rfl⟩
  have Dz:t.length=ss.length:=hp.length_eq;refine⟨rfl,(t.map Qt).toArray.map Go.Proofs.encStr,t.map DC,n,os,?_,rfl,by simp[Dz],fun cs hcs=>?_,fun g w _=>?_,by rw[PQ]⟩
  ·rw[fu];simp[Dz,MU]
  ·obtain⟨x,_,rfl⟩:=Aj.1 hcs;rfl
  ·have e1:t.map DC=((t.map Qt).map ZQ).map DC:=by rw[VJ]
   rw[e1,My];have e:(((t.map Qt).toArray.map Go.Proofs.encStr).toList)=(t.map Qt).map Go.Proofs.encStr:=by simp
   rw[e];exact MP _ _ _ _ fun x hx=>by
    obtain⟨z,_,rfl⟩:=Aj.1 hx;rfl
def BU(ss:List ByteArray):List ByteArray:=(Lib.compact (ss.map Qt)).map ZQ
theorem Qw(zs:List (List UInt8)):(Lib.compact zs).length≤zs.length:=by
 unfold Lib.compact Lib.compactUpTo;rw[Lm];exact Br (BA _ _) (by rw[Qn];exact Al _)
theorem vR(ss:List ByteArray)(hl:CO ss)(Dr:ss≠[]) :
  A3 Tryz.prog 78 [.msl 1000 ss.length] (Ai [(1000,.arr 1 (ss.map DC))] Aa) fun r h'=>r=.msl 2000 (BU ss).length∧h'=Ai [(1000,.dead),(2000,.arr 1 ((BU ss).map DC))] Aa:=by
 have hl:ss.length≤1073741824:=hl;have hE:F3 Tryz.prog 78:=dD 78 Tryz.func78 (by kernel_rfl) rfl;obtain⟨zs,hz⟩:∃zs,zs=ss.map Qt:=⟨_,rfl⟩;have EC:ss=zs.map ZQ:=by rw[hz,VJ]
 have MU:zs.length=ss.length:=by rw[hz,Lm]
 have hcl:=Qw zs;have G8:=Up (P:=Tryz.prog) (f:=78) (es:=ss.map DC) (sz:=1) (rest:=[]) (n':=(Lib.compact zs).length) (Q:=fun Fy=>Fy=((Lib.compact zs++List.replicate (zs.length-(Lib.compact zs).length) []).map ZQ).map DC) hE (fun e=>Dr (D5.1 e)) (by rw[Lm];omega) ?_
 ·rw[Lm]at G8;have ez:BU ss=(Lib.compact zs).map ZQ:=by unfold BU;rw[hz]
  refine⟨hE,fun g w vals q1 q2 q3=>(G8.2 g w vals q1 q2 q3).mono fun _ _ ⟨x,r,h',g',e1,⟨e2,Fy,p1,p2⟩,rest⟩=>⟨x,r,h',g',e1,⟨by rw[e2,ez,Lm],by
   rw[p2,p1,ez,Ax,Ax,G2 (by rw[Lm,Lm];exact Al _),AG (by rw[Lm,Lm];exact Al _)]⟩,rest⟩⟩
 ·intro g w b cap F hr hF hH hb hc;rw[Lm]at hF hc⊢;have qb:F.toList=zs.map Go.Proofs.encStr:=Lg (by rw[←My,←EC];exact hr);have fu:F=zs.toArray.map Go.Proofs.encStr:=Ix.1 (by rw[qb];simp);have qc:Holds Go.Proofs.encStr w b 0 zs.toArray:=fun j hj=>by
   have:=hH j (by rw[fu];simpa using hj)
   refine⟨this.1.trans ?_,this.2⟩;rw[fu,Dq _ j (by simpa using hj),Dq _ j hj];simp
  have hcon:=Any.slices_Compact_string Tryz.layCompactStr b 0 cap zs w qc (by omega) (by omega);rw[MU]at hcon;refine hcon.mono ?_
  rintro e w' ⟨rfl,q,rfl⟩
  refine⟨rfl,(Lib.compact zs++List.replicate (zs.length-(Lib.compact zs).length) []).toArray.map Go.Proofs.encStr,_,q,#[],?_,rfl,?_,fun cs hcs=>?_,fun g w _=>?_,?_⟩
  ·rw[fu];simp;omega
  ·simp;omega
  ·obtain⟨x,_,rfl⟩:=Aj.1 hcs;rfl
  ·rw[My];have e:((Lib.compact zs++List.replicate (zs.length-(Lib.compact zs).length) []).toArray.map Go.Proofs.encStr).toList=(Lib.compact zs++List.replicate (zs.length-(Lib.compact zs).length) []).map Go.Proofs.encStr:=by simp
   rw[e];exact MP _ _ _ _ fun x hx=>by
    obtain⟨z,_,rfl⟩:=Aj.1 hx;rfl
  ·rw[PQ,grow_empty,MU]
end Go.Eng
namespace Go.Eng
open Go.Proofs
abbrev vY(n:Nat):RK:=⟨[],[],[(2,n),(5,n)],[],[],[],[5],[],[],[],[2,3]⟩
theorem wW(l:List Sl)(hl:CO l):A3 Tryz.prog 66 [sl Ae l] (Ai [] Aa) fun r h'=>r=.msl 2000 l.length∧h'=Ai [(2000,.arr 4 (l.map Ae))] Aa:=by
 refine BX (LC (vY 4)) [(2,2000)] rfl Co hm rfl Tryz.func66 (by kernel_rfl) rfl (Nz rfl) (by kernel_rfl) rfl ?_;have He:De 4 (l.map Ae)∧([]:List (List AV)).length=0∧(([]:List (List AV)).length+(l.map Ae).length)*40≤140737488355328∧([]:List (List AV)).length+(l.map Ae).length≤9223372036854775807:=by
  refine⟨Fi (enc:=Ae) (n:=4) (fun _=>rfl) l,rfl,?_,?_⟩<;>simp only[AE,Lm]<;>unfold CO at hl<;>omega
 have e1:AV.msl 2000 (([]:List (List AV)).length+(l.map Ae).length)=.msl 2000 l.length:=by simp
 refine Xi 0 ?_;refine Xi 0 ?_;refine Yi ?_ ?_
 ·intro _;refine Xi ⟨[(0,sl Ae l)],[],Aa⟩ (Yi ⟨Z1,Tv,Fh,Aw (by kernel_rfl)⟩ ?_)
  refine Xi 2 ?_;refine Yi He ?_;exact Xi _ (Yi (.refl _) (Yi e1 rfl))
 ·intro h;have h:l.map Ae=[]:=h;refine Yi ?_ ?_
  ·refine Xi ⟨[],[],Aa⟩ (Yi ⟨trivial,trivial,fun _=>.inl rfl,Aw (by kernel_rfl)⟩ ?_)
   refine Xi 2 ?_;exact Xi _ (Yi (.refl _) (Yi (show AV.msl 2000 0=_ by rw[D5.1 h];rfl) (show Ai [(2000,HO.arr 4 [])] Aa=_ by rw[h])))
  ·refine Xi ⟨[(0,sl Ae l)],[],Aa⟩ (Yi ⟨Z1,Tv,Fh,Aw (by kernel_rfl)⟩ ?_)
   refine Xi 2 ?_;refine Yi He ?_;exact Xi _ (Yi (.refl _) (Yi e1 rfl))
theorem A3.to2{P:Program}{f:Nat}{args:List AV}{h0:Nat→HO}{r0:AV}{H0:Nat→HO}{Q' : AV→(Nat→HO)→Prop}(h:A3 P f args h0 fun r h'=>r=r0∧h'=H0)(k:Q' r0 H0):A3 P f args h0 Q' :=
 h.mono fun r h' q=>⟨r,.refl _,by rw[q.1,q.2];exact k⟩
theorem cb{f:Nat}{args:List AV}{b x:Bool}(h:b=x)(hc:PC f args (vb b)):PC f args (vb x):=h▸hc
theorem Ma{α:Type}{f:α→List AV}{l:List α}{i:Nat}(h:(i:Int)<((l.map f).length:Int)):i<l.length:=by rw[Lm]at h;omega
theorem L9{α:Type}{f:α→List AV}{l:List α}{i:Nat}(h:¬(i:Int)<((l.map f).length:Int)):¬i<l.length:=by rw[Lm]at h;omega
theorem UW{α:Type}{f:α→List AV}{l:List α}{i:Nat}(h:i<l.length):(0:Int)≤(i:Int)∧(l.map f)[((i:Nat):Int).toNat]?=some (f l[i]):=⟨Int.natCast_nonneg _,by rw[Ch,AF,Ge h];rfl⟩
theorem bw{n z:Nat}{α:Type}{f:α→List AV}{O:List α}{x:List AV}(hx:x.length=n)(h:O.length≤2147483647)(hz:z≤65536) :
  De n [x]∧(O.map f).length=O.length∧((O.map f).length+([x]:List (List AV)).length)*z≤140737488355328∧(O.map f).length+([x]:List (List AV)).length≤9223372036854775807:=by
 refine⟨⟨hx,trivial⟩,Lm _,?_,?_⟩<;>rw[Lm]<;>simp only[Au,AE]
 ·have:=Nat.mul_le_mul (show O.length+(0+1)≤2147483648 by omega) hz
  omega
 ·omega
theorem tkA{α:Type}{f:α→List AV}{O:List α}{x:α}{r n:Nat}:AV.slice (.id r n) (O.map f++[f x])=.slice (.id r n) ((O++[x]).map f):=by rw[Ax];rfl
theorem zS{α:Type}{f:α→List AV}{O:List α}{x:α}{y:List AV}{n:Nat}:HO.tok n ((O.map f).length+([y]:List (List AV)).length)=.tok n (O++[x]).length:=by rw[Ad,Lm];rfl
theorem Ur{n:Nat}:∀{l:List (List AV)},(∀c∈l,c.length=n)→De n l
 | [],_=>trivial
 |c::_,h=>⟨h c (Ab ..),Ur fun d hd=>h d (Ag _ hd)⟩
def bG(a b:Sl):Int:=if J0 a.path b.path≠0 then J0 a.path b.path else Og a.ver b.ver
def ka(l:List Sl)(s:Sl):Int:=Kg (fun y=>decide (s=y)) l 0
theorem aT{a b:Sl}(h:a.path=b.path∧a.ver.a=b.ver.a∧a.ver.b=b.ver.b∧a.ver.c=b.ver.c∧True):a=b:=by
 obtain⟨p,⟨x,y,z⟩⟩:=a;obtain⟨p',⟨x',y',z'⟩⟩:=b;obtain⟨h1,h2,h3,h4,_⟩:=h;cases h1;cases h2;cases h3;cases h4;rfl
theorem lZ{a b:Sl}(h:¬(a.path=b.path∧a.ver.a=b.ver.a∧a.ver.b=b.ver.b∧a.ver.c=b.ver.c∧True)):a≠b:=fun e=>h (by subst e;exact⟨rfl,rfl,rfl,rfl,trivial⟩)
theorem am(l:List Sl)(s:Sl):(0≤ka l s)↔s∈l:=by
 have:=MA (p:=fun y=>decide (s=y)) l 0 (BO 0)
 unfold ka;have h2:(0≤Kg (fun y=>decide (s=y)) l 0)↔(l.any fun y=>decide (s=y))=true:=by rw[←this,As]
 rw[h2,Ba];constructor
 ·rintro⟨y,hy,e⟩;simp only[As]at e;subst e;exact hy
 ·intro h;exact⟨s,h,by simp⟩
def sd:Sl:=⟨mt,⟨0,0,0⟩⟩
set_option maxHeartbeats 4000000 in
theorem o71(l:List Sl)(s:Sl)(hl:CO l):PC 44 [sl Ae l,.agg (Ae s)] (vi (ka l s)):=by
 refine Ps ⟨[3],[],[],[],[],[],[],[],[],[],[5,6]⟩ Tryz.func44 rfl (Nz rfl) ?_;refine Xi {q:Nat // q≤l.length∧∀j (hj:j<l.length),j<q→s≠l[j]} (Xi (fun q=>⟨[(0,sl Ae l),(3,.ref 3 0),(7,vi (l.map Ae).length),(8,vi q.1)],[(3,.ro (Ae s))],Aa⟩) (Xi (fun q=>l.length-q.1) (Yi (Xi ⟨0,AL _,fun _ _ h=>absurd h (Ju _)⟩ ?_) ?_)))
 ·exact⟨Z4,Z1,Fh,Tv⟩
 intro⟨i,i1,i2⟩;have i1:i≤l.length:=i1;have i2:∀j (hj:j<l.length),j<i→s≠l[j]:=i2;refine Yi (fun h1=>?_) (fun h1=>?_)
 ·have h1:(i:Int)<((l.map Ae).length:Int):=h1;have n1:=Ma h1;refine Yi (Nz rfl) ?_;refine Xi (Ae l[i]) (Yi (UW n1) (Yi rfl ?_));refine Yi (Nz rfl) ?_;refine Yi (fun h2=>?_) (fun h2=>?_)
  ·have h2:(s.path:ByteArray)=l[i].path∧(s.ver.a:Int)=l[i].ver.a∧(s.ver.b:Int)=l[i].ver.b∧(s.ver.c:Int)=l[i].ver.c∧True:=h2;refine Yi (by kernel_rfl) ?_;refine Xi ⟨[(5,vi i)],[],Aa⟩ (Yi ⟨Z1,Tv,Fh,Tv⟩ ?_)
   exact .of_eq (show vi i=vi (ka l s) by unfold ka;rw[NF n1 (fun j hj L3=>Ay (i2 j hj L3)) (AA (aT h2)),Iz])
  have h2:¬((s.path:ByteArray)=l[i].path∧(s.ver.a:Int)=l[i].ver.a∧(s.ver.b:Int)=l[i].ver.b∧(s.ver.c:Int)=l[i].ver.c∧True):=h2;refine Yi (by kernel_rfl) ?_;refine Xi ⟨[(0,sl Ae l),(3,.ref 3 0),(7,vi (l.map Ae).length),(8,vi i)],[(3,.ro (Ae s))],Aa⟩ (Yi ⟨Z4,Z1,Fh,Tv⟩ ?_)
  refine Yi (Ii i (by omega)) ?_;refine Xi ⟨i+1,n1,fun j hj L3=>if e:j<i then i2 j hj e else by
    have e:j=i:=by omega
    subst e;exact lZ h2⟩ ?_
  exact⟨Dl l.length i (by omega),Z4,Z1,Fh,Tv⟩
 have h1:¬((i:Int)<((l.map Ae).length:Int)):=h1;have n1:=L9 h1;exact .of_eq (show vi (-1)=vi (ka l s) by unfold ka;rw[Jg (p:=fun y=>decide (s=y)) fun j hj=>Ay (i2 j hj (by have q:=h1;rw[Lm]at q;omega))])
theorem rp(l:List Sl)(s:Sl)(hl:CO l):PC 18 [sl Ae l,.agg (Ae s)] (vb (decide (s∈l))):=by
 refine Ps ⟨[3],[],[],[],[],[],[],[],[],[],[]⟩ Tryz.func18 rfl (Nz rfl) ?_;refine Yi (Nz rfl) ?_;refine Xi .pure (Xi _ (Yi (o71 l s hl) ?_));refine Yi (fun h1=>?_) (fun h1=>?_)
 ·have h1:(0:Int)≤((ka l s):Int):=h1;exact .of_eq (show vb true=vb (decide (s∈l)) by rw[AA ((am l s).1 h1)])
 have h1:¬((0:Int)≤((ka l s):Int)):=h1;exact .of_eq (show vb false=vb (decide (s∈l)) by rw[Ay (fun h=>h1 ((am l s).2 h))])
abbrev ud:Sl→Sl→Int:=fun a b=>J0 a.path b.path
theorem W4{a b:ByteArray}:J0 a b<0↔Ew a b=true:=by
 unfold J0
 by_cases h:Ew a b=true
 ·rw[Ao h];simp[h]
 ·rw[Ah h];split<;>simp[h]
theorem Nt{a b:ByteArray}:J0 a b=0↔a=b:=by
 unfold J0;constructor
 ·intro h;split at h
  ·cases h
  ·rename_i h1;split at h
   ·cases h
   ·rename_i h2;exact Ho (by simpa using h1) (by simpa using h2)
 ·rintro rfl
  rw[Ah (by rw[CZ];decide),Ah (by rw[CZ];decide)]
abbrev kept{α:Type}(p:α→Bool)(l:List α):List α:=l.filter fun x=>!p x
abbrev Dm(r:Rl):Sl:=⟨r.path,r.ver⟩
theorem vS(ifs:List (List AV))(hl:CO ifs)(hs:∀c∈ifs,c.length=5):PC 73 [.slice .none ifs] (.slice .none ifs):=by
 refine Ps Gl Tryz.func73 rfl (Nz rfl) ?_;have He:De 5 ifs∧([]:List (List AV)).length=0∧(([]:List (List AV)).length+ifs.length)*112≤140737488355328∧([]:List (List AV)).length+ifs.length≤9223372036854775807:=by
  refine⟨Ur hs,rfl,?_,?_⟩<;>simp only[AE]<;>unfold CO at hl<;>omega
 refine Yi ?_ ?_
 ·intro _;exact Yi He (.refl _)
 ·intro h;have h:ifs=[]:=h;refine Yi ?_ ?_
  ·show Hl (.v (.slice none 0 0)) (.slice .none ifs);rw[h];exact .nil
  ·exact Yi He (.refl _)
end Go.Eng
namespace Go.Eng
structure OC{α β:Type}(c:α→α→Int)(R:α→α→Prop)(key:α→β):Prop where
 lt:∀a b,c a b<0↔R a b
 eq:∀a b,c a b=0↔key a=key b
 tr:∀a b d,R a b→R b d→R a d
 irr:∀a b,key a=key b→¬R a b
 tri:∀a b,¬R a b→key a≠key b→R b a
 cl:∀a b d,key a=key b→R a d→R b d
section
variable {α β:Type}{c:α→α→Int}{R:α→α→Prop}{key:α→β}
theorem cp(h:OC c R key){a:List α}(ha:a.Pairwise R):(a.map key).Nodup:=by
 unfold List.Nodup;rw[Qo];exact ha.imp fun q e=>h.irr _ _ e q
end
/-! The three comparisons. -/
def yo(a b:Sl):Prop:=Ew a.path b.path=true∨(a.path=b.path∧ki a.ver b.ver)
abbrev nW(a b:Sl):Prop:=Ew a.path b.path=true
theorem Sb{a b:Int}:FQ a b<0↔a<b:=by
 unfold FQ;split
 ·rename_i h;simp[h]
 ·rename_i h;split<;>simp[h]
theorem I9{a b:Int}:FQ a b=0↔a=b:=by
 unfold FQ;split
 ·rename_i h;simp;omega
 ·rename_i h;split
  ·rename_i h2;simp;omega
  ·rename_i h2;simp;omega
theorem eF{a b:Ver}:Og a b<0↔ki a b:=by
 refine⟨ZS,fun h=>?_⟩;unfold Og;rcases h with h | ⟨h1,h | ⟨h2,h⟩⟩
 ·rw[Ao (fun c=>by have:=I9.1 c;omega)];exact Sb.2 h
 ·rw[Ah (fun c=>c (I9.2 h1)),Ao (fun c=>by have:=I9.1 c;omega)];exact Sb.2 h
 ·rw[Ah (fun c=>c (I9.2 h1)),Ah (fun c=>c (I9.2 h2))];exact Sb.2 h
theorem Sc{a b:Sl}:bG a b<0↔yo a b:=by
 unfold bG yo
 by_cases h:a.path=b.path
 ·rw[Ah (fun c=>c (Nt.2 h)),eF];exact⟨fun q=>.inr ⟨h,q⟩,fun q=>q.elim (fun q=>by rw[h,CZ]at q;cases q) (·.2)⟩
 ·rw[Ao (fun c=>h (Nt.1 c)),W4];exact⟨.inl,fun q=>q.elim id fun q=>absurd q.1 h⟩
theorem ocP:OC ud nW (fun s:Sl=>s.path) where
 lt _ _:=W4
 eq _ _:=Nt
 tr _ _ _:=DR
 irr a b e h:=by rw[nW,e,CZ]at h;cases h
 tri a b h e:=by
  cases q:Ew b.path a.path with
  |true=>exact q
  |false =>
   cases p:Ew a.path b.path with
   |true=>exact absurd p h
   |false=>exact absurd (Ho p q) e
 cl a b d e h:=by rw[nW,←e];exact h
/-! Pins. -/
theorem Zl{α β:Type}{f:α→β}{l:List α}(h:(l.map f).Nodup):l.Nodup:=by
 unfold List.Nodup at *
 rw[Qo]at h;exact h.imp fun q e=>q (Ac f e)
/-! What the reference makes of a list. -/
theorem E8{α:Type}{l:List α}{i:Nat}(h:i<l.length):l.take (i+1)=l.take i++[l[i]]:=Kk h
end Go.Eng
namespace Go.Eng
open Go.Proofs
def Z0(p:ByteArray)(r:Rl):Bool:=decide (r.path=p)&&!r.yanked
def rS(r:Rl):Int×Int:=(plc r.ver,plc r.ver+1)
theorem bu{x:List Rl}{p:ByteArray}(h:AT x=0):B1 x p=canon ((x.filter (Z0 p)).map rS):=by
 unfold B1 Kb;rw[Ah (not_not_intro h),N4]
 congr 3
 funext r
 unfold Z0;rw[Bool.and_comm]
theorem cQ{α:Type}(o:Option α):(∃x,o=some x)∨o=none:=by
 cases o with
 |none=>exact .inr rfl
 |some x=>exact .inl ⟨x,rfl⟩
instance:DecidableEq Rq:=fun x y=>decidable_of_iff (x.path=y.path∧x.set=y.set) ⟨fun⟨h1,h2⟩=>by cases x;cases y;simp_all,fun h=>by subst h;exact Zr⟩
instance:DecidableEq Rl:=fun x y=>decidable_of_iff (x.path=y.path∧x.ver=y.ver∧x.reqs=y.reqs∧x.arch=y.arch∧x.ifc=y.ifc∧x.cert=y.cert∧x.yanked=y.yanked) ⟨fun⟨h1,h2,h3,h4,h5,h6,h7⟩=>by cases x;cases y;simp_all,fun h=>by subst h;exact⟨rfl,rfl,rfl,rfl,rfl,rfl,rfl⟩⟩
theorem au{α:Type}{a b:List α}(hl:a.length=b.length)(h:∀j (hj:j<a.length),a[j]=b[j]'(hl▸hj)):a=b:=List.ext_getElem hl fun j h1 _=>h j h1
theorem lp{α:Type}{a b:List α}{i:Nat}{ha:i<a.length}{hb:i<b.length}(h:a[i]≠b[i]):a≠b:=fun e=>by subst e;exact h rfl
end Go.Eng
