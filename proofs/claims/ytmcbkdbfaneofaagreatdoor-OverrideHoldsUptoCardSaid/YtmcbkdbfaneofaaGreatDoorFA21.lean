/- Lemmas for the claims of this seat, without a condition: part 21 (C65, C66, C67, C68, C69, C56, C57, C58, C59, C70, C71, C72, C73, LayStrs, O15, S17, O1, C0, O2, R1, R2, R3, R4, R5, C60, C61, C62, C63, C64, R6, R7, R8, R9, R10, R11). -/
import Derived.Test.YtmcbkdbfaneofaaGreatDoorFA20
import Derived.Test.YtmcbkdbfaneofaaGreatDoorFA16
import Derived.Shelf.Sort.Plain
import Derived.Shelf.Slices.CompactS
import Derived.Ground.NamesProg
namespace Go.Eng
open Go.Proofs
theorem Lj:∀(y:List Rl) (acc:List ByteArray) (r:Rl),AQ (y++[r]) acc=if(AQ y acc).any (fun p=>decide (p=r.path))then AQ y acc else AQ y acc++[r.path]
 | [],acc,r=>rfl
 |s::y,acc,r=>by rw[ID,AQ,AQ,Lj y]
theorem EQ:∀(y:List Rl) (acc:List ByteArray),acc.Nodup→(AQ y acc).Nodup
 | [],_,h=>h
 |s::y,acc,h=>by
  rw[AQ];refine EQ y _ ?_;split
  ·exact h
  ·rename_i hn;rw[Gc];refine⟨h,by simp,fun a ha b hb e=>?_⟩;rw[Am]at hb;exact hn (Oc.2 (by rw[←hb,←e];exact ha))
abbrev Nl(y:List Rl)(p:ByteArray):List (List AV):=(y.filter fun r=>decide (r.path=p)).map Ah
abbrev fJ(y:List Rl)(q:ByteArray×Nat):Value×AV:=(.string q.1,.slice (.id (q.2+50) 9) (Nl y q.1))
abbrev Rw(y:List Rl):List (Value×AV):=(AQ y []).zipIdx.map (fJ y)
def Jy(y:List Rl)(l:Nat):HO:=match(AQ y [])[l]? with
 |some q=>.tok 9 (Nl y q).length
 |none=>.free
def U0(y:List Rl)(j:Nat):HO:=bif Nat.ble 50 j then Jy y (j-50)else .free
theorem Hz(y:List Rl)(l:Nat):U0 y (l+50)=Jy y l:=by
 unfold U0;rw[show Nat.ble 50 (l+50)=true by rw[Dd];omega,Nat.add_sub_cancel];rfl
theorem nH(y:List Rl){j:Nat}(h:j<50):U0 y j=.free:=by
 unfold U0;rw[show Nat.ble 50 j=false by rw[AK];intro hc;rw[Dd]at hc;omega];rfl
theorem Ix(y:List Rl)(r:Rl)(q:ByteArray):Nl (y++[r]) q=if r.path=q then Nl y q++[Ah r]else Nl y q:=by
 unfold Nl;rw[Ep]
 by_cases h:r.path=q
 ·rw[Aw h,RO (by simpa using h)];simp
 ·rw[Ai h,RN (by simpa using h)];simp
theorem Ik{l:List ByteArray}{q:ByteArray×Nat}(h:q∈l.zipIdx):l[q.2]?=some q.1:=by
 obtain⟨a,b⟩:=q;exact Fz.1 h
open Classical in
theorem Mg{B4:List (Value×AV)}{k:Value}{a:AV}(h:∀a',(k,a')∉B4):ET B4 k a=B4++[(k,a)]:=by
 unfold ET;rw[Ai (fun⟨a',h'⟩=>h a' h')]
open Classical in
theorem X2{B4:List (Value×AV)}{k:Value}{a a' : AV}(h:(k,a')∈B4):ET B4 k a=B4.map fun p=>if p.1=k then(k,a)else p:=by
 unfold ET;rw[Aw ⟨a',h⟩]
section
variable {y:List Rl}{r:Rl}{k:Nat}
theorem I9(h:(AQ y [])[k]?=some r.path):AQ (y++[r]) []=AQ y []:=by
 rw[Lj,Aw (Oc.2 (Av h))]
theorem I8(h:r.path∉AQ y []):AQ (y++[r]) []=AQ y []++[r.path]:=by
 rw[Lj,Ai (fun hc=>h (Oc.1 hc))]
theorem I6{l:List ByteArray}(hd:l.Nodup){i j:Nat}{p:ByteArray}(h1:l[i]?=some p)(h2:l[j]?=some p):i=j:=by
 obtain⟨a1,a2⟩:=At.1 h1;obtain⟨b1,b2⟩:=At.1 h2;exact(List.getElem_inj hd).1 (a2.trans b2.symm)
open Classical in
theorem kd(h:(AQ y [])[k]?=some r.path):ET (Rw y) (.string r.path) (.slice (.id (k+50) 9) (Nl y r.path++[Ah r]))=Rw (y++[r]):=by
 have hd:=EQ y [] Fb;have hm:fJ y (r.path,k)∈Rw y:=Al.2 ⟨_,Fz.2 h,rfl⟩;rw[X2 (a':=.slice (.id (k+50) 9) (Nl y r.path)) hm];unfold Rw;rw[I9 h,BN];refine Bf fun q hq=>?_;have hg:=Ik hq;obtain⟨q,j⟩:=q;show(if Value.string q=Value.string r.path then _ else _)=fJ (y++[r]) (q,j);have hg:(AQ y [])[j]?=some q:=hg
 by_cases he:q=r.path
 ·subst he
  have:j=k:=I6 hd hg h
  subst this;rw[Aw rfl];show _=(Value.string r.path,AV.slice (.id (j+50) 9) (Nl (y++[r]) r.path));rw[Ix,Aw rfl]
 ·rw[Ai (fun e=>he (by simpa using e))];show(Value.string q,AV.slice (.id (j+50) 9) (Nl y q))=(Value.string q,AV.slice (.id (j+50) 9) (Nl (y++[r]) q));rw[Ix,Ai (fun e=>he e.symm)]
theorem aT(h:r.path∉AQ y []):Nl y r.path=[]:=by
 have:y.filter (fun s=>decide (s.path=r.path))=[]:=by
  rw[Hj];intro s hs he;exact h ((Hf y [] r.path).2 (.inr ⟨s,hs,Bq he⟩))
 unfold Nl;rw[this];rfl
theorem Xy(h:r.path∉AQ y [])(a:AV):(Value.string r.path,a)∉Rw y:=by
 intro hc;obtain⟨q,h1,h2⟩:=Al.1 hc;simp only[fJ,FN,Value.string.injEq]at h2;exact h (by rw[←h2.1];exact Av (Ik h1))
theorem kc(h:r.path∉AQ y []):ET (Rw y) (.string r.path) (.slice (.id ((AQ y []).length+50) 9) [Ah r])=Rw (y++[r]):=by
 rw[Mg (fun a=>Xy h a)];unfold Rw;rw[I8 h,List.zipIdx_append,AH]
 congr 1
 ·refine Bf fun q hq=>?_;have hg:=Ik hq
  have:q.1≠r.path:=fun e=>h (by rw[←e];exact Av hg)
  show(Value.string q.1,AV.slice (.id (q.2+50) 9) (Nl y q.1))=(Value.string q.1,AV.slice (.id (q.2+50) 9) (Nl (y++[r]) q.1));rw[Ix,Ai (fun e=>this e.symm)]
 ·show [_]=[(Value.string r.path,AV.slice (.id (0+(AQ y []).length+50) 9) (Nl (y++[r]) r.path))];rw[Ix,Aw rfl,aT h,Bi];rfl
theorem fM{p:ByteArray}{j:Nat}(h:(AQ y [])[j]?=some p):(Value.string p,AV.slice (.id (j+50) 9) (Nl y p))∈Rw y∧∀b,(Value.string p,b)∈Rw y→b=AV.slice (.id (j+50) 9) (Nl y p):=by
 refine⟨Al.2 ⟨(p,j),Fz.2 h,rfl⟩,fun b hb=>?_⟩;obtain⟨q,h1,h2⟩:=Al.1 hb;simp only[fJ,FN,Value.string.injEq]at h2;have hg:=Ik h1;rw[h2.1]at hg
 have:=I6 (EQ y [] Fb) hg h
 rw[←h2.2,h2.1,this]
theorem je{p:ByteArray}{j:Nat}(h:(AQ y [])[j]?=some p):Jy y j=.tok 9 (Nl y p).length:=by
 unfold Jy;rw[h]
theorem lL(h:(AQ y [])[k]?=some r.path)(l:Nat):(bif Nat.beq (l+50) (k+50)then HO.tok 9 ((Nl y r.path).length+1)else Jy y l)=Jy (y++[r]) l:=by
 by_cases he:l=k
 ·subst he;rw[show Nat.beq (l+50) (l+50)=true from CY _];unfold Jy;rw[I9 h,h];show HO.tok 9 _=HO.tok 9 (Nl (y++[r]) r.path).length;rw[Ix,Aw rfl,Ad];rfl
 ·rw[show Nat.beq (l+50) (k+50)=false by rw[AK];intro hc;have:=AO hc;omega];show Jy y l=_;unfold Jy;rw[I9 h];cases hq:(AQ y [])[l]? with
  |none=>rfl
  |some q =>
   show HO.tok 9 (Nl y q).length=HO.tok 9 (Nl (y++[r]) q).length;rw[Ix,Ai];intro e;subst e;exact he (I6 (EQ y [] Fb) hq h)
theorem lK(h:r.path∉AQ y [])(l:Nat):(bif Nat.beq (l+50) ((AQ y []).length+50)then HO.tok 9 1 else Jy y l)=Jy (y++[r]) l:=by
 by_cases he:l=(AQ y []).length
 ·subst he;rw[show Nat.beq ((AQ y []).length+50) ((AQ y []).length+50)=true from CY _];unfold Jy;rw[I8 h];simp only[A4 (Ak _),Gd,A9];show HO.tok 9 1=HO.tok 9 (Nl (y++[r]) r.path).length;rw[Ix,Aw rfl,aT h];rfl
 ·rw[show Nat.beq (l+50) ((AQ y []).length+50)=false by rw[AK];intro hc;have:=AO hc;omega];show Jy y l=_;unfold Jy;rw[I8 h]
  by_cases hl:l<(AQ y []).length
  ·rw[AX hl,Ge hl];show HO.tok 9 (Nl y (AQ y [])[l]).length=HO.tok 9 (Nl (y++[r]) (AQ y [])[l]).length;rw[Ix,Ai];intro e;exact h (by rw[e];exact Ap hl)
  ·rw[A6 (by omega),A6 (by rw[Ad];simp;omega)]
end
theorem PL{h:Nat→HO}:∀{B4:List (Value×AV)},(∀p∈B4,Um h p.2=true)→QO h B4=true
 | [],_=>rfl
 |p::r,hk=>by
  unfold QO;rw[hk p (Ab ..)];exact PL (fun q hq=>hk q (Af _ hq))
theorem K7(y:List Rl){h:Nat→HO}(hh:∀l,h (l+50)=Jy y l):QO h (Rw y)=true:=by
 refine PL fun p hp=>?_;obtain⟨q,h1,rfl⟩:=Al.1 hp;show Rn h (q.2+50)=true;unfold Rn;rw[hh,je (Ik h1)]
theorem Jf{y:List Rl}{h h' : Nat→HO}(hh:∀l,h (l+50)=Jy y l)(j:Nat):U0 y j=.free∨(h j=U0 y j∧XK h' (U0 y j)=true):=by
 by_cases hj:j<50
 ·exact .inl (nH y hj)
 ·obtain⟨l,rfl⟩:∃l,j=l+50:=⟨j-50,by omega⟩
  right
  rw[Hz];refine⟨hh l,?_⟩;unfold Jy;cases (AQ y [])[l]?<;>rfl
theorem lA{x:List Rl}(hx:A5 x=0){i:Nat}(hi:i<x.length):ET ((x.take i).map Tg) (QQ (FM x[i])) (.agg (Ah x[i]))=(x.take (i+1)).map Tg:=by
 rw[Mg]
 ·rw[Bp,Ge hi,AH];rfl
 intro a ha;obtain⟨r,hr,he,_⟩:=aJ ha;obtain⟨j,hj,e2⟩:=CQ.1 hr;rw[AJ]at hj;rw[Kj]at e2;have hp:=(B9 hx).2
 have:=(A7.1 hp) j i (by omega) hi (by omega)
 rw[e2]at this;exact G1 this he
abbrev rT:RS:=⟨[],[],[],[],[8,9],[9],[40],[],[],[],[8,9,10,11]⟩
abbrev zT:List AV:=[.v (.map none),.v (.map none)]
theorem jW(x:List Rl)(ifs:List (List AV))(nC:PC 20 [JP x ifs] (vi (A5 x)))(h0:A5 x≠0):d4 x ifs:=by
 have ht:WB x=.tup [.agg [.cmap T0 [],.cmap C3 []],vi (A5 x)]:=by unfold WB;rw[Ai h0]
 unfold d4;rw[ht];refine Ps rT Tryz.func73 rfl (Nz rfl) ?_;refine Xi 0 ?_;refine Xi 0 ?_;refine Yi (Nz rfl) ?_;refine Xi 0 ?_;refine Yi (Nz rfl) ?_;refine Xi .pure (Xi _ (Yi (nC) ?_));refine Xi 0 ?_;refine Yi ?_ ?_
 ·intro _;refine Xi 0 ?_;refine Yi (Nz rfl) ?_;refine Yi (Nz rfl) ?_;refine Yi (Nz rfl) ?_;exact .refl _
 ·intro h;exact absurd h (fun hc=>hc h0)
theorem He:∀(y:List Rl) (acc:List ByteArray),(AQ y acc).length≤acc.length+y.length
 | [],acc=>by simp[AQ]
 |r::y,acc=>by
  rw[AQ];refine AU (He y _) ?_;split
  ·simp only[Au];omega
  ·simp only[Ad,Au,AD];omega
section
attribute [local irreducible] Ie
theorem nl(x:List Rl)(ifs:List (List AV))(nC:PC 20 [JP x ifs] (vi (A5 x)))(h0:A5 x=0)(CJ:x.length≤256):d4 x ifs:=by
 have ht:WB x=.tup [.agg [.cmap T0 (x.map Tg),.cmap C3 ((AQ x []).map (jA x))],vi 0]:=by unfold WB;rw[Aw h0]
 unfold d4;rw[ht];rw[h0]at nC;refine Ps rT Tryz.func73 rfl (Nz rfl) ?_;refine Xi 0 ?_;refine Xi 0 ?_;refine Yi (Nz rfl) ?_;refine Xi 0 ?_;refine Yi (Nz rfl) ?_;refine Xi .pure (Xi _ (Yi (nC) ?_));refine Xi 0 ?_;refine Yi ?_ ?_
 ·intro hc;exact absurd (show(0:Int)≠0 from hc) (by decide)
 intro _;refine Xi 0 ?_;refine Xi {i:Nat // i≤x.length} (Xi (fun i=>⟨[(2,.ref 2 0),(4,.ref 4 0),(18,sl Ah x),(19,vi (x.map Ah).length),(20,vi i.1)],[(2,.cells zT),(4,.cells [.mref 8,.mref 9]),(8,.map T0 ((x.take i.1).map Tg)),(9,.mapU C3 (Rw (x.take i.1)))],U0 (x.take i.1)⟩) (Xi (fun i=>x.length-i.1) (Yi (Xi ⟨0,AL _⟩ ?_) ?_)))
 ·refine⟨Z5,Z4,fun j=>.inl ?_,Tv⟩;show U0 [] j=.free;unfold U0;cases Nat.ble 50 j<;>rfl
 intro⟨i,i1⟩;have i1:i≤x.length:=i1;refine Xi 0 ?_;refine Yi ?_ ?_
 ·intro h;have h:(i:Int)<(x.map Ah).length:=h;have h:i<x.length:=by simpa using h
  have hg:x[i]?=some x[i]:=Ge h;have Ky:x.take (i+1)=x.take i++[x[i]]:=by rw[Bp,hg];rfl
  refine Xi 0 ?_;refine Xi (Ah x[i]) (Yi (Yi (Nn i) (by simp[hg])) (Yi rfl ?_));refine Yi (Nz rfl) (Yi (Nz rfl) ?_);refine Xi ⟨[(2,.ref 2 0),(4,.ref 4 0),(7,.ref 7 0),(18,sl Ah x),(19,vi (x.map Ah).length),(20,vi i)],[(2,.cells zT),(4,.cells [.mref 8,.mref 9]),(7,.cells (Ah x[i])),(8,.map T0 ((x.take i).map Tg)),(9,.mapU C3 (Rw (x.take i)))],U0 (x.take i)⟩ (Yi ?_ ?_)
  ·exact⟨Z6,⟨Zr,Zr,Zr,Zr,⟨rfl,K7 _ (Hz _)⟩,Tv⟩,Jf (Hz _),Tv⟩
  refine Xi 0 ?_;refine Yi (Nz rfl) ?_;refine Xi _ (Yi (m5 x[i]) ?_);refine Yi (Nz rfl) ?_;refine Yi (by kernel_rfl) ?_;have e8:ET ((x.take i).map Tg) (QQ (FM x[i])) (.agg (Ah x[i]))=(x.take (i+1)).map Tg:=lA h0 h;refine Xi ⟨[(2,.ref 2 0),(4,.ref 4 0),(7,.ref 7 0),(18,sl Ah x),(19,vi (x.map Ah).length),(20,vi i)],[(2,.cells zT),(4,.cells [.mref 8,.mref 9]),(7,.cells (Ah x[i])),(8,.map T0 ((x.take (i+1)).map Tg)),(9,.mapU C3 (Rw (x.take i)))],U0 (x.take i)⟩ (Yi ?_ ?_)
  ·exact⟨Z6,⟨Zr,Zr,Zr,⟨Ac (HO.map T0) e8,rfl⟩,⟨rfl,K7 _ (Hz _)⟩,Tv⟩,Jf (Hz _),Tv⟩
  have hL:((x.take i).filter (fun r=>decide (r.path=x[i].path))).length≤256:=by
   have:=BF (fun r:Rl=>decide (r.path=x[i].path)) (x.take i)
   rw[AJ]at this;omega
  have hP:∀l,U0 (x.take i) (l+50)=Jy (x.take i) l:=Hz _;refine BH (Classical.em (x[i].path∈AQ (x.take i) [])) (fun hp=>?_) (fun hp=>?_)
  ·refine CK (Ca.1 hp) (fun k hk=>?_);have hu:=fM hk;refine Xi 0 ?_;refine Or.inl (Xi (.slice (.id (k+50) 9) (Nl (x.take i) x[i].path)) (Yi hu ?_));refine Yi (Nz rfl) ?_;have hr:U0 (x.take i) (k+50)=.tok 9 (Nl (x.take i) x[i].path).length:=by rw[hP,je hk]
   have hl:(Nl (x.take i) x[i].path).length≤256:=by rw[Lm];exact hL
   refine QB (e:=45) (m:=8) (es2:=[Ah x[i]]) rfl rfl rfl (fun _ h=>h) hr ⟨rfl,trivial⟩ (by show(_+1)*120≤_;omega) (by show _+1≤_;omega) ?_;have qU:k<256:=by
    have:=(At.1 hk).1
    have:=He (x.take i) []
    rw[AJ]at this;simp only[AD]at this;omega
   have nV:=hk;refine Yi (IX ⟨A1 _,A1 _,A1 _,A1 _,A1 _,A1 _,A1 _,A1 _,A1 _,A1 _,Ea (show 39<10000000 by decide),Ea (by show _+50<10000000;omega),Ea (show 9<10000000 by decide),trivial⟩ (by kernel_rfl)) ?_;have e9:ET (Rw (x.take i)) (.string x[i].path) (.slice (.id (k+50) 9) (Nl (x.take i) x[i].path++[Ah x[i]]))=Rw (x.take (i+1)):=by rw[Ky];exact kd nV
   have hG:∀l,(bif Nat.beq (l+50) (k+50)then HO.tok 9 ((Nl (x.take i) x[i].path).length+1)else Jy (x.take i) l)=Jy (x.take (i+1)) l:=by rw[Ky];exact lL nV
   refine Xi ⟨[(2,.ref 2 0),(4,.ref 4 0),(18,sl Ah x),(19,vi (x.map Ah).length),(20,vi i)],[(2,.cells zT),(4,.cells [.mref 8,.mref 9]),(8,.map T0 ((x.take (i+1)).map Tg)),(9,.mapU C3 (Rw (x.take (i+1))))],U0 (x.take (i+1))⟩ (Yi ?_ ?_)
   ·refine⟨Z5,⟨Zr,Zr,Zr,⟨Ac (HO.mapU C3) e9,K7 _ (Hz _)⟩,Tv⟩,Jf (fun l=>?_),Tv⟩;show(bif Nat.beq (l+50) (k+50)then HO.tok 9 ((Nl (x.take i) x[i].path).length+1)else U0 (x.take i) (l+50))=_;rw[hP];exact hG l
   refine Xi 0 ?_;refine Yi (Ii i (by omega)) ?_;refine Xi ⟨i+1,by omega⟩ ?_;exact⟨Dl x.length i (by omega),Z5,⟨Zr,Zr,Zr,⟨rfl,K7 _ (Hz _)⟩,Tv⟩,Jf (Hz _),Tv⟩
  ·have nV:=hp;have Lw:(AQ (x.take i) []).length≤256:=by
    have:=He (x.take i) []
    rw[AJ]at this;simp only[AD]at this;omega
   have hn:=Xy hp;refine Xi ((AQ (x.take i) []).length+50) ?_;refine Or.inr (Yi hn ?_);refine Yi (Nz rfl) ?_;have hr:U0 (x.take i) ((AQ (x.take i) []).length+50)=.free:=by
    rw[hP];unfold Jy;rw[A6 (Ak _)]
   refine QA (e:=45) (m:=8) (es2:=[Ah x[i]]) rfl rfl rfl (fun _ h=>h) hr rfl ⟨rfl,trivial⟩ (by show 1*120≤_;omega) (by show 1≤_;omega) ?_;refine Yi (IX ⟨A1 _,A1 _,A1 _,A1 _,A1 _,A1 _,A1 _,A1 _,A1 _,A1 _,Ea (show 39<10000000 by decide),Ea (by show _+50<10000000;omega),Ea (show 9<10000000 by decide),trivial⟩ (by kernel_rfl)) ?_;have e9:ET (Rw (x.take i)) (.string x[i].path) (.slice (.id ((AQ (x.take i) []).length+50) 9) [Ah x[i]])=Rw (x.take (i+1)):=by rw[Ky];exact kc nV
   have hG:∀l,(bif Nat.beq (l+50) ((AQ (x.take i) []).length+50)then HO.tok 9 1 else Jy (x.take i) l)=Jy (x.take (i+1)) l:=by rw[Ky];exact lK nV
   refine Xi ⟨[(2,.ref 2 0),(4,.ref 4 0),(18,sl Ah x),(19,vi (x.map Ah).length),(20,vi i)],[(2,.cells zT),(4,.cells [.mref 8,.mref 9]),(8,.map T0 ((x.take (i+1)).map Tg)),(9,.mapU C3 (Rw (x.take (i+1))))],U0 (x.take (i+1))⟩ (Yi ?_ ?_)
   ·refine⟨Z5,⟨Zr,Zr,Zr,⟨Ac (HO.mapU C3) e9,K7 _ (Hz _)⟩,Tv⟩,Jf (fun l=>?_),Tv⟩;show(bif Nat.beq (l+50) ((AQ (x.take i) []).length+50)then HO.tok 9 1 else U0 (x.take i) (l+50))=_;rw[hP];exact hG l
   refine Xi 0 ?_;refine Yi (Ii i (by omega)) ?_;refine Xi ⟨i+1,by omega⟩ ?_;exact⟨Dl x.length i (by omega),Z5,⟨Zr,Zr,Zr,⟨rfl,K7 _ (Hz _)⟩,Tv⟩,Jf (Hz _),Tv⟩
 ·intro h;have h:¬(i:Int)<(x.map Ah).length:=h;have h:¬i<x.length:=by simpa using h
  have et:x.take i=x:=AS (by omega);refine Xi ⟨[(2,.ref 2 0),(4,.ref 4 0)],[(2,.cells zT),(4,.cells [.mref 8,.mref 9]),(8,.map T0 ((x.take i).map Tg)),(9,.mapU C3 (Rw (x.take i)))],U0 (x.take i)⟩ (Yi ?_ ?_)
  ·exact⟨Z2,⟨Zr,Zr,Zr,⟨rfl,K7 _ (Hz _)⟩,Tv⟩,Jf (Hz _),Tv⟩
  refine Xi 0 ?_;refine Yi (Nz rfl) ?_;refine Yi (Nz rfl) ?_;refine Yi (Nz rfl) ?_;have es:∀h:Nat→HO,Rs h (Rw (x.take i))=(AQ x []).map (jA x):=fun h=>by
   rw[et];unfold Rs Rw;rw[BN];refine CE fun j=>?_;rw[AI,AI,List.getElem?_zipIdx];cases (AQ x [])[j]?<;>rfl
  have e1:(x.take i).map Tg=x.map Tg:=by rw[et]
  exact .of_eq (show AV.tup [.agg [.cmap T0 ((x.take i).map Tg),.cmap C3 (Rs _ (Rw (x.take i)))],vi 0]=_ by rw[e1,es])
end
theorem c84(x:List Rl)(ifs:List (List AV))(hx:∀r∈x,IB r):d4 x ifs:=by
 by_cases h0:A5 x=0
 ·exact nl x ifs (qb YP x ifs hx) h0 (NI h0).1
 ·exact jW x ifs (qb YP x ifs hx) h0
abbrev wA(n:Nat):RS:=⟨[],[(2,n)],[],[],[],[],[5],[],[],[],[2,3]⟩
theorem p9(l:List Sl)(hl:Ci l):Be Tryz.prog 89 [sl Ae l] (Aj [] Aa) fun r h'=>r=.slice (.id 2000 4) (l.map Ae)∧h'=Aj [(2000,.tok 4 (l.map Ae).length)] Aa:=by
 refine Co (MA (wA 4)) [(2,2000)] rfl CD hm rfl Tryz.func89 (by kernel_rfl) rfl (Nz rfl) (by kernel_rfl) rfl ?_;have Ga:Dn 4 (l.map Ae)∧([]:List (List AV)).length=0∧(([]:List (List AV)).length+(l.map Ae).length)*40≤140737488355328∧([]:List (List AV)).length+(l.map Ae).length≤9223372036854775807:=by
  refine⟨EE (enc:=Ae) (n:=4) (fun _=>rfl) l,rfl,?_,?_⟩<;>simp only[AD,Lm]<;>unfold Ci at hl<;>omega
 have e2:HO.tok 4 (([]:List (List AV)).length+(l.map Ae).length)=.tok 4 (l.map Ae).length:=by rw[AD,Bi]
 have e3:AV.slice (.id 2000 4) ([]++l.map Ae)=.slice (.id 2000 4) (l.map Ae):=rfl;refine Xi 0 ?_;refine Xi 0 ?_;refine Yi ?_ ?_
 ·intro _;refine Xi ⟨[(0,sl Ae l)],[],Aa⟩ (Yi ⟨Z1,Tv,Fh,Az (by kernel_rfl)⟩ ?_)
  refine Xi 2 ?_;refine Yi Ga ?_;exact Xi _ (Yi (.refl _) (Yi e3 (Ac (fun o=>Aj [(2000,o)] Aa) e2)))
 ·intro h;have h:l.map Ae=[]:=h;refine Yi ?_ ?_
  ·refine Xi ⟨[],[],Aa⟩ (Yi ⟨trivial,trivial,fun _=>.inl rfl,Az (by kernel_rfl)⟩ ?_)
   refine Xi 0 ?_;exact Xi _ (Yi (.refl _) (Yi (show AV.slice (.id 2000 4) []=_ by rw[h]) (show Aj [(2000,HO.tok 4 0)] Aa=_ by rw[h];rfl)))
  ·refine Xi ⟨[(0,sl Ae l)],[],Aa⟩ (Yi ⟨Z1,Tv,Fh,Az (by kernel_rfl)⟩ ?_)
   refine Xi 2 ?_;refine Yi Ga ?_;exact Xi _ (Yi (.refl _) (Yi e3 (Ac (fun o=>Aj [(2000,o)] Aa) e2)))
section
variable {S:Type}{x:List Rl}{roots:List Rq}{s:List Sl}{step:S→zh→S}{st0:S}{before:List Sl}{needs:List Rq}{n:Nat}{st:S}
end
def Mq(q:Rq):Bool:=decide (q.path.size≤100)&&decide (q.set.length≤8)
def Et(l:List Rq):Bool:=l.all Mq&&decide (l.length≤20)
theorem qa(l:List Rq)(hl:Ci l):PC 29 [sl AE l] (vb (Et l)):=by
 unfold Ci at hl;refine Ps F6 Tryz.func29 rfl (Nz rfl) ?_;refine Xi {i:Nat // i≤l.length∧∀j (hj:j<l.length),j<i→Mq l[j]=true} (Xi (fun i=>⟨[(0,sl AE l),(3,vi i.1)],[],Aa⟩) (Xi (fun i=>l.length-i.1) (Yi (Xi ⟨0,AL _,fun j _ h=>by omega⟩ ?_) ?_)))
 ·exact⟨Z2,Tv,Fh,Tv⟩
 intro⟨i,h1,h2⟩;refine Yi ?_ ?_
 ·intro h;have h:(i:Int)<(l.map AE).length:=h;have h:i<l.length:=by simpa using h
  have hg:l[i]?=some l[i]:=Ge h;have no:Mq l[i]=false→false=Et l:=fun e=>by
   unfold Et
   have:l.all Mq=false:=by
    rw[AK];intro ha
    have:=Bs.1 ha _ (Ap h)
    rw[e]at this;cases this
   rw[this];rfl
  refine Xi (AE l[i]) (Yi (Yi (Nn i) (by simp[hg])) (Yi rfl ?_));refine Yi ?_ ?_
  ·intro h3;have h3:(100:Int)<((l[i].path.size:Nat):Int):=h3;exact .of_eq (Ac vb (no (by unfold Mq;rw[Aq (by omega)];rfl)))
  intro h3;have h3:¬(100:Int)<((l[i].path.size:Nat):Int):=h3;refine Xi (AE l[i]) (Yi (Yi (Nn i) (by simp[hg])) (Yi rfl ?_));refine Yi ?_ ?_
  ·intro h4;have h4:(8:Int)<((l[i].set.map Ao).length:Int):=h4;rw[Lm]at h4;exact .of_eq (Ac vb (no (by unfold Mq;rw[Aq (by omega:¬l[i].set.length≤8),DJ])))
  intro h4;have h4:¬(8:Int)<((l[i].set.map Ao).length:Int):=h4;have h5:l[i].set.length≤8:=by rw[Lm]at h4;omega
  refine Yi (Ii i (by omega)) ?_;refine Xi ⟨i+1,by omega,fun j hj H2=>?_⟩ ?_
  ·rcases EI j i with z | z
   ·exact h2 j hj z
   ·have:j=i:=by omega
    subst this;unfold Mq;rw[Ax (by omega),Ax h5];rfl
  ·exact⟨Dl l.length i (by omega),Z2,Tv,Fh,Tv⟩
 ·intro h;have h:¬(i:Int)<(l.map AE).length:=h;have h:¬i<l.length:=by simpa using h
  have ha:l.all Mq=true:=Bs.2 fun q hq=>by
   obtain⟨j,hj,rfl⟩:=FE hq;exact h2 j hj (by omega)
  refine Yi ?_ ?_
  ·intro h3;have h3:((l.map AE).length:Int)≤20:=h3;rw[Lm]at h3;exact .of_eq (Ac vb (show true=Et l by unfold Et;rw[ha,Ax (by omega)];rfl))
  ·intro h3;have h3:¬((l.map AE).length:Int)≤20:=h3;rw[Lm]at h3;exact .of_eq (Ac vb (show false=Et l by unfold Et;rw[Aq (by omega),DJ]))
def Jv(r:Rl):Bool:=decide (r.path.size≤100)&&decide (r.arch.size≤100)&&decide (r.ifc.size≤100)&&decide (r.cert.size≤100)&&Et r.reqs
def DX(x:List Rl)(n:Nat):Bool:=x.all Jv&&decide (x.length≤n)
theorem uv(x:List Rl)(n:Nat)(hl:Ci x)(hr:∀r∈x,Ci r.reqs):PC 60 [sl Ah x,vi n] (vb (DX x n)):=by
 unfold Ci at hl;refine Ps F6 Tryz.func60 rfl (Nz rfl) ?_;refine Xi {i:Nat // i≤x.length∧∀j (hj:j<x.length),j<i→Jv x[j]=true} (Xi (fun i=>⟨[(0,sl Ah x),(1,vi n),(5,vi i.1)],[],Aa⟩) (Xi (fun i=>x.length-i.1) (Yi (Xi ⟨0,AL _,fun j _ h=>by omega⟩ ?_) ?_)))
 ·exact⟨Z3,Tv,Fh,Tv⟩
 intro⟨i,h1,h2⟩;refine Yi ?_ ?_
 ·intro h;have h:(i:Int)<(x.map Ah).length:=h;have h:i<x.length:=by simpa using h
  have hg:x[i]?=some x[i]:=Ge h;have no:Jv x[i]=false→false=DX x n:=fun e=>by
   unfold DX
   have:x.all Jv=false:=by
    rw[AK];intro ha
    have:=Bs.1 ha _ (Ap h)
    rw[e]at this;cases this
   rw[this];rfl
  have hc:=qa x[i].reqs (hr _ (Ap h));refine Xi (Ah x[i]) (Yi (Yi (Nn i) (by simp[hg])) (Yi rfl ?_));refine Yi ?_ ?_
  ·intro h3;have h3:(100:Int)<((x[i].path.size:Nat):Int):=h3;exact .of_eq (Ac vb (no (by unfold Jv;rw[Aq (by omega:¬x[i].path.size≤100)];simp)))
  intro h3;have h3:¬(100:Int)<((x[i].path.size:Nat):Int):=h3;refine Xi (Ah x[i]) (Yi (Yi (Nn i) (by simp[hg])) (Yi rfl ?_));refine Yi ?_ ?_
  ·intro h4;have h4:(100:Int)<((x[i].arch.size:Nat):Int):=h4;exact .of_eq (Ac vb (no (by unfold Jv;rw[Aq (by omega:¬x[i].arch.size≤100)];simp)))
  intro h4;have h4:¬(100:Int)<((x[i].arch.size:Nat):Int):=h4;refine Xi (Ah x[i]) (Yi (Yi (Nn i) (by simp[hg])) (Yi rfl ?_));refine Yi ?_ ?_
  ·intro h5;have h5:(100:Int)<((x[i].ifc.size:Nat):Int):=h5;exact .of_eq (Ac vb (no (by unfold Jv;rw[Aq (by omega:¬x[i].ifc.size≤100)];simp)))
  intro h5;have h5:¬(100:Int)<((x[i].ifc.size:Nat):Int):=h5;refine Xi (Ah x[i]) (Yi (Yi (Nn i) (by simp[hg])) (Yi rfl ?_));refine Yi ?_ ?_
  ·intro h6;have h6:(100:Int)<((x[i].cert.size:Nat):Int):=h6;exact .of_eq (Ac vb (no (by unfold Jv;rw[Aq (by omega:¬x[i].cert.size≤100)];simp)))
  intro h6;have h6:¬(100:Int)<((x[i].cert.size:Nat):Int):=h6;refine Xi (Ah x[i]) (Yi (Yi (Nn i) (by simp[hg])) (Yi rfl ?_));refine BH (Bt (Et x[i].reqs)) (fun e=>?_) (fun e=>?_)
  rotate_left
  ·rw[e]at hc;refine Xi .pure (Xi _ (Yi (hc) ?_));exact .of_eq (Ac vb (no (by unfold Jv;rw[e,DJ])))
  rw[e]at hc;refine Xi .pure (Xi _ (Yi (hc) ?_));refine Yi (Ii i (by omega)) ?_;refine Xi ⟨i+1,by omega,fun j hj H2=>?_⟩ ?_
  ·rcases EI j i with z | z
   ·exact h2 j hj z
   ·have:j=i:=by omega
    subst this;unfold Jv;rw[Ax (by omega:x[j].path.size≤100),Ax (by omega:x[j].arch.size≤100),Ax (by omega:x[j].ifc.size≤100),Ax (by omega:x[j].cert.size≤100),e];rfl
  ·exact⟨Dl x.length i (by omega),Z3,Tv,Fh,Tv⟩
 ·intro h;have h:¬(i:Int)<(x.map Ah).length:=h;have h:¬i<x.length:=by simpa using h
  have ha:x.all Jv=true:=Bs.2 fun q hq=>by
   obtain⟨j,hj,rfl⟩:=FE hq;exact h2 j hj (by omega)
  refine Yi ?_ ?_
  ·intro h3;have h3:((x.map Ah).length:Int)≤n:=h3;rw[Lm]at h3;exact .of_eq (Ac vb (show true=DX x n by unfold DX;rw[ha,Ax (by omega)];rfl))
  ·intro h3;have h3:¬((x.map Ah).length:Int)≤n:=h3;rw[Lm]at h3;exact .of_eq (Ac vb (show false=DX x n by unfold DX;rw[Aq (by omega),DJ]))
theorem c11(x:List Rl)(ifs:List (List AV))(roots:List Rq)(hl:Ci x)(hr:∀r∈x,Ci r.reqs)(hq:Ci roots):PC 36 [JP x ifs,sl AE roots] (vb (DX x 16&&Et roots)):=by
 have h1:=uv x 16 hl hr;have h2:=qa roots hq;cases e:DX x 16 with
 |true =>
  rw[e]at h1;refine Ps F6 Tryz.func36 rfl (Nz rfl) ?_;refine Xi .pure (Xi _ (Yi (h1) ?_));refine Xi .pure (Xi _ (Yi (h2) ?_));exact .refl _
 |false =>
  rw[e]at h1;refine Ps F6 Tryz.func36 rfl (Nz rfl) ?_;refine Xi .pure (Xi _ (Yi (h1) ?_));exact .refl _
section
variable {l:List Rl}{roots t:List Rq}{d:List ByteArray}{n:Nat}
end
structure Z0(x:List Rl)(roots:List Rq):Prop where
 ix:Ci x
 rs:Ci roots
 rel:∀r∈x,Ci r.reqs∧IB r
 rq:∀q∈roots,N5 q
theorem Z0.x{x:List Rl}{roots:List Rq}(h:Z0 x roots):∀r∈x,IB r:=fun r hr=>(h.rel r hr).2
theorem Z0.c11{x:List Rl}{roots:List Rq}(h:Z0 x roots)(ifs:List (List AV)):PC 36 [JP x ifs,sl AE roots] (vb (DX x 16&&Et roots)) :=
 Go.Eng.c11 x ifs roots h.ix (fun r hr=>(h.rel r hr).1) h.rs
end Go.Eng
namespace Go.Proofs
open Go.Shelf
def Tryz.laySortStr_ren:Go.Shelf.Ren:=⟨fun | 190=>102 | 125=>130 | 258=>132 | 128=>170 | 129=>171 | 302=>173 | 303=>174 | 304=>175 | 305=>176 | 306=>177 | 307=>178 | 308=>179 | 309=>180 | 310=>181 | 333=>211 | 329=>207 | 330=>208 | 334=>212 | 335=>213 | 336=>81 | 344=>239 | n=>n,fun | 31=>129 | 9=>9 | 3=>3 | 46=>185 | 0=>0 | 51=>220 | 53=>222 | 4=>4 | 183=>214 | 182=>213 | 131=>133 | 5=>5 | 218=>248 | 222=>252 | 228=>270 | 229=>271 | n=>n,fun | n=>n⟩
theorem Tryz.laySortStr:Go.Proofs.Lays.n190 Tryz.prog Tryz.laySortStr_ren:={
 mixed:=by kernel_rfl
 f125:=Tryz.func130.trans (congrArg some (by kernel_rfl))
 f128:=Tryz.func170.trans (congrArg some (by kernel_rfl))
 f129:=Tryz.func171.trans (congrArg some (by kernel_rfl))
 f190:=Tryz.func102.trans (congrArg some (by kernel_rfl))
 f258:=Tryz.func132.trans (congrArg some (by kernel_rfl))
 f302:=Tryz.func173.trans (congrArg some (by kernel_rfl))
 f303:=Tryz.func174.trans (congrArg some (by kernel_rfl))
 f304:=Tryz.func175.trans (congrArg some (by kernel_rfl))
 f305:=Tryz.func176.trans (congrArg some (by kernel_rfl))
 f306:=Tryz.func177.trans (congrArg some (by kernel_rfl))
 f307:=Tryz.func178.trans (congrArg some (by kernel_rfl))
 f308:=Tryz.func179.trans (congrArg some (by kernel_rfl))
 f309:=Tryz.func180.trans (congrArg some (by kernel_rfl))
 f310:=Tryz.func181.trans (congrArg some (by kernel_rfl))
 f329:=Tryz.func207.trans (congrArg some (by kernel_rfl))
 f330:=Tryz.func208.trans (congrArg some (by kernel_rfl))
 f333:=Tryz.func211.trans (congrArg some (by kernel_rfl))
 f334:=Tryz.func212.trans (congrArg some (by kernel_rfl))
 f335:=Tryz.func213.trans (congrArg some (by kernel_rfl))
 f336:=Tryz.func81.trans (congrArg some (by kernel_rfl))
 f344:=Tryz.func239.trans (congrArg some (by kernel_rfl))
 t0:=Tryz.underlying0
 a0:=Tryz.isAgg0
 z0:=Tryz.sizeOf0
 v0:=Tryz.zeroValue0
 t3:=Tryz.underlying3
 a3:=Tryz.isAgg3
 z3:=Tryz.sizeOf3
 v3:=Tryz.zeroValue3
 t4:=Tryz.underlying4
 a4:=Tryz.isAgg4
 z4:=Tryz.sizeOf4
 v4:=Tryz.zeroValue4
 t5:=Tryz.underlying5
 a5:=Tryz.isAgg5
 z5:=Tryz.sizeOf5
 v5:=Tryz.zeroValue5
 t9:=Tryz.underlying9
 a9:=Tryz.isAgg9
 z9:=Tryz.sizeOf9
 v9:=Tryz.zeroValue9
 t31:=Tryz.underlying129
 a31:=Tryz.isAgg129
 z31:=Tryz.sizeOf129
 v31:=Tryz.zeroValue129
 t46:=Tryz.underlying185
 a46:=Tryz.isAgg185
 z46:=Tryz.sizeOf185
 v46:=Tryz.zeroValue185
 t51:=Tryz.underlying220
 a51:=Tryz.isAgg220
 z51:=Tryz.sizeOf220
 v51:=Tryz.zeroValue220
 t53:=Tryz.underlying222
 a53:=Tryz.isAgg222
 z53:=Tryz.sizeOf222
 v53:=Tryz.zeroValue222
 t131:=Tryz.underlying133
 a131:=Tryz.isAgg133
 z131:=Tryz.sizeOf133
 v131:=Tryz.zeroValue133
 t182:=Tryz.underlying213
 a182:=Tryz.isAgg213
 z182:=Tryz.sizeOf213
 v182:=Tryz.zeroValue213
 t183:=Tryz.underlying214
 a183:=Tryz.isAgg214
 z183:=Tryz.sizeOf214
 v183:=Tryz.zeroValue214
 t218:=Tryz.underlying248
 a218:=Tryz.isAgg248
 z218:=Tryz.sizeOf248
 v218:=Tryz.zeroValue248
 t222:=Tryz.underlying252
 a222:=Tryz.isAgg252
 z222:=Tryz.sizeOf252
 v222:=Tryz.zeroValue252
 t228:=Tryz.underlying270
 a228:=Tryz.isAgg270
 z228:=Tryz.sizeOf270
 v228:=Tryz.zeroValue270
 t229:=Tryz.underlying271
 a229:=Tryz.isAgg271
 z229:=Tryz.sizeOf271
 v229:=Tryz.zeroValue271 }
def Tryz.layCompactStr_ren:Go.Shelf.Ren:=⟨fun | 194=>104 | n=>n,fun | 31=>129 | 9=>9 | 3=>3 | 4=>4 | 0=>0 | n=>n,fun | n=>n⟩
theorem Tryz.layCompactStr:Go.Proofs.Lays.n194 Tryz.prog Tryz.layCompactStr_ren:={
 mixed:=by kernel_rfl
 f194:=Tryz.func104.trans (congrArg some (by kernel_rfl))
 t0:=Tryz.underlying0
 a0:=Tryz.isAgg0
 z0:=Tryz.sizeOf0
 v0:=Tryz.zeroValue0
 t3:=Tryz.underlying3
 a3:=Tryz.isAgg3
 z3:=Tryz.sizeOf3
 v3:=Tryz.zeroValue3
 t4:=Tryz.underlying4
 a4:=Tryz.isAgg4
 z4:=Tryz.sizeOf4
 v4:=Tryz.zeroValue4
 t9:=Tryz.underlying9
 a9:=Tryz.isAgg9
 z9:=Tryz.sizeOf9
 v9:=Tryz.zeroValue9
 t31:=Tryz.underlying129
 a31:=Tryz.isAgg129
 z31:=Tryz.sizeOf129
 v31:=Tryz.zeroValue129 }
end Go.Proofs
namespace Go.Eng
open Go.Proofs Go.Shelf Go.RowKit Go.Lib Go.Sort
abbrev ah(s:ByteArray):List UInt8:=s.data.toList
abbrev jq(l:List UInt8):ByteArray:=⟨l.toArray⟩
theorem jR(s:ByteArray):jq (ah s)=s:=by cases s;simp
theorem MD(zs:List (List UInt8)):((zs.map jq).map DP).flatten=(zs.map Go.Proofs.encStr).map AV.v:=by
 induction zs with
 |nil=>rfl
 |cons z zs ih=>rw[AN,AN,BA,ih];rfl
theorem VP(ss:List ByteArray):(ss.map ah).map jq=ss:=by
 rw[BN,show jq ∘ ah=id from funext jR,JF]
theorem we(ss t:List ByteArray)(hl:Ci ss)(DE:ss≠[])(hp:t.Perm ss)(ht:(t.map ah).Pairwise fun a b=>a≤b) :
  Be Tryz.prog 102 [.msl 1000 ss.length] (Aj [(1000,.arr 1 (ss.map DP))] Aa) fun r h'=>r=.tup []∧h'=Aj [(1000,.arr 1 (t.map DP))] Aa:=by
 have hl:ss.length≤1073741824:=hl;have hE:F2 Tryz.prog 102:=dP 102 Tryz.func102 (by kernel_rfl) rfl;obtain⟨zs,hz⟩:∃zs,zs=ss.map ah:=⟨_,rfl⟩;have EK:ss=zs.map jq:=by rw[hz,VP]
 have Hb:=Px (P:=Tryz.prog) (f:=102) (es:=ss.map DP) (sz:=1) (rest:=[]) (Q:=fun FD=>FD=t.map DP) hE ?_ ?_
 ·rw[Lm]at Hb;refine⟨hE,fun g w vals q1 q2 q3=>(Hb.2 g w vals q1 q2 q3).mono fun _ _ ⟨v,r,h',g',e1,⟨e2,FD,p1,p3⟩,rest⟩=>⟨v,r,h',g',e1,⟨e2,by rw[p3,p1]⟩,rest⟩⟩
 ·intro e;exact absurd (Dr.1 e) DE
 ·intro g w b cap F hr hF hH hb;have qt:F.toList=zs.map Go.Proofs.encStr:=Ln (by rw[←MD,←EK];exact hr);have fO:F=zs.toArray.map Go.Proofs.encStr:=IA.1 (by rw[qt];simp);have MY:zs.length=ss.length:=by rw[hz,Lm]
  have qu:Holds Go.Proofs.encStr w b 0 zs.toArray:=fun j hj=>by
   have:=hH j (by rw[fO];simpa using hj)
   refine⟨this.1.trans ?_,this.2⟩;rw[fO,DD _ j (by simpa using hj),DD _ j hj];simp
  have hc:=Any.slices_Sort_string Tryz.laySortStr b 0 cap zs w qu hb (by omega);have htz:(zs.mergeSort fun x y=>decide (x≤y))=t.map ah:=by
   have IQ:(zs.mergeSort fun x y=>decide (x≤y)).Perm zs:=List.mergeSort_perm _ _;have rn:=List.pairwise_mergeSort (le:=fun x y:List UInt8=>decide (x≤y)) (fun a b c h1 h2=>by simp only[Ay]at *;exact List.le_trans h1 h2) (fun a b=>by simp only[CG,Ay];exact List.le_total a b) zs;refine List.Perm.eq_of_pairwise (le:=fun a b=>a≤b) (fun a b _ _ h k=>List.le_antisymm h k) (rn.imp fun h=>Bq h) ht (IQ.trans ?_);rw[hz];exact(hp.map ah).symm
  rw[htz,MY]at hc;rw[Lm];refine hc.mono ?_
  rintro e w' ⟨rfl,n,os,rfl⟩
  have DL:t.length=ss.length:=hp.length_eq;refine⟨rfl,(t.map ah).toArray.map Go.Proofs.encStr,t.map DP,n,os,?_,rfl,by simp[DL],fun cs hcs=>?_,fun g w _=>?_,by rw[PY]⟩
  ·rw[fO];simp[DL,MY]
  ·obtain⟨x,_,rfl⟩:=Al.1 hcs;rfl
  ·have e1:t.map DP=((t.map ah).map jq).map DP:=by rw[VP]
   rw[e1,MD];have e:(((t.map ah).toArray.map Go.Proofs.encStr).toList)=(t.map ah).map Go.Proofs.encStr:=by simp
   rw[e];exact MS _ _ _ _ fun x hx=>by
    obtain⟨z,_,rfl⟩:=Al.1 hx;rfl
def B7(ss:List ByteArray):List ByteArray:=(Lib.compact (ss.map ah)).map jq
theorem QF(zs:List (List UInt8)):(Lib.compact zs).length≤zs.length:=by
 unfold Lib.compact Lib.compactUpTo;rw[Lm];exact AU (BF _ _) (by rw[Qw];exact Ak _)
theorem wg(ss:List ByteArray)(hl:Ci ss)(DE:ss≠[]) :
  Be Tryz.prog 104 [.msl 1000 ss.length] (Aj [(1000,.arr 1 (ss.map DP))] Aa) fun r h'=>r=.msl 2000 (B7 ss).length∧h'=Aj [(1000,.dead),(2000,.arr 1 ((B7 ss).map DP))] Aa:=by
 have hl:ss.length≤1073741824:=hl;have hE:F2 Tryz.prog 104:=dP 104 Tryz.func104 (by kernel_rfl) rfl;obtain⟨zs,hz⟩:∃zs,zs=ss.map ah:=⟨_,rfl⟩;have EK:ss=zs.map jq:=by rw[hz,VP]
 have MY:zs.length=ss.length:=by rw[hz,Lm]
 have hcl:=QF zs;have Hb:=Ux (P:=Tryz.prog) (f:=104) (es:=ss.map DP) (sz:=1) (rest:=[]) (n':=(Lib.compact zs).length) (Q:=fun FD=>FD=((Lib.compact zs++List.replicate (zs.length-(Lib.compact zs).length) []).map jq).map DP) hE (fun e=>DE (Dr.1 e)) (by rw[Lm];omega) ?_
 ·rw[Lm]at Hb;have ez:B7 ss=(Lib.compact zs).map jq:=by unfold B7;rw[hz]
  refine⟨hE,fun g w vals q1 q2 q3=>(Hb.2 g w vals q1 q2 q3).mono fun _ _ ⟨x,r,h',g',e1,⟨e2,FD,p1,p2⟩,rest⟩=>⟨x,r,h',g',e1,⟨by rw[e2,ez,Lm],by
   rw[p2,p1,ez,AH,AH,D7 (by rw[Lm,Lm];exact Ak _),AS (by rw[Lm,Lm];exact Ak _)]⟩,rest⟩⟩
 ·intro g w b cap F hr hF hH hb hc;rw[Lm]at hF hc⊢;have qt:F.toList=zs.map Go.Proofs.encStr:=Ln (by rw[←MD,←EK];exact hr);have fO:F=zs.toArray.map Go.Proofs.encStr:=IA.1 (by rw[qt];simp);have qu:Holds Go.Proofs.encStr w b 0 zs.toArray:=fun j hj=>by
   have:=hH j (by rw[fO];simpa using hj)
   refine⟨this.1.trans ?_,this.2⟩;rw[fO,DD _ j (by simpa using hj),DD _ j hj];simp
  have hcon:=Any.slices_Compact_string Tryz.layCompactStr b 0 cap zs w qu (by omega) (by omega);rw[MY]at hcon;refine hcon.mono ?_
  rintro e w' ⟨rfl,q,rfl⟩
  refine⟨rfl,(Lib.compact zs++List.replicate (zs.length-(Lib.compact zs).length) []).toArray.map Go.Proofs.encStr,_,q,#[],?_,rfl,?_,fun cs hcs=>?_,fun g w _=>?_,?_⟩
  ·rw[fO];simp;omega
  ·simp;omega
  ·obtain⟨x,_,rfl⟩:=Al.1 hcs;rfl
  ·rw[MD];have e:((Lib.compact zs++List.replicate (zs.length-(Lib.compact zs).length) []).toArray.map Go.Proofs.encStr).toList=(Lib.compact zs++List.replicate (zs.length-(Lib.compact zs).length) []).map Go.Proofs.encStr:=by simp
   rw[e];exact MS _ _ _ _ fun x hx=>by
    obtain⟨z,_,rfl⟩:=Al.1 hx;rfl
  ·rw[PY,grow_empty,MY]
end Go.Eng
namespace Go.Eng
open Go.Proofs
abbrev oF(n:Nat):RS:=⟨[],[],[(2,n),(5,n)],[],[],[],[5],[],[],[],[2,3]⟩
theorem sn(l:List Sl)(hl:Ci l):Be Tryz.prog 89 [sl Ae l] (Aj [] Aa) fun r h'=>r=.msl 2000 l.length∧h'=Aj [(2000,.arr 4 (l.map Ae))] Aa:=by
 refine Co (MA (oF 4)) [(2,2000)] rfl CD hm rfl Tryz.func89 (by kernel_rfl) rfl (Nz rfl) (by kernel_rfl) rfl ?_;have Ga:Dn 4 (l.map Ae)∧([]:List (List AV)).length=0∧(([]:List (List AV)).length+(l.map Ae).length)*40≤140737488355328∧([]:List (List AV)).length+(l.map Ae).length≤9223372036854775807:=by
  refine⟨EE (enc:=Ae) (n:=4) (fun _=>rfl) l,rfl,?_,?_⟩<;>simp only[AD,Lm]<;>unfold Ci at hl<;>omega
 have e1:AV.msl 2000 (([]:List (List AV)).length+(l.map Ae).length)=.msl 2000 l.length:=by simp
 refine Xi 0 ?_;refine Xi 0 ?_;refine Yi ?_ ?_
 ·intro _;refine Xi ⟨[(0,sl Ae l)],[],Aa⟩ (Yi ⟨Z1,Tv,Fh,Az (by kernel_rfl)⟩ ?_)
  refine Xi 2 ?_;refine Yi Ga ?_;exact Xi _ (Yi (.refl _) (Yi e1 rfl))
 ·intro h;have h:l.map Ae=[]:=h;refine Yi ?_ ?_
  ·refine Xi ⟨[],[],Aa⟩ (Yi ⟨trivial,trivial,fun _=>.inl rfl,Az (by kernel_rfl)⟩ ?_)
   refine Xi 2 ?_;exact Xi _ (Yi (.refl _) (Yi (show AV.msl 2000 0=_ by rw[Dr.1 h];rfl) (show Aj [(2000,HO.arr 4 [])] Aa=_ by rw[h])))
  ·refine Xi ⟨[(0,sl Ae l)],[],Aa⟩ (Yi ⟨Z1,Tv,Fh,Az (by kernel_rfl)⟩ ?_)
   refine Xi 2 ?_;refine Yi Ga ?_;exact Xi _ (Yi (.refl _) (Yi e1 rfl))
theorem xq(l:List Rl)(hl:Ci l):Be Tryz.prog 76 [sl Ah l] (Aj [] Aa) fun r h'=>r=.msl 2000 l.length∧h'=Aj [(2000,.arr 9 (l.map Ah))] Aa:=by
 refine Co (MA (oF 9)) [(2,2000)] rfl CD hm rfl Tryz.func76 (by kernel_rfl) rfl (Nz rfl) (by kernel_rfl) rfl ?_;have Ga:Dn 9 (l.map Ah)∧([]:List (List AV)).length=0∧(([]:List (List AV)).length+(l.map Ah).length)*120≤140737488355328∧([]:List (List AV)).length+(l.map Ah).length≤9223372036854775807:=by
  refine⟨EE (enc:=Ah) (n:=9) (fun _=>rfl) l,rfl,?_,?_⟩<;>simp only[AD,Lm]<;>unfold Ci at hl<;>omega
 have e1:AV.msl 2000 (([]:List (List AV)).length+(l.map Ah).length)=.msl 2000 l.length:=by simp
 refine Xi 0 ?_;refine Xi 0 ?_;refine Yi ?_ ?_
 ·intro _;refine Xi ⟨[(0,sl Ah l)],[],Aa⟩ (Yi ⟨Z1,Tv,Fh,Az (by kernel_rfl)⟩ ?_)
  refine Xi 2 ?_;refine Yi Ga ?_;exact Xi _ (Yi (.refl _) (Yi e1 rfl))
 ·intro h;have h:l.map Ah=[]:=h;refine Yi ?_ ?_
  ·refine Xi ⟨[],[],Aa⟩ (Yi ⟨trivial,trivial,fun _=>.inl rfl,Az (by kernel_rfl)⟩ ?_)
   refine Xi 2 ?_;exact Xi _ (Yi (.refl _) (Yi (show AV.msl 2000 0=_ by rw[Dr.1 h];rfl) (show Aj [(2000,HO.arr 9 [])] Aa=_ by rw[h])))
  ·refine Xi ⟨[(0,sl Ah l)],[],Aa⟩ (Yi ⟨Z1,Tv,Fh,Az (by kernel_rfl)⟩ ?_)
   refine Xi 2 ?_;refine Yi Ga ?_;exact Xi _ (Yi (.refl _) (Yi e1 rfl))
theorem xr(l:List Rq)(hl:Ci l):Be Tryz.prog 77 [sl AE l] (Aj [] Aa) fun r h'=>r=.msl 2000 l.length∧h'=Aj [(2000,.arr 2 (l.map AE))] Aa:=by
 refine Co (MA (oF 2)) [(2,2000)] rfl CD hm rfl Tryz.func77 (by kernel_rfl) rfl (Nz rfl) (by kernel_rfl) rfl ?_;have Ga:Dn 2 (l.map AE)∧([]:List (List AV)).length=0∧(([]:List (List AV)).length+(l.map AE).length)*40≤140737488355328∧([]:List (List AV)).length+(l.map AE).length≤9223372036854775807:=by
  refine⟨EE (enc:=AE) (n:=2) (fun _=>rfl) l,rfl,?_,?_⟩<;>simp only[AD,Lm]<;>unfold Ci at hl<;>omega
 have e1:AV.msl 2000 (([]:List (List AV)).length+(l.map AE).length)=.msl 2000 l.length:=by simp
 refine Xi 0 ?_;refine Xi 0 ?_;refine Yi ?_ ?_
 ·intro _;refine Xi ⟨[(0,sl AE l)],[],Aa⟩ (Yi ⟨Z1,Tv,Fh,Az (by kernel_rfl)⟩ ?_)
  refine Xi 2 ?_;refine Yi Ga ?_;exact Xi _ (Yi (.refl _) (Yi e1 rfl))
 ·intro h;have h:l.map AE=[]:=h;refine Yi ?_ ?_
  ·refine Xi ⟨[],[],Aa⟩ (Yi ⟨trivial,trivial,fun _=>.inl rfl,Az (by kernel_rfl)⟩ ?_)
   refine Xi 2 ?_;exact Xi _ (Yi (.refl _) (Yi (show AV.msl 2000 0=_ by rw[Dr.1 h];rfl) (show Aj [(2000,HO.arr 2 [])] Aa=_ by rw[h])))
  ·refine Xi ⟨[(0,sl AE l)],[],Aa⟩ (Yi ⟨Z1,Tv,Fh,Az (by kernel_rfl)⟩ ?_)
   refine Xi 2 ?_;refine Yi Ga ?_;exact Xi _ (Yi (.refl _) (Yi e1 rfl))
theorem Be.to2{P:Program}{f:Nat}{args:List AV}{h0:Nat→HO}{r0:AV}{H0:Nat→HO}{Q' : AV→(Nat→HO)→Prop}(h:Be P f args h0 fun r h'=>r=r0∧h'=H0)(k:Q' r0 H0):Be P f args h0 Q' :=
 h.mono fun r h' q=>⟨r,.refl _,by rw[q.1,q.2];exact k⟩
theorem cb{f:Nat}{args:List AV}{b x:Bool}(h:b=x)(hc:PC f args (vb b)):PC f args (vb x):=h▸hc
theorem Ka{α:Type}{f:α→List AV}{l:List α}{i:Nat}(h:(i:Int)<((l.map f).length:Int)):i<l.length:=by rw[Lm]at h;omega
theorem KC{α:Type}{f:α→List AV}{l:List α}{i:Nat}(h:¬(i:Int)<((l.map f).length:Int)):¬i<l.length:=by rw[Lm]at h;omega
theorem OO{α:Type}{f:α→List AV}{l:List α}{i:Nat}(h:i<l.length):(0:Int)≤(i:Int)∧(l.map f)[((i:Nat):Int).toNat]?=some (f l[i]):=⟨N6 _,by rw[Cj,AI,Ge h];rfl⟩
theorem Pr{n z:Nat}{α:Type}{f:α→List AV}{O:List α}{x:List AV}(hx:x.length=n)(h:O.length≤2147483647)(hz:z≤65536) :
  Dn n [x]∧(O.map f).length=O.length∧((O.map f).length+([x]:List (List AV)).length)*z≤140737488355328∧(O.map f).length+([x]:List (List AV)).length≤9223372036854775807:=by
 refine⟨⟨hx,trivial⟩,Lm _,?_,?_⟩<;>rw[Lm]<;>simp only[Au,AD]
 ·have:=Nat.mul_le_mul (show O.length+(0+1)≤2147483648 by omega) hz
  omega
 ·omega
theorem Us{α:Type}{f:α→List AV}{O:List α}{x:α}{r n:Nat}:AV.slice (.id r n) (O.map f++[f x])=.slice (.id r n) ((O++[x]).map f):=by rw[AH];rfl
theorem Ui{α:Type}{f:α→List AV}{O:List α}{x:α}{y:List AV}{n:Nat}:HO.tok n ((O.map f).length+([y]:List (List AV)).length)=.tok n (O++[x]).length:=by rw[Ad,Lm];rfl
abbrev hE(l:List Rl)(i:Nat)(r:Rl):List (List AV):=(l.map Ah).set i (over (Ah r) 4 [.junk])
theorem Zc(l:List Rl)(i:Nat)(r:Rl):(hE l i r).length=l.length:=by simp
theorem qr{l:List Rl}{i:Nat}(h:i<l.length):(hE l i l[i])[i]?=some (over (Ah l[i]) 4 [.junk]):=by
 rw[T5 (by rw[Lm];exact h)]
theorem kk{l:List Rl}{i:Nat}(h:i<l.length):(hE l i l[i]).set i (over (over (Ah l[i]) 4 [.junk]) 4 [.slice .none (l[i].reqs.map AE)])=l.map Ah:=by
 unfold hE;rw[List.set_set];refine CE fun k=>?_;rw[Qu];split
 ·rename_i e;subst e;rw[Aw (by rw[Lm];exact h),AI,Ge h];rfl
 ·rfl
theorem iQ{qs:List Rq}{k:Nat}(h:k<qs.length):(qs.map AE).set k (over (AE qs[k]) 1 [sl Ao qs[k].set])=qs.map AE:=by
 refine CE fun j=>?_;rw[Qu];split
 ·rename_i e;subst e;rw[Aw (by rw[Lm];exact h),AI,Ge h];rfl
 ·rfl
set_option maxHeartbeats 4000000 in
theorem sm(l:List Rl)(hl:Ci l)(hq:∀r∈l,Ci r.reqs)(hs:∀r∈l,∀q∈r.reqs,Ci q.set):Be Tryz.prog 37 [sl Ah l] (Aj [] Aa) fun r h'=>r=.msl 2000 l.length∧h'=Aj [(2000,.arr 9 (l.map Ah))] Aa:=by
 refine Co (MA ⟨[],[],[],[],[],[],[],[],[],[(950011,10700)],[2,6,7,8,9,10,11]⟩) [(10700,2000)] rfl CD hm rfl Tryz.func37 (by kernel_rfl) rfl (Nz rfl) (by kernel_rfl) rfl ?_;refine Xi (.gen [] 1) (Yi rfl (Be.imp (xq l hl) ?_));intro v1 g1 q1;have iH:=q1.1;have iI:=q1.2;subst iH;subst iI;refine Xi ⟨[(3,.msl 10700 l.length)],[(10700,.arr 9 (l.map Ah))],Aa⟩ (Yi ⟨Z1,Z1,Fh,Az (by kernel_rfl)⟩ ?_)
 refine Xi {q:Nat // q≤l.length} (Xi (fun q=>⟨[(3,.msl 10700 l.length),(9,vi l.length),(10,vi q.1)],[(10700,.arr 9 (l.map Ah))],Aa⟩) (Xi (fun q=>l.length-q.1) (Yi (Xi ⟨0,AL _⟩ ?_) ?_)))
 ·exact⟨Z3,Z1,Fh,Az (by kernel_rfl)⟩
 intro⟨i,i1⟩;have i1:i≤l.length:=i1;refine Yi (fun h2=>?_) (fun h2=>?_)
 ·have h2:(i:Int)<(l.length:Int):=h2;have n2:i<l.length:=by omega
  have g2:l[i]?=some l[i]:=Ge n2;have ni:i<l.length:=by omega
  have hqi:l[i].reqs.length≤1073741824:=hq _ (Ap ni);refine Yi (show(0:Int)≤i∧(i:Int)<(l.length:Nat) by omega) ?_;refine Yi (show l.length=(l.map Ah).length by rw[Lm]) ?_;refine Xi (Ah l[i]) (Yi (Ch (Ge ni)) ?_);refine Xi (.gen [] 1) (Yi rfl (Be.imp (xr l[i].reqs (hq _ (Ap ni))) ?_));intro v5 g5 q5;have q5a:=q5.1;have q5b:=q5.2;subst q5a;subst q5b;refine Yi (show(0:Int)≤i∧(i:Int)<(l.length:Nat) by omega) ?_;refine Yi (show l.length=(l.map Ah).length by rw[Lm]) ?_;refine Xi (Ah l[i]) (Yi (Ch (Ge ni)) ?_);refine Yi (Nz rfl) ?_;refine Xi ⟨[(3,.msl 10700 l.length),(4,vi i),(9,vi l.length),(10,vi i)],[(10700,.hol 9 (hE l i l[i]) i 4 (.msl 12000 l[i].reqs.length)),(12000,.arr 2 (l[i].reqs.map AE))],Aa⟩ (Yi ⟨Z4,Z2,Fh,Az (by kernel_rfl)⟩ ?_)
  refine Yi (show(0:Int)≤i∧(i:Int)<(l.length:Nat) by omega) ?_;refine Yi (show l.length=(hE l i l[i]).length∧(i:Int).toNat=i∧4=4 from⟨(Zc l i l[i]).symm,rfl,rfl⟩) ?_;refine Xi {q:Nat // q≤l[i].reqs.length} (Xi (fun q=>⟨[(3,.msl 10700 l.length),(4,vi i),(9,vi l.length),(10,vi i),(28,vi (l[i].reqs.length:Nat)),(29,vi q.1)],[(10700,.hol 9 (hE l i l[i]) i 4 (.msl 12000 l[i].reqs.length)),(12000,.arr 2 (l[i].reqs.map AE))],Aa⟩) (Xi (fun q=>l[i].reqs.length-q.1) (Yi (Xi ⟨0,AL _⟩ ?_) ?_)))
  ·exact⟨Z6,Z2,Fh,Az (by kernel_rfl)⟩
  intro⟨k,k1⟩;have k1:k≤l[i].reqs.length:=k1;refine Xi ⟨[(3,.msl 10700 l.length),(4,vi i),(9,vi l.length),(10,vi i),(28,vi (l[i].reqs.length:Nat)),(29,vi k)],[(10700,.hol 9 (hE l i l[i]) i 4 (.msl 12000 l[i].reqs.length)),(12000,.arr 2 (l[i].reqs.map AE))],Aa⟩ (Yi ⟨Z6,Z2,Fh,Az (by kernel_rfl)⟩ ?_)
  refine Yi (fun h3=>?_) (fun h3=>?_)
  ·have h3:(k:Int)<((l[i].reqs.length:Nat):Int):=h3;have nk:k<l[i].reqs.length:=by omega
   refine Xi ⟨[(3,.msl 10700 l.length),(4,vi i),(9,vi l.length),(10,vi i),(28,vi (l[i].reqs.length:Nat)),(29,vi k)],[(10700,.hol 9 (hE l i l[i]) i 4 (.msl 12000 l[i].reqs.length)),(12000,.arr 2 (l[i].reqs.map AE))],Aa⟩ (Yi ⟨Z6,Z2,Fh,Az (by kernel_rfl)⟩ ?_)
   refine Xi ⟨[(3,.msl 10700 l.length),(4,vi i),(5,vi k),(9,vi l.length),(10,vi i),(28,vi (l[i].reqs.length:Nat)),(29,vi k)],[(10700,.hol 9 (hE l i l[i]) i 4 (.msl 12000 l[i].reqs.length)),(12000,.arr 2 (l[i].reqs.map AE))],Aa⟩ (Yi ⟨Z7,Z2,Fh,Az (by kernel_rfl)⟩ ?_)
   refine Yi (show(0:Int)≤i∧(i:Int)<(l.length:Nat) by omega) ?_;refine Yi (show l.length=(hE l i l[i]).length∧(i:Int).toNat=i∧4=4 from⟨(Zc l i l[i]).symm,rfl,rfl⟩) ?_;refine Yi (show(0:Int)≤i∧(i:Int)<(l.length:Nat) by omega) ?_;refine Yi (show l.length=(hE l i l[i]).length∧(i:Int).toNat=i∧4=4 from⟨(Zc l i l[i]).symm,rfl,rfl⟩) ?_;refine Yi (show(0:Int)≤k∧(k:Int)<(l[i].reqs.length:Nat) by omega) ?_;refine Yi (show l[i].reqs.length=(l[i].reqs.map AE).length by rw[Lm]) ?_;refine Xi (AE l[i].reqs[k]) (Yi (Ch (Ge nk)) ?_);refine Xi _ (Yi (pT l[i].reqs[k].set (hs _ (Ap ni) _ (Ap nk))) ?_);refine Yi (show(0:Int)≤k∧(k:Int)<(l[i].reqs.length:Nat) by omega) ?_;refine Yi (show l[i].reqs.length=(l[i].reqs.map AE).length by rw[Lm]) ?_;refine Xi (AE l[i].reqs[k]) (Yi (Ch (Ge nk)) ?_);refine Yi (Nz rfl) ?_;refine Yi (by kernel_rfl) ?_;refine Xi ⟨[(3,.msl 10700 l.length),(4,vi i),(9,vi l.length),(10,vi i),(28,vi (l[i].reqs.length:Nat)),(29,vi k)],[(10700,.hol 9 (hE l i l[i]) i 4 (.msl 12000 l[i].reqs.length)),(12000,.arr 2 (l[i].reqs.map AE))],Aa⟩ (Yi ⟨Z6,⟨Zr,⟨(show(.arr 2 ((l[i].reqs.map AE).set k (over (AE l[i].reqs[k]) 1 [sl Ao l[i].reqs[k].set])):HO)=.arr 2 (l[i].reqs.map AE)from Ac (HO.arr 2) (iQ nk)),rfl⟩,Tv⟩,Fh,Az (by kernel_rfl)⟩ ?_)
   refine Yi (Ii k (by omega)) ?_;refine Xi ⟨k+1,nk⟩ ?_;exact⟨by show l[i].reqs.length-(k+1)<l[i].reqs.length-k;omega,Z6,Z2,Fh,Az (by kernel_rfl)⟩
  have h3:¬((k:Int)<((l[i].reqs.length:Nat):Int)):=h3;refine Yi (show l[i].reqs.length=(l[i].reqs.map AE).length by rw[Lm]) ?_;refine Xi (over (Ah l[i]) 4 [.junk]) (Yi (qr ni) (Yi (Nz rfl) ?_));refine Xi ⟨[(3,.msl 10700 l.length),(9,vi l.length),(10,vi i)],[(10700,.arr 9 (l.map Ah))],Aa⟩ (Yi ⟨Z3,⟨⟨(show HO.arr 9 ((hE l i l[i]).set i (over (over (Ah l[i]) 4 [.junk]) 4 [.slice .none (l[i].reqs.map AE)]))=.arr 9 (l.map Ah)from Ac (HO.arr 9) (kk ni)),rfl⟩,Tv⟩,Fh,Az (by kernel_rfl)⟩ ?_)
  refine Yi (Ii i (by omega)) ?_;refine Xi ⟨i+1,ni⟩ ?_;exact⟨Dl l.length i (by omega),Z3,Z1,Fh,Az (by kernel_rfl)⟩
 have h2:¬((i:Int)<(l.length:Int)):=h2;have n2:¬i<l.length:=by omega
 exact Xi _ (Yi (.refl _) Zr)
theorem Uz{n:Nat}:∀{l:List (List AV)},(∀c∈l,c.length=n)→Dn n l
 | [],_=>trivial
 |c::_,h=>⟨h c (Ab ..),Uz fun d hd=>h d (Af _ hd)⟩
end Go.Eng
