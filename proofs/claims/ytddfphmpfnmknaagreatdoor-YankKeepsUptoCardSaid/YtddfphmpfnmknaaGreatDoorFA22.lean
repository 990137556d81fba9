/- Lemmas for the claims of this seat, without a condition: part 22 (C65, C66, C67, C68, C69, C56, C57, C58, C59, C70, C71, C72, C73, LayStrs, O15, S17, O1, C0, O2, R1, R2, R3, R4, R5, C60, C61, C62, C63, C64, R6, R7, R8, R9, R10, R11, O3, R12, R13, O4, O5, O6, O7, O8, O9, O10, R14, R15, R16, R17, R18, R19, R20, R21, R22, R23, O11, O12, O13, O14). -/
import Derived.Test.YtddfphmpfnmknaaGreatDoorFA21
import Derived.Test.YtddfphmpfnmknaaGreatDoorFA17
import Derived.Test.YtddfphmpfnmknaaGreatDoorFA03
import Derived.Shelf.Sort.Plain
import Derived.Shelf.Slices.CompactS
import Derived.Ground.NamesProg
namespace Go.Eng
open Go.Proofs
theorem K7:∀(y:List Rl) (acc:List ByteArray) (r:Rl),AO (y++[r]) acc=if(AO y acc).any (fun p=>decide (p=r.path))then AO y acc else AO y acc++[r.path]
 | [],acc,r=>rfl
 |s::y,acc,r=>by rw[ID,AO,AO,K7 y]
theorem EN:∀(y:List Rl) (acc:List ByteArray),acc.Nodup→(AO y acc).Nodup
 | [],_,h=>h
 |s::y,acc,h=>by
  rw[AO];refine EN y _ ?_;split
  ·exact h
  ·rename_i hn;rw[Gd];refine⟨h,by simp,fun a ha b hb e=>?_⟩;rw[Am]at hb;exact hn (N8.2 (by rw[←hb,←e];exact ha))
abbrev Na(y:List Rl)(p:ByteArray):List (List AV):=(y.filter fun r=>decide (r.path=p)).map Aj
abbrev fy(y:List Rl)(q:ByteArray×Nat):Value×AV:=(.string q.1,.slice (.id (q.2+50) 9) (Na y q.1))
abbrev Ru(y:List Rl):List (Value×AV):=(AO y []).zipIdx.map (fy y)
def Jz(y:List Rl)(l:Nat):HO:=match(AO y [])[l]? with
 |some q=>.tok 9 (Na y q).length
 |none=>.free
def UX(y:List Rl)(j:Nat):HO:=bif Nat.ble 50 j then Jz y (j-50)else .free
theorem HA(y:List Rl)(l:Nat):UX y (l+50)=Jz y l:=by
 unfold UX;rw[show Nat.ble 50 (l+50)=true by rw[CV];omega,Nat.add_sub_cancel];rfl
theorem nx(y:List Rl){j:Nat}(h:j<50):UX y j=.free:=by
 unfold UX;rw[show Nat.ble 50 j=false by rw[AM];intro hc;rw[CV]at hc;omega];rfl
theorem Ix(y:List Rl)(r:Rl)(q:ByteArray):Na (y++[r]) q=if r.path=q then Na y q++[Aj r]else Na y q:=by
 unfold Na;rw[De]
 by_cases h:r.path=q
 ·rw[Ao h,RL (by simpa using h)];simp
 ·rw[Ah h,RK (by simpa using h)];simp
theorem Ik{l:List ByteArray}{q:ByteArray×Nat}(h:q∈l.zipIdx):l[q.2]?=some q.1:=by
 obtain⟨a,b⟩:=q;exact Fw.1 h
open Classical in
theorem L7{BX:List (Value×AV)}{k:Value}{a:AV}(h:∀a',(k,a')∉BX):ER BX k a=BX++[(k,a)]:=by
 unfold ER;rw[Ah (fun⟨a',h'⟩=>h a' h')]
open Classical in
theorem X5{BX:List (Value×AV)}{k:Value}{a a' : AV}(h:(k,a')∈BX):ER BX k a=BX.map fun p=>if p.1=k then(k,a)else p:=by
 unfold ER;rw[Ao ⟨a',h⟩]
section
variable {y:List Rl}{r:Rl}{k:Nat}
theorem Jb(h:(AO y [])[k]?=some r.path):AO (y++[r]) []=AO y []:=by
 rw[K7,Ao (N8.2 (Ar h))]
theorem Ja(h:r.path∉AO y []):AO (y++[r]) []=AO y []++[r.path]:=by
 rw[K7,Ah (fun hc=>h (N8.1 hc))]
theorem I8{l:List ByteArray}(hd:l.Nodup){i j:Nat}{p:ByteArray}(h1:l[i]?=some p)(h2:l[j]?=some p):i=j:=by
 obtain⟨a1,a2⟩:=Ap.1 h1;obtain⟨b1,b2⟩:=Ap.1 h2;exact(List.getElem_inj hd).1 (a2.trans b2.symm)
open Classical in
theorem jO(h:(AO y [])[k]?=some r.path):ER (Ru y) (.string r.path) (.slice (.id (k+50) 9) (Na y r.path++[Aj r]))=Ru (y++[r]):=by
 have hd:=EN y [] E9;have hm:fy y (r.path,k)∈Ru y:=Ak.2 ⟨_,Fw.2 h,rfl⟩;rw[X5 (a':=.slice (.id (k+50) 9) (Na y r.path)) hm];unfold Ru;rw[Jb h,BB];refine A5 fun q hq=>?_;have hg:=Ik hq;obtain⟨q,j⟩:=q;show(if Value.string q=Value.string r.path then _ else _)=fy (y++[r]) (q,j);have hg:(AO y [])[j]?=some q:=hg
 by_cases he:q=r.path
 ·subst he
  have:j=k:=I8 hd hg h
  subst this;rw[Ao rfl];show _=(Value.string r.path,AV.slice (.id (j+50) 9) (Na (y++[r]) r.path));rw[Ix,Ao rfl]
 ·rw[Ah (fun e=>he (by simpa using e))];show(Value.string q,AV.slice (.id (j+50) 9) (Na y q))=(Value.string q,AV.slice (.id (j+50) 9) (Na (y++[r]) q));rw[Ix,Ah (fun e=>he e.symm)]
theorem aN(h:r.path∉AO y []):Na y r.path=[]:=by
 have:y.filter (fun s=>decide (s.path=r.path))=[]:=by
  rw[Hj];intro s hs he;exact h ((Hh y [] r.path).2 (.inr ⟨s,hs,A2 he⟩))
 unfold Na;rw[this];rfl
theorem XE(h:r.path∉AO y [])(a:AV):(Value.string r.path,a)∉Ru y:=by
 intro hc;obtain⟨q,h1,h2⟩:=Ak.1 hc;simp only[fy,FM,Value.string.injEq]at h2;exact h (by rw[←h2.1];exact Ar (Ik h1))
theorem jN(h:r.path∉AO y []):ER (Ru y) (.string r.path) (.slice (.id ((AO y []).length+50) 9) [Aj r])=Ru (y++[r]):=by
 rw[L7 (fun a=>XE h a)];unfold Ru;rw[Ja h,List.zipIdx_append,Ay]
 congr 1
 ·refine A5 fun q hq=>?_;have hg:=Ik hq
  have:q.1≠r.path:=fun e=>h (by rw[←e];exact Ar hg)
  show(Value.string q.1,AV.slice (.id (q.2+50) 9) (Na y q.1))=(Value.string q.1,AV.slice (.id (q.2+50) 9) (Na (y++[r]) q.1));rw[Ix,Ah (fun e=>this e.symm)]
 ·show [_]=[(Value.string r.path,AV.slice (.id (0+(AO y []).length+50) 9) (Na (y++[r]) r.path))];rw[Ix,Ao rfl,aN h,Bg];rfl
theorem fC{p:ByteArray}{j:Nat}(h:(AO y [])[j]?=some p):(Value.string p,AV.slice (.id (j+50) 9) (Na y p))∈Ru y∧∀b,(Value.string p,b)∈Ru y→b=AV.slice (.id (j+50) 9) (Na y p):=by
 refine⟨Ak.2 ⟨(p,j),Fw.2 h,rfl⟩,fun b hb=>?_⟩;obtain⟨q,h1,h2⟩:=Ak.1 hb;simp only[fy,FM,Value.string.injEq]at h2;have hg:=Ik h1;rw[h2.1]at hg
 have:=I8 (EN y [] E9) hg h
 rw[←h2.2,h2.1,this]
theorem iJ{p:ByteArray}{j:Nat}(h:(AO y [])[j]?=some p):Jz y j=.tok 9 (Na y p).length:=by
 unfold Jz;rw[h]
theorem lx(h:(AO y [])[k]?=some r.path)(l:Nat):(bif Nat.beq (l+50) (k+50)then HO.tok 9 ((Na y r.path).length+1)else Jz y l)=Jz (y++[r]) l:=by
 by_cases he:l=k
 ·subst he;rw[show Nat.beq (l+50) (l+50)=true from CN _];unfold Jz;rw[Jb h,h];show HO.tok 9 _=HO.tok 9 (Na (y++[r]) r.path).length;rw[Ix,Ao rfl,Ad];rfl
 ·rw[show Nat.beq (l+50) (k+50)=false by rw[AM];intro hc;have:=AH hc;omega];show Jz y l=_;unfold Jz;rw[Jb h];cases hq:(AO y [])[l]? with
  |none=>rfl
  |some q =>
   show HO.tok 9 (Na y q).length=HO.tok 9 (Na (y++[r]) q).length;rw[Ix,Ah];intro e;subst e;exact he (I8 (EN y [] E9) hq h)
theorem lw(h:r.path∉AO y [])(l:Nat):(bif Nat.beq (l+50) ((AO y []).length+50)then HO.tok 9 1 else Jz y l)=Jz (y++[r]) l:=by
 by_cases he:l=(AO y []).length
 ·subst he;rw[show Nat.beq ((AO y []).length+50) ((AO y []).length+50)=true from CN _];unfold Jz;rw[Ja h];simp only[AY (Al _),Gg,A7];show HO.tok 9 1=HO.tok 9 (Na (y++[r]) r.path).length;rw[Ix,Ao rfl,aN h];rfl
 ·rw[show Nat.beq (l+50) ((AO y []).length+50)=false by rw[AM];intro hc;have:=AH hc;omega];show Jz y l=_;unfold Jz;rw[Ja h]
  by_cases hl:l<(AO y []).length
  ·rw[AX hl,Ge hl];show HO.tok 9 (Na y (AO y [])[l]).length=HO.tok 9 (Na (y++[r]) (AO y [])[l]).length;rw[Ix,Ah];intro e;exact h (by rw[e];exact AC hl)
  ·rw[A1 (by omega),A1 (by rw[Ad];simp;omega)]
end
theorem PI{h:Nat→HO}:∀{BX:List (Value×AV)},(∀p∈BX,Ul h p.2=true)→QJ h BX=true
 | [],_=>rfl
 |p::r,hk=>by
  unfold QJ;rw[hk p (Aa ..)];exact PI (fun q hq=>hk q (Ag _ hq))
theorem KZ(y:List Rl){h:Nat→HO}(hh:∀l,h (l+50)=Jz y l):QJ h (Ru y)=true:=by
 refine PI fun p hp=>?_;obtain⟨q,h1,rfl⟩:=Ak.1 hp;show Rk h (q.2+50)=true;unfold Rk;rw[hh,iJ (Ik h1)]
theorem Jj{y:List Rl}{h h' : Nat→HO}(hh:∀l,h (l+50)=Jz y l)(j:Nat):UX y j=.free∨(h j=UX y j∧XP h' (UX y j)=true):=by
 by_cases hj:j<50
 ·exact .inl (nx y hj)
 ·obtain⟨l,rfl⟩:∃l,j=l+50:=⟨j-50,by omega⟩
  right
  rw[HA];refine⟨hh l,?_⟩;unfold Jz;cases (AO y [])[l]?<;>rfl
theorem li{x:List Rl}(hx:AQ x=0){i:Nat}(hi:i<x.length):ER ((x.take i).map Ta) (QM (Fm x[i])) (.agg (Aj x[i]))=(x.take (i+1)).map Ta:=by
 rw[L7]
 ·rw[Bq,Ge hi,Ay];rfl
 intro a ha;obtain⟨r,hr,he,_⟩:=aA ha;obtain⟨j,hj,e2⟩:=Ca.1 hr;rw[AB]at hj;rw[EC]at e2;have hp:=(Co hx).2
 have:=(AS.1 hp) j i (by omega) hi (by omega)
 rw[e2]at this;exact GZ this he
abbrev rz:RO:=⟨[],[],[],[],[8,9],[9],[40],[],[],[],[8,9,10,11]⟩
abbrev zT:List AV:=[.v (.map none),.v (.map none)]
theorem jD(x:List Rl)(ifs:List (List AV))(ns:PC 37 [F5 x ifs] (vi (AQ x)))(h0:AQ x≠0):dU x ifs:=by
 have ht:WG x=.tup [.agg [.cmap T1 [],.cmap CP []],vi (AQ x)]:=by unfold WG;rw[Ah h0]
 unfold dU;rw[ht];refine Ps rz Tryz.func41 rfl (Nz rfl) ?_;refine Xi 0 ?_;refine Xi 0 ?_;refine Yi (Nz rfl) ?_;refine Xi 0 ?_;refine Yi (Nz rfl) ?_;refine Xi .pure (Xi _ (Yi (ns) ?_));refine Xi 0 ?_;refine Yi ?_ ?_
 ·intro _;refine Xi 0 ?_;refine Yi (Nz rfl) ?_;refine Yi (Nz rfl) ?_;refine Yi (Nz rfl) ?_;exact .refl _
 ·intro h;exact absurd h (fun hc=>hc h0)
theorem Hg:∀(y:List Rl) (acc:List ByteArray),(AO y acc).length≤acc.length+y.length
 | [],acc=>by simp[AO]
 |r::y,acc=>by
  rw[AO];refine Br (Hg y _) ?_;split
  ·simp only[Av];omega
  ·simp only[Ad,Av,AF];omega
section
attribute [local irreducible] Ie
theorem m7(x:List Rl)(ifs:List (List AV))(ns:PC 37 [F5 x ifs] (vi (AQ x)))(h0:AQ x=0)(Cq:x.length≤256):dU x ifs:=by
 have ht:WG x=.tup [.agg [.cmap T1 (x.map Ta),.cmap CP ((AO x []).map (jj x))],vi 0]:=by unfold WG;rw[Ao h0]
 unfold dU;rw[ht];rw[h0]at ns;refine Ps rz Tryz.func41 rfl (Nz rfl) ?_;refine Xi 0 ?_;refine Xi 0 ?_;refine Yi (Nz rfl) ?_;refine Xi 0 ?_;refine Yi (Nz rfl) ?_;refine Xi .pure (Xi _ (Yi (ns) ?_));refine Xi 0 ?_;refine Yi ?_ ?_
 ·intro hc;exact absurd (show(0:Int)≠0 from hc) (by decide)
 intro _;refine Xi 0 ?_;refine Xi {i:Nat // i≤x.length} (Xi (fun i=>⟨[(2,.ref 2 0),(4,.ref 4 0),(18,sl Aj x),(19,vi (x.map Aj).length),(20,vi i.1)],[(2,.cells zT),(4,.cells [.mref 8,.mref 9]),(8,.map T1 ((x.take i.1).map Ta)),(9,.mapU CP (Ru (x.take i.1)))],UX (x.take i.1)⟩) (Xi (fun i=>x.length-i.1) (Yi (Xi ⟨0,AJ _⟩ ?_) ?_)))
 ·refine⟨Z5,Z4,fun j=>.inl ?_,Tv⟩;show UX [] j=.free;unfold UX;cases Nat.ble 50 j<;>rfl
 intro⟨i,i1⟩;have i1:i≤x.length:=i1;refine Xi 0 ?_;refine Yi ?_ ?_
 ·intro h;have h:(i:Int)<(x.map Aj).length:=h;have h:i<x.length:=by simpa using h
  have hg:x[i]?=some x[i]:=Ge h;have Kt:x.take (i+1)=x.take i++[x[i]]:=by rw[Bq,hg];rfl
  refine Xi 0 ?_;refine Xi (Aj x[i]) (Yi (Yi (Nn i) (by simp[hg])) (Yi rfl ?_));refine Yi (Nz rfl) (Yi (Nz rfl) ?_);refine Xi ⟨[(2,.ref 2 0),(4,.ref 4 0),(7,.ref 7 0),(18,sl Aj x),(19,vi (x.map Aj).length),(20,vi i)],[(2,.cells zT),(4,.cells [.mref 8,.mref 9]),(7,.cells (Aj x[i])),(8,.map T1 ((x.take i).map Ta)),(9,.mapU CP (Ru (x.take i)))],UX (x.take i)⟩ (Yi ?_ ?_)
  ·exact⟨Z6,⟨Zr,Zr,Zr,Zr,⟨rfl,KZ _ (HA _)⟩,Tv⟩,Jj (HA _),Tv⟩
  refine Xi 0 ?_;refine Yi (Nz rfl) ?_;refine Xi _ (Yi (mS x[i]) ?_);refine Yi (Nz rfl) ?_;refine Yi (by kernel_rfl) ?_;have e8:ER ((x.take i).map Ta) (QM (Fm x[i])) (.agg (Aj x[i]))=(x.take (i+1)).map Ta:=li h0 h;refine Xi ⟨[(2,.ref 2 0),(4,.ref 4 0),(7,.ref 7 0),(18,sl Aj x),(19,vi (x.map Aj).length),(20,vi i)],[(2,.cells zT),(4,.cells [.mref 8,.mref 9]),(7,.cells (Aj x[i])),(8,.map T1 ((x.take (i+1)).map Ta)),(9,.mapU CP (Ru (x.take i)))],UX (x.take i)⟩ (Yi ?_ ?_)
  ·exact⟨Z6,⟨Zr,Zr,Zr,⟨Ac (HO.map T1) e8,rfl⟩,⟨rfl,KZ _ (HA _)⟩,Tv⟩,Jj (HA _),Tv⟩
  have hL:((x.take i).filter (fun r=>decide (r.path=x[i].path))).length≤256:=by
   have:=BA (fun r:Rl=>decide (r.path=x[i].path)) (x.take i)
   rw[AB]at this;omega
  have hP:∀l,UX (x.take i) (l+50)=Jz (x.take i) l:=HA _;refine Dp (Classical.em (x[i].path∈AO (x.take i) [])) (fun hp=>?_) (fun hp=>?_)
  ·refine CF (B4.1 hp) (fun k hk=>?_);have hu:=fC hk;refine Xi 0 ?_;refine Or.inl (Xi (.slice (.id (k+50) 9) (Na (x.take i) x[i].path)) (Yi hu ?_));refine Yi (Nz rfl) ?_;have hr:UX (x.take i) (k+50)=.tok 9 (Na (x.take i) x[i].path).length:=by rw[hP,iJ hk]
   have hl:(Na (x.take i) x[i].path).length≤256:=by rw[Lm];exact hL
   refine Qy (e:=41) (m:=8) (es2:=[Aj x[i]]) rfl rfl rfl (fun _ h=>h) hr ⟨rfl,trivial⟩ (by show(_+1)*120≤_;omega) (by show _+1≤_;omega) ?_;have qK:k<256:=by
    have:=(Ap.1 hk).1
    have:=Hg (x.take i) []
    rw[AB]at this;simp only[AF]at this;omega
   have nN:=hk;refine Yi (IZ ⟨AZ _,AZ _,AZ _,AZ _,AZ _,AZ _,AZ _,AZ _,AZ _,AZ _,D5 (show 39<10000000 by decide),D5 (by show _+50<10000000;omega),D5 (show 9<10000000 by decide),trivial⟩ (by kernel_rfl)) ?_;have e9:ER (Ru (x.take i)) (.string x[i].path) (.slice (.id (k+50) 9) (Na (x.take i) x[i].path++[Aj x[i]]))=Ru (x.take (i+1)):=by rw[Kt];exact jO nN
   have hG:∀l,(bif Nat.beq (l+50) (k+50)then HO.tok 9 ((Na (x.take i) x[i].path).length+1)else Jz (x.take i) l)=Jz (x.take (i+1)) l:=by rw[Kt];exact lx nN
   refine Xi ⟨[(2,.ref 2 0),(4,.ref 4 0),(18,sl Aj x),(19,vi (x.map Aj).length),(20,vi i)],[(2,.cells zT),(4,.cells [.mref 8,.mref 9]),(8,.map T1 ((x.take (i+1)).map Ta)),(9,.mapU CP (Ru (x.take (i+1))))],UX (x.take (i+1))⟩ (Yi ?_ ?_)
   ·refine⟨Z5,⟨Zr,Zr,Zr,⟨Ac (HO.mapU CP) e9,KZ _ (HA _)⟩,Tv⟩,Jj (fun l=>?_),Tv⟩;show(bif Nat.beq (l+50) (k+50)then HO.tok 9 ((Na (x.take i) x[i].path).length+1)else UX (x.take i) (l+50))=_;rw[hP];exact hG l
   refine Xi 0 ?_;refine Yi (Ii i (by omega)) ?_;refine Xi ⟨i+1,by omega⟩ ?_;exact⟨Dl x.length i (by omega),Z5,⟨Zr,Zr,Zr,⟨rfl,KZ _ (HA _)⟩,Tv⟩,Jj (HA _),Tv⟩
  ·have nN:=hp;have Lq:(AO (x.take i) []).length≤256:=by
    have:=Hg (x.take i) []
    rw[AB]at this;simp only[AF]at this;omega
   have hn:=XE hp;refine Xi ((AO (x.take i) []).length+50) ?_;refine Or.inr (Yi hn ?_);refine Yi (Nz rfl) ?_;have hr:UX (x.take i) ((AO (x.take i) []).length+50)=.free:=by
    rw[hP];unfold Jz;rw[A1 (Al _)]
   refine Qx (e:=41) (m:=8) (es2:=[Aj x[i]]) rfl rfl rfl (fun _ h=>h) hr rfl ⟨rfl,trivial⟩ (by show 1*120≤_;omega) (by show 1≤_;omega) ?_;refine Yi (IZ ⟨AZ _,AZ _,AZ _,AZ _,AZ _,AZ _,AZ _,AZ _,AZ _,AZ _,D5 (show 39<10000000 by decide),D5 (by show _+50<10000000;omega),D5 (show 9<10000000 by decide),trivial⟩ (by kernel_rfl)) ?_;have e9:ER (Ru (x.take i)) (.string x[i].path) (.slice (.id ((AO (x.take i) []).length+50) 9) [Aj x[i]])=Ru (x.take (i+1)):=by rw[Kt];exact jN nN
   have hG:∀l,(bif Nat.beq (l+50) ((AO (x.take i) []).length+50)then HO.tok 9 1 else Jz (x.take i) l)=Jz (x.take (i+1)) l:=by rw[Kt];exact lw nN
   refine Xi ⟨[(2,.ref 2 0),(4,.ref 4 0),(18,sl Aj x),(19,vi (x.map Aj).length),(20,vi i)],[(2,.cells zT),(4,.cells [.mref 8,.mref 9]),(8,.map T1 ((x.take (i+1)).map Ta)),(9,.mapU CP (Ru (x.take (i+1))))],UX (x.take (i+1))⟩ (Yi ?_ ?_)
   ·refine⟨Z5,⟨Zr,Zr,Zr,⟨Ac (HO.mapU CP) e9,KZ _ (HA _)⟩,Tv⟩,Jj (fun l=>?_),Tv⟩;show(bif Nat.beq (l+50) ((AO (x.take i) []).length+50)then HO.tok 9 1 else UX (x.take i) (l+50))=_;rw[hP];exact hG l
   refine Xi 0 ?_;refine Yi (Ii i (by omega)) ?_;refine Xi ⟨i+1,by omega⟩ ?_;exact⟨Dl x.length i (by omega),Z5,⟨Zr,Zr,Zr,⟨rfl,KZ _ (HA _)⟩,Tv⟩,Jj (HA _),Tv⟩
 ·intro h;have h:¬(i:Int)<(x.map Aj).length:=h;have h:¬i<x.length:=by simpa using h
  have et:x.take i=x:=AE (by omega);refine Xi ⟨[(2,.ref 2 0),(4,.ref 4 0)],[(2,.cells zT),(4,.cells [.mref 8,.mref 9]),(8,.map T1 ((x.take i).map Ta)),(9,.mapU CP (Ru (x.take i)))],UX (x.take i)⟩ (Yi ?_ ?_)
  ·exact⟨Z2,⟨Zr,Zr,Zr,⟨rfl,KZ _ (HA _)⟩,Tv⟩,Jj (HA _),Tv⟩
  refine Xi 0 ?_;refine Yi (Nz rfl) ?_;refine Yi (Nz rfl) ?_;refine Yi (Nz rfl) ?_;have es:∀h:Nat→HO,Ro h (Ru (x.take i))=(AO x []).map (jj x):=fun h=>by
   rw[et];unfold Ro Ru;rw[BB];refine CX fun j=>?_;rw[AG,AG,List.getElem?_zipIdx];cases (AO x [])[j]?<;>rfl
  have e1:(x.take i).map Ta=x.map Ta:=by rw[et]
  exact .of_eq (show AV.tup [.agg [.cmap T1 ((x.take i).map Ta),.cmap CP (Ro _ (Ru (x.take i)))],vi 0]=_ by rw[e1,es])
end
theorem c84(x:List Rl)(ifs:List (List AV))(hx:∀r∈x,JW r):dU x ifs:=by
 by_cases h0:AQ x=0
 ·exact m7 x ifs (jC Ua x ifs hx) h0 (NG h0).1
 ·exact jD x ifs (jC Ua x ifs hx) h0
abbrev wh(n:Nat):RO:=⟨[],[(2,n)],[],[],[],[],[5],[],[],[],[2,3]⟩
theorem pQ(l:List Sl)(hl:CM l):A3 Tryz.prog 66 [sl Ae l] (Ai [] Ab) fun r h'=>r=.slice (.id 2000 4) (l.map Ae)∧h'=Ai [(2000,.tok 4 (l.map Ae).length)] Ab:=by
 refine BS (KV (wh 4)) [(2,2000)] rfl Ck hm rfl Tryz.func66 (by kernel_rfl) rfl (Nz rfl) (by kernel_rfl) rfl ?_;have Hl:Df 4 (l.map Ae)∧([]:List (List AV)).length=0∧(([]:List (List AV)).length+(l.map Ae).length)*40≤140737488355328∧([]:List (List AV)).length+(l.map Ae).length≤9223372036854775807:=by
  refine⟨Fj (enc:=Ae) (n:=4) (fun _=>rfl) l,rfl,?_,?_⟩<;>simp only[AF,Lm]<;>unfold CM at hl<;>omega
 have e2:HO.tok 4 (([]:List (List AV)).length+(l.map Ae).length)=.tok 4 (l.map Ae).length:=by rw[AF,Bg]
 have e3:AV.slice (.id 2000 4) ([]++l.map Ae)=.slice (.id 2000 4) (l.map Ae):=rfl;refine Xi 0 ?_;refine Xi 0 ?_;refine Yi ?_ ?_
 ·intro _;refine Xi ⟨[(0,sl Ae l)],[],Ab⟩ (Yi ⟨Z1,Tv,Fh,Aw (by kernel_rfl)⟩ ?_)
  refine Xi 2 ?_;refine Yi Hl ?_;exact Xi _ (Yi (.refl _) (Yi e3 (Ac (fun o=>Ai [(2000,o)] Ab) e2)))
 ·intro h;have h:l.map Ae=[]:=h;refine Yi ?_ ?_
  ·refine Xi ⟨[],[],Ab⟩ (Yi ⟨trivial,trivial,fun _=>.inl rfl,Aw (by kernel_rfl)⟩ ?_)
   refine Xi 0 ?_;exact Xi _ (Yi (.refl _) (Yi (show AV.slice (.id 2000 4) []=_ by rw[h]) (show Ai [(2000,HO.tok 4 0)] Ab=_ by rw[h];rfl)))
  ·refine Xi ⟨[(0,sl Ae l)],[],Ab⟩ (Yi ⟨Z1,Tv,Fh,Aw (by kernel_rfl)⟩ ?_)
   refine Xi 2 ?_;refine Yi Hl ?_;exact Xi _ (Yi (.refl _) (Yi e3 (Ac (fun o=>Ai [(2000,o)] Ab) e2)))
def Mi(q:Rq):Bool:=decide (q.path.size≤100)&&decide (q.set.length≤8)
def Ff(l:List Rq):Bool:=l.all Mi&&decide (l.length≤20)
theorem xu(l:List Rq)(hl:CM l):PC 34 [sl AK l] (vb (Ff l)):=by
 unfold CM at hl;refine Ps Gn Tryz.func34 rfl (Nz rfl) ?_;refine Xi {i:Nat // i≤l.length∧∀j (hj:j<l.length),j<i→Mi l[j]=true} (Xi (fun i=>⟨[(0,sl AK l),(3,vi i.1)],[],Ab⟩) (Xi (fun i=>l.length-i.1) (Yi (Xi ⟨0,AJ _,fun j _ h=>by omega⟩ ?_) ?_)))
 ·exact⟨Z2,Tv,Fh,Tv⟩
 intro⟨i,h1,h2⟩;refine Yi ?_ ?_
 ·intro h;have h:(i:Int)<(l.map AK).length:=h;have h:i<l.length:=by simpa using h
  have hg:l[i]?=some l[i]:=Ge h;have no:Mi l[i]=false→false=Ff l:=fun e=>by
   unfold Ff
   have:l.all Mi=false:=by
    rw[AM];intro ha
    have:=Bp.1 ha _ (AC h)
    rw[e]at this;cases this
   rw[this];rfl
  refine Xi (AK l[i]) (Yi (Yi (Nn i) (by simp[hg])) (Yi rfl ?_));refine Yi ?_ ?_
  ·intro h3;have h3:(100:Int)<((l[i].path.size:Nat):Int):=h3;exact .of_eq (Ac vb (no (by unfold Mi;rw[Az (by omega)];rfl)))
  intro h3;have h3:¬(100:Int)<((l[i].path.size:Nat):Int):=h3;refine Xi (AK l[i]) (Yi (Yi (Nn i) (by simp[hg])) (Yi rfl ?_));refine Yi ?_ ?_
  ·intro h4;have h4:(8:Int)<((l[i].set.map Aq).length:Int):=h4;rw[Lm]at h4;exact .of_eq (Ac vb (no (by unfold Mi;rw[Az (by omega:¬l[i].set.length≤8),D8])))
  intro h4;have h4:¬(8:Int)<((l[i].set.map Aq).length:Int):=h4;have h5:l[i].set.length≤8:=by rw[Lm]at h4;omega
  refine Yi (Ii i (by omega)) ?_;refine Xi ⟨i+1,by omega,fun j hj LZ=>?_⟩ ?_
  ·rcases ED j i with z | z
   ·exact h2 j hj z
   ·have:j=i:=by omega
    subst this;unfold Mi;rw[Ax (by omega),Ax h5];rfl
  ·exact⟨Dl l.length i (by omega),Z2,Tv,Fh,Tv⟩
 ·intro h;have h:¬(i:Int)<(l.map AK).length:=h;have h:¬i<l.length:=by simpa using h
  have ha:l.all Mi=true:=Bp.2 fun q hq=>by
   obtain⟨j,hj,rfl⟩:=FC hq;exact h2 j hj (by omega)
  refine Yi ?_ ?_
  ·intro h3;have h3:((l.map AK).length:Int)≤20:=h3;rw[Lm]at h3;exact .of_eq (Ac vb (show true=Ff l by unfold Ff;rw[ha,Ax (by omega)];rfl))
  ·intro h3;have h3:¬((l.map AK).length:Int)≤20:=h3;rw[Lm]at h3;exact .of_eq (Ac vb (show false=Ff l by unfold Ff;rw[Az (by omega),D8]))
def IJ(r:Rl):Bool:=decide (r.path.size≤100)&&decide (r.arch.size≤100)&&decide (r.ifc.size≤100)&&decide (r.cert.size≤100)&&Ff r.reqs
def FI(x:List Rl)(n:Nat):Bool:=x.all IJ&&decide (x.length≤n)
theorem zf(x:List Rl)(n:Nat)(hl:CM x)(hr:∀r∈x,CM r.reqs):PC 33 [sl Aj x,vi n] (vb (FI x n)):=by
 unfold CM at hl;refine Ps Gn Tryz.func33 rfl (Nz rfl) ?_;refine Xi {i:Nat // i≤x.length∧∀j (hj:j<x.length),j<i→IJ x[j]=true} (Xi (fun i=>⟨[(0,sl Aj x),(1,vi n),(5,vi i.1)],[],Ab⟩) (Xi (fun i=>x.length-i.1) (Yi (Xi ⟨0,AJ _,fun j _ h=>by omega⟩ ?_) ?_)))
 ·exact⟨Z3,Tv,Fh,Tv⟩
 intro⟨i,h1,h2⟩;refine Yi ?_ ?_
 ·intro h;have h:(i:Int)<(x.map Aj).length:=h;have h:i<x.length:=by simpa using h
  have hg:x[i]?=some x[i]:=Ge h;have no:IJ x[i]=false→false=FI x n:=fun e=>by
   unfold FI
   have:x.all IJ=false:=by
    rw[AM];intro ha
    have:=Bp.1 ha _ (AC h)
    rw[e]at this;cases this
   rw[this];rfl
  have hc:=xu x[i].reqs (hr _ (AC h));refine Xi (Aj x[i]) (Yi (Yi (Nn i) (by simp[hg])) (Yi rfl ?_));refine Yi ?_ ?_
  ·intro h3;have h3:(100:Int)<((x[i].path.size:Nat):Int):=h3;exact .of_eq (Ac vb (no (by unfold IJ;rw[Az (by omega:¬x[i].path.size≤100)];simp)))
  intro h3;have h3:¬(100:Int)<((x[i].path.size:Nat):Int):=h3;refine Xi (Aj x[i]) (Yi (Yi (Nn i) (by simp[hg])) (Yi rfl ?_));refine Yi ?_ ?_
  ·intro h4;have h4:(100:Int)<((x[i].arch.size:Nat):Int):=h4;exact .of_eq (Ac vb (no (by unfold IJ;rw[Az (by omega:¬x[i].arch.size≤100)];simp)))
  intro h4;have h4:¬(100:Int)<((x[i].arch.size:Nat):Int):=h4;refine Xi (Aj x[i]) (Yi (Yi (Nn i) (by simp[hg])) (Yi rfl ?_));refine Yi ?_ ?_
  ·intro h5;have h5:(100:Int)<((x[i].ifc.size:Nat):Int):=h5;exact .of_eq (Ac vb (no (by unfold IJ;rw[Az (by omega:¬x[i].ifc.size≤100)];simp)))
  intro h5;have h5:¬(100:Int)<((x[i].ifc.size:Nat):Int):=h5;refine Xi (Aj x[i]) (Yi (Yi (Nn i) (by simp[hg])) (Yi rfl ?_));refine Yi ?_ ?_
  ·intro h6;have h6:(100:Int)<((x[i].cert.size:Nat):Int):=h6;exact .of_eq (Ac vb (no (by unfold IJ;rw[Az (by omega:¬x[i].cert.size≤100)];simp)))
  intro h6;have h6:¬(100:Int)<((x[i].cert.size:Nat):Int):=h6;refine Xi (Aj x[i]) (Yi (Yi (Nn i) (by simp[hg])) (Yi rfl ?_));refine Dp (Bt (Ff x[i].reqs)) (fun e=>?_) (fun e=>?_)
  rotate_left
  ·rw[e]at hc;refine Xi .pure (Xi _ (Yi (hc) ?_));exact .of_eq (Ac vb (no (by unfold IJ;rw[e,D8])))
  rw[e]at hc;refine Xi .pure (Xi _ (Yi (hc) ?_));refine Yi (Ii i (by omega)) ?_;refine Xi ⟨i+1,by omega,fun j hj LZ=>?_⟩ ?_
  ·rcases ED j i with z | z
   ·exact h2 j hj z
   ·have:j=i:=by omega
    subst this;unfold IJ;rw[Ax (by omega:x[j].path.size≤100),Ax (by omega:x[j].arch.size≤100),Ax (by omega:x[j].ifc.size≤100),Ax (by omega:x[j].cert.size≤100),e];rfl
  ·exact⟨Dl x.length i (by omega),Z3,Tv,Fh,Tv⟩
 ·intro h;have h:¬(i:Int)<(x.map Aj).length:=h;have h:¬i<x.length:=by simpa using h
  have ha:x.all IJ=true:=Bp.2 fun q hq=>by
   obtain⟨j,hj,rfl⟩:=FC hq;exact h2 j hj (by omega)
  refine Yi ?_ ?_
  ·intro h3;have h3:((x.map Aj).length:Int)≤n:=h3;rw[Lm]at h3;exact .of_eq (Ac vb (show true=FI x n by unfold FI;rw[ha,Ax (by omega)];rfl))
  ·intro h3;have h3:¬((x.map Aj).length:Int)≤n:=h3;rw[Lm]at h3;exact .of_eq (Ac vb (show false=FI x n by unfold FI;rw[Az (by omega),D8]))
theorem c11(x:List Rl)(ifs:List (List AV))(roots:List Rq)(hl:CM x)(hr:∀r∈x,CM r.reqs)(hq:CM roots):PC 10 [F5 x ifs,sl AK roots] (vb (FI x 16&&Ff roots)):=by
 have h1:=zf x 16 hl hr;have h2:=xu roots hq;cases e:FI x 16 with
 |true =>
  rw[e]at h1;refine Ps Gn Tryz.func10 rfl (Nz rfl) ?_;refine Xi .pure (Xi _ (Yi (h1) ?_));refine Xi .pure (Xi _ (Yi (h2) ?_));exact .refl _
 |false =>
  rw[e]at h1;refine Ps Gn Tryz.func10 rfl (Nz rfl) ?_;refine Xi .pure (Xi _ (Yi (h1) ?_));exact .refl _
structure lB(x:List Rl)(roots:List Rq):Prop where
 ix:CM x
 rs:CM roots
 rel:∀r∈x,CM r.reqs∧JW r
 rq:∀q∈roots,N1 q
theorem lB.x{x:List Rl}{roots:List Rq}(h:lB x roots):∀r∈x,JW r:=fun r hr=>(h.rel r hr).2
theorem lB.c11{x:List Rl}{roots:List Rq}(h:lB x roots)(ifs:List (List AV)):PC 10 [F5 x ifs,sl AK roots] (vb (FI x 16&&Ff roots)) :=
 Go.Eng.c11 x ifs roots h.ix (fun r hr=>(h.rel r hr).1) h.rs
end Go.Eng
namespace Go.Proofs
open Go.Shelf
def Tryz.laySortStr_ren:Go.Shelf.Ren:=⟨fun | 190=>76 | 125=>98 | 258=>108 | 128=>137 | 129=>138 | 302=>148 | 303=>149 | 304=>150 | 305=>151 | 306=>152 | 307=>153 | 308=>154 | 309=>155 | 310=>156 | 333=>197 | 329=>186 | 330=>187 | 334=>198 | 335=>199 | 336=>113 | 344=>226 | n=>n,fun | 31=>139 | 9=>9 | 3=>3 | 46=>174 | 0=>0 | 51=>211 | 53=>213 | 4=>4 | 183=>205 | 182=>204 | 131=>110 | 5=>5 | 218=>245 | 222=>249 | 228=>274 | 229=>275 | n=>n,fun | n=>n⟩
theorem Tryz.laySortStr:Go.Proofs.Lays.n190 Tryz.prog Tryz.laySortStr_ren:={
 mixed:=by kernel_rfl
 f125:=Tryz.func98.trans (congrArg some (by kernel_rfl))
 f128:=Tryz.func137.trans (congrArg some (by kernel_rfl))
 f129:=Tryz.func138.trans (congrArg some (by kernel_rfl))
 f190:=Tryz.func76.trans (congrArg some (by kernel_rfl))
 f258:=Tryz.func108.trans (congrArg some (by kernel_rfl))
 f302:=Tryz.func148.trans (congrArg some (by kernel_rfl))
 f303:=Tryz.func149.trans (congrArg some (by kernel_rfl))
 f304:=Tryz.func150.trans (congrArg some (by kernel_rfl))
 f305:=Tryz.func151.trans (congrArg some (by kernel_rfl))
 f306:=Tryz.func152.trans (congrArg some (by kernel_rfl))
 f307:=Tryz.func153.trans (congrArg some (by kernel_rfl))
 f308:=Tryz.func154.trans (congrArg some (by kernel_rfl))
 f309:=Tryz.func155.trans (congrArg some (by kernel_rfl))
 f310:=Tryz.func156.trans (congrArg some (by kernel_rfl))
 f329:=Tryz.func186.trans (congrArg some (by kernel_rfl))
 f330:=Tryz.func187.trans (congrArg some (by kernel_rfl))
 f333:=Tryz.func197.trans (congrArg some (by kernel_rfl))
 f334:=Tryz.func198.trans (congrArg some (by kernel_rfl))
 f335:=Tryz.func199.trans (congrArg some (by kernel_rfl))
 f336:=Tryz.func113.trans (congrArg some (by kernel_rfl))
 f344:=Tryz.func226.trans (congrArg some (by kernel_rfl))
 t0:=Tryz.underlying0
 a0:=Tryz.isAgg0
 z0:=Tryz.sizeOf0
 v0:=Tryz.zeroValue0
 t3:=Tryz.underlying3
 a3:=Tryz.isAgg3
 z3:=Tryz.sizeOf3
 v3:=Tryz.zeroValue3
 t4:=Tryz.underlying4
 a4:=Tryz.isAgg4
 z4:=Tryz.sizeOf4
 v4:=Tryz.zeroValue4
 t5:=Tryz.underlying5
 a5:=Tryz.isAgg5
 z5:=Tryz.sizeOf5
 v5:=Tryz.zeroValue5
 t9:=Tryz.underlying9
 a9:=Tryz.isAgg9
 z9:=Tryz.sizeOf9
 v9:=Tryz.zeroValue9
 t31:=Tryz.underlying139
 a31:=Tryz.isAgg139
 z31:=Tryz.sizeOf139
 v31:=Tryz.zeroValue139
 t46:=Tryz.underlying174
 a46:=Tryz.isAgg174
 z46:=Tryz.sizeOf174
 v46:=Tryz.zeroValue174
 t51:=Tryz.underlying211
 a51:=Tryz.isAgg211
 z51:=Tryz.sizeOf211
 v51:=Tryz.zeroValue211
 t53:=Tryz.underlying213
 a53:=Tryz.isAgg213
 z53:=Tryz.sizeOf213
 v53:=Tryz.zeroValue213
 t131:=Tryz.underlying110
 a131:=Tryz.isAgg110
 z131:=Tryz.sizeOf110
 v131:=Tryz.zeroValue110
 t182:=Tryz.underlying204
 a182:=Tryz.isAgg204
 z182:=Tryz.sizeOf204
 v182:=Tryz.zeroValue204
 t183:=Tryz.underlying205
 a183:=Tryz.isAgg205
 z183:=Tryz.sizeOf205
 v183:=Tryz.zeroValue205
 t218:=Tryz.underlying245
 a218:=Tryz.isAgg245
 z218:=Tryz.sizeOf245
 v218:=Tryz.zeroValue245
 t222:=Tryz.underlying249
 a222:=Tryz.isAgg249
 z222:=Tryz.sizeOf249
 v222:=Tryz.zeroValue249
 t228:=Tryz.underlying274
 a228:=Tryz.isAgg274
 z228:=Tryz.sizeOf274
 v228:=Tryz.zeroValue274
 t229:=Tryz.underlying275
 a229:=Tryz.isAgg275
 z229:=Tryz.sizeOf275
 v229:=Tryz.zeroValue275 }
def Tryz.layCompactStr_ren:Go.Shelf.Ren:=⟨fun | 194=>78 | n=>n,fun | 31=>139 | 9=>9 | 3=>3 | 4=>4 | 0=>0 | n=>n,fun | n=>n⟩
theorem Tryz.layCompactStr:Go.Proofs.Lays.n194 Tryz.prog Tryz.layCompactStr_ren:={
 mixed:=by kernel_rfl
 f194:=Tryz.func78.trans (congrArg some (by kernel_rfl))
 t0:=Tryz.underlying0
 a0:=Tryz.isAgg0
 z0:=Tryz.sizeOf0
 v0:=Tryz.zeroValue0
 t3:=Tryz.underlying3
 a3:=Tryz.isAgg3
 z3:=Tryz.sizeOf3
 v3:=Tryz.zeroValue3
 t4:=Tryz.underlying4
 a4:=Tryz.isAgg4
 z4:=Tryz.sizeOf4
 v4:=Tryz.zeroValue4
 t9:=Tryz.underlying9
 a9:=Tryz.isAgg9
 z9:=Tryz.sizeOf9
 v9:=Tryz.zeroValue9
 t31:=Tryz.underlying139
 a31:=Tryz.isAgg139
 z31:=Tryz.sizeOf139
 v31:=Tryz.zeroValue139 }
end Go.Proofs
namespace Go.Eng
open Go.Proofs Go.Shelf Go.RowKit Go.Lib Go.Sort
abbrev QA(s:ByteArray):List UInt8:=s.data.toList
abbrev ZZ(l:List UInt8):ByteArray:=⟨l.toArray⟩
theorem jz(s:ByteArray):ZZ (QA s)=s:=by cases s;simp
theorem Mt(zs:List (List UInt8)):((zs.map ZZ).map DD).flatten=(zs.map Go.Proofs.encStr).map AV.v:=by
 induction zs with
 |nil=>rfl
 |cons z zs ih=>rw[AL,AL,Bv,ih];rfl
theorem VP(ss:List ByteArray):(ss.map QA).map ZZ=ss:=by
 rw[BB,show ZZ ∘ QA=id from funext jz,G6]
theorem v8(ss t:List ByteArray)(hl:CM ss)(Dt:ss≠[])(hp:t.Perm ss)(ht:(t.map QA).Pairwise fun a b=>a≤b) :
  A3 Tryz.prog 76 [.msl 1000 ss.length] (Ai [(1000,.arr 1 (ss.map DD))] Ab) fun r h'=>r=.tup []∧h'=Ai [(1000,.arr 1 (t.map DD))] Ab:=by
 have hl:ss.length≤1073741824:=hl;have hE:F1 Tryz.prog 76:=dJ 76 Tryz.func76 (by kernel_rfl) rfl;obtain⟨zs,hz⟩:∃zs,zs=ss.map QA:=⟨_,rfl⟩;have Ew:ss=zs.map ZZ:=by rw[hz,VP]
 have Hd:=Pt (P:=Tryz.prog) (f:=76) (es:=ss.map DD) (sz:=1) (rest:=[]) (Q:=fun FB=>FB=t.map DD) hE ?_ ?_
 ·rw[Lm]at Hd;refine⟨hE,fun g w vals q1 q2 q3=>(Hd.2 g w vals q1 q2 q3).mono fun _ _ ⟨v,r,h',g',e1,⟨e2,FB,p1,p3⟩,rest⟩=>⟨v,r,h',g',e1,⟨e2,by rw[p3,p1]⟩,rest⟩⟩
 ·intro e;exact absurd (D3.1 e) Dt
 ·intro g w b cap F hr hF hH hb;have qh:F.toList=zs.map Go.Proofs.encStr:=La (by rw[←Mt,←Ew];exact hr);have fH:F=zs.toArray.map Go.Proofs.encStr:=IA.1 (by rw[qh];simp);have MQ:zs.length=ss.length:=by rw[hz,Lm]
  have qi:Holds Go.Proofs.encStr w b 0 zs.toArray:=fun j hj=>by
   have:=hH j (by rw[fH];simpa using hj)
   refine⟨this.1.trans ?_,this.2⟩;rw[fH,Ds _ j (by simpa using hj),Ds _ j hj];simp
  have hc:=Any.slices_Sort_string Tryz.laySortStr b 0 cap zs w qi hb (by omega);have htz:(zs.mergeSort fun x y=>decide (x≤y))=t.map QA:=by
   have IR:(zs.mergeSort fun x y=>decide (x≤y)).Perm zs:=List.mergeSort_perm _ _;have rb:=List.pairwise_mergeSort (le:=fun x y:List UInt8=>decide (x≤y)) (fun a b c h1 h2=>by simp only[As]at *;exact List.le_trans h1 h2) (fun a b=>by simp only[Cm,As];exact List.le_total a b) zs;refine List.Perm.eq_of_pairwise (le:=fun a b=>a≤b) (fun a b _ _ h k=>List.le_antisymm h k) (rb.imp fun h=>A2 h) ht (IR.trans ?_);rw[hz];exact(hp.map QA).symm
  rw[htz,MQ]at hc;rw[Lm];refine hc.mono ?_
  rintro e w' ⟨rfl,n,os,rfl⟩
  have DA:t.length=ss.length:=hp.length_eq;refine⟨rfl,(t.map QA).toArray.map Go.Proofs.encStr,t.map DD,n,os,?_,rfl,by simp[DA],fun cs hcs=>?_,fun g w _=>?_,by rw[PU]⟩
  ·rw[fH];simp[DA,MQ]
  ·obtain⟨x,_,rfl⟩:=Ak.1 hcs;rfl
  ·have e1:t.map DD=((t.map QA).map ZZ).map DD:=by rw[VP]
   rw[e1,Mt];have e:(((t.map QA).toArray.map Go.Proofs.encStr).toList)=(t.map QA).map Go.Proofs.encStr:=by simp
   rw[e];exact ML _ _ _ _ fun x hx=>by
    obtain⟨z,_,rfl⟩:=Ak.1 hx;rfl
def BW(ss:List ByteArray):List ByteArray:=(Lib.compact (ss.map QA)).map ZZ
theorem QC(zs:List (List UInt8)):(Lib.compact zs).length≤zs.length:=by
 unfold Lib.compact Lib.compactUpTo;rw[Lm];exact Br (BA _ _) (by rw[Qs];exact Al _)
theorem wa(ss:List ByteArray)(hl:CM ss)(Dt:ss≠[]) :
  A3 Tryz.prog 78 [.msl 1000 ss.length] (Ai [(1000,.arr 1 (ss.map DD))] Ab) fun r h'=>r=.msl 2000 (BW ss).length∧h'=Ai [(1000,.dead),(2000,.arr 1 ((BW ss).map DD))] Ab:=by
 have hl:ss.length≤1073741824:=hl;have hE:F1 Tryz.prog 78:=dJ 78 Tryz.func78 (by kernel_rfl) rfl;obtain⟨zs,hz⟩:∃zs,zs=ss.map QA:=⟨_,rfl⟩;have Ew:ss=zs.map ZZ:=by rw[hz,VP]
 have MQ:zs.length=ss.length:=by rw[hz,Lm]
 have hcl:=QC zs;have Hd:=Ux (P:=Tryz.prog) (f:=78) (es:=ss.map DD) (sz:=1) (rest:=[]) (n':=(Lib.compact zs).length) (Q:=fun FB=>FB=((Lib.compact zs++List.replicate (zs.length-(Lib.compact zs).length) []).map ZZ).map DD) hE (fun e=>Dt (D3.1 e)) (by rw[Lm];omega) ?_
 ·rw[Lm]at Hd;have ez:BW ss=(Lib.compact zs).map ZZ:=by unfold BW;rw[hz]
  refine⟨hE,fun g w vals q1 q2 q3=>(Hd.2 g w vals q1 q2 q3).mono fun _ _ ⟨x,r,h',g',e1,⟨e2,FB,p1,p2⟩,rest⟩=>⟨x,r,h',g',e1,⟨by rw[e2,ez,Lm],by
   rw[p2,p1,ez,Ay,Ay,G7 (by rw[Lm,Lm];exact Al _),AE (by rw[Lm,Lm];exact Al _)]⟩,rest⟩⟩
 ·intro g w b cap F hr hF hH hb hc;rw[Lm]at hF hc⊢;have qh:F.toList=zs.map Go.Proofs.encStr:=La (by rw[←Mt,←Ew];exact hr);have fH:F=zs.toArray.map Go.Proofs.encStr:=IA.1 (by rw[qh];simp);have qi:Holds Go.Proofs.encStr w b 0 zs.toArray:=fun j hj=>by
   have:=hH j (by rw[fH];simpa using hj)
   refine⟨this.1.trans ?_,this.2⟩;rw[fH,Ds _ j (by simpa using hj),Ds _ j hj];simp
  have hcon:=Any.slices_Compact_string Tryz.layCompactStr b 0 cap zs w qi (by omega) (by omega);rw[MQ]at hcon;refine hcon.mono ?_
  rintro e w' ⟨rfl,q,rfl⟩
  refine⟨rfl,(Lib.compact zs++List.replicate (zs.length-(Lib.compact zs).length) []).toArray.map Go.Proofs.encStr,_,q,#[],?_,rfl,?_,fun cs hcs=>?_,fun g w _=>?_,?_⟩
  ·rw[fH];simp;omega
  ·simp;omega
  ·obtain⟨x,_,rfl⟩:=Ak.1 hcs;rfl
  ·rw[Mt];have e:((Lib.compact zs++List.replicate (zs.length-(Lib.compact zs).length) []).toArray.map Go.Proofs.encStr).toList=(Lib.compact zs++List.replicate (zs.length-(Lib.compact zs).length) []).map Go.Proofs.encStr:=by simp
   rw[e];exact ML _ _ _ _ fun x hx=>by
    obtain⟨z,_,rfl⟩:=Ak.1 hx;rfl
  ·rw[PU,grow_empty,MQ]
end Go.Eng
namespace Go.Eng
open Go.Proofs
abbrev wi(n:Nat):RO:=⟨[],[],[(2,n),(5,n)],[],[],[],[5],[],[],[],[2,3]⟩
theorem xb(l:List Sl)(hl:CM l):A3 Tryz.prog 66 [sl Ae l] (Ai [] Ab) fun r h'=>r=.msl 2000 l.length∧h'=Ai [(2000,.arr 4 (l.map Ae))] Ab:=by
 refine BS (KV (wi 4)) [(2,2000)] rfl Ck hm rfl Tryz.func66 (by kernel_rfl) rfl (Nz rfl) (by kernel_rfl) rfl ?_;have Hl:Df 4 (l.map Ae)∧([]:List (List AV)).length=0∧(([]:List (List AV)).length+(l.map Ae).length)*40≤140737488355328∧([]:List (List AV)).length+(l.map Ae).length≤9223372036854775807:=by
  refine⟨Fj (enc:=Ae) (n:=4) (fun _=>rfl) l,rfl,?_,?_⟩<;>simp only[AF,Lm]<;>unfold CM at hl<;>omega
 have e1:AV.msl 2000 (([]:List (List AV)).length+(l.map Ae).length)=.msl 2000 l.length:=by simp
 refine Xi 0 ?_;refine Xi 0 ?_;refine Yi ?_ ?_
 ·intro _;refine Xi ⟨[(0,sl Ae l)],[],Ab⟩ (Yi ⟨Z1,Tv,Fh,Aw (by kernel_rfl)⟩ ?_)
  refine Xi 2 ?_;refine Yi Hl ?_;exact Xi _ (Yi (.refl _) (Yi e1 rfl))
 ·intro h;have h:l.map Ae=[]:=h;refine Yi ?_ ?_
  ·refine Xi ⟨[],[],Ab⟩ (Yi ⟨trivial,trivial,fun _=>.inl rfl,Aw (by kernel_rfl)⟩ ?_)
   refine Xi 2 ?_;exact Xi _ (Yi (.refl _) (Yi (show AV.msl 2000 0=_ by rw[D3.1 h];rfl) (show Ai [(2000,HO.arr 4 [])] Ab=_ by rw[h])))
  ·refine Xi ⟨[(0,sl Ae l)],[],Ab⟩ (Yi ⟨Z1,Tv,Fh,Aw (by kernel_rfl)⟩ ?_)
   refine Xi 2 ?_;refine Yi Hl ?_;exact Xi _ (Yi (.refl _) (Yi e1 rfl))
theorem A3.to2{P:Program}{f:Nat}{args:List AV}{h0:Nat→HO}{r0:AV}{H0:Nat→HO}{Q' : AV→(Nat→HO)→Prop}(h:A3 P f args h0 fun r h'=>r=r0∧h'=H0)(k:Q' r0 H0):A3 P f args h0 Q' :=
 h.mono fun r h' q=>⟨r,.refl _,by rw[q.1,q.2];exact k⟩
theorem cb{f:Nat}{args:List AV}{b x:Bool}(h:b=x)(hc:PC f args (vb b)):PC f args (vb x):=h▸hc
theorem LC{α:Type}{f:α→List AV}{l:List α}{i:Nat}(h:(i:Int)<((l.map f).length:Int)):i<l.length:=by rw[Lm]at h;omega
theorem LB{α:Type}{f:α→List AV}{l:List α}{i:Nat}(h:¬(i:Int)<((l.map f).length:Int)):¬i<l.length:=by rw[Lm]at h;omega
theorem Uo{α:Type}{f:α→List AV}{l:List α}{i:Nat}(h:i<l.length):(0:Int)≤(i:Int)∧(l.map f)[((i:Nat):Int).toNat]?=some (f l[i]):=⟨Int.natCast_nonneg _,by rw[Ch,AG,Ge h];rfl⟩
theorem bG{n z:Nat}{α:Type}{f:α→List AV}{O:List α}{x:List AV}(hx:x.length=n)(h:O.length≤2147483647)(hz:z≤65536) :
  Df n [x]∧(O.map f).length=O.length∧((O.map f).length+([x]:List (List AV)).length)*z≤140737488355328∧(O.map f).length+([x]:List (List AV)).length≤9223372036854775807:=by
 refine⟨⟨hx,trivial⟩,Lm _,?_,?_⟩<;>rw[Lm]<;>simp only[Av,AF]
 ·have:=Nat.mul_le_mul (show O.length+(0+1)≤2147483648 by omega) hz
  omega
 ·omega
theorem tkA{α:Type}{f:α→List AV}{O:List α}{x:α}{r n:Nat}:AV.slice (.id r n) (O.map f++[f x])=.slice (.id r n) ((O++[x]).map f):=by rw[Ay];rfl
theorem hkA{α:Type}{f:α→List AV}{O:List α}{x:α}{y:List AV}{n:Nat}:HO.tok n ((O.map f).length+([y]:List (List AV)).length)=.tok n (O++[x]).length:=by rw[Ad,Lm];rfl
theorem Uz{n:Nat}:∀{l:List (List AV)},(∀c∈l,c.length=n)→Df n l
 | [],_=>trivial
 |c::_,h=>⟨h c (Aa ..),Uz fun d hd=>h d (Ag _ hd)⟩
def Xc(a b:Sl):Int:=if JZ a.path b.path≠0 then JZ a.path b.path else Oi a.ver b.ver
def kq(l:List Sl)(s:Sl):Int:=Ke (fun y=>decide (s=y)) l 0
theorem bh{a b:Sl}(h:a.path=b.path∧a.ver.a=b.ver.a∧a.ver.b=b.ver.b∧a.ver.c=b.ver.c∧True):a=b:=by
 obtain⟨p,⟨x,y,z⟩⟩:=a;obtain⟨p',⟨x',y',z'⟩⟩:=b;obtain⟨h1,h2,h3,h4,_⟩:=h;cases h1;cases h2;cases h3;cases h4;rfl
theorem mj{a b:Sl}(h:¬(a.path=b.path∧a.ver.a=b.ver.a∧a.ver.b=b.ver.b∧a.ver.c=b.ver.c∧True)):a≠b:=fun e=>h (by subst e;exact⟨rfl,rfl,rfl,rfl,trivial⟩)
theorem ay(l:List Sl)(s:Sl):(0≤kq l s)↔s∈l:=by
 have:=Mw (p:=fun y=>decide (s=y)) l 0 (BM 0)
 unfold kq;have h2:(0≤Ke (fun y=>decide (s=y)) l 0)↔(l.any fun y=>decide (s=y))=true:=by rw[←this,As]
 rw[h2,Bb];constructor
 ·rintro⟨y,hy,e⟩;simp only[As]at e;subst e;exact hy
 ·intro h;exact⟨s,h,by simp⟩
def su:Sl:=⟨mt,⟨0,0,0⟩⟩
set_option maxHeartbeats 4000000 in
theorem o71(l:List Sl)(s:Sl)(hl:CM l):PC 44 [sl Ae l,.agg (Ae s)] (vi (kq l s)):=by
 refine Ps ⟨[3],[],[],[],[],[],[],[],[],[],[5,6]⟩ Tryz.func44 rfl (Nz rfl) ?_;refine Xi {q:Nat // q≤l.length∧∀j (hj:j<l.length),j<q→s≠l[j]} (Xi (fun q=>⟨[(0,sl Ae l),(3,.ref 3 0),(7,vi (l.map Ae).length),(8,vi q.1)],[(3,.ro (Ae s))],Ab⟩) (Xi (fun q=>l.length-q.1) (Yi (Xi ⟨0,AJ _,fun _ _ h=>absurd h (JA _)⟩ ?_) ?_)))
 ·exact⟨Z4,Z1,Fh,Tv⟩
 intro⟨i,i1,i2⟩;have i1:i≤l.length:=i1;have i2:∀j (hj:j<l.length),j<i→s≠l[j]:=i2;refine Yi (fun h1=>?_) (fun h1=>?_)
 ·have h1:(i:Int)<((l.map Ae).length:Int):=h1;have n1:=LC h1;refine Yi (Nz rfl) ?_;refine Xi (Ae l[i]) (Yi (Uo n1) (Yi rfl ?_));refine Yi (Nz rfl) ?_;refine Yi (fun h2=>?_) (fun h2=>?_)
  ·have h2:(s.path:ByteArray)=l[i].path∧(s.ver.a:Int)=l[i].ver.a∧(s.ver.b:Int)=l[i].ver.b∧(s.ver.c:Int)=l[i].ver.c∧True:=h2;refine Yi (by kernel_rfl) ?_;refine Xi ⟨[(5,vi i)],[],Ab⟩ (Yi ⟨Z1,Tv,Fh,Tv⟩ ?_)
   exact .of_eq (show vi i=vi (kq l s) by unfold kq;rw[ND n1 (fun j hj LZ=>Az (i2 j hj LZ)) (Ax (bh h2)),IC])
  have h2:¬((s.path:ByteArray)=l[i].path∧(s.ver.a:Int)=l[i].ver.a∧(s.ver.b:Int)=l[i].ver.b∧(s.ver.c:Int)=l[i].ver.c∧True):=h2;refine Yi (by kernel_rfl) ?_;refine Xi ⟨[(0,sl Ae l),(3,.ref 3 0),(7,vi (l.map Ae).length),(8,vi i)],[(3,.ro (Ae s))],Ab⟩ (Yi ⟨Z4,Z1,Fh,Tv⟩ ?_)
  refine Yi (Ii i (by omega)) ?_;refine Xi ⟨i+1,n1,fun j hj LZ=>if e:j<i then i2 j hj e else by
    have e:j=i:=by omega
    subst e;exact mj h2⟩ ?_
  exact⟨Dl l.length i (by omega),Z4,Z1,Fh,Tv⟩
 have h1:¬((i:Int)<((l.map Ae).length:Int)):=h1;have n1:=LB h1;exact .of_eq (show vi (-1)=vi (kq l s) by unfold kq;rw[Jm (p:=fun y=>decide (s=y)) fun j hj=>Az (i2 j hj (by have q:=h1;rw[Lm]at q;omega))])
theorem yE(l:List Sl)(s:Sl)(hl:CM l):PC 18 [sl Ae l,.agg (Ae s)] (vb (decide (s∈l))):=by
 refine Ps ⟨[3],[],[],[],[],[],[],[],[],[],[]⟩ Tryz.func18 rfl (Nz rfl) ?_;refine Yi (Nz rfl) ?_;refine Xi .pure (Xi _ (Yi (o71 l s hl) ?_));refine Yi (fun h1=>?_) (fun h1=>?_)
 ·have h1:(0:Int)≤((kq l s):Int):=h1;exact .of_eq (show vb true=vb (decide (s∈l)) by rw[Ax ((ay l s).1 h1)])
 have h1:¬((0:Int)≤((kq l s):Int)):=h1;exact .of_eq (show vb false=vb (decide (s∈l)) by rw[Az (fun h=>h1 ((ay l s).2 h))])
abbrev un:Sl→Sl→Int:=fun a b=>JZ a.path b.path
theorem Xb{a b:ByteArray}:JZ a b<0↔Er a b=true:=by
 unfold JZ
 by_cases h:Er a b=true
 ·rw[Ao h];simp[h]
 ·rw[Ah h];split<;>simp[h]
theorem Nq{a b:ByteArray}:JZ a b=0↔a=b:=by
 unfold JZ;constructor
 ·intro h;split at h
  ·cases h
  ·rename_i h1;split at h
   ·cases h
   ·rename_i h2;exact Ht (by simpa using h1) (by simpa using h2)
 ·rintro rfl
  rw[Ah (by rw[CT];decide),Ah (by rw[CT];decide)]
abbrev kept{α:Type}(p:α→Bool)(l:List α):List α:=l.filter fun x=>!p x
abbrev CW(r:Rl):Sl:=⟨r.path,r.ver⟩
theorem ta(ifs:List (List AV))(hl:CM ifs)(hs:∀c∈ifs,c.length=5):PC 73 [.slice .none ifs] (.slice .none ifs):=by
 refine Ps Gn Tryz.func73 rfl (Nz rfl) ?_;have Hl:Df 5 ifs∧([]:List (List AV)).length=0∧(([]:List (List AV)).length+ifs.length)*112≤140737488355328∧([]:List (List AV)).length+ifs.length≤9223372036854775807:=by
  refine⟨Uz hs,rfl,?_,?_⟩<;>simp only[AF]<;>unfold CM at hl<;>omega
 refine Yi ?_ ?_
 ·intro _;exact Yi Hl (.refl _)
 ·intro h;have h:ifs=[]:=h;refine Yi ?_ ?_
  ·show Hk (.v (.slice none 0 0)) (.slice .none ifs);rw[h];exact .nil
  ·exact Yi Hl (.refl _)
end Go.Eng
namespace Go.Eng
structure OC{α β:Type}(c:α→α→Int)(R:α→α→Prop)(key:α→β):Prop where
 lt:∀a b,c a b<0↔R a b
 eq:∀a b,c a b=0↔key a=key b
 tr:∀a b d,R a b→R b d→R a d
 irr:∀a b,key a=key b→¬R a b
 tri:∀a b,¬R a b→key a≠key b→R b a
 cl:∀a b d,key a=key b→R a d→R b d
section
variable {α β:Type}{c:α→α→Int}{R:α→α→Prop}{key:α→β}
theorem cz(h:OC c R key){a:List α}(ha:a.Pairwise R):(a.map key).Nodup:=by
 unfold List.Nodup;rw[Qt];exact ha.imp fun q e=>h.irr _ _ e q
end
/-! The three comparisons. -/
def yB(a b:Sl):Prop:=Er a.path b.path=true∨(a.path=b.path∧kB a.ver b.ver)
abbrev mf(a b:Sl):Prop:=Er a.path b.path=true
theorem Sg{a b:Int}:FS a b<0↔a<b:=by
 unfold FS;split
 ·rename_i h;simp[h]
 ·rename_i h;split<;>simp[h]
theorem Jf{a b:Int}:FS a b=0↔a=b:=by
 unfold FS;split
 ·rename_i h;simp;omega
 ·rename_i h;split
  ·rename_i h2;simp;omega
  ·rename_i h2;simp;omega
theorem eK{a b:Ver}:Oi a b<0↔kB a b:=by
 refine⟨aa,fun h=>?_⟩;unfold Oi;rcases h with h | ⟨h1,h | ⟨h2,h⟩⟩
 ·rw[Ao (fun c=>by have:=Jf.1 c;omega)];exact Sg.2 h
 ·rw[Ah (fun c=>c (Jf.2 h1)),Ao (fun c=>by have:=Jf.1 c;omega)];exact Sg.2 h
 ·rw[Ah (fun c=>c (Jf.2 h1)),Ah (fun c=>c (Jf.2 h2))];exact Sg.2 h
theorem Oh{a b:Sl}:Xc a b<0↔yB a b:=by
 unfold Xc yB
 by_cases h:a.path=b.path
 ·rw[Ah (fun c=>c (Nq.2 h)),eK];exact⟨fun q=>.inr ⟨h,q⟩,fun q=>q.elim (fun q=>by rw[h,CT]at q;cases q) (·.2)⟩
 ·rw[Ao (fun c=>h (Nq.1 c)),Xb];exact⟨.inl,fun q=>q.elim id fun q=>absurd q.1 h⟩
theorem ocP:OC un mf (fun s:Sl=>s.path) where
 lt _ _:=Xb
 eq _ _:=Nq
 tr _ _ _:=DR
 irr a b e h:=by rw[mf,e,CT]at h;cases h
 tri a b h e:=by
  cases q:Er b.path a.path with
  |true=>exact q
  |false =>
   cases p:Er a.path b.path with
   |true=>exact absurd p h
   |false=>exact absurd (Ht p q) e
 cl a b d e h:=by rw[mf,←e];exact h
/-! Pins. -/
theorem Zu{α β:Type}{f:α→β}{l:List α}(h:(l.map f).Nodup):l.Nodup:=by
 unfold List.Nodup at *
 rw[Qt]at h;exact h.imp fun q e=>q (Ac f e)
/-! What the reference makes of a list. -/
theorem ES{α:Type}{l:List α}{i:Nat}(h:i<l.length):l.take (i+1)=l.take i++[l[i]]:=Kh h
end Go.Eng
namespace Go.Eng
open Go.Proofs
def aj(p:ByteArray)(r:Rl):Bool:=decide (r.path=p)&&!r.yanked
def rV(r:Rl):Int×Int:=(plc r.ver,plc r.ver+1)
theorem bE{x:List Rl}{p:ByteArray}(h:AQ x=0):BZ x p=canon ((x.filter (aj p)).map rV):=by
 unfold BZ J9;rw[Ah (not_not_intro h),List.filter_filter]
 congr 3
 funext r
 unfold aj;rw[Bool.and_comm]
theorem cW{α:Type}(o:Option α):(∃x,o=some x)∨o=none:=by
 cases o with
 |none=>exact .inr rfl
 |some x=>exact .inl ⟨x,rfl⟩
instance:DecidableEq Rq:=fun x y=>decidable_of_iff (x.path=y.path∧x.set=y.set) ⟨fun⟨h1,h2⟩=>by cases x;cases y;simp_all,fun h=>by subst h;exact Zr⟩
instance:DecidableEq Rl:=fun x y=>decidable_of_iff (x.path=y.path∧x.ver=y.ver∧x.reqs=y.reqs∧x.arch=y.arch∧x.ifc=y.ifc∧x.cert=y.cert∧x.yanked=y.yanked) ⟨fun⟨h1,h2,h3,h4,h5,h6,h7⟩=>by cases x;cases y;simp_all,fun h=>by subst h;exact⟨rfl,rfl,rfl,rfl,rfl,rfl,rfl⟩⟩
theorem aD{α:Type}{a b:List α}(hl:a.length=b.length)(h:∀j (hj:j<a.length),a[j]=b[j]'(hl▸hj)):a=b:=List.ext_getElem hl fun j h1 _=>h j h1
theorem lE{α:Type}{a b:List α}{i:Nat}{ha:i<a.length}{hb:i<b.length}(h:a[i]≠b[i]):a≠b:=fun e=>by subst e;exact h rfl
end Go.Eng
