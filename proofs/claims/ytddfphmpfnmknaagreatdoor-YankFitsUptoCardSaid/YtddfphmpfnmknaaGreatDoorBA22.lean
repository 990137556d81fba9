/- Lemmas for the claims of this seat, without a condition: part 22 (C65, C66, C67, C68, C69, C56, C57, C58, C59, C70, C71, C72, C73, LayStrs, O15, S17, O1, C0, O2, R1, R2, R3, R4, R5, C60, C61, C62, C63, C64, R6, R7, R8, R9, R10, R11, O3, R12, R13, O4, O5, O6, O7, O8, O9, O10, R14, R15, R16, R17, R18, R19, R20, R21, R22, R23, O11, O12, O13, O14). -/
import Derived.Test.YtddfphmpfnmknaaGreatDoorBA21
import Derived.Test.YtddfphmpfnmknaaGreatDoorBA17
import Derived.Test.YtddfphmpfnmknaaGreatDoorBA03
import Derived.Shelf.Sort.Plain
import Derived.Shelf.Slices.CompactS
import Derived.Ground.NamesProg
namespace Go.Eng
open Go.Proofs
theorem KT:∀(y:List Rl) (acc:List ByteArray) (r:Rl),AP (y++[r]) acc=if(AP y acc).any (fun p=>decide (p=r.path))then AP y acc else AP y acc++[r.path]
 | [],acc,r=>rfl
 |s::y,acc,r=>by rw[It,AP,AP,KT y]
theorem EG:∀(y:List Rl) (acc:List ByteArray),acc.Nodup→(AP y acc).Nodup
 | [],_,h=>h
 |s::y,acc,h=>by
  rw[AP];refine EG y _ ?_;split
  ·exact h
  ·rename_i hn;rw[F2];refine⟨h,by simp,fun a ha b hb e=>?_⟩;rw[Ak]at hb;exact hn (NN.2 (by rw[←hb,←e];exact ha))
abbrev MS(y:List Rl)(p:ByteArray):List (List AV):=(y.filter fun r=>decide (r.path=p)).map Ah
abbrev dS(y:List Rl)(q:ByteArray×Nat):Value×AV:=(.string q.1,.slice (.id (q.2+50) 9) (MS y q.1))
abbrev QQ(y:List Rl):List (Value×AV):=(AP y []).zipIdx.map (dS y)
def Jk(y:List Rl)(l:Nat):HO:=match(AP y [])[l]? with
 |some q=>.tok 9 (MS y q).length
 |none=>.free
def Uq(y:List Rl)(j:Nat):HO:=bif Nat.ble 50 j then Jk y (j-50)else .free
theorem Hp(y:List Rl)(l:Nat):Uq y (l+50)=Jk y l:=by
 unfold Uq;rw[show Nat.ble 50 (l+50)=true by rw[CR];omega,Nat.add_sub_cancel];rfl
theorem mn(y:List Rl){j:Nat}(h:j<50):Uq y j=.free:=by
 unfold Uq;rw[show Nat.ble 50 j=false by rw[AK];intro hc;rw[CR]at hc;omega];rfl
theorem In(y:List Rl)(r:Rl)(q:ByteArray):MS (y++[r]) q=if r.path=q then MS y q++[Ah r]else MS y q:=by
 unfold MS;rw[Dd]
 by_cases h:r.path=q
 ·rw[Ao h,Rh (by simpa using h)];simp
 ·rw[Ai h,Rg (by simpa using h)];simp
theorem H8{l:List ByteArray}{q:ByteArray×Nat}(h:q∈l.zipIdx):l[q.2]?=some q.1:=by
 obtain⟨a,b⟩:=q;exact Fl.1 h
open Classical in
theorem LN{BU:List (Value×AV)}{k:Value}{a:AV}(h:∀a',(k,a')∉BU):EK BU k a=BU++[(k,a)]:=by
 unfold EK;rw[Ai (fun⟨a',h'⟩=>h a' h')]
open Classical in
theorem Xq{BU:List (Value×AV)}{k:Value}{a a' : AV}(h:(k,a')∈BU):EK BU k a=BU.map fun p=>if p.1=k then(k,a)else p:=by
 unfold EK;rw[Ao ⟨a',h⟩]
section
variable {y:List Rl}{r:Rl}{k:Nat}
theorem IY(h:(AP y [])[k]?=some r.path):AP (y++[r]) []=AP y []:=by
 rw[KT,Ao (NN.2 (Ar h))]
theorem IX(h:r.path∉AP y []):AP (y++[r]) []=AP y []++[r.path]:=by
 rw[KT,Ai (fun hc=>h (NN.1 hc))]
theorem IV{l:List ByteArray}(hd:l.Nodup){i j:Nat}{p:ByteArray}(h1:l[i]?=some p)(h2:l[j]?=some p):i=j:=by
 obtain⟨a1,a2⟩:=Ap.1 h1;obtain⟨b1,b2⟩:=Ap.1 h2;exact(List.getElem_inj hd).1 (a2.trans b2.symm)
open Classical in
theorem iX(h:(AP y [])[k]?=some r.path):EK (QQ y) (.string r.path) (.slice (.id (k+50) 9) (MS y r.path++[Ah r]))=QQ (y++[r]):=by
 have hd:=EG y [] E1;have hm:dS y (r.path,k)∈QQ y:=Al.2 ⟨_,Fl.2 h,rfl⟩;rw[Xq (a':=.slice (.id (k+50) 9) (MS y r.path)) hm];unfold QQ;rw[IY h,BK];refine Ba fun q hq=>?_;have hg:=H8 hq;obtain⟨q,j⟩:=q;show(if Value.string q=Value.string r.path then _ else _)=dS (y++[r]) (q,j);have hg:(AP y [])[j]?=some q:=hg
 by_cases he:q=r.path
 ·subst he
  have:j=k:=IV hd hg h
  subst this;rw[Ao rfl];show _=(Value.string r.path,AV.slice (.id (j+50) 9) (MS (y++[r]) r.path));rw[In,Ao rfl]
 ·rw[Ai (fun e=>he (by simpa using e))];show(Value.string q,AV.slice (.id (j+50) 9) (MS y q))=(Value.string q,AV.slice (.id (j+50) 9) (MS (y++[r]) q));rw[In,Ai (fun e=>he e.symm)]
theorem ZJ(h:r.path∉AP y []):MS y r.path=[]:=by
 have:y.filter (fun s=>decide (s.path=r.path))=[]:=by
  rw[G6];intro s hs he;exact h ((G4 y [] r.path).2 (.inr ⟨s,hs,A8 he⟩))
 unfold MS;rw[this];rfl
theorem WZ(h:r.path∉AP y [])(a:AV):(Value.string r.path,a)∉QQ y:=by
 intro hc;obtain⟨q,h1,h2⟩:=Al.1 hc;simp only[dS,FC,Value.string.injEq]at h2;exact h (by rw[←h2.1];exact Ar (H8 h1))
theorem iW(h:r.path∉AP y []):EK (QQ y) (.string r.path) (.slice (.id ((AP y []).length+50) 9) [Ah r])=QQ (y++[r]):=by
 rw[LN (fun a=>WZ h a)];unfold QQ;rw[IX h,List.zipIdx_append,Ay]
 congr 1
 ·refine Ba fun q hq=>?_;have hg:=H8 hq
  have:q.1≠r.path:=fun e=>h (by rw[←e];exact Ar hg)
  show(Value.string q.1,AV.slice (.id (q.2+50) 9) (MS y q.1))=(Value.string q.1,AV.slice (.id (q.2+50) 9) (MS (y++[r]) q.1));rw[In,Ai (fun e=>this e.symm)]
 ·show [_]=[(Value.string r.path,AV.slice (.id (0+(AP y []).length+50) 9) (MS (y++[r]) r.path))];rw[In,Ao rfl,ZJ h,Bg];rfl
theorem dV{p:ByteArray}{j:Nat}(h:(AP y [])[j]?=some p):(Value.string p,AV.slice (.id (j+50) 9) (MS y p))∈QQ y∧∀b,(Value.string p,b)∈QQ y→b=AV.slice (.id (j+50) 9) (MS y p):=by
 refine⟨Al.2 ⟨(p,j),Fl.2 h,rfl⟩,fun b hb=>?_⟩;obtain⟨q,h1,h2⟩:=Al.1 hb;simp only[dS,FC,Value.string.injEq]at h2;have hg:=H8 h1;rw[h2.1]at hg
 have:=IV (EG y [] E1) hg h
 rw[←h2.2,h2.1,this]
theorem gQ{p:ByteArray}{j:Nat}(h:(AP y [])[j]?=some p):Jk y j=.tok 9 (MS y p).length:=by
 unfold Jk;rw[h]
theorem kl(h:(AP y [])[k]?=some r.path)(l:Nat):(bif Nat.beq (l+50) (k+50)then HO.tok 9 ((MS y r.path).length+1)else Jk y l)=Jk (y++[r]) l:=by
 by_cases he:l=k
 ·subst he;rw[show Nat.beq (l+50) (l+50)=true from CJ _];unfold Jk;rw[IY h,h];show HO.tok 9 _=HO.tok 9 (MS (y++[r]) r.path).length;rw[In,Ao rfl,Ac];rfl
 ·rw[show Nat.beq (l+50) (k+50)=false by rw[AK];intro hc;have:=AH hc;omega];show Jk y l=_;unfold Jk;rw[IY h];cases hq:(AP y [])[l]? with
  |none=>rfl
  |some q =>
   show HO.tok 9 (MS y q).length=HO.tok 9 (MS (y++[r]) q).length;rw[In,Ai];intro e;subst e;exact he (IV (EG y [] E1) hq h)
theorem kk(h:r.path∉AP y [])(l:Nat):(bif Nat.beq (l+50) ((AP y []).length+50)then HO.tok 9 1 else Jk y l)=Jk (y++[r]) l:=by
 by_cases he:l=(AP y []).length
 ·subst he;rw[show Nat.beq ((AP y []).length+50) ((AP y []).length+50)=true from CJ _];unfold Jk;rw[IX h];simp only[AZ (Am _),F3,A4];show HO.tok 9 1=HO.tok 9 (MS (y++[r]) r.path).length;rw[In,Ao rfl,ZJ h];rfl
 ·rw[show Nat.beq (l+50) ((AP y []).length+50)=false by rw[AK];intro hc;have:=AH hc;omega];show Jk y l=_;unfold Jk;rw[IX h]
  by_cases hl:l<(AP y []).length
  ·rw[AY hl,Ge hl];show HO.tok 9 (MS y (AP y [])[l]).length=HO.tok 9 (MS (y++[r]) (AP y [])[l]).length;rw[In,Ai];intro e;exact h (by rw[e];exact At hl)
  ·rw[A2 (by omega),A2 (by rw[Ac];simp;omega)]
end
theorem Pg{h:Nat→HO}:∀{BU:List (Value×AV)},(∀p∈BU,TN h p.2=true)→Qf h BU=true
 | [],_=>rfl
 |p::r,hk=>by
  unfold Qf;rw[hk p (Ab ..)];exact Pg (fun q hq=>hk q (Ag _ hq))
theorem KO(y:List Rl){h:Nat→HO}(hh:∀l,h (l+50)=Jk y l):Qf h (QQ y)=true:=by
 refine Pg fun p hp=>?_;obtain⟨q,h1,rfl⟩:=Al.1 hp;show QI h (q.2+50)=true;unfold QI;rw[hh,gQ (H8 h1)]
theorem I5{y:List Rl}{h h' : Nat→HO}(hh:∀l,h (l+50)=Jk y l)(j:Nat):Uq y j=.free∨(h j=Uq y j∧W8 h' (Uq y j)=true):=by
 by_cases hj:j<50
 ·exact .inl (mn y hj)
 ·obtain⟨l,rfl⟩:∃l,j=l+50:=⟨j-50,by omega⟩
  right
  rw[Hp];refine⟨hh l,?_⟩;unfold Jk;cases (AP y [])[l]?<;>rfl
theorem j8{x:List Rl}(hx:AX x=0){i:Nat}(hi:i<x.length):EK ((x.take i).map Sx) (Qi (FJ x[i])) (.agg (Ah x[i]))=(x.take (i+1)).map Sx:=by
 rw[LN]
 ·rw[Bn,Ge hi,Ay];rfl
 intro a ha;obtain⟨r,hr,he,_⟩:=Zw ha;obtain⟨j,hj,e2⟩:=CD.1 hr;rw[AB]at hj;rw[F1]at e2;have hp:=(Cc hx).2
 have:=(AT.1 hp) j i (by omega) hi (by omega)
 rw[e2]at this;exact HX this he
abbrev qE:Rk:=⟨[],[],[],[],[8,9],[9],[40],[],[],[],[8,9,10,11]⟩
abbrev zT:List AV:=[.v (.map none),.v (.map none)]
theorem iK(x:List Rl)(ifs:List (List AV))(mf:PC 37 [Hr x ifs] (vi (AX x)))(h0:AX x≠0):cE x ifs:=by
 have ht:VX x=.tup [.agg [.cmap Ts [],.cmap CL []],vi (AX x)]:=by unfold VX;rw[Ai h0]
 unfold cE;rw[ht];refine Ps qE Tryz.func41 rfl (Nz rfl) ?_;refine Xi 0 ?_;refine Xi 0 ?_;refine Yi (Nz rfl) ?_;refine Xi 0 ?_;refine Yi (Nz rfl) ?_;refine Xi .pure (Xi _ (Yi (mf) ?_));refine Xi 0 ?_;refine Yi ?_ ?_
 ·intro _;refine Xi 0 ?_;refine Yi (Nz rfl) ?_;refine Yi (Nz rfl) ?_;refine Yi (Nz rfl) ?_;exact .refl _
 ·intro h;exact absurd h (fun hc=>hc h0)
theorem G3:∀(y:List Rl) (acc:List ByteArray),(AP y acc).length≤acc.length+y.length
 | [],acc=>by simp[AP]
 |r::y,acc=>by
  rw[AP];refine Br (G3 y _) ?_;split
  ·simp only[Ax];omega
  ·simp only[Ac,Ax,AF];omega
section
attribute [local irreducible] H3
theorem lX(x:List Rl)(ifs:List (List AV))(mf:PC 37 [Hr x ifs] (vi (AX x)))(h0:AX x=0)(Cw:x.length≤256):cE x ifs:=by
 have ht:VX x=.tup [.agg [.cmap Ts (x.map Sx),.cmap CL ((AP x []).map (ip x))],vi 0]:=by unfold VX;rw[Ao h0]
 unfold cE;rw[ht];rw[h0]at mf;refine Ps qE Tryz.func41 rfl (Nz rfl) ?_;refine Xi 0 ?_;refine Xi 0 ?_;refine Yi (Nz rfl) ?_;refine Xi 0 ?_;refine Yi (Nz rfl) ?_;refine Xi .pure (Xi _ (Yi (mf) ?_));refine Xi 0 ?_;refine Yi ?_ ?_
 ·intro hc;exact absurd (show(0:Int)≠0 from hc) (by decide)
 intro _;refine Xi 0 ?_;refine Xi {i:Nat // i≤x.length} (Xi (fun i=>⟨[(2,.ref 2 0),(4,.ref 4 0),(18,sl Ah x),(19,vi (x.map Ah).length),(20,vi i.1)],[(2,.cells zT),(4,.cells [.mref 8,.mref 9]),(8,.map Ts ((x.take i.1).map Sx)),(9,.mapU CL (QQ (x.take i.1)))],Uq (x.take i.1)⟩) (Xi (fun i=>x.length-i.1) (Yi (Xi ⟨0,AO _⟩ ?_) ?_)))
 ·refine⟨Z5,Z4,fun j=>.inl ?_,Tv⟩;show Uq [] j=.free;unfold Uq;cases Nat.ble 50 j<;>rfl
 intro⟨i,i1⟩;have i1:i≤x.length:=i1;refine Xi 0 ?_;refine Yi ?_ ?_
 ·intro h;have h:(i:Int)<(x.map Ah).length:=h;have h:i<x.length:=by simpa using h
  have hg:x[i]?=some x[i]:=Ge h;have Kj:x.take (i+1)=x.take i++[x[i]]:=by rw[Bn,hg];rfl
  refine Xi 0 ?_;refine Xi (Ah x[i]) (Yi (Yi (Nn i) (by simp[hg])) (Yi rfl ?_));refine Yi (Nz rfl) (Yi (Nz rfl) ?_);refine Xi ⟨[(2,.ref 2 0),(4,.ref 4 0),(7,.ref 7 0),(18,sl Ah x),(19,vi (x.map Ah).length),(20,vi i)],[(2,.cells zT),(4,.cells [.mref 8,.mref 9]),(7,.cells (Ah x[i])),(8,.map Ts ((x.take i).map Sx)),(9,.mapU CL (QQ (x.take i)))],Uq (x.take i)⟩ (Yi ?_ ?_)
  ·exact⟨Z6,⟨Zr,Zr,Zr,Zr,⟨rfl,KO _ (Hp _)⟩,Tv⟩,I5 (Hp _),Tv⟩
  refine Xi 0 ?_;refine Yi (Nz rfl) ?_;refine Xi _ (Yi (lM x[i]) ?_);refine Yi (Nz rfl) ?_;refine Yi (by kernel_rfl) ?_;have e8:EK ((x.take i).map Sx) (Qi (FJ x[i])) (.agg (Ah x[i]))=(x.take (i+1)).map Sx:=j8 h0 h;refine Xi ⟨[(2,.ref 2 0),(4,.ref 4 0),(7,.ref 7 0),(18,sl Ah x),(19,vi (x.map Ah).length),(20,vi i)],[(2,.cells zT),(4,.cells [.mref 8,.mref 9]),(7,.cells (Ah x[i])),(8,.map Ts ((x.take (i+1)).map Sx)),(9,.mapU CL (QQ (x.take i)))],Uq (x.take i)⟩ (Yi ?_ ?_)
  ·exact⟨Z6,⟨Zr,Zr,Zr,⟨Ad (HO.map Ts) e8,rfl⟩,⟨rfl,KO _ (Hp _)⟩,Tv⟩,I5 (Hp _),Tv⟩
  have hL:((x.take i).filter (fun r=>decide (r.path=x[i].path))).length≤256:=by
   have:=BA (fun r:Rl=>decide (r.path=x[i].path)) (x.take i)
   rw[AB]at this;omega
  have hP:∀l,Uq (x.take i) (l+50)=Jk (x.take i) l:=Hp _;refine Dj (Classical.em (x[i].path∈AP (x.take i) [])) (fun hp=>?_) (fun hp=>?_)
  ·refine B4 (B1.1 hp) (fun k hk=>?_);have hu:=dV hk;refine Xi 0 ?_;refine Or.inl (Xi (.slice (.id (k+50) 9) (MS (x.take i) x[i].path)) (Yi hu ?_));refine Yi (Nz rfl) ?_;have hr:Uq (x.take i) (k+50)=.tok 9 (MS (x.take i) x[i].path).length:=by rw[hP,gQ hk]
   have hl:(MS (x.take i) x[i].path).length≤256:=by rw[Lm];exact hL
   refine PU (e:=41) (m:=8) (es2:=[Ah x[i]]) rfl rfl rfl (fun _ h=>h) hr ⟨rfl,trivial⟩ (by show(_+1)*120≤_;omega) (by show _+1≤_;omega) ?_;have pV:k<256:=by
    have:=(Ap.1 hk).1
    have:=G3 (x.take i) []
    rw[AB]at this;simp only[AF]at this;omega
   have mG:=hk;refine Yi (IL ⟨A0 _,A0 _,A0 _,A0 _,A0 _,A0 _,A0 _,A0 _,A0 _,A0 _,D0 (show 39<10000000 by decide),D0 (by show _+50<10000000;omega),D0 (show 9<10000000 by decide),trivial⟩ (by kernel_rfl)) ?_;have e9:EK (QQ (x.take i)) (.string x[i].path) (.slice (.id (k+50) 9) (MS (x.take i) x[i].path++[Ah x[i]]))=QQ (x.take (i+1)):=by rw[Kj];exact iX mG
   have hG:∀l,(bif Nat.beq (l+50) (k+50)then HO.tok 9 ((MS (x.take i) x[i].path).length+1)else Jk (x.take i) l)=Jk (x.take (i+1)) l:=by rw[Kj];exact kl mG
   refine Xi ⟨[(2,.ref 2 0),(4,.ref 4 0),(18,sl Ah x),(19,vi (x.map Ah).length),(20,vi i)],[(2,.cells zT),(4,.cells [.mref 8,.mref 9]),(8,.map Ts ((x.take (i+1)).map Sx)),(9,.mapU CL (QQ (x.take (i+1))))],Uq (x.take (i+1))⟩ (Yi ?_ ?_)
   ·refine⟨Z5,⟨Zr,Zr,Zr,⟨Ad (HO.mapU CL) e9,KO _ (Hp _)⟩,Tv⟩,I5 (fun l=>?_),Tv⟩;show(bif Nat.beq (l+50) (k+50)then HO.tok 9 ((MS (x.take i) x[i].path).length+1)else Uq (x.take i) (l+50))=_;rw[hP];exact hG l
   refine Xi 0 ?_;refine Yi (Ii i (by omega)) ?_;refine Xi ⟨i+1,by omega⟩ ?_;exact⟨Dl x.length i (by omega),Z5,⟨Zr,Zr,Zr,⟨rfl,KO _ (Hp _)⟩,Tv⟩,I5 (Hp _),Tv⟩
  ·have mG:=hp;have K7:(AP (x.take i) []).length≤256:=by
    have:=G3 (x.take i) []
    rw[AB]at this;simp only[AF]at this;omega
   have hn:=WZ hp;refine Xi ((AP (x.take i) []).length+50) ?_;refine Or.inr (Yi hn ?_);refine Yi (Nz rfl) ?_;have hr:Uq (x.take i) ((AP (x.take i) []).length+50)=.free:=by
    rw[hP];unfold Jk;rw[A2 (Am _)]
   refine PT (e:=41) (m:=8) (es2:=[Ah x[i]]) rfl rfl rfl (fun _ h=>h) hr rfl ⟨rfl,trivial⟩ (by show 1*120≤_;omega) (by show 1≤_;omega) ?_;refine Yi (IL ⟨A0 _,A0 _,A0 _,A0 _,A0 _,A0 _,A0 _,A0 _,A0 _,A0 _,D0 (show 39<10000000 by decide),D0 (by show _+50<10000000;omega),D0 (show 9<10000000 by decide),trivial⟩ (by kernel_rfl)) ?_;have e9:EK (QQ (x.take i)) (.string x[i].path) (.slice (.id ((AP (x.take i) []).length+50) 9) [Ah x[i]])=QQ (x.take (i+1)):=by rw[Kj];exact iW mG
   have hG:∀l,(bif Nat.beq (l+50) ((AP (x.take i) []).length+50)then HO.tok 9 1 else Jk (x.take i) l)=Jk (x.take (i+1)) l:=by rw[Kj];exact kk mG
   refine Xi ⟨[(2,.ref 2 0),(4,.ref 4 0),(18,sl Ah x),(19,vi (x.map Ah).length),(20,vi i)],[(2,.cells zT),(4,.cells [.mref 8,.mref 9]),(8,.map Ts ((x.take (i+1)).map Sx)),(9,.mapU CL (QQ (x.take (i+1))))],Uq (x.take (i+1))⟩ (Yi ?_ ?_)
   ·refine⟨Z5,⟨Zr,Zr,Zr,⟨Ad (HO.mapU CL) e9,KO _ (Hp _)⟩,Tv⟩,I5 (fun l=>?_),Tv⟩;show(bif Nat.beq (l+50) ((AP (x.take i) []).length+50)then HO.tok 9 1 else Uq (x.take i) (l+50))=_;rw[hP];exact hG l
   refine Xi 0 ?_;refine Yi (Ii i (by omega)) ?_;refine Xi ⟨i+1,by omega⟩ ?_;exact⟨Dl x.length i (by omega),Z5,⟨Zr,Zr,Zr,⟨rfl,KO _ (Hp _)⟩,Tv⟩,I5 (Hp _),Tv⟩
 ·intro h;have h:¬(i:Int)<(x.map Ah).length:=h;have h:¬i<x.length:=by simpa using h
  have et:x.take i=x:=AD (by omega);refine Xi ⟨[(2,.ref 2 0),(4,.ref 4 0)],[(2,.cells zT),(4,.cells [.mref 8,.mref 9]),(8,.map Ts ((x.take i).map Sx)),(9,.mapU CL (QQ (x.take i)))],Uq (x.take i)⟩ (Yi ?_ ?_)
  ·exact⟨Z2,⟨Zr,Zr,Zr,⟨rfl,KO _ (Hp _)⟩,Tv⟩,I5 (Hp _),Tv⟩
  refine Xi 0 ?_;refine Yi (Nz rfl) ?_;refine Yi (Nz rfl) ?_;refine Yi (Nz rfl) ?_;have es:∀h:Nat→HO,QK h (QQ (x.take i))=(AP x []).map (ip x):=fun h=>by
   rw[et];unfold QK QQ;rw[BK];refine CV fun j=>?_;rw[AC,AC,List.getElem?_zipIdx];cases (AP x [])[j]?<;>rfl
  have e1:(x.take i).map Sx=x.map Sx:=by rw[et]
  exact .of_eq (show AV.tup [.agg [.cmap Ts ((x.take i).map Sx),.cmap CL (QK _ (QQ (x.take i)))],vi 0]=_ by rw[e1,es])
end
theorem c84(x:List Rl)(ifs:List (List AV))(hx:∀r∈x,KC r):cE x ifs:=by
 by_cases h0:AX x=0
 ·exact lX x ifs (ks Vj x ifs hx) h0 (Nj h0).1
 ·exact iK x ifs (ks Vj x ifs hx) h0
abbrev uY(n:Nat):Rk:=⟨[],[(2,n)],[],[],[],[],[5],[],[],[],[2,3]⟩
theorem oT(l:List Sl)(hl:CU l):A3 Tryz.prog 66 [sl Ae l] (Aj [] Aa) fun r h'=>r=.slice (.id 2000 4) (l.map Ae)∧h'=Aj [(2000,.tok 4 (l.map Ae).length)] Aa:=by
 refine BV (Lh (uY 4)) [(2,2000)] rfl Cs hm rfl Tryz.func66 (by kernel_rfl) rfl (Nz rfl) (by kernel_rfl) rfl ?_;have G9:De 4 (l.map Ae)∧([]:List (List AV)).length=0∧(([]:List (List AV)).length+(l.map Ae).length)*40≤140737488355328∧([]:List (List AV)).length+(l.map Ae).length≤9223372036854775807:=by
  refine⟨E9 (enc:=Ae) (n:=4) (fun _=>rfl) l,rfl,?_,?_⟩<;>simp only[AF,Lm]<;>unfold CU at hl<;>omega
 have e2:HO.tok 4 (([]:List (List AV)).length+(l.map Ae).length)=.tok 4 (l.map Ae).length:=by rw[AF,Bg]
 have e3:AV.slice (.id 2000 4) ([]++l.map Ae)=.slice (.id 2000 4) (l.map Ae):=rfl;refine Xi 0 ?_;refine Xi 0 ?_;refine Yi ?_ ?_
 ·intro _;refine Xi ⟨[(0,sl Ae l)],[],Aa⟩ (Yi ⟨Z1,Tv,Fh,Aw (by kernel_rfl)⟩ ?_)
  refine Xi 2 ?_;refine Yi G9 ?_;exact Xi _ (Yi (.refl _) (Yi e3 (Ad (fun o=>Aj [(2000,o)] Aa) e2)))
 ·intro h;have h:l.map Ae=[]:=h;refine Yi ?_ ?_
  ·refine Xi ⟨[],[],Aa⟩ (Yi ⟨trivial,trivial,fun _=>.inl rfl,Aw (by kernel_rfl)⟩ ?_)
   refine Xi 0 ?_;exact Xi _ (Yi (.refl _) (Yi (show AV.slice (.id 2000 4) []=_ by rw[h]) (show Aj [(2000,HO.tok 4 0)] Aa=_ by rw[h];rfl)))
  ·refine Xi ⟨[(0,sl Ae l)],[],Aa⟩ (Yi ⟨Z1,Tv,Fh,Aw (by kernel_rfl)⟩ ?_)
   refine Xi 2 ?_;refine Yi G9 ?_;exact Xi _ (Yi (.refl _) (Yi e3 (Ad (fun o=>Aj [(2000,o)] Aa) e2)))
def LZ(q:Rq):Bool:=decide (q.path.size≤100)&&decide (q.set.length≤8)
def Gp(l:List Rq):Bool:=l.all LZ&&decide (l.length≤20)
theorem ww(l:List Rq)(hl:CU l):PC 34 [sl AN l] (vb (Gp l)):=by
 unfold CU at hl;refine Ps Ga Tryz.func34 rfl (Nz rfl) ?_;refine Xi {i:Nat // i≤l.length∧∀j (hj:j<l.length),j<i→LZ l[j]=true} (Xi (fun i=>⟨[(0,sl AN l),(3,vi i.1)],[],Aa⟩) (Xi (fun i=>l.length-i.1) (Yi (Xi ⟨0,AO _,fun j _ h=>by omega⟩ ?_) ?_)))
 ·exact⟨Z2,Tv,Fh,Tv⟩
 intro⟨i,h1,h2⟩;refine Yi ?_ ?_
 ·intro h;have h:(i:Int)<(l.map AN).length:=h;have h:i<l.length:=by simpa using h
  have hg:l[i]?=some l[i]:=Ge h;have no:LZ l[i]=false→false=Gp l:=fun e=>by
   unfold Gp
   have:l.all LZ=false:=by
    rw[AK];intro ha
    have:=Bs.1 ha _ (At h)
    rw[e]at this;cases this
   rw[this];rfl
  refine Xi (AN l[i]) (Yi (Yi (Nn i) (by simp[hg])) (Yi rfl ?_));refine Yi ?_ ?_
  ·intro h3;have h3:(100:Int)<((l[i].path.size:Nat):Int):=h3;exact .of_eq (Ad vb (no (by unfold LZ;rw[AG (by omega)];rfl)))
  intro h3;have h3:¬(100:Int)<((l[i].path.size:Nat):Int):=h3;refine Xi (AN l[i]) (Yi (Yi (Nn i) (by simp[hg])) (Yi rfl ?_));refine Yi ?_ ?_
  ·intro h4;have h4:(8:Int)<((l[i].set.map Aq).length:Int):=h4;rw[Lm]at h4;exact .of_eq (Ad vb (no (by unfold LZ;rw[AG (by omega:¬l[i].set.length≤8),D4])))
  intro h4;have h4:¬(8:Int)<((l[i].set.map Aq).length:Int):=h4;have h5:l[i].set.length≤8:=by rw[Lm]at h4;omega
  refine Yi (Ii i (by omega)) ?_;refine Xi ⟨i+1,by omega,fun j hj Nb=>?_⟩ ?_
  ·rcases Ez j i with z | z
   ·exact h2 j hj z
   ·have:j=i:=by omega
    subst this;unfold LZ;rw[AE (by omega),AE h5];rfl
  ·exact⟨Dl l.length i (by omega),Z2,Tv,Fh,Tv⟩
 ·intro h;have h:¬(i:Int)<(l.map AN).length:=h;have h:¬i<l.length:=by simpa using h
  have ha:l.all LZ=true:=Bs.2 fun q hq=>by
   obtain⟨j,hj,rfl⟩:=Fs hq;exact h2 j hj (by omega)
  refine Yi ?_ ?_
  ·intro h3;have h3:((l.map AN).length:Int)≤20:=h3;rw[Lm]at h3;exact .of_eq (Ad vb (show true=Gp l by unfold Gp;rw[ha,AE (by omega)];rfl))
  ·intro h3;have h3:¬((l.map AN).length:Int)≤20:=h3;rw[Lm]at h3;exact .of_eq (Ad vb (show false=Gp l by unfold Gp;rw[AG (by omega),D4]))
def Ji(r:Rl):Bool:=decide (r.path.size≤100)&&decide (r.arch.size≤100)&&decide (r.ifc.size≤100)&&decide (r.cert.size≤100)&&Gp r.reqs
def GS(x:List Rl)(n:Nat):Bool:=x.all Ji&&decide (x.length≤n)
theorem yd(x:List Rl)(n:Nat)(hl:CU x)(hr:∀r∈x,CU r.reqs):PC 33 [sl Ah x,vi n] (vb (GS x n)):=by
 unfold CU at hl;refine Ps Ga Tryz.func33 rfl (Nz rfl) ?_;refine Xi {i:Nat // i≤x.length∧∀j (hj:j<x.length),j<i→Ji x[j]=true} (Xi (fun i=>⟨[(0,sl Ah x),(1,vi n),(5,vi i.1)],[],Aa⟩) (Xi (fun i=>x.length-i.1) (Yi (Xi ⟨0,AO _,fun j _ h=>by omega⟩ ?_) ?_)))
 ·exact⟨Z3,Tv,Fh,Tv⟩
 intro⟨i,h1,h2⟩;refine Yi ?_ ?_
 ·intro h;have h:(i:Int)<(x.map Ah).length:=h;have h:i<x.length:=by simpa using h
  have hg:x[i]?=some x[i]:=Ge h;have no:Ji x[i]=false→false=GS x n:=fun e=>by
   unfold GS
   have:x.all Ji=false:=by
    rw[AK];intro ha
    have:=Bs.1 ha _ (At h)
    rw[e]at this;cases this
   rw[this];rfl
  have hc:=ww x[i].reqs (hr _ (At h));refine Xi (Ah x[i]) (Yi (Yi (Nn i) (by simp[hg])) (Yi rfl ?_));refine Yi ?_ ?_
  ·intro h3;have h3:(100:Int)<((x[i].path.size:Nat):Int):=h3;exact .of_eq (Ad vb (no (by unfold Ji;rw[AG (by omega:¬x[i].path.size≤100)];simp)))
  intro h3;have h3:¬(100:Int)<((x[i].path.size:Nat):Int):=h3;refine Xi (Ah x[i]) (Yi (Yi (Nn i) (by simp[hg])) (Yi rfl ?_));refine Yi ?_ ?_
  ·intro h4;have h4:(100:Int)<((x[i].arch.size:Nat):Int):=h4;exact .of_eq (Ad vb (no (by unfold Ji;rw[AG (by omega:¬x[i].arch.size≤100)];simp)))
  intro h4;have h4:¬(100:Int)<((x[i].arch.size:Nat):Int):=h4;refine Xi (Ah x[i]) (Yi (Yi (Nn i) (by simp[hg])) (Yi rfl ?_));refine Yi ?_ ?_
  ·intro h5;have h5:(100:Int)<((x[i].ifc.size:Nat):Int):=h5;exact .of_eq (Ad vb (no (by unfold Ji;rw[AG (by omega:¬x[i].ifc.size≤100)];simp)))
  intro h5;have h5:¬(100:Int)<((x[i].ifc.size:Nat):Int):=h5;refine Xi (Ah x[i]) (Yi (Yi (Nn i) (by simp[hg])) (Yi rfl ?_));refine Yi ?_ ?_
  ·intro h6;have h6:(100:Int)<((x[i].cert.size:Nat):Int):=h6;exact .of_eq (Ad vb (no (by unfold Ji;rw[AG (by omega:¬x[i].cert.size≤100)];simp)))
  intro h6;have h6:¬(100:Int)<((x[i].cert.size:Nat):Int):=h6;refine Xi (Ah x[i]) (Yi (Yi (Nn i) (by simp[hg])) (Yi rfl ?_));refine Dj (Bt (Gp x[i].reqs)) (fun e=>?_) (fun e=>?_)
  rotate_left
  ·rw[e]at hc;refine Xi .pure (Xi _ (Yi (hc) ?_));exact .of_eq (Ad vb (no (by unfold Ji;rw[e,D4])))
  rw[e]at hc;refine Xi .pure (Xi _ (Yi (hc) ?_));refine Yi (Ii i (by omega)) ?_;refine Xi ⟨i+1,by omega,fun j hj Nb=>?_⟩ ?_
  ·rcases Ez j i with z | z
   ·exact h2 j hj z
   ·have:j=i:=by omega
    subst this;unfold Ji;rw[AE (by omega:x[j].path.size≤100),AE (by omega:x[j].arch.size≤100),AE (by omega:x[j].ifc.size≤100),AE (by omega:x[j].cert.size≤100),e];rfl
  ·exact⟨Dl x.length i (by omega),Z3,Tv,Fh,Tv⟩
 ·intro h;have h:¬(i:Int)<(x.map Ah).length:=h;have h:¬i<x.length:=by simpa using h
  have ha:x.all Ji=true:=Bs.2 fun q hq=>by
   obtain⟨j,hj,rfl⟩:=Fs hq;exact h2 j hj (by omega)
  refine Yi ?_ ?_
  ·intro h3;have h3:((x.map Ah).length:Int)≤n:=h3;rw[Lm]at h3;exact .of_eq (Ad vb (show true=GS x n by unfold GS;rw[ha,AE (by omega)];rfl))
  ·intro h3;have h3:¬((x.map Ah).length:Int)≤n:=h3;rw[Lm]at h3;exact .of_eq (Ad vb (show false=GS x n by unfold GS;rw[AG (by omega),D4]))
theorem c11(x:List Rl)(ifs:List (List AV))(roots:List Rq)(hl:CU x)(hr:∀r∈x,CU r.reqs)(hq:CU roots):PC 10 [Hr x ifs,sl AN roots] (vb (GS x 16&&Gp roots)):=by
 have h1:=yd x 16 hl hr;have h2:=ww roots hq;cases e:GS x 16 with
 |true =>
  rw[e]at h1;refine Ps Ga Tryz.func10 rfl (Nz rfl) ?_;refine Xi .pure (Xi _ (Yi (h1) ?_));refine Xi .pure (Xi _ (Yi (h2) ?_));exact .refl _
 |false =>
  rw[e]at h1;refine Ps Ga Tryz.func10 rfl (Nz rfl) ?_;refine Xi .pure (Xi _ (Yi (h1) ?_));exact .refl _
structure ib(x:List Rl)(roots:List Rq):Prop where
 ix:CU x
 rs:CU roots
 rel:∀r∈x,CU r.reqs∧KC r
 rq:∀q∈roots,NH q
theorem ib.x{x:List Rl}{roots:List Rq}(h:ib x roots):∀r∈x,KC r:=fun r hr=>(h.rel r hr).2
theorem ib.c84{x:List Rl}{roots:List Rq}(h:ib x roots)(ifs:List (List AV)):cE x ifs:=Go.Eng.c84 x ifs h.x
theorem ib.c11{x:List Rl}{roots:List Rq}(h:ib x roots)(ifs:List (List AV)):PC 10 [Hr x ifs,sl AN roots] (vb (GS x 16&&Gp roots)) :=
 Go.Eng.c11 x ifs roots h.ix (fun r hr=>(h.rel r hr).1) h.rs
end Go.Eng
namespace Go.Proofs
open Go.Shelf
def Tryz.laySortStr_ren:Go.Shelf.Ren:=⟨fun | 190=>76 | 125=>98 | 258=>108 | 128=>137 | 129=>138 | 302=>148 | 303=>149 | 304=>150 | 305=>151 | 306=>152 | 307=>153 | 308=>154 | 309=>155 | 310=>156 | 333=>197 | 329=>186 | 330=>187 | 334=>198 | 335=>199 | 336=>113 | 344=>226 | n=>n,fun | 31=>139 | 9=>9 | 3=>3 | 46=>174 | 0=>0 | 51=>211 | 53=>213 | 4=>4 | 183=>205 | 182=>204 | 131=>110 | 5=>5 | 218=>245 | 222=>249 | 228=>274 | 229=>275 | n=>n,fun | n=>n⟩
theorem Tryz.laySortStr:Go.Proofs.Lays.n190 Tryz.prog Tryz.laySortStr_ren:={
 mixed:=by kernel_rfl
 f125:=Tryz.func98.trans (congrArg some (by kernel_rfl))
 f128:=Tryz.func137.trans (congrArg some (by kernel_rfl))
 f129:=Tryz.func138.trans (congrArg some (by kernel_rfl))
 f190:=Tryz.func76.trans (congrArg some (by kernel_rfl))
 f258:=Tryz.func108.trans (congrArg some (by kernel_rfl))
 f302:=Tryz.func148.trans (congrArg some (by kernel_rfl))
 f303:=Tryz.func149.trans (congrArg some (by kernel_rfl))
 f304:=Tryz.func150.trans (congrArg some (by kernel_rfl))
 f305:=Tryz.func151.trans (congrArg some (by kernel_rfl))
 f306:=Tryz.func152.trans (congrArg some (by kernel_rfl))
 f307:=Tryz.func153.trans (congrArg some (by kernel_rfl))
 f308:=Tryz.func154.trans (congrArg some (by kernel_rfl))
 f309:=Tryz.func155.trans (congrArg some (by kernel_rfl))
 f310:=Tryz.func156.trans (congrArg some (by kernel_rfl))
 f329:=Tryz.func186.trans (congrArg some (by kernel_rfl))
 f330:=Tryz.func187.trans (congrArg some (by kernel_rfl))
 f333:=Tryz.func197.trans (congrArg some (by kernel_rfl))
 f334:=Tryz.func198.trans (congrArg some (by kernel_rfl))
 f335:=Tryz.func199.trans (congrArg some (by kernel_rfl))
 f336:=Tryz.func113.trans (congrArg some (by kernel_rfl))
 f344:=Tryz.func226.trans (congrArg some (by kernel_rfl))
 t0:=Tryz.underlying0
 a0:=Tryz.isAgg0
 z0:=Tryz.sizeOf0
 v0:=Tryz.zeroValue0
 t3:=Tryz.underlying3
 a3:=Tryz.isAgg3
 z3:=Tryz.sizeOf3
 v3:=Tryz.zeroValue3
 t4:=Tryz.underlying4
 a4:=Tryz.isAgg4
 z4:=Tryz.sizeOf4
 v4:=Tryz.zeroValue4
 t5:=Tryz.underlying5
 a5:=Tryz.isAgg5
 z5:=Tryz.sizeOf5
 v5:=Tryz.zeroValue5
 t9:=Tryz.underlying9
 a9:=Tryz.isAgg9
 z9:=Tryz.sizeOf9
 v9:=Tryz.zeroValue9
 t31:=Tryz.underlying139
 a31:=Tryz.isAgg139
 z31:=Tryz.sizeOf139
 v31:=Tryz.zeroValue139
 t46:=Tryz.underlying174
 a46:=Tryz.isAgg174
 z46:=Tryz.sizeOf174
 v46:=Tryz.zeroValue174
 t51:=Tryz.underlying211
 a51:=Tryz.isAgg211
 z51:=Tryz.sizeOf211
 v51:=Tryz.zeroValue211
 t53:=Tryz.underlying213
 a53:=Tryz.isAgg213
 z53:=Tryz.sizeOf213
 v53:=Tryz.zeroValue213
 t131:=Tryz.underlying110
 a131:=Tryz.isAgg110
 z131:=Tryz.sizeOf110
 v131:=Tryz.zeroValue110
 t182:=Tryz.underlying204
 a182:=Tryz.isAgg204
 z182:=Tryz.sizeOf204
 v182:=Tryz.zeroValue204
 t183:=Tryz.underlying205
 a183:=Tryz.isAgg205
 z183:=Tryz.sizeOf205
 v183:=Tryz.zeroValue205
 t218:=Tryz.underlying245
 a218:=Tryz.isAgg245
 z218:=Tryz.sizeOf245
 v218:=Tryz.zeroValue245
 t222:=Tryz.underlying249
 a222:=Tryz.isAgg249
 z222:=Tryz.sizeOf249
 v222:=Tryz.zeroValue249
 t228:=Tryz.underlying274
 a228:=Tryz.isAgg274
 z228:=Tryz.sizeOf274
 v228:=Tryz.zeroValue274
 t229:=Tryz.underlying275
 a229:=Tryz.isAgg275
 z229:=Tryz.sizeOf275
 v229:=Tryz.zeroValue275 }
def Tryz.layCompactStr_ren:Go.Shelf.Ren:=⟨fun | 194=>78 | n=>n,fun | 31=>139 | 9=>9 | 3=>3 | 4=>4 | 0=>0 | n=>n,fun | n=>n⟩
theorem Tryz.layCompactStr:Go.Proofs.Lays.n194 Tryz.prog Tryz.layCompactStr_ren:={
 mixed:=by kernel_rfl
 f194:=Tryz.func78.trans (congrArg some (by kernel_rfl))
 t0:=Tryz.underlying0
 a0:=Tryz.isAgg0
 z0:=Tryz.sizeOf0
 v0:=Tryz.zeroValue0
 t3:=Tryz.underlying3
 a3:=Tryz.isAgg3
 z3:=Tryz.sizeOf3
 v3:=Tryz.zeroValue3
 t4:=Tryz.underlying4
 a4:=Tryz.isAgg4
 z4:=Tryz.sizeOf4
 v4:=Tryz.zeroValue4
 t9:=Tryz.underlying9
 a9:=Tryz.isAgg9
 z9:=Tryz.sizeOf9
 v9:=Tryz.zeroValue9
 t31:=Tryz.underlying139
 a31:=Tryz.isAgg139
 z31:=Tryz.sizeOf139
 v31:=Tryz.zeroValue139 }
end Go.Proofs
namespace Go.Eng
open Go.Proofs Go.Shelf Go.RowKit Go.Lib Go.Sort
abbrev PV(s:ByteArray):List UInt8:=s.data.toList
abbrev Zb(l:List UInt8):ByteArray:=⟨l.toArray⟩
theorem iH(s:ByteArray):Zb (PV s)=s:=by cases s;simp
theorem Md(zs:List (List UInt8)):((zs.map Zb).map DB).flatten=(zs.map Go.Proofs.encStr).map AV.v:=by
 induction zs with
 |nil=>rfl
 |cons z zs ih=>rw[AJ,AJ,Bv,ih];rfl
theorem Vi(ss:List ByteArray):(ss.map PV).map Zb=ss:=by
 rw[BK,show Zb ∘ PV=id from funext iH,Jq]
theorem uS(ss t:List ByteArray)(hl:CU ss)(Dt:ss≠[])(hp:t.Perm ss)(ht:(t.map PV).Pairwise fun a b=>a≤b) :
  A3 Tryz.prog 76 [.msl 1000 ss.length] (Aj [(1000,.arr 1 (ss.map DB))] Aa) fun r h'=>r=.tup []∧h'=Aj [(1000,.arr 1 (t.map DB))] Aa:=by
 have hl:ss.length≤1073741824:=hl;have hE:FS Tryz.prog 76:=cI 76 Tryz.func76 (by kernel_rfl) rfl;obtain⟨zs,hz⟩:∃zs,zs=ss.map PV:=⟨_,rfl⟩;have Et:ss=zs.map Zb:=by rw[hz,Vi]
 have G1:=OU (P:=Tryz.prog) (f:=76) (es:=ss.map DB) (sz:=1) (rest:=[]) (Q:=fun Fr=>Fr=t.map DB) hE ?_ ?_
 ·rw[Lm]at G1;refine⟨hE,fun g w vals q1 q2 q3=>(G1.2 g w vals q1 q2 q3).mono fun _ _ ⟨v,r,h',g',e1,⟨e2,Fr,p1,p3⟩,rest⟩=>⟨v,r,h',g',e1,⟨e2,by rw[p3,p1]⟩,rest⟩⟩
 ·intro e;exact absurd (DY.1 e) Dt
 ·intro g w b cap F hr hF hH hb;have pp:F.toList=zs.map Go.Proofs.encStr:=KW (by rw[←Md,←Et];exact hr);have d6:F=zs.toArray.map Go.Proofs.encStr:=Ir.1 (by rw[pp];simp);have Mz:zs.length=ss.length:=by rw[hz,Lm]
  have pq:Holds Go.Proofs.encStr w b 0 zs.toArray:=fun j hj=>by
   have:=hH j (by rw[d6];simpa using hj)
   refine⟨this.1.trans ?_,this.2⟩;rw[d6,Dr _ j (by simpa using hj),Dr _ j hj];simp
  have hc:=Any.slices_Sort_string Tryz.laySortStr b 0 cap zs w pq hb (by omega);have zA:(zs.mergeSort fun x y=>decide (x≤y))=t.map PV:=by
   have IE:(zs.mergeSort fun x y=>decide (x≤y)).Perm zs:=List.mergeSort_perm _ _;have qj:=List.pairwise_mergeSort (le:=fun x y:List UInt8=>decide (x≤y)) (fun a b c h1 h2=>by simp only[Av]at *;exact List.le_trans h1 h2) (fun a b=>by simp only[Cp,Av];exact List.le_total a b) zs;refine List.Perm.eq_of_pairwise (le:=fun a b=>a≤b) (fun a b _ _ h k=>List.le_antisymm h k) (qj.imp fun h=>A8 h) ht (IE.trans ?_);rw[hz];exact(hp.map PV).symm
  rw[zA,Mz]at hc;rw[Lm];refine hc.mono ?_
  rintro e w' ⟨rfl,n,os,rfl⟩
  have Ds:t.length=ss.length:=hp.length_eq;refine⟨rfl,(t.map PV).toArray.map Go.Proofs.encStr,t.map DB,n,os,?_,rfl,by simp[Ds],fun cs hcs=>?_,fun g w _=>?_,by rw[Pt]⟩
  ·rw[d6];simp[Ds,Mz]
  ·obtain⟨x,_,rfl⟩:=Al.1 hcs;rfl
  ·have e1:t.map DB=((t.map PV).map Zb).map DB:=by rw[Vi]
   rw[e1,Md];have e:(((t.map PV).toArray.map Go.Proofs.encStr).toList)=(t.map PV).map Go.Proofs.encStr:=by simp
   rw[e];exact Mt _ _ _ _ fun x hx=>by
    obtain⟨z,_,rfl⟩:=Al.1 hx;rfl
def BS(ss:List ByteArray):List ByteArray:=(Lib.compact (ss.map PV)).map Zb
theorem PX(zs:List (List UInt8)):(Lib.compact zs).length≤zs.length:=by
 unfold Lib.compact Lib.compactUpTo;rw[Lm];exact Br (BA _ _) (by rw[PQ];exact Am _)
theorem uT(ss:List ByteArray)(hl:CU ss)(Dt:ss≠[]) :
  A3 Tryz.prog 78 [.msl 1000 ss.length] (Aj [(1000,.arr 1 (ss.map DB))] Aa) fun r h'=>r=.msl 2000 (BS ss).length∧h'=Aj [(1000,.dead),(2000,.arr 1 ((BS ss).map DB))] Aa:=by
 have hl:ss.length≤1073741824:=hl;have hE:FS Tryz.prog 78:=cI 78 Tryz.func78 (by kernel_rfl) rfl;obtain⟨zs,hz⟩:∃zs,zs=ss.map PV:=⟨_,rfl⟩;have Et:ss=zs.map Zb:=by rw[hz,Vi]
 have Mz:zs.length=ss.length:=by rw[hz,Lm]
 have hcl:=PX zs;have G1:=TZ (P:=Tryz.prog) (f:=78) (es:=ss.map DB) (sz:=1) (rest:=[]) (n':=(Lib.compact zs).length) (Q:=fun Fr=>Fr=((Lib.compact zs++List.replicate (zs.length-(Lib.compact zs).length) []).map Zb).map DB) hE (fun e=>Dt (DY.1 e)) (by rw[Lm];omega) ?_
 ·rw[Lm]at G1;have ez:BS ss=(Lib.compact zs).map Zb:=by unfold BS;rw[hz]
  refine⟨hE,fun g w vals q1 q2 q3=>(G1.2 g w vals q1 q2 q3).mono fun _ _ ⟨x,r,h',g',e1,⟨e2,Fr,p1,p2⟩,rest⟩=>⟨x,r,h',g',e1,⟨by rw[e2,ez,Lm],by
   rw[p2,p1,ez,Ay,Ay,GV (by rw[Lm,Lm];exact Am _),AD (by rw[Lm,Lm];exact Am _)]⟩,rest⟩⟩
 ·intro g w b cap F hr hF hH hb hc;rw[Lm]at hF hc⊢;have pp:F.toList=zs.map Go.Proofs.encStr:=KW (by rw[←Md,←Et];exact hr);have d6:F=zs.toArray.map Go.Proofs.encStr:=Ir.1 (by rw[pp];simp);have pq:Holds Go.Proofs.encStr w b 0 zs.toArray:=fun j hj=>by
   have:=hH j (by rw[d6];simpa using hj)
   refine⟨this.1.trans ?_,this.2⟩;rw[d6,Dr _ j (by simpa using hj),Dr _ j hj];simp
  have hcon:=Any.slices_Compact_string Tryz.layCompactStr b 0 cap zs w pq (by omega) (by omega);rw[Mz]at hcon;refine hcon.mono ?_
  rintro e w' ⟨rfl,q,rfl⟩
  refine⟨rfl,(Lib.compact zs++List.replicate (zs.length-(Lib.compact zs).length) []).toArray.map Go.Proofs.encStr,_,q,#[],?_,rfl,?_,fun cs hcs=>?_,fun g w _=>?_,?_⟩
  ·rw[d6];simp;omega
  ·simp;omega
  ·obtain⟨x,_,rfl⟩:=Al.1 hcs;rfl
  ·rw[Md];have e:((Lib.compact zs++List.replicate (zs.length-(Lib.compact zs).length) []).toArray.map Go.Proofs.encStr).toList=(Lib.compact zs++List.replicate (zs.length-(Lib.compact zs).length) []).map Go.Proofs.encStr:=by simp
   rw[e];exact Mt _ _ _ _ fun x hx=>by
    obtain⟨z,_,rfl⟩:=Al.1 hx;rfl
  ·rw[Pt,grow_empty,Mz]
end Go.Eng
namespace Go.Eng
open Go.Proofs
abbrev uZ(n:Nat):Rk:=⟨[],[],[(2,n),(5,n)],[],[],[],[5],[],[],[],[2,3]⟩
theorem wa(l:List Sl)(hl:CU l):A3 Tryz.prog 66 [sl Ae l] (Aj [] Aa) fun r h'=>r=.msl 2000 l.length∧h'=Aj [(2000,.arr 4 (l.map Ae))] Aa:=by
 refine BV (Lh (uZ 4)) [(2,2000)] rfl Cs hm rfl Tryz.func66 (by kernel_rfl) rfl (Nz rfl) (by kernel_rfl) rfl ?_;have G9:De 4 (l.map Ae)∧([]:List (List AV)).length=0∧(([]:List (List AV)).length+(l.map Ae).length)*40≤140737488355328∧([]:List (List AV)).length+(l.map Ae).length≤9223372036854775807:=by
  refine⟨E9 (enc:=Ae) (n:=4) (fun _=>rfl) l,rfl,?_,?_⟩<;>simp only[AF,Lm]<;>unfold CU at hl<;>omega
 have e1:AV.msl 2000 (([]:List (List AV)).length+(l.map Ae).length)=.msl 2000 l.length:=by simp
 refine Xi 0 ?_;refine Xi 0 ?_;refine Yi ?_ ?_
 ·intro _;refine Xi ⟨[(0,sl Ae l)],[],Aa⟩ (Yi ⟨Z1,Tv,Fh,Aw (by kernel_rfl)⟩ ?_)
  refine Xi 2 ?_;refine Yi G9 ?_;exact Xi _ (Yi (.refl _) (Yi e1 rfl))
 ·intro h;have h:l.map Ae=[]:=h;refine Yi ?_ ?_
  ·refine Xi ⟨[],[],Aa⟩ (Yi ⟨trivial,trivial,fun _=>.inl rfl,Aw (by kernel_rfl)⟩ ?_)
   refine Xi 2 ?_;exact Xi _ (Yi (.refl _) (Yi (show AV.msl 2000 0=_ by rw[DY.1 h];rfl) (show Aj [(2000,HO.arr 4 [])] Aa=_ by rw[h])))
  ·refine Xi ⟨[(0,sl Ae l)],[],Aa⟩ (Yi ⟨Z1,Tv,Fh,Aw (by kernel_rfl)⟩ ?_)
   refine Xi 2 ?_;refine Yi G9 ?_;exact Xi _ (Yi (.refl _) (Yi e1 rfl))
theorem A3.to2{P:Program}{f:Nat}{args:List AV}{h0:Nat→HO}{r0:AV}{H0:Nat→HO}{Q' : AV→(Nat→HO)→Prop}(h:A3 P f args h0 fun r h'=>r=r0∧h'=H0)(k:Q' r0 H0):A3 P f args h0 Q' :=
 h.mono fun r h' q=>⟨r,.refl _,by rw[q.1,q.2];exact k⟩
theorem cb{f:Nat}{args:List AV}{b x:Bool}(h:b=x)(hc:PC f args (vb b)):PC f args (vb x):=h▸hc
theorem MB{α:Type}{f:α→List AV}{l:List α}{i:Nat}(h:(i:Int)<((l.map f).length:Int)):i<l.length:=by rw[Lm]at h;omega
theorem MA{α:Type}{f:α→List AV}{l:List α}{i:Nat}(h:¬(i:Int)<((l.map f).length:Int)):¬i<l.length:=by rw[Lm]at h;omega
theorem Wj{α:Type}{f:α→List AV}{l:List α}{i:Nat}(h:i<l.length):(0:Int)≤(i:Int)∧(l.map f)[((i:Nat):Int).toNat]?=some (f l[i]):=⟨Int.natCast_nonneg _,by rw[Cn,AC,Ge h];rfl⟩
theorem az{n z:Nat}{α:Type}{f:α→List AV}{O:List α}{x:List AV}(hx:x.length=n)(h:O.length≤2147483647)(hz:z≤65536) :
  De n [x]∧(O.map f).length=O.length∧((O.map f).length+([x]:List (List AV)).length)*z≤140737488355328∧(O.map f).length+([x]:List (List AV)).length≤9223372036854775807:=by
 refine⟨⟨hx,trivial⟩,Lm _,?_,?_⟩<;>rw[Lm]<;>simp only[Ax,AF]
 ·have:=Nat.mul_le_mul (show O.length+(0+1)≤2147483648 by omega) hz
  omega
 ·omega
theorem tkA{α:Type}{f:α→List AV}{O:List α}{x:α}{r n:Nat}:AV.slice (.id r n) (O.map f++[f x])=.slice (.id r n) ((O++[x]).map f):=by rw[Ay];rfl
theorem zb{α:Type}{f:α→List AV}{O:List α}{x:α}{y:List AV}{n:Nat}:HO.tok n ((O.map f).length+([y]:List (List AV)).length)=.tok n (O++[x]).length:=by rw[Ac,Lm];rfl
theorem T1{n:Nat}:∀{l:List (List AV)},(∀c∈l,c.length=n)→De n l
 | [],_=>trivial
 |c::_,h=>⟨h c (Ab ..),T1 fun d hd=>h d (Ag _ hd)⟩
def iQ(a b:Sl):Int:=if JL a.path b.path≠0 then JL a.path b.path else NU a.ver b.ver
theorem gG{a b:Sl}(h:a.path=b.path∧a.ver.a=b.ver.a∧a.ver.b=b.ver.b∧a.ver.c=b.ver.c∧True):a=b:=by
 obtain⟨p,⟨x,y,z⟩⟩:=a;obtain⟨p',⟨x',y',z'⟩⟩:=b;obtain⟨h1,h2,h3,h4,_⟩:=h;cases h1;cases h2;cases h3;cases h4;rfl
def ll:Sl:=⟨mt,⟨0,0,0⟩⟩
abbrev td:Sl→Sl→Int:=fun a b=>JL a.path b.path
theorem WA{a b:ByteArray}:JL a b<0↔En a b=true:=by
 unfold JL
 by_cases h:En a b=true
 ·rw[Ao h];simp[h]
 ·rw[Ai h];split<;>simp[h]
theorem M4{a b:ByteArray}:JL a b=0↔a=b:=by
 unfold JL;constructor
 ·intro h;split at h
  ·cases h
  ·rename_i h1;split at h
   ·cases h
   ·rename_i h2;exact Hh (by simpa using h1) (by simpa using h2)
 ·rintro rfl
  rw[Ai (by rw[CO];decide),Ai (by rw[CO];decide)]
abbrev kept{α:Type}(p:α→Bool)(l:List α):List α:=l.filter fun x=>!p x
abbrev DJ(r:Rl):Sl:=⟨r.path,r.ver⟩
theorem zL(ifs:List (List AV))(hl:CU ifs)(hs:∀c∈ifs,c.length=5):PC 73 [.slice .none ifs] (.slice .none ifs):=by
 refine Ps Ga Tryz.func73 rfl (Nz rfl) ?_;have G9:De 5 ifs∧([]:List (List AV)).length=0∧(([]:List (List AV)).length+ifs.length)*112≤140737488355328∧([]:List (List AV)).length+ifs.length≤9223372036854775807:=by
  refine⟨T1 hs,rfl,?_,?_⟩<;>simp only[AF]<;>unfold CU at hl<;>omega
 refine Yi ?_ ?_
 ·intro _;exact Yi G9 (.refl _)
 ·intro h;have h:ifs=[]:=h;refine Yi ?_ ?_
  ·show Hf (.v (.slice none 0 0)) (.slice .none ifs);rw[h];exact .nil
  ·exact Yi G9 (.refl _)
end Go.Eng
namespace Go.Eng
structure OC{α β:Type}(c:α→α→Int)(R:α→α→Prop)(key:α→β):Prop where
 lt:∀a b,c a b<0↔R a b
 eq:∀a b,c a b=0↔key a=key b
 tr:∀a b d,R a b→R b d→R a d
 irr:∀a b,key a=key b→¬R a b
 tri:∀a b,¬R a b→key a≠key b→R b a
 cl:∀a b d,key a=key b→R a d→R b d
section
variable {α β:Type}{c:α→α→Int}{R:α→α→Prop}{key:α→β}
theorem bt(h:OC c R key){a:List α}(ha:a.Pairwise R):(a.map key).Nodup:=by
 unfold List.Nodup;rw[List.pairwise_map];exact ha.imp fun q e=>h.irr _ _ e q
end
/-! The three comparisons. -/
def xB(a b:Sl):Prop:=En a.path b.path=true∨(a.path=b.path∧fB a.ver b.ver)
abbrev mY(a b:Sl):Prop:=En a.path b.path=true
theorem RB{a b:Int}:FG a b<0↔a<b:=by
 unfold FG;split
 ·rename_i h;simp[h]
 ·rename_i h;split<;>simp[h]
theorem I2{a b:Int}:FG a b=0↔a=b:=by
 unfold FG;split
 ·rename_i h;simp;omega
 ·rename_i h;split
  ·rename_i h2;simp;omega
  ·rename_i h2;simp;omega
theorem dx{a b:Ver}:NU a b<0↔fB a b:=by
 refine⟨Zd,fun h=>?_⟩;unfold NU;rcases h with h | ⟨h1,h | ⟨h2,h⟩⟩
 ·rw[Ao (fun c=>by have:=I2.1 c;omega)];exact RB.2 h
 ·rw[Ai (fun c=>c (I2.2 h1)),Ao (fun c=>by have:=I2.1 c;omega)];exact RB.2 h
 ·rw[Ai (fun c=>c (I2.2 h1)),Ai (fun c=>c (I2.2 h2))];exact RB.2 h
theorem RC{a b:Sl}:iQ a b<0↔xB a b:=by
 unfold iQ xB
 by_cases h:a.path=b.path
 ·rw[Ai (fun c=>c (M4.2 h)),dx];exact⟨fun q=>.inr ⟨h,q⟩,fun q=>q.elim (fun q=>by rw[h,CO]at q;cases q) (·.2)⟩
 ·rw[Ao (fun c=>h (M4.1 c)),WA];exact⟨.inl,fun q=>q.elim id fun q=>absurd q.1 h⟩
theorem zN:OC td mY (fun s:Sl=>s.path) where
 lt _ _:=WA
 eq _ _:=M4
 tr _ _ _:=DM
 irr a b e h:=by rw[mY,e,CO]at h;cases h
 tri a b h e:=by
  cases q:En b.path a.path with
  |true=>exact q
  |false =>
   cases p:En a.path b.path with
   |true=>exact absurd p h
   |false=>exact absurd (Hh p q) e
 cl a b d e h:=by rw[mY,←e];exact h
/-! Pins. -/
/-! What the reference makes of a list. -/
theorem E0{α:Type}{l:List α}{i:Nat}(h:i<l.length):l.take (i+1)=l.take i++[l[i]]:=J5 h
end Go.Eng
namespace Go.Eng
open Go.Proofs
def Zk(p:ByteArray)(r:Rl):Bool:=decide (r.path=p)&&!r.yanked
def qZ(r:Rl):Int×Int:=(plc r.ver,plc r.ver+1)
theorem ax{x:List Rl}{p:ByteArray}(h:AX x=0):BZ x p=canon ((x.filter (Zk p)).map qZ):=by
 unfold BZ JV;rw[Ai (not_not_intro h),List.filter_filter]
 congr 3
 funext r
 unfold Zk;rw[Bool.and_comm]
theorem UK{α:Type}(o:Option α):(∃x,o=some x)∨o=none:=by
 cases o with
 |none=>exact .inr rfl
 |some x=>exact .inl ⟨x,rfl⟩
instance:DecidableEq Rq:=fun x y=>decidable_of_iff (x.path=y.path∧x.set=y.set) ⟨fun⟨h1,h2⟩=>by cases x;cases y;simp_all,fun h=>by subst h;exact Zr⟩
instance:DecidableEq Rl:=fun x y=>decidable_of_iff (x.path=y.path∧x.ver=y.ver∧x.reqs=y.reqs∧x.arch=y.arch∧x.ifc=y.ifc∧x.cert=y.cert∧x.yanked=y.yanked) ⟨fun⟨h1,h2,h3,h4,h5,h6,h7⟩=>by cases x;cases y;simp_all,fun h=>by subst h;exact⟨rfl,rfl,rfl,rfl,rfl,rfl,rfl⟩⟩
theorem jz{α:Type}{a b:List α}(hl:a.length=b.length)(h:∀j (hj:j<a.length),a[j]=b[j]'(hl▸hj)):a=b:=List.ext_getElem hl fun j h1 _=>h j h1
theorem oz{α:Type}{a b:List α}{i:Nat}{ha:i<a.length}{hb:i<b.length}(h:a[i]≠b[i]):a≠b:=fun e=>by subst e;exact h rfl
end Go.Eng
