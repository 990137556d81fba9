/- Lemmas for the claims of this seat, without a condition: part 22 (C65, C66, C67, C68, C69, C56, C57, C58, C59, C70, C71, C72, C73, LayStrs, O15, S17, O1, C0, O2, R1, R2, R3, R4, R5, C60, C61, C62, C63, C64, R6, R7, R8, R9, R10, R11, O3, R12, R13, O4, O5, O6, O7, O8, O9, O10, R14, R15, R16, R17, R18, R19, R20, R21, R22, R23, O11, O12, O13, O14). -/
import Derived.Test.YtddfphmpfnmknaaGreatDoorA21
import Derived.Test.YtddfphmpfnmknaaGreatDoorA17
import Derived.Test.YtddfphmpfnmknaaGreatDoorA03
import Derived.Shelf.Sort.Plain
import Derived.Shelf.Slices.CompactS
import Derived.Ground.NamesProg
set_option maxHeartbeats 4000000
namespace Go.Eng
open Go.Proofs
theorem KW:∀(y:List Rl) (acc:List ByteArray) (r:Rl),AO (y++[r]) acc=if(AO y acc).any (fun p=>decide (p=r.path))then AO y acc else AO y acc++[r.path]
 | [],acc,r=>rfl
 |s::y,acc,r=>by rw[Iv,AO,AO,KW y]
theorem EH:∀(y:List Rl) (acc:List ByteArray),acc.Nodup→(AO y acc).Nodup
 | [],_,h=>h
 |s::y,acc,h=>by
  rw[AO];refine EH y _ ?_;split
  ·exact h
  ·rename_i hn;rw[F4];refine⟨h,by simp,fun a ha b hb e=>?_⟩;rw[Am]at hb;exact hn (NP.2 (by rw[←hb,←e];exact ha))
abbrev MX(y:List Rl)(p:ByteArray):List (List AV):=(y.filter fun r=>decide (r.path=p)).map Ag
abbrev dX(y:List Rl)(q:ByteArray×Nat):Value×AV:=(.string q.1,.slice (.id (q.2+50) 9) (MX y q.1))
abbrev QT(y:List Rl):List (Value×AV):=(AO y []).zipIdx.map (dX y)
def Jn(y:List Rl)(l:Nat):HO:=match(AO y [])[l]? with
 |some q=>.tok 9 (MX y q).length
 |none=>.free
def Us(y:List Rl)(j:Nat):HO:=bif Nat.ble 50 j then Jn y (j-50)else .free
theorem Hq(y:List Rl)(l:Nat):Us y (l+50)=Jn y l:=by
 unfold Us;rw[show Nat.ble 50 (l+50)=true by rw[CR];omega,Nat.add_sub_cancel];rfl
theorem mr(y:List Rl){j:Nat}(h:j<50):Us y j=.free:=by
 unfold Us;rw[show Nat.ble 50 j=false by rw[AM];intro hc;rw[CR]at hc;omega];rfl
theorem Iq(y:List Rl)(r:Rl)(q:ByteArray):MX (y++[r]) q=if r.path=q then MX y q++[Ag r]else MX y q:=by
 unfold MX;rw[De]
 by_cases h:r.path=q
 ·rw[Aq h,Rk (by simpa using h)];simp
 ·rw[Ai h,Rj (by simpa using h)];simp
theorem Ia{l:List ByteArray}{q:ByteArray×Nat}(h:q∈l.zipIdx):l[q.2]?=some q.1:=by
 obtain⟨a,b⟩:=q;exact Fo.1 h
open Classical in
theorem LV{BU:List (Value×AV)}{k:Value}{a:AV}(h:∀a',(k,a')∉BU):EL BU k a=BU++[(k,a)]:=by
 unfold EL;rw[Ai (fun⟨a',h'⟩=>h a' h')]
open Classical in
theorem Xq{BU:List (Value×AV)}{k:Value}{a a' : AV}(h:(k,a')∈BU):EL BU k a=BU.map fun p=>if p.1=k then(k,a)else p:=by
 unfold EL;rw[Aq ⟨a',h⟩]
section
variable {y:List Rl}{r:Rl}{k:Nat}
theorem I1(h:(AO y [])[k]?=some r.path):AO (y++[r]) []=AO y []:=by
 rw[KW,Aq (NP.2 (Ar h))]
theorem I0(h:r.path∉AO y []):AO (y++[r]) []=AO y []++[r.path]:=by
 rw[KW,Ai (fun hc=>h (NP.1 hc))]
theorem IY{l:List ByteArray}(hd:l.Nodup){i j:Nat}{p:ByteArray}(h1:l[i]?=some p)(h2:l[j]?=some p):i=j:=by
 obtain⟨a1,a2⟩:=Ap.1 h1;obtain⟨b1,b2⟩:=Ap.1 h2;exact(List.getElem_inj hd).1 (a2.trans b2.symm)
open Classical in
theorem iX(h:(AO y [])[k]?=some r.path):EL (QT y) (.string r.path) (.slice (.id (k+50) 9) (MX y r.path++[Ag r]))=QT (y++[r]):=by
 have hd:=EH y [] E2;have hm:dX y (r.path,k)∈QT y:=Ak.2 ⟨_,Fo.2 h,rfl⟩;rw[Xq (a':=.slice (.id (k+50) 9) (MX y r.path)) hm];unfold QT;rw[I1 h,BG];refine A8 fun q hq=>?_;have hg:=Ia hq;obtain⟨q,j⟩:=q;show(if Value.string q=Value.string r.path then _ else _)=dX (y++[r]) (q,j);have hg:(AO y [])[j]?=some q:=hg
 by_cases he:q=r.path
 ·subst he
  have:j=k:=IY hd hg h
  subst this;rw[Aq rfl];show _=(Value.string r.path,AV.slice (.id (j+50) 9) (MX (y++[r]) r.path));rw[Iq,Aq rfl]
 ·rw[Ai (fun e=>he (by simpa using e))];show(Value.string q,AV.slice (.id (j+50) 9) (MX y q))=(Value.string q,AV.slice (.id (j+50) 9) (MX (y++[r]) q));rw[Iq,Ai (fun e=>he e.symm)]
theorem ZJ(h:r.path∉AO y []):MX y r.path=[]:=by
 have:y.filter (fun s=>decide (s.path=r.path))=[]:=by
  rw[G6];intro s hs he;exact h ((G4 y [] r.path).2 (.inr ⟨s,hs,Ba he⟩))
 unfold MX;rw[this];rfl
theorem WY(h:r.path∉AO y [])(a:AV):(Value.string r.path,a)∉QT y:=by
 intro hc;obtain⟨q,h1,h2⟩:=Ak.1 hc;simp only[dX,FE,Value.string.injEq]at h2;exact h (by rw[←h2.1];exact Ar (Ia h1))
theorem iW(h:r.path∉AO y []):EL (QT y) (.string r.path) (.slice (.id ((AO y []).length+50) 9) [Ag r])=QT (y++[r]):=by
 rw[LV (fun a=>WY h a)];unfold QT;rw[I0 h,List.zipIdx_append,Az]
 congr 1
 ·refine A8 fun q hq=>?_;have hg:=Ia hq
  have:q.1≠r.path:=fun e=>h (by rw[←e];exact Ar hg)
  show(Value.string q.1,AV.slice (.id (q.2+50) 9) (MX y q.1))=(Value.string q.1,AV.slice (.id (q.2+50) 9) (MX (y++[r]) q.1));rw[Iq,Ai (fun e=>this e.symm)]
 ·show [_]=[(Value.string r.path,AV.slice (.id (0+(AO y []).length+50) 9) (MX (y++[r]) r.path))];rw[Iq,Aq rfl,ZJ h,Be];rfl
theorem d4{p:ByteArray}{j:Nat}(h:(AO y [])[j]?=some p):(Value.string p,AV.slice (.id (j+50) 9) (MX y p))∈QT y∧∀b,(Value.string p,b)∈QT y→b=AV.slice (.id (j+50) 9) (MX y p):=by
 refine⟨Ak.2 ⟨(p,j),Fo.2 h,rfl⟩,fun b hb=>?_⟩;obtain⟨q,h1,h2⟩:=Ak.1 hb;simp only[dX,FE,Value.string.injEq]at h2;have hg:=Ia h1;rw[h2.1]at hg
 have:=IY (EH y [] E2) hg h
 rw[←h2.2,h2.1,this]
theorem gO{p:ByteArray}{j:Nat}(h:(AO y [])[j]?=some p):Jn y j=.tok 9 (MX y p).length:=by
 unfold Jn;rw[h]
theorem ki(h:(AO y [])[k]?=some r.path)(l:Nat):(bif Nat.beq (l+50) (k+50)then HO.tok 9 ((MX y r.path).length+1)else Jn y l)=Jn (y++[r]) l:=by
 by_cases he:l=k
 ·subst he;rw[show Nat.beq (l+50) (l+50)=true from CK _];unfold Jn;rw[I1 h,h];show HO.tok 9 _=HO.tok 9 (MX (y++[r]) r.path).length;rw[Iq,Aq rfl,Ad];rfl
 ·rw[show Nat.beq (l+50) (k+50)=false by rw[AM];intro hc;have:=AH hc;omega];show Jn y l=_;unfold Jn;rw[I1 h];cases hq:(AO y [])[l]? with
  |none=>rfl
  |some q =>
   show HO.tok 9 (MX y q).length=HO.tok 9 (MX (y++[r]) q).length;rw[Iq,Ai];intro e;subst e;exact he (IY (EH y [] E2) hq h)
theorem kh(h:r.path∉AO y [])(l:Nat):(bif Nat.beq (l+50) ((AO y []).length+50)then HO.tok 9 1 else Jn y l)=Jn (y++[r]) l:=by
 by_cases he:l=(AO y []).length
 ·subst he;rw[show Nat.beq ((AO y []).length+50) ((AO y []).length+50)=true from CK _];unfold Jn;rw[I0 h];simp only[AZ (Al _),F5,A4];show HO.tok 9 1=HO.tok 9 (MX (y++[r]) r.path).length;rw[Iq,Aq rfl,ZJ h];rfl
 ·rw[show Nat.beq (l+50) ((AO y []).length+50)=false by rw[AM];intro hc;have:=AH hc;omega];show Jn y l=_;unfold Jn;rw[I0 h]
  by_cases hl:l<(AO y []).length
  ·rw[AX hl,Ge hl];show HO.tok 9 (MX y (AO y [])[l]).length=HO.tok 9 (MX (y++[r]) (AO y [])[l]).length;rw[Iq,Ai];intro e;exact h (by rw[e];exact Ax hl)
  ·rw[A2 (by omega),A2 (by rw[Ad];simp;omega)]
end
theorem Pi{h:Nat→HO}:∀{BU:List (Value×AV)},(∀p∈BU,TR h p.2=true)→Qg h BU=true
 | [],_=>rfl
 |p::r,hk=>by
  unfold Qg;rw[hk p (Ab ..)];exact Pi (fun q hq=>hk q (Ah _ hq))
theorem KR(y:List Rl){h:Nat→HO}(hh:∀l,h (l+50)=Jn y l):Qg h (QT y)=true:=by
 refine Pi fun p hp=>?_;obtain⟨q,h1,rfl⟩:=Ak.1 hp;show QK h (q.2+50)=true;unfold QK;rw[hh,gO (Ia h1)]
theorem I8{y:List Rl}{h h' : Nat→HO}(hh:∀l,h (l+50)=Jn y l)(j:Nat):Us y j=.free∨(h j=Us y j∧W8 h' (Us y j)=true):=by
 by_cases hj:j<50
 ·exact .inl (mr y hj)
 ·obtain⟨l,rfl⟩:∃l,j=l+50:=⟨j-50,by omega⟩
  right
  rw[Hq];refine⟨hh l,?_⟩;unfold Jn;cases (AO y [])[l]?<;>rfl
theorem j7{x:List Rl}(hx:AU x=0){i:Nat}(hi:i<x.length):EL ((x.take i).map SC) (Qj (Fc x[i])) (.agg (Ag x[i]))=(x.take (i+1)).map SC:=by
 rw[LV]
 ·rw[Bi,Ge hi,Az];rfl
 intro a ha;obtain⟨r,hr,he,_⟩:=Zx ha;obtain⟨j,hj,e2⟩:=CW.1 hr;rw[AE]at hj;rw[HJ]at e2;have hp:=(Co hx).2
 have:=(AY.1 hp) j i (by omega) hi (by omega)
 rw[e2]at this;exact HZ this he
abbrev qA:Ro:=⟨[],[],[],[],[8,9],[9],[40],[],[],[],[8,9,10,11]⟩
abbrev zT:List AV:=[.v (.map none),.v (.map none)]
theorem iM(x:List Rl)(ifs:List (List AV))(mi:PC 37 [GP x ifs] (vi (AU x)))(h0:AU x≠0):da x ifs:=by
 have ht:VY x=.tup [.agg [.cmap Tw [],.cmap CM []],vi (AU x)]:=by unfold VY;rw[Ai h0]
 unfold da;rw[ht];refine Ps qA Tryz.func41 rfl (Nz rfl) ?_;refine Xi 0 ?_;refine Xi 0 ?_;refine Yi (Nz rfl) ?_;refine Xi 0 ?_;refine Yi (Nz rfl) ?_;refine Xi .pure (Xi _ (Yi (mi) ?_));refine Xi 0 ?_;refine Yi ?_ ?_
 ·intro _;refine Xi 0 ?_;refine Yi (Nz rfl) ?_;refine Yi (Nz rfl) ?_;refine Yi (Nz rfl) ?_;exact .refl _
 ·intro h;exact absurd h (fun hc=>hc h0)
theorem G3:∀(y:List Rl) (acc:List ByteArray),(AO y acc).length≤acc.length+y.length
 | [],acc=>by simp[AO]
 |r::y,acc=>by
  rw[AO];refine Br (G3 y _) ?_;split
  ·simp only[Ay];omega
  ·simp only[Ad,Ay,AG];omega
section
attribute [local irreducible] H5
theorem l5(x:List Rl)(ifs:List (List AV))(mi:PC 37 [GP x ifs] (vi (AU x)))(h0:AU x=0)(Cu:x.length≤256):da x ifs:=by
 have ht:VY x=.tup [.agg [.cmap Tw (x.map SC),.cmap CM ((AO x []).map (iq x))],vi 0]:=by unfold VY;rw[Aq h0]
 unfold da;rw[ht];rw[h0]at mi;refine Ps qA Tryz.func41 rfl (Nz rfl) ?_;refine Xi 0 ?_;refine Xi 0 ?_;refine Yi (Nz rfl) ?_;refine Xi 0 ?_;refine Yi (Nz rfl) ?_;refine Xi .pure (Xi _ (Yi (mi) ?_));refine Xi 0 ?_;refine Yi ?_ ?_
 ·intro hc;exact absurd (show(0:Int)≠0 from hc) (by decide)
 intro _;refine Xi 0 ?_;refine Xi {i:Nat // i≤x.length} (Xi (fun i=>⟨[(2,.ref 2 0),(4,.ref 4 0),(18,sl Ag x),(19,vi (x.map Ag).length),(20,vi i.1)],[(2,.cells zT),(4,.cells [.mref 8,.mref 9]),(8,.map Tw ((x.take i.1).map SC)),(9,.mapU CM (QT (x.take i.1)))],Us (x.take i.1)⟩) (Xi (fun i=>x.length-i.1) (Yi (Xi ⟨0,AL _⟩ ?_) ?_)))
 ·refine⟨Z5,Z4,fun j=>.inl ?_,Tv⟩;show Us [] j=.free;unfold Us;cases Nat.ble 50 j<;>rfl
 intro⟨i,i1⟩;have i1:i≤x.length:=i1;refine Xi 0 ?_;refine Yi ?_ ?_
 ·intro h;have h:(i:Int)<(x.map Ag).length:=h;have h:i<x.length:=by simpa using h
  have hg:x[i]?=some x[i]:=Ge h;have Km:x.take (i+1)=x.take i++[x[i]]:=by rw[Bi,hg];rfl
  refine Xi 0 ?_;refine Xi (Ag x[i]) (Yi (Yi (Nn i) (by simp[hg])) (Yi rfl ?_));refine Yi (Nz rfl) (Yi (Nz rfl) ?_);refine Xi ⟨[(2,.ref 2 0),(4,.ref 4 0),(7,.ref 7 0),(18,sl Ag x),(19,vi (x.map Ag).length),(20,vi i)],[(2,.cells zT),(4,.cells [.mref 8,.mref 9]),(7,.cells (Ag x[i])),(8,.map Tw ((x.take i).map SC)),(9,.mapU CM (QT (x.take i)))],Us (x.take i)⟩ (Yi ?_ ?_)
  ·exact⟨Z6,⟨Zr,Zr,Zr,Zr,⟨rfl,KR _ (Hq _)⟩,Tv⟩,I8 (Hq _),Tv⟩
  refine Xi 0 ?_;refine Yi (Nz rfl) ?_;refine Xi _ (Yi (lP x[i]) ?_);refine Yi (Nz rfl) ?_;refine Yi (by kernel_rfl) ?_;have e8:EL ((x.take i).map SC) (Qj (Fc x[i])) (.agg (Ag x[i]))=(x.take (i+1)).map SC:=j7 h0 h;refine Xi ⟨[(2,.ref 2 0),(4,.ref 4 0),(7,.ref 7 0),(18,sl Ag x),(19,vi (x.map Ag).length),(20,vi i)],[(2,.cells zT),(4,.cells [.mref 8,.mref 9]),(7,.cells (Ag x[i])),(8,.map Tw ((x.take (i+1)).map SC)),(9,.mapU CM (QT (x.take i)))],Us (x.take i)⟩ (Yi ?_ ?_)
  ·exact⟨Z6,⟨Zr,Zr,Zr,⟨Ac (HO.map Tw) e8,rfl⟩,⟨rfl,KR _ (Hq _)⟩,Tv⟩,I8 (Hq _),Tv⟩
  have hL:((x.take i).filter (fun r=>decide (r.path=x[i].path))).length≤256:=by
   have:=BA (fun r:Rl=>decide (r.path=x[i].path)) (x.take i)
   rw[AE]at this;omega
  have hP:∀l,Us (x.take i) (l+50)=Jn (x.take i) l:=Hq _;refine CQ (Classical.em (x[i].path∈AO (x.take i) [])) (fun hp=>?_) (fun hp=>?_)
  ·refine CC (B1.1 hp) (fun k hk=>?_);have hu:=d4 hk;refine Xi 0 ?_;refine Or.inl (Xi (.slice (.id (k+50) 9) (MX (x.take i) x[i].path)) (Yi hu ?_));refine Yi (Nz rfl) ?_;have hr:Us (x.take i) (k+50)=.tok 9 (MX (x.take i) x[i].path).length:=by rw[hP,gO hk]
   have hl:(MX (x.take i) x[i].path).length≤256:=by rw[Lm];exact hL
   refine PV (e:=41) (m:=8) (es2:=[Ag x[i]]) rfl rfl rfl (fun _ h=>h) hr ⟨rfl,trivial⟩ (by show(_+1)*120≤_;omega) (by show _+1≤_;omega) ?_;have pR:k<256:=by
    have:=(Ap.1 hk).1
    have:=G3 (x.take i) []
    rw[AE]at this;simp only[AG]at this;omega
   have mJ:=hk;refine Yi (IQ ⟨A0 _,A0 _,A0 _,A0 _,A0 _,A0 _,A0 _,A0 _,A0 _,A0 _,D2 (show 39<10000000 by decide),D2 (by show _+50<10000000;omega),D2 (show 9<10000000 by decide),trivial⟩ (by kernel_rfl)) ?_;have e9:EL (QT (x.take i)) (.string x[i].path) (.slice (.id (k+50) 9) (MX (x.take i) x[i].path++[Ag x[i]]))=QT (x.take (i+1)):=by rw[Km];exact iX mJ
   have hG:∀l,(bif Nat.beq (l+50) (k+50)then HO.tok 9 ((MX (x.take i) x[i].path).length+1)else Jn (x.take i) l)=Jn (x.take (i+1)) l:=by rw[Km];exact ki mJ
   refine Xi ⟨[(2,.ref 2 0),(4,.ref 4 0),(18,sl Ag x),(19,vi (x.map Ag).length),(20,vi i)],[(2,.cells zT),(4,.cells [.mref 8,.mref 9]),(8,.map Tw ((x.take (i+1)).map SC)),(9,.mapU CM (QT (x.take (i+1))))],Us (x.take (i+1))⟩ (Yi ?_ ?_)
   ·refine⟨Z5,⟨Zr,Zr,Zr,⟨Ac (HO.mapU CM) e9,KR _ (Hq _)⟩,Tv⟩,I8 (fun l=>?_),Tv⟩;show(bif Nat.beq (l+50) (k+50)then HO.tok 9 ((MX (x.take i) x[i].path).length+1)else Us (x.take i) (l+50))=_;rw[hP];exact hG l
   refine Xi 0 ?_;refine Yi (Ii i (by omega)) ?_;refine Xi ⟨i+1,by omega⟩ ?_;exact⟨Dl x.length i (by omega),Z5,⟨Zr,Zr,Zr,⟨rfl,KR _ (Hq _)⟩,Tv⟩,I8 (Hq _),Tv⟩
  ·have mJ:=hp;have Lb:(AO (x.take i) []).length≤256:=by
    have:=G3 (x.take i) []
    rw[AE]at this;simp only[AG]at this;omega
   have hn:=WY hp;refine Xi ((AO (x.take i) []).length+50) ?_;refine Or.inr (Yi hn ?_);refine Yi (Nz rfl) ?_;have hr:Us (x.take i) ((AO (x.take i) []).length+50)=.free:=by
    rw[hP];unfold Jn;rw[A2 (Al _)]
   refine PU (e:=41) (m:=8) (es2:=[Ag x[i]]) rfl rfl rfl (fun _ h=>h) hr rfl ⟨rfl,trivial⟩ (by show 1*120≤_;omega) (by show 1≤_;omega) ?_;refine Yi (IQ ⟨A0 _,A0 _,A0 _,A0 _,A0 _,A0 _,A0 _,A0 _,A0 _,A0 _,D2 (show 39<10000000 by decide),D2 (by show _+50<10000000;omega),D2 (show 9<10000000 by decide),trivial⟩ (by kernel_rfl)) ?_;have e9:EL (QT (x.take i)) (.string x[i].path) (.slice (.id ((AO (x.take i) []).length+50) 9) [Ag x[i]])=QT (x.take (i+1)):=by rw[Km];exact iW mJ
   have hG:∀l,(bif Nat.beq (l+50) ((AO (x.take i) []).length+50)then HO.tok 9 1 else Jn (x.take i) l)=Jn (x.take (i+1)) l:=by rw[Km];exact kh mJ
   refine Xi ⟨[(2,.ref 2 0),(4,.ref 4 0),(18,sl Ag x),(19,vi (x.map Ag).length),(20,vi i)],[(2,.cells zT),(4,.cells [.mref 8,.mref 9]),(8,.map Tw ((x.take (i+1)).map SC)),(9,.mapU CM (QT (x.take (i+1))))],Us (x.take (i+1))⟩ (Yi ?_ ?_)
   ·refine⟨Z5,⟨Zr,Zr,Zr,⟨Ac (HO.mapU CM) e9,KR _ (Hq _)⟩,Tv⟩,I8 (fun l=>?_),Tv⟩;show(bif Nat.beq (l+50) ((AO (x.take i) []).length+50)then HO.tok 9 1 else Us (x.take i) (l+50))=_;rw[hP];exact hG l
   refine Xi 0 ?_;refine Yi (Ii i (by omega)) ?_;refine Xi ⟨i+1,by omega⟩ ?_;exact⟨Dl x.length i (by omega),Z5,⟨Zr,Zr,Zr,⟨rfl,KR _ (Hq _)⟩,Tv⟩,I8 (Hq _),Tv⟩
 ·intro h;have h:¬(i:Int)<(x.map Ag).length:=h;have h:¬i<x.length:=by simpa using h
  have et:x.take i=x:=AD (by omega);refine Xi ⟨[(2,.ref 2 0),(4,.ref 4 0)],[(2,.cells zT),(4,.cells [.mref 8,.mref 9]),(8,.map Tw ((x.take i).map SC)),(9,.mapU CM (QT (x.take i)))],Us (x.take i)⟩ (Yi ?_ ?_)
  ·exact⟨Z2,⟨Zr,Zr,Zr,⟨rfl,KR _ (Hq _)⟩,Tv⟩,I8 (Hq _),Tv⟩
  refine Xi 0 ?_;refine Yi (Nz rfl) ?_;refine Yi (Nz rfl) ?_;refine Yi (Nz rfl) ?_;have es:∀h:Nat→HO,QM h (QT (x.take i))=(AO x []).map (iq x):=fun h=>by
   rw[et];unfold QM QT;rw[BG];refine CU fun j=>?_;rw[AF,AF,List.getElem?_zipIdx];cases (AO x [])[j]?<;>rfl
  have e1:(x.take i).map SC=x.map SC:=by rw[et]
  exact .of_eq (show AV.tup [.agg [.cmap Tw ((x.take i).map SC),.cmap CM (QM _ (QT (x.take i)))],vi 0]=_ by rw[e1,es])
end
theorem c84(x:List Rl)(ifs:List (List AV))(hx:∀r∈x,JL r):da x ifs:=by
 by_cases h0:AU x=0
 ·exact l5 x ifs (ku Vi x ifs hx) h0 (Nm h0).1
 ·exact iM x ifs (ku Vi x ifs hx) h0
abbrev u5(n:Nat):Ro:=⟨[],[(2,n)],[],[],[],[],[5],[],[],[],[2,3]⟩
theorem oU(l:List Sl)(hl:CJ l):A3 Tryz.prog 66 [sl Af l] (Aj [] Aa) fun r h'=>r=.slice (.id 2000 4) (l.map Af)∧h'=Aj [(2000,.tok 4 (l.map Af).length)] Aa:=by
 refine BV (Ll (u5 4)) [(2,2000)] rfl Cn hm rfl Tryz.func66 (by kernel_rfl) rfl (Nz rfl) (by kernel_rfl) rfl ?_;have G9:Df 4 (l.map Af)∧([]:List (List AV)).length=0∧(([]:List (List AV)).length+(l.map Af).length)*40≤140737488355328∧([]:List (List AV)).length+(l.map Af).length≤9223372036854775807:=by
  refine⟨Fa (enc:=Af) (n:=4) (fun _=>rfl) l,rfl,?_,?_⟩<;>simp only[AG,Lm]<;>unfold CJ at hl<;>omega
 have e2:HO.tok 4 (([]:List (List AV)).length+(l.map Af).length)=.tok 4 (l.map Af).length:=by rw[AG,Be]
 have e3:AV.slice (.id 2000 4) ([]++l.map Af)=.slice (.id 2000 4) (l.map Af):=rfl;refine Xi 0 ?_;refine Xi 0 ?_;refine Yi ?_ ?_
 ·intro _;refine Xi ⟨[(0,sl Af l)],[],Aa⟩ (Yi ⟨Z1,Tv,Fh,Aw (by kernel_rfl)⟩ ?_)
  refine Xi 2 ?_;refine Yi G9 ?_;exact Xi _ (Yi (.refl _) (Yi e3 (Ac (fun o=>Aj [(2000,o)] Aa) e2)))
 ·intro h;have h:l.map Af=[]:=h;refine Yi ?_ ?_
  ·refine Xi ⟨[],[],Aa⟩ (Yi ⟨trivial,trivial,fun _=>.inl rfl,Aw (by kernel_rfl)⟩ ?_)
   refine Xi 0 ?_;exact Xi _ (Yi (.refl _) (Yi (show AV.slice (.id 2000 4) []=_ by rw[h]) (show Aj [(2000,HO.tok 4 0)] Aa=_ by rw[h];rfl)))
  ·refine Xi ⟨[(0,sl Af l)],[],Aa⟩ (Yi ⟨Z1,Tv,Fh,Aw (by kernel_rfl)⟩ ?_)
   refine Xi 2 ?_;refine Yi G9 ?_;exact Xi _ (Yi (.refl _) (Yi e3 (Ac (fun o=>Aj [(2000,o)] Aa) e2)))
section
variable {S:Type}{x:List Rl}{roots:List Rq}{s:List Sl}{step:S→xY→S}{st0:S}{before:List Sl}{needs:List Rq}{n:Nat}{st:S}
end
def L6(q:Rq):Bool:=decide (q.path.size≤100)&&decide (q.set.length≤8)
def FY(l:List Rq):Bool:=l.all L6&&decide (l.length≤20)
theorem ww(l:List Rq)(hl:CJ l):PC 34 [sl AI l] (vb (FY l)):=by
 unfold CJ at hl;refine Ps F1 Tryz.func34 rfl (Nz rfl) ?_;refine Xi {i:Nat // i≤l.length∧∀j (hj:j<l.length),j<i→L6 l[j]=true} (Xi (fun i=>⟨[(0,sl AI l),(3,vi i.1)],[],Aa⟩) (Xi (fun i=>l.length-i.1) (Yi (Xi ⟨0,AL _,fun j _ h=>by omega⟩ ?_) ?_)))
 ·exact⟨Z2,Tv,Fh,Tv⟩
 intro⟨i,h1,h2⟩;refine Yi ?_ ?_
 ·intro h;have h:(i:Int)<(l.map AI).length:=h;have h:i<l.length:=by simpa using h
  have hg:l[i]?=some l[i]:=Ge h;have no:L6 l[i]=false→false=FY l:=fun e=>by
   unfold FY
   have:l.all L6=false:=by
    rw[AM];intro ha
    have:=Bp.1 ha _ (Ax h)
    rw[e]at this;cases this
   rw[this];rfl
  refine Xi (AI l[i]) (Yi (Yi (Nn i) (by simp[hg])) (Yi rfl ?_));refine Yi ?_ ?_
  ·intro h3;have h3:(100:Int)<((l[i].path.size:Nat):Int):=h3;exact .of_eq (Ac vb (no (by unfold L6;rw[At (by omega)];rfl)))
  intro h3;have h3:¬(100:Int)<((l[i].path.size:Nat):Int):=h3;refine Xi (AI l[i]) (Yi (Yi (Nn i) (by simp[hg])) (Yi rfl ?_));refine Yi ?_ ?_
  ·intro h4;have h4:(8:Int)<((l[i].set.map Ao).length:Int):=h4;rw[Lm]at h4;exact .of_eq (Ac vb (no (by unfold L6;rw[At (by omega:¬l[i].set.length≤8),D6])))
  intro h4;have h4:¬(8:Int)<((l[i].set.map Ao).length:Int):=h4;have h5:l[i].set.length≤8:=by rw[Lm]at h4;omega
  refine Yi (Ii i (by omega)) ?_;refine Xi ⟨i+1,by omega,fun j hj MF=>?_⟩ ?_
  ·rcases EA j i with z | z
   ·exact h2 j hj z
   ·have:j=i:=by omega
    subst this;unfold L6;rw[AA (by omega),AA h5];rfl
  ·exact⟨Dl l.length i (by omega),Z2,Tv,Fh,Tv⟩
 ·intro h;have h:¬(i:Int)<(l.map AI).length:=h;have h:¬i<l.length:=by simpa using h
  have ha:l.all L6=true:=Bp.2 fun q hq=>by
   obtain⟨j,hj,rfl⟩:=Fu hq;exact h2 j hj (by omega)
  refine Yi ?_ ?_
  ·intro h3;have h3:((l.map AI).length:Int)≤20:=h3;rw[Lm]at h3;exact .of_eq (Ac vb (show true=FY l by unfold FY;rw[ha,AA (by omega)];rfl))
  ·intro h3;have h3:¬((l.map AI).length:Int)≤20:=h3;rw[Lm]at h3;exact .of_eq (Ac vb (show false=FY l by unfold FY;rw[At (by omega),D6]))
def IA(r:Rl):Bool:=decide (r.path.size≤100)&&decide (r.arch.size≤100)&&decide (r.ifc.size≤100)&&decide (r.cert.size≤100)&&FY r.reqs
def FW(x:List Rl)(n:Nat):Bool:=x.all IA&&decide (x.length≤n)
theorem yd(x:List Rl)(n:Nat)(hl:CJ x)(hr:∀r∈x,CJ r.reqs):PC 33 [sl Ag x,vi n] (vb (FW x n)):=by
 unfold CJ at hl;refine Ps F1 Tryz.func33 rfl (Nz rfl) ?_;refine Xi {i:Nat // i≤x.length∧∀j (hj:j<x.length),j<i→IA x[j]=true} (Xi (fun i=>⟨[(0,sl Ag x),(1,vi n),(5,vi i.1)],[],Aa⟩) (Xi (fun i=>x.length-i.1) (Yi (Xi ⟨0,AL _,fun j _ h=>by omega⟩ ?_) ?_)))
 ·exact⟨Z3,Tv,Fh,Tv⟩
 intro⟨i,h1,h2⟩;refine Yi ?_ ?_
 ·intro h;have h:(i:Int)<(x.map Ag).length:=h;have h:i<x.length:=by simpa using h
  have hg:x[i]?=some x[i]:=Ge h;have no:IA x[i]=false→false=FW x n:=fun e=>by
   unfold FW
   have:x.all IA=false:=by
    rw[AM];intro ha
    have:=Bp.1 ha _ (Ax h)
    rw[e]at this;cases this
   rw[this];rfl
  have hc:=ww x[i].reqs (hr _ (Ax h));refine Xi (Ag x[i]) (Yi (Yi (Nn i) (by simp[hg])) (Yi rfl ?_));refine Yi ?_ ?_
  ·intro h3;have h3:(100:Int)<((x[i].path.size:Nat):Int):=h3;exact .of_eq (Ac vb (no (by unfold IA;rw[At (by omega:¬x[i].path.size≤100)];simp)))
  intro h3;have h3:¬(100:Int)<((x[i].path.size:Nat):Int):=h3;refine Xi (Ag x[i]) (Yi (Yi (Nn i) (by simp[hg])) (Yi rfl ?_));refine Yi ?_ ?_
  ·intro h4;have h4:(100:Int)<((x[i].arch.size:Nat):Int):=h4;exact .of_eq (Ac vb (no (by unfold IA;rw[At (by omega:¬x[i].arch.size≤100)];simp)))
  intro h4;have h4:¬(100:Int)<((x[i].arch.size:Nat):Int):=h4;refine Xi (Ag x[i]) (Yi (Yi (Nn i) (by simp[hg])) (Yi rfl ?_));refine Yi ?_ ?_
  ·intro h5;have h5:(100:Int)<((x[i].ifc.size:Nat):Int):=h5;exact .of_eq (Ac vb (no (by unfold IA;rw[At (by omega:¬x[i].ifc.size≤100)];simp)))
  intro h5;have h5:¬(100:Int)<((x[i].ifc.size:Nat):Int):=h5;refine Xi (Ag x[i]) (Yi (Yi (Nn i) (by simp[hg])) (Yi rfl ?_));refine Yi ?_ ?_
  ·intro h6;have h6:(100:Int)<((x[i].cert.size:Nat):Int):=h6;exact .of_eq (Ac vb (no (by unfold IA;rw[At (by omega:¬x[i].cert.size≤100)];simp)))
  intro h6;have h6:¬(100:Int)<((x[i].cert.size:Nat):Int):=h6;refine Xi (Ag x[i]) (Yi (Yi (Nn i) (by simp[hg])) (Yi rfl ?_));refine CQ (Bt (FY x[i].reqs)) (fun e=>?_) (fun e=>?_)
  rotate_left
  ·rw[e]at hc;refine Xi .pure (Xi _ (Yi (hc) ?_));exact .of_eq (Ac vb (no (by unfold IA;rw[e,D6])))
  rw[e]at hc;refine Xi .pure (Xi _ (Yi (hc) ?_));refine Yi (Ii i (by omega)) ?_;refine Xi ⟨i+1,by omega,fun j hj MF=>?_⟩ ?_
  ·rcases EA j i with z | z
   ·exact h2 j hj z
   ·have:j=i:=by omega
    subst this;unfold IA;rw[AA (by omega:x[j].path.size≤100),AA (by omega:x[j].arch.size≤100),AA (by omega:x[j].ifc.size≤100),AA (by omega:x[j].cert.size≤100),e];rfl
  ·exact⟨Dl x.length i (by omega),Z3,Tv,Fh,Tv⟩
 ·intro h;have h:¬(i:Int)<(x.map Ag).length:=h;have h:¬i<x.length:=by simpa using h
  have ha:x.all IA=true:=Bp.2 fun q hq=>by
   obtain⟨j,hj,rfl⟩:=Fu hq;exact h2 j hj (by omega)
  refine Yi ?_ ?_
  ·intro h3;have h3:((x.map Ag).length:Int)≤n:=h3;rw[Lm]at h3;exact .of_eq (Ac vb (show true=FW x n by unfold FW;rw[ha,AA (by omega)];rfl))
  ·intro h3;have h3:¬((x.map Ag).length:Int)≤n:=h3;rw[Lm]at h3;exact .of_eq (Ac vb (show false=FW x n by unfold FW;rw[At (by omega),D6]))
theorem c11(x:List Rl)(ifs:List (List AV))(roots:List Rq)(hl:CJ x)(hr:∀r∈x,CJ r.reqs)(hq:CJ roots):PC 10 [GP x ifs,sl AI roots] (vb (FW x 16&&FY roots)):=by
 have h1:=yd x 16 hl hr;have h2:=ww roots hq;cases e:FW x 16 with
 |true =>
  rw[e]at h1;refine Ps F1 Tryz.func10 rfl (Nz rfl) ?_;refine Xi .pure (Xi _ (Yi (h1) ?_));refine Xi .pure (Xi _ (Yi (h2) ?_));exact .refl _
 |false =>
  rw[e]at h1;refine Ps F1 Tryz.func10 rfl (Nz rfl) ?_;refine Xi .pure (Xi _ (Yi (h1) ?_));exact .refl _
section
variable {l:List Rl}{roots t:List Rq}{d:List ByteArray}{n:Nat}
end
structure kp(x:List Rl)(roots:List Rq):Prop where
 ix:CJ x
 rs:CJ roots
 rel:∀r∈x,CJ r.reqs∧JL r
 rq:∀q∈roots,NJ q
theorem kp.x{x:List Rl}{roots:List Rq}(h:kp x roots):∀r∈x,JL r:=fun r hr=>(h.rel r hr).2
theorem kp.c11{x:List Rl}{roots:List Rq}(h:kp x roots)(ifs:List (List AV)):PC 10 [GP x ifs,sl AI roots] (vb (FW x 16&&FY roots)) :=
 Go.Eng.c11 x ifs roots h.ix (fun r hr=>(h.rel r hr).1) h.rs
end Go.Eng
namespace Go.Proofs
open Go.Shelf
def Tryz.laySortStr_ren:Go.Shelf.Ren:=⟨fun | 190=>76 | 125=>98 | 258=>108 | 128=>137 | 129=>138 | 302=>148 | 303=>149 | 304=>150 | 305=>151 | 306=>152 | 307=>153 | 308=>154 | 309=>155 | 310=>156 | 333=>197 | 329=>186 | 330=>187 | 334=>198 | 335=>199 | 336=>113 | 344=>226 | n=>n,fun | 31=>139 | 9=>9 | 3=>3 | 46=>174 | 0=>0 | 51=>211 | 53=>213 | 4=>4 | 183=>205 | 182=>204 | 131=>110 | 5=>5 | 218=>245 | 222=>249 | 228=>274 | 229=>275 | n=>n,fun | n=>n⟩
theorem Tryz.laySortStr:Go.Proofs.Lays.n190 Tryz.prog Tryz.laySortStr_ren:={
 mixed:=by kernel_rfl
 f125:=Tryz.func98.trans (congrArg some (by kernel_rfl))
 f128:=Tryz.func137.trans (congrArg some (by kernel_rfl))
 f129:=Tryz.func138.trans (congrArg some (by kernel_rfl))
 f190:=Tryz.func76.trans (congrArg some (by kernel_rfl))
 f258:=Tryz.func108.trans (congrArg some (by kernel_rfl))
 f302:=Tryz.func148.trans (congrArg some (by kernel_rfl))
 f303:=Tryz.func149.trans (congrArg some (by kernel_rfl))
 f304:=Tryz.func150.trans (congrArg some (by kernel_rfl))
 f305:=Tryz.func151.trans (congrArg some (by kernel_rfl))
 f306:=Tryz.func152.trans (congrArg some (by kernel_rfl))
 f307:=Tryz.func153.trans (congrArg some (by kernel_rfl))
 f308:=Tryz.func154.trans (congrArg some (by kernel_rfl))
 f309:=Tryz.func155.trans (congrArg some (by kernel_rfl))
 f310:=Tryz.func156.trans (congrArg some (by kernel_rfl))
 f329:=Tryz.func186.trans (congrArg some (by kernel_rfl))
 f330:=Tryz.func187.trans (congrArg some (by kernel_rfl))
 f333:=Tryz.func197.trans (congrArg some (by kernel_rfl))
 f334:=Tryz.func198.trans (congrArg some (by kernel_rfl))
 f335:=Tryz.func199.trans (congrArg some (by kernel_rfl))
 f336:=Tryz.func113.trans (congrArg some (by kernel_rfl))
 f344:=Tryz.func226.trans (congrArg some (by kernel_rfl))
 t0:=Tryz.underlying0
 a0:=Tryz.isAgg0
 z0:=Tryz.sizeOf0
 v0:=Tryz.zeroValue0
 t3:=Tryz.underlying3
 a3:=Tryz.isAgg3
 z3:=Tryz.sizeOf3
 v3:=Tryz.zeroValue3
 t4:=Tryz.underlying4
 a4:=Tryz.isAgg4
 z4:=Tryz.sizeOf4
 v4:=Tryz.zeroValue4
 t5:=Tryz.underlying5
 a5:=Tryz.isAgg5
 z5:=Tryz.sizeOf5
 v5:=Tryz.zeroValue5
 t9:=Tryz.underlying9
 a9:=Tryz.isAgg9
 z9:=Tryz.sizeOf9
 v9:=Tryz.zeroValue9
 t31:=Tryz.underlying139
 a31:=Tryz.isAgg139
 z31:=Tryz.sizeOf139
 v31:=Tryz.zeroValue139
 t46:=Tryz.underlying174
 a46:=Tryz.isAgg174
 z46:=Tryz.sizeOf174
 v46:=Tryz.zeroValue174
 t51:=Tryz.underlying211
 a51:=Tryz.isAgg211
 z51:=Tryz.sizeOf211
 v51:=Tryz.zeroValue211
 t53:=Tryz.underlying213
 a53:=Tryz.isAgg213
 z53:=Tryz.sizeOf213
 v53:=Tryz.zeroValue213
 t131:=Tryz.underlying110
 a131:=Tryz.isAgg110
 z131:=Tryz.sizeOf110
 v131:=Tryz.zeroValue110
 t182:=Tryz.underlying204
 a182:=Tryz.isAgg204
 z182:=Tryz.sizeOf204
 v182:=Tryz.zeroValue204
 t183:=Tryz.underlying205
 a183:=Tryz.isAgg205
 z183:=Tryz.sizeOf205
 v183:=Tryz.zeroValue205
 t218:=Tryz.underlying245
 a218:=Tryz.isAgg245
 z218:=Tryz.sizeOf245
 v218:=Tryz.zeroValue245
 t222:=Tryz.underlying249
 a222:=Tryz.isAgg249
 z222:=Tryz.sizeOf249
 v222:=Tryz.zeroValue249
 t228:=Tryz.underlying274
 a228:=Tryz.isAgg274
 z228:=Tryz.sizeOf274
 v228:=Tryz.zeroValue274
 t229:=Tryz.underlying275
 a229:=Tryz.isAgg275
 z229:=Tryz.sizeOf275
 v229:=Tryz.zeroValue275 }
def Tryz.layCompactStr_ren:Go.Shelf.Ren:=⟨fun | 194=>78 | n=>n,fun | 31=>139 | 9=>9 | 3=>3 | 4=>4 | 0=>0 | n=>n,fun | n=>n⟩
theorem Tryz.layCompactStr:Go.Proofs.Lays.n194 Tryz.prog Tryz.layCompactStr_ren:={
 mixed:=by kernel_rfl
 f194:=Tryz.func78.trans (congrArg some (by kernel_rfl))
 t0:=Tryz.underlying0
 a0:=Tryz.isAgg0
 z0:=Tryz.sizeOf0
 v0:=Tryz.zeroValue0
 t3:=Tryz.underlying3
 a3:=Tryz.isAgg3
 z3:=Tryz.sizeOf3
 v3:=Tryz.zeroValue3
 t4:=Tryz.underlying4
 a4:=Tryz.isAgg4
 z4:=Tryz.sizeOf4
 v4:=Tryz.zeroValue4
 t9:=Tryz.underlying9
 a9:=Tryz.isAgg9
 z9:=Tryz.sizeOf9
 v9:=Tryz.zeroValue9
 t31:=Tryz.underlying139
 a31:=Tryz.isAgg139
 z31:=Tryz.sizeOf139
 v31:=Tryz.zeroValue139 }
end Go.Proofs
namespace Go.Eng
open Go.Proofs Go.Shelf Go.RowKit Go.Lib Go.Sort
abbrev PW(s:ByteArray):List UInt8:=s.data.toList
abbrev Ze(l:List UInt8):ByteArray:=⟨l.toArray⟩
theorem iJ(s:ByteArray):Ze (PW s)=s:=by cases s;simp
theorem Mk(zs:List (List UInt8)):((zs.map Ze).map DB).flatten=(zs.map Go.Proofs.encStr).map AV.v:=by
 induction zs with
 |nil=>rfl
 |cons z zs ih=>rw[AK,AK,Bv,ih];rfl
theorem Vh(ss:List ByteArray):(ss.map PW).map Ze=ss:=by
 rw[BG,show Ze ∘ PW=id from funext iJ,Ie]
theorem uT(ss t:List ByteArray)(hl:CJ ss)(Dt:ss≠[])(hp:t.Perm ss)(ht:(t.map PW).Pairwise fun a b=>a≤b) :
  A3 Tryz.prog 76 [.msl 1000 ss.length] (Aj [(1000,.arr 1 (ss.map DB))] Aa) fun r h'=>r=.tup []∧h'=Aj [(1000,.arr 1 (t.map DB))] Aa:=by
 have hl:ss.length≤1073741824:=hl;have hE:FU Tryz.prog 76:=cK 76 Tryz.func76 (by kernel_rfl) rfl;obtain⟨zs,hz⟩:∃zs,zs=ss.map PW:=⟨_,rfl⟩;have Eu:ss=zs.map Ze:=by rw[hz,Vh]
 have G1:=OX (P:=Tryz.prog) (f:=76) (es:=ss.map DB) (sz:=1) (rest:=[]) (Q:=fun Ft=>Ft=t.map DB) hE ?_ ?_
 ·rw[Lm]at G1;refine⟨hE,fun g w vals q1 q2 q3=>(G1.2 g w vals q1 q2 q3).mono fun _ _ ⟨v,r,h',g',e1,⟨e2,Ft,p1,p3⟩,rest⟩=>⟨v,r,h',g',e1,⟨e2,by rw[p3,p1]⟩,rest⟩⟩
 ·intro e;exact absurd (D0.1 e) Dt
 ·intro g w b cap F hr hF hH hb;have pn:F.toList=zs.map Go.Proofs.encStr:=KZ (by rw[←Mk,←Eu];exact hr);have d6:F=zs.toArray.map Go.Proofs.encStr:=It.1 (by rw[pn];simp);have MG:zs.length=ss.length:=by rw[hz,Lm]
  have po:Holds Go.Proofs.encStr w b 0 zs.toArray:=fun j hj=>by
   have:=hH j (by rw[d6];simpa using hj)
   refine⟨this.1.trans ?_,this.2⟩;rw[d6,Ds _ j (by simpa using hj),Ds _ j hj];simp
  have hc:=Any.slices_Sort_string Tryz.laySortStr b 0 cap zs w po hb (by omega);have zB:(zs.mergeSort fun x y=>decide (x≤y))=t.map PW:=by
   have II:(zs.mergeSort fun x y=>decide (x≤y)).Perm zs:=List.mergeSort_perm _ _;have qf:=List.pairwise_mergeSort (le:=fun x y:List UInt8=>decide (x≤y)) (fun a b c h1 h2=>by simp only[Au]at *;exact List.le_trans h1 h2) (fun a b=>by simp only[Ci,Au];exact List.le_total a b) zs;refine List.Perm.eq_of_pairwise (le:=fun a b=>a≤b) (fun a b _ _ h k=>List.le_antisymm h k) (qf.imp fun h=>Ba h) ht (II.trans ?_);rw[hz];exact(hp.map PW).symm
  rw[zB,MG]at hc;rw[Lm];refine hc.mono ?_
  rintro e w' ⟨rfl,n,os,rfl⟩
  have Dz:t.length=ss.length:=hp.length_eq;refine⟨rfl,(t.map PW).toArray.map Go.Proofs.encStr,t.map DB,n,os,?_,rfl,by simp[Dz],fun cs hcs=>?_,fun g w _=>?_,by rw[Pv]⟩
  ·rw[d6];simp[Dz,MG]
  ·obtain⟨x,_,rfl⟩:=Ak.1 hcs;rfl
  ·have e1:t.map DB=((t.map PW).map Ze).map DB:=by rw[Vh]
   rw[e1,Mk];have e:(((t.map PW).toArray.map Go.Proofs.encStr).toList)=(t.map PW).map Go.Proofs.encStr:=by simp
   rw[e];exact MB _ _ _ _ fun x hx=>by
    obtain⟨z,_,rfl⟩:=Ak.1 hx;rfl
def BS(ss:List ByteArray):List ByteArray:=(Lib.compact (ss.map PW)).map Ze
theorem PY(zs:List (List UInt8)):(Lib.compact zs).length≤zs.length:=by
 unfold Lib.compact Lib.compactUpTo;rw[Lm];exact Br (BA _ _) (by rw[PR];exact Al _)
theorem uU(ss:List ByteArray)(hl:CJ ss)(Dt:ss≠[]) :
  A3 Tryz.prog 78 [.msl 1000 ss.length] (Aj [(1000,.arr 1 (ss.map DB))] Aa) fun r h'=>r=.msl 2000 (BS ss).length∧h'=Aj [(1000,.dead),(2000,.arr 1 ((BS ss).map DB))] Aa:=by
 have hl:ss.length≤1073741824:=hl;have hE:FU Tryz.prog 78:=cK 78 Tryz.func78 (by kernel_rfl) rfl;obtain⟨zs,hz⟩:∃zs,zs=ss.map PW:=⟨_,rfl⟩;have Eu:ss=zs.map Ze:=by rw[hz,Vh]
 have MG:zs.length=ss.length:=by rw[hz,Lm]
 have hcl:=PY zs;have G1:=T2 (P:=Tryz.prog) (f:=78) (es:=ss.map DB) (sz:=1) (rest:=[]) (n':=(Lib.compact zs).length) (Q:=fun Ft=>Ft=((Lib.compact zs++List.replicate (zs.length-(Lib.compact zs).length) []).map Ze).map DB) hE (fun e=>Dt (D0.1 e)) (by rw[Lm];omega) ?_
 ·rw[Lm]at G1;have ez:BS ss=(Lib.compact zs).map Ze:=by unfold BS;rw[hz]
  refine⟨hE,fun g w vals q1 q2 q3=>(G1.2 g w vals q1 q2 q3).mono fun _ _ ⟨x,r,h',g',e1,⟨e2,Ft,p1,p2⟩,rest⟩=>⟨x,r,h',g',e1,⟨by rw[e2,ez,Lm],by
   rw[p2,p1,ez,Az,Az,GV (by rw[Lm,Lm];exact Al _),AD (by rw[Lm,Lm];exact Al _)]⟩,rest⟩⟩
 ·intro g w b cap F hr hF hH hb hc;rw[Lm]at hF hc⊢;have pn:F.toList=zs.map Go.Proofs.encStr:=KZ (by rw[←Mk,←Eu];exact hr);have d6:F=zs.toArray.map Go.Proofs.encStr:=It.1 (by rw[pn];simp);have po:Holds Go.Proofs.encStr w b 0 zs.toArray:=fun j hj=>by
   have:=hH j (by rw[d6];simpa using hj)
   refine⟨this.1.trans ?_,this.2⟩;rw[d6,Ds _ j (by simpa using hj),Ds _ j hj];simp
  have hcon:=Any.slices_Compact_string Tryz.layCompactStr b 0 cap zs w po (by omega) (by omega);rw[MG]at hcon;refine hcon.mono ?_
  rintro e w' ⟨rfl,q,rfl⟩
  refine⟨rfl,(Lib.compact zs++List.replicate (zs.length-(Lib.compact zs).length) []).toArray.map Go.Proofs.encStr,_,q,#[],?_,rfl,?_,fun cs hcs=>?_,fun g w _=>?_,?_⟩
  ·rw[d6];simp;omega
  ·simp;omega
  ·obtain⟨x,_,rfl⟩:=Ak.1 hcs;rfl
  ·rw[Mk];have e:((Lib.compact zs++List.replicate (zs.length-(Lib.compact zs).length) []).toArray.map Go.Proofs.encStr).toList=(Lib.compact zs++List.replicate (zs.length-(Lib.compact zs).length) []).map Go.Proofs.encStr:=by simp
   rw[e];exact MB _ _ _ _ fun x hx=>by
    obtain⟨z,_,rfl⟩:=Ak.1 hx;rfl
  ·rw[Pv,grow_empty,MG]
end Go.Eng
namespace Go.Eng
open Go.Proofs
abbrev u6(n:Nat):Ro:=⟨[],[],[(2,n),(5,n)],[],[],[],[5],[],[],[],[2,3]⟩
theorem wd(l:List Sl)(hl:CJ l):A3 Tryz.prog 66 [sl Af l] (Aj [] Aa) fun r h'=>r=.msl 2000 l.length∧h'=Aj [(2000,.arr 4 (l.map Af))] Aa:=by
 refine BV (Ll (u6 4)) [(2,2000)] rfl Cn hm rfl Tryz.func66 (by kernel_rfl) rfl (Nz rfl) (by kernel_rfl) rfl ?_;have G9:Df 4 (l.map Af)∧([]:List (List AV)).length=0∧(([]:List (List AV)).length+(l.map Af).length)*40≤140737488355328∧([]:List (List AV)).length+(l.map Af).length≤9223372036854775807:=by
  refine⟨Fa (enc:=Af) (n:=4) (fun _=>rfl) l,rfl,?_,?_⟩<;>simp only[AG,Lm]<;>unfold CJ at hl<;>omega
 have e1:AV.msl 2000 (([]:List (List AV)).length+(l.map Af).length)=.msl 2000 l.length:=by simp
 refine Xi 0 ?_;refine Xi 0 ?_;refine Yi ?_ ?_
 ·intro _;refine Xi ⟨[(0,sl Af l)],[],Aa⟩ (Yi ⟨Z1,Tv,Fh,Aw (by kernel_rfl)⟩ ?_)
  refine Xi 2 ?_;refine Yi G9 ?_;exact Xi _ (Yi (.refl _) (Yi e1 rfl))
 ·intro h;have h:l.map Af=[]:=h;refine Yi ?_ ?_
  ·refine Xi ⟨[],[],Aa⟩ (Yi ⟨trivial,trivial,fun _=>.inl rfl,Aw (by kernel_rfl)⟩ ?_)
   refine Xi 2 ?_;exact Xi _ (Yi (.refl _) (Yi (show AV.msl 2000 0=_ by rw[D0.1 h];rfl) (show Aj [(2000,HO.arr 4 [])] Aa=_ by rw[h])))
  ·refine Xi ⟨[(0,sl Af l)],[],Aa⟩ (Yi ⟨Z1,Tv,Fh,Aw (by kernel_rfl)⟩ ?_)
   refine Xi 2 ?_;refine Yi G9 ?_;exact Xi _ (Yi (.refl _) (Yi e1 rfl))
theorem A3.to2{P:Program}{f:Nat}{args:List AV}{h0:Nat→HO}{r0:AV}{H0:Nat→HO}{Q' : AV→(Nat→HO)→Prop}(h:A3 P f args h0 fun r h'=>r=r0∧h'=H0)(k:Q' r0 H0):A3 P f args h0 Q' :=
 h.mono fun r h' q=>⟨r,.refl _,by rw[q.1,q.2];exact k⟩
theorem cb{f:Nat}{args:List AV}{b x:Bool}(h:b=x)(hc:PC f args (vb b)):PC f args (vb x):=h▸hc
theorem LR{α:Type}{f:α→List AV}{l:List α}{i:Nat}(h:(i:Int)<((l.map f).length:Int)):i<l.length:=by rw[Lm]at h;omega
theorem LQ{α:Type}{f:α→List AV}{l:List α}{i:Nat}(h:¬(i:Int)<((l.map f).length:Int)):¬i<l.length:=by rw[Lm]at h;omega
theorem Sy{α:Type}{f:α→List AV}{l:List α}{i:Nat}(h:i<l.length):(0:Int)≤(i:Int)∧(l.map f)[((i:Nat):Int).toNat]?=some (f l[i]):=⟨Int.natCast_nonneg _,by rw[Cg,AF,Ge h];rfl⟩
theorem aB{n z:Nat}{α:Type}{f:α→List AV}{O:List α}{x:List AV}(hx:x.length=n)(h:O.length≤2147483647)(hz:z≤65536) :
  Df n [x]∧(O.map f).length=O.length∧((O.map f).length+([x]:List (List AV)).length)*z≤140737488355328∧(O.map f).length+([x]:List (List AV)).length≤9223372036854775807:=by
 refine⟨⟨hx,trivial⟩,Lm _,?_,?_⟩<;>rw[Lm]<;>simp only[Ay,AG]
 ·have:=Nat.mul_le_mul (show O.length+(0+1)≤2147483648 by omega) hz
  omega
 ·omega
theorem tkA{α:Type}{f:α→List AV}{O:List α}{x:α}{r n:Nat}:AV.slice (.id r n) (O.map f++[f x])=.slice (.id r n) ((O++[x]).map f):=by rw[Az];rfl
theorem zb{α:Type}{f:α→List AV}{O:List α}{x:α}{y:List AV}{n:Nat}:HO.tok n ((O.map f).length+([y]:List (List AV)).length)=.tok n (O++[x]).length:=by rw[Ad,Lm];rfl
theorem T4{n:Nat}:∀{l:List (List AV)},(∀c∈l,c.length=n)→Df n l
 | [],_=>trivial
 |c::_,h=>⟨h c (Ab ..),T4 fun d hd=>h d (Ah _ hd)⟩
def aK(a b:Sl):Int:=if JP a.path b.path≠0 then JP a.path b.path else NW a.ver b.ver
theorem lg{a b:Sl}(h:a.path=b.path∧a.ver.a=b.ver.a∧a.ver.b=b.ver.b∧a.ver.c=b.ver.c∧True):a=b:=by
 obtain⟨p,⟨x,y,z⟩⟩:=a;obtain⟨p',⟨x',y',z'⟩⟩:=b;obtain⟨h1,h2,h3,h4,_⟩:=h;cases h1;cases h2;cases h3;cases h4;rfl
def rj:Sl:=⟨mt,⟨0,0,0⟩⟩
abbrev te:Sl→Sl→Int:=fun a b=>JP a.path b.path
theorem Wz{a b:ByteArray}:JP a b<0↔Ep a b=true:=by
 unfold JP
 by_cases h:Ep a b=true
 ·rw[Aq h];simp[h]
 ·rw[Ai h];split<;>simp[h]
theorem M9{a b:ByteArray}:JP a b=0↔a=b:=by
 unfold JP;constructor
 ·intro h;split at h
  ·cases h
  ·rename_i h1;split at h
   ·cases h
   ·rename_i h2;exact Hi (by simpa using h1) (by simpa using h2)
 ·rintro rfl
  rw[Ai (by rw[C3];decide),Ai (by rw[C3];decide)]
section
variable {α:Type}{c:α→α→Int}
end
abbrev kept{α:Type}(p:α→Bool)(l:List α):List α:=l.filter fun x=>!p x
abbrev Dn(r:Rl):Sl:=⟨r.path,r.ver⟩
theorem uV(ifs:List (List AV))(hl:CJ ifs)(hs:∀c∈ifs,c.length=5):PC 73 [.slice .none ifs] (.slice .none ifs):=by
 refine Ps F1 Tryz.func73 rfl (Nz rfl) ?_;have G9:Df 5 ifs∧([]:List (List AV)).length=0∧(([]:List (List AV)).length+ifs.length)*112≤140737488355328∧([]:List (List AV)).length+ifs.length≤9223372036854775807:=by
  refine⟨T4 hs,rfl,?_,?_⟩<;>simp only[AG]<;>unfold CJ at hl<;>omega
 refine Yi ?_ ?_
 ·intro _;exact Yi G9 (.refl _)
 ·intro h;have h:ifs=[]:=h;refine Yi ?_ ?_
  ·show Hg (.v (.slice none 0 0)) (.slice .none ifs);rw[h];exact .nil
  ·exact Yi G9 (.refl _)
end Go.Eng
namespace Go.Eng
structure OC{α β:Type}(c:α→α→Int)(R:α→α→Prop)(key:α→β):Prop where
 lt:∀a b,c a b<0↔R a b
 eq:∀a b,c a b=0↔key a=key b
 tr:∀a b d,R a b→R b d→R a d
 irr:∀a b,key a=key b→¬R a b
 tri:∀a b,¬R a b→key a≠key b→R b a
 cl:∀a b d,key a=key b→R a d→R b d
section
variable {α β:Type}{c:α→α→Int}{R:α→α→Prop}{key:α→β}
theorem bv(h:OC c R key){a:List α}(ha:a.Pairwise R):(a.map key).Nodup:=by
 unfold List.Nodup;rw[List.pairwise_map];exact ha.imp fun q e=>h.irr _ _ e q
end
/-! The three comparisons. -/
def xA(a b:Sl):Prop:=Ep a.path b.path=true∨(a.path=b.path∧jz a.ver b.ver)
abbrev m5(a b:Sl):Prop:=Ep a.path b.path=true
theorem RF{a b:Int}:FI a b<0↔a<b:=by
 unfold FI;split
 ·rename_i h;simp[h]
 ·rename_i h;split<;>simp[h]
theorem I5{a b:Int}:FI a b=0↔a=b:=by
 unfold FI;split
 ·rename_i h;simp;omega
 ·rename_i h;split
  ·rename_i h2;simp;omega
  ·rename_i h2;simp;omega
theorem dC{a b:Ver}:NW a b<0↔jz a b:=by
 refine⟨Zg,fun h=>?_⟩;unfold NW;rcases h with h | ⟨h1,h | ⟨h2,h⟩⟩
 ·rw[Aq (fun c=>by have:=I5.1 c;omega)];exact RF.2 h
 ·rw[Ai (fun c=>c (I5.2 h1)),Aq (fun c=>by have:=I5.1 c;omega)];exact RF.2 h
 ·rw[Ai (fun c=>c (I5.2 h1)),Ai (fun c=>c (I5.2 h2))];exact RF.2 h
theorem RG{a b:Sl}:aK a b<0↔xA a b:=by
 unfold aK xA
 by_cases h:a.path=b.path
 ·rw[Ai (fun c=>c (M9.2 h)),dC];exact⟨fun q=>.inr ⟨h,q⟩,fun q=>q.elim (fun q=>by rw[h,C3]at q;cases q) (·.2)⟩
 ·rw[Aq (fun c=>h (M9.1 c)),Wz];exact⟨.inl,fun q=>q.elim id fun q=>absurd q.1 h⟩
theorem zO:OC te m5 (fun s:Sl=>s.path) where
 lt _ _:=Wz
 eq _ _:=M9
 tr _ _ _:=DP
 irr a b e h:=by rw[m5,e,C3]at h;cases h
 tri a b h e:=by
  cases q:Ep b.path a.path with
  |true=>exact q
  |false =>
   cases p:Ep a.path b.path with
   |true=>exact absurd p h
   |false=>exact absurd (Hi p q) e
 cl a b d e h:=by rw[m5,←e];exact h
/-! Pins. -/
/-! What the reference makes of a list. -/
theorem E1{α:Type}{l:List α}{i:Nat}(h:i<l.length):l.take (i+1)=l.take i++[l[i]]:=J9 h
end Go.Eng
namespace Go.Eng
open Go.Proofs
def Zm(p:ByteArray)(r:Rl):Bool:=decide (r.path=p)&&!r.yanked
def qW(r:Rl):Int×Int:=(plc r.ver,plc r.ver+1)
theorem az{x:List Rl}{p:ByteArray}(h:AU x=0):BZ x p=canon ((x.filter (Zm p)).map qW):=by
 unfold BZ JY;rw[Ai (not_not_intro h),List.filter_filter]
 congr 3
 funext r
 unfold Zm;rw[Bool.and_comm]
theorem bT{α:Type}(o:Option α):(∃x,o=some x)∨o=none:=by
 cases o with
 |none=>exact .inr rfl
 |some x=>exact .inl ⟨x,rfl⟩
instance:DecidableEq Rq:=fun x y=>decidable_of_iff (x.path=y.path∧x.set=y.set) ⟨fun⟨h1,h2⟩=>by cases x;cases y;simp_all,fun h=>by subst h;exact Zr⟩
instance:DecidableEq Rl:=fun x y=>decidable_of_iff (x.path=y.path∧x.ver=y.ver∧x.reqs=y.reqs∧x.arch=y.arch∧x.ifc=y.ifc∧x.cert=y.cert∧x.yanked=y.yanked) ⟨fun⟨h1,h2,h3,h4,h5,h6,h7⟩=>by cases x;cases y;simp_all,fun h=>by subst h;exact⟨rfl,rfl,rfl,rfl,rfl,rfl,rfl⟩⟩
theorem qQ{a b:Rq}(h1:a.path=b.path)(h2:a.set=b.set):a=b:=by cases a;cases b;simp_all
theorem lf{a b:Rl}(h1:a.path=b.path)(h2:a.ver=b.ver)(h3:a.arch=b.arch)(h4:a.ifc=b.ifc)(h5:a.cert=b.cert)(h6:a.yanked=b.yanked)(h7:a.reqs=b.reqs):a=b:=by cases a;cases b;simp_all
theorem gX{a b:Ver}(h:a.a=b.a∧a.b=b.b∧a.c=b.c∧True):a=b:=by cases a;cases b;simp_all
theorem nE{a b:Ver}(h:¬(a.a=b.a∧a.b=b.b∧a.c=b.c∧True)):a≠b:=fun e=>h (by subst e;exact⟨rfl,rfl,rfl,trivial⟩)
theorem VK{α:Type}{a b:List α}(hl:a.length=b.length)(h:∀j (hj:j<a.length),a[j]=b[j]'(hl▸hj)):a=b:=List.ext_getElem hl fun j h1 _=>h j h1
theorem Zc{α:Type}{a b:List α}{i:Nat}{ha:i<a.length}{hb:i<b.length}(h:a[i]≠b[i]):a≠b:=fun e=>by subst e;exact h rfl
theorem rX(a b:List Rq)(ha:CJ a)(hs:∀q∈a,CJ q.set):PC 57 [sl AI a,sl AI b] (vb (decide (a=b))):=by
 have rE:a.length≤1073741824:=ha;refine Ps ⟨[],[],[],[],[],[],[],[],[],[],[5,7]⟩ Tryz.func57 rfl (Nz rfl) ?_;refine Yi (fun h1=>?_) (fun h1=>?_)
 ·have h1:((a.map AI).length:Int)≠((b.map AI).length:Int):=h1;exact .of_eq (show vb false=vb (decide (a=b)) by rw[At (fun e=>absurd (Ac (fun z=>((z.map AI).length:Int)) e) h1)])
 have h1:((a.map AI).length:Int)=((b.map AI).length:Int):=AR h1;have hl:a.length=b.length:=by have q:=h1;rw[Lm,Lm]at q;omega
 refine Xi {q:Nat // q≤a.length∧∀j (hj:j<a.length),j<q→a[j]=b[j]'(hl▸hj)} (Xi (fun q=>⟨[(0,sl AI a),(1,sl AI b),(5,vi q.1)],[],Aa⟩) (Xi (fun q=>a.length-q.1) (Yi (Xi ⟨0,AL _,fun _ _ h=>absurd h (Jo _)⟩ ?_) ?_)))
 ·exact⟨Z3,Tv,Fh,Tv⟩
 intro⟨i,i1,i2⟩;have i1:i≤a.length:=i1;have i2:∀j (hj:j<a.length),j<i→a[j]=b[j]'(hl▸hj):=i2;refine Yi (fun h3=>?_) (fun h3=>?_)
 ·have h3:(i:Int)<((a.map AI).length:Int):=h3;have n3:=LR h3;have ig:i<b.length:=by have q:=h3;rw[Lm]at q;omega
  refine Xi (AI a[i]) (Yi (Sy n3) (Yi rfl ?_));refine Xi (AI b[i]) (Yi (Sy ig) (Yi rfl ?_));refine Yi (fun h5=>?_) (fun h5=>?_)
  ·have h5:(a[i].path:ByteArray)≠b[i].path:=h5;refine Yi (by kernel_rfl) ?_;refine Xi ⟨[],[],Aa⟩ (Yi ⟨Tv,Tv,Fh,Tv⟩ ?_)
   exact .of_eq (show vb false=vb (decide (a=b)) by rw[At (Zc (i:=i) (ha:=n3) (hb:=ig) (fun e=>h5 (Ac Rq.path e)))])
  have h5:(a[i].path:ByteArray)=b[i].path:=AR h5;refine Xi (AI a[i]) (Yi (Sy n3) (Yi rfl ?_));refine Xi (AI b[i]) (Yi (Sy ig) (Yi rfl ?_));refine CQ (Bt (decide (a[i].set=b[i].set))) (fun h7=>?_) (fun h7=>?_)
  ·have h7:(decide (a[i].set=b[i].set))=true:=h7;refine Xi _ (Yi (cb h7 (wz a[i].set b[i].set (hs _ (Ax n3)))) ?_);refine Yi (by kernel_rfl) ?_;refine Xi ⟨[(0,sl AI a),(1,sl AI b),(5,vi i)],[],Aa⟩ (Yi ⟨Z3,Tv,Fh,Tv⟩ ?_)
   refine Yi (Ii i (by omega)) ?_;refine Xi ⟨i+1,n3,fun j hj MF=>if e:j<i then i2 j hj e else by
     have e:j=i:=by omega
     subst e;exact qQ h5 (Ba h7)⟩ ?_
   exact⟨Dl a.length i (by omega),Z3,Tv,Fh,Tv⟩
  have h7:(decide (a[i].set=b[i].set))=false:=h7;refine Xi _ (Yi (cb h7 (wz a[i].set b[i].set (hs _ (Ax n3)))) ?_);refine Yi (by kernel_rfl) ?_;refine Xi ⟨[],[],Aa⟩ (Yi ⟨Tv,Tv,Fh,Tv⟩ ?_)
  exact .of_eq (show vb false=vb (decide (a=b)) by rw[At (Zc (i:=i) (ha:=n3) (hb:=ig) (fun e=>Hc h7 (Ac Rq.set e)))])
 have h3:¬((i:Int)<((a.map AI).length:Int)):=h3;have n3:=LQ h3;exact .of_eq (show vb true=vb (decide (a=b)) by rw[AA (VK hl fun j hj=>i2 j hj (by have q:=h3;rw[Lm]at q;omega))])
theorem xD(r s:Rl)(hr:CJ r.reqs)(hs:∀q∈r.reqs,CJ q.set):PC 36 [.agg (Ag r),.agg (Ag s)] (vb (decide (r=s))):=by
 refine Ps ⟨[2,3],[],[],[],[],[],[],[],[],[],[]⟩ Tryz.func36 rfl (Nz rfl) ?_;refine Yi (fun h1=>?_) (fun h1=>?_)
 ·have h1:(r.path:ByteArray)=s.path:=h1;refine Yi (Nz rfl) ?_;refine Yi (Nz rfl) ?_;refine Yi (fun h2=>?_) (fun h2=>?_)
  ·have h2:(r.ver.a:Int)=s.ver.a∧(r.ver.b:Int)=s.ver.b∧(r.ver.c:Int)=s.ver.c∧True:=h2;refine Yi (fun h3=>?_) (fun h3=>?_)
   ·have h3:(r.arch:ByteArray)=s.arch:=h3;refine Yi (fun h4=>?_) (fun h4=>?_)
    ·have h4:(r.ifc:ByteArray)=s.ifc:=h4;refine Yi (fun h5=>?_) (fun h5=>?_)
     ·have h5:(r.cert:ByteArray)=s.cert:=h5;refine Yi (fun h6=>?_) (fun h6=>?_)
      ·have h6:r.yanked=true:=h6;refine Yi (fun h7=>?_) (fun h7=>?_)
       ·have h7:s.yanked=true:=h7;refine CQ (Bt (decide (r.reqs=s.reqs))) (fun h8=>?_) (fun h8=>?_)
        ·have h8:(decide (r.reqs=s.reqs))=true:=h8;refine Xi .pure (Xi _ (Yi (cb h8 (rX r.reqs s.reqs hr hs)) ?_));exact .of_eq (show vb true=vb (decide (r=s)) by rw[AA (lf h1 (gX h2) h3 h4 h5 (by rw[h6,h7]) (Ba h8))])
        have h8:(decide (r.reqs=s.reqs))=false:=h8;refine Xi .pure (Xi _ (Yi (cb h8 (rX r.reqs s.reqs hr hs)) ?_));exact .of_eq (show vb false=vb (decide (r=s)) by rw[At (fun e=>Hc h8 (Ac Rl.reqs e))])
       have h7:s.yanked=false:=h7;exact .of_eq (show vb false=vb (decide (r=s)) by rw[At (fun e=>by have q:=Ac Rl.yanked e;rw[h6,h7]at q;cases q)])
      have h6:r.yanked=false:=h6;refine Yi (fun QE=>?_) (fun QE=>?_)
      ·have QE:s.yanked=true:=QE;exact .of_eq (show vb false=vb (decide (r=s)) by rw[At (fun e=>by have q:=Ac Rl.yanked e;rw[h6,QE]at q;cases q)])
      have QE:s.yanked=false:=QE;refine CQ (Bt (decide (r.reqs=s.reqs))) (fun cL=>?_) (fun cL=>?_)
      ·have cL:(decide (r.reqs=s.reqs))=true:=cL;refine Xi .pure (Xi _ (Yi (cb cL (rX r.reqs s.reqs hr hs)) ?_));exact .of_eq (show vb true=vb (decide (r=s)) by rw[AA (lf h1 (gX h2) h3 h4 h5 (by rw[h6,QE]) (Ba cL))])
      have cL:(decide (r.reqs=s.reqs))=false:=cL;refine Xi .pure (Xi _ (Yi (cb cL (rX r.reqs s.reqs hr hs)) ?_));exact .of_eq (show vb false=vb (decide (r=s)) by rw[At (fun e=>Hc cL (Ac Rl.reqs e))])
     have h5:¬(r.cert:ByteArray)=s.cert:=h5;exact .of_eq (show vb false=vb (decide (r=s)) by rw[At (fun e=>h5 (Ac Rl.cert e))])
    have h4:¬(r.ifc:ByteArray)=s.ifc:=h4;exact .of_eq (show vb false=vb (decide (r=s)) by rw[At (fun e=>h4 (Ac Rl.ifc e))])
   have h3:¬(r.arch:ByteArray)=s.arch:=h3;exact .of_eq (show vb false=vb (decide (r=s)) by rw[At (fun e=>h3 (Ac Rl.arch e))])
  have h2:¬((r.ver.a:Int)=s.ver.a∧(r.ver.b:Int)=s.ver.b∧(r.ver.c:Int)=s.ver.c∧True):=h2;exact .of_eq (show vb false=vb (decide (r=s)) by rw[At (fun e=>nE h2 (Ac Rl.ver e))])
 have h1:¬(r.path:ByteArray)=s.path:=h1;exact .of_eq (show vb false=vb (decide (r=s)) by rw[At (fun e=>h1 (Ac Rl.path e))])
theorem zL(a b:List Rl)(ha:CJ a)(hr:∀r∈a,CJ r.reqs∧∀q∈r.reqs,CJ q.set):PC 13 [sl Ag a,sl Ag b] (vb (decide (a=b))):=by
 have rE:a.length≤1073741824:=ha;refine Ps ⟨[],[],[],[],[],[],[],[],[],[],[5,7]⟩ Tryz.func13 rfl (Nz rfl) ?_;refine Yi (fun h1=>?_) (fun h1=>?_)
 ·have h1:((a.map Ag).length:Int)≠((b.map Ag).length:Int):=h1;exact .of_eq (show vb false=vb (decide (a=b)) by rw[At (fun e=>absurd (Ac (fun z=>((z.map Ag).length:Int)) e) h1)])
 have h1:((a.map Ag).length:Int)=((b.map Ag).length:Int):=AR h1;have hl:a.length=b.length:=by have q:=h1;rw[Lm,Lm]at q;omega
 refine Xi {q:Nat // q≤a.length∧∀j (hj:j<a.length),j<q→a[j]=b[j]'(hl▸hj)} (Xi (fun q=>⟨[(0,sl Ag a),(1,sl Ag b),(5,vi q.1)],[],Aa⟩) (Xi (fun q=>a.length-q.1) (Yi (Xi ⟨0,AL _,fun _ _ h=>absurd h (Jo _)⟩ ?_) ?_)))
 ·exact⟨Z3,Tv,Fh,Tv⟩
 intro⟨i,i1,i2⟩;have i1:i≤a.length:=i1;have i2:∀j (hj:j<a.length),j<i→a[j]=b[j]'(hl▸hj):=i2;refine Yi (fun h3=>?_) (fun h3=>?_)
 ·have h3:(i:Int)<((a.map Ag).length:Int):=h3;have n3:=LR h3;have ig:i<b.length:=by have q:=h3;rw[Lm]at q;omega
  refine Xi (Ag a[i]) (Yi (Sy n3) (Yi rfl ?_));refine Yi (Nz rfl) ?_;refine Xi (Ag b[i]) (Yi (Sy ig) (Yi rfl ?_));refine Yi (Nz rfl) ?_;refine CQ (Bt (decide (a[i]=b[i]))) (fun h4=>?_) (fun h4=>?_)
  ·have h4:(decide (a[i]=b[i]))=true:=h4;refine Xi _ (Yi (cb h4 (xD a[i] b[i] (hr _ (Ax n3)).1 (hr _ (Ax n3)).2)) ?_);refine Yi (by kernel_rfl) ?_;refine Xi ⟨[(0,sl Ag a),(1,sl Ag b),(5,vi i)],[],Aa⟩ (Yi ⟨Z3,Tv,Fh,Tv⟩ ?_)
   refine Yi (Ii i (by omega)) ?_;refine Xi ⟨i+1,n3,fun j hj MF=>if e:j<i then i2 j hj e else by
     have e:j=i:=by omega
     subst e;exact Ba h4⟩ ?_
   exact⟨Dl a.length i (by omega),Z3,Tv,Fh,Tv⟩
  have h4:(decide (a[i]=b[i]))=false:=h4;refine Xi _ (Yi (cb h4 (xD a[i] b[i] (hr _ (Ax n3)).1 (hr _ (Ax n3)).2)) ?_);refine Yi (by kernel_rfl) ?_;refine Xi ⟨[],[],Aa⟩ (Yi ⟨Tv,Tv,Fh,Tv⟩ ?_)
  exact .of_eq (show vb false=vb (decide (a=b)) by rw[At (Zc (i:=i) (ha:=n3) (hb:=ig) (Hc h4))])
 have h3:¬((i:Int)<((a.map Ag).length:Int)):=h3;have n3:=LQ h3;exact .of_eq (show vb true=vb (decide (a=b)) by rw[AA (VK hl fun j hj=>i2 j hj (by have q:=h3;rw[Lm]at q;omega))])
end Go.Eng
