/- Lemmas for the claims of this seat, without a condition: part 22 (C65, C66, C67, C68, C69, C56, C57, C58, C59, C70, C71, C72, C73, LayStrs, O15, S17, O1, C0, O2, R1, R2). -/
import Derived.Test.YtddfphmpfnmknaaGreatDoorDA21
import Derived.Test.YtddfphmpfnmknaaGreatDoorDA17
import Derived.Shelf.Sort.Plain
import Derived.Shelf.Slices.CompactS
import Derived.Ground.NamesProg
namespace Go.Eng
open Go.Proofs
theorem Lo:∀(y:List Rl) (acc:List ByteArray) (r:Rl),AS (y++[r]) acc=if(AS y acc).any (fun p=>decide (p=r.path))then AS y acc else AS y acc++[r.path]
 | [],acc,r=>rfl
 |s::y,acc,r=>by rw[D4,AS,AS,Lo y]
theorem E3:∀(y:List Rl) (acc:List ByteArray),acc.Nodup→(AS y acc).Nodup
 | [],_,h=>h
 |s::y,acc,h=>by
  rw[AS];refine E3 y _ ?_;split
  ·exact h
  ·rename_i hn;rw[GB];refine⟨h,by simp,fun a ha b hb e=>?_⟩;rw[Aq]at hb;exact hn (Ox.2 (by rw[←hb,←e];exact ha))
abbrev Nw(y:List Rl)(p:ByteArray):List (List AV):=(y.filter fun r=>decide (r.path=p)).map Ag
abbrev ge(y:List Rl)(q:ByteArray×Nat):Value×AV:=(.string q.1,.slice (.id (q.2+50) 9) (Nw y q.1))
abbrev RW(y:List Rl):List (Value×AV):=(AS y []).zipIdx.map (ge y)
def JL(y:List Rl)(l:Nat):HO:=match(AS y [])[l]? with
 |some q=>.tok 9 (Nw y q).length
 |none=>.free
def Vk(y:List Rl)(j:Nat):HO:=bif Nat.ble 50 j then JL y (j-50)else .free
theorem HQ(y:List Rl)(l:Nat):Vk y (l+50)=JL y l:=by
 unfold Vk;rw[show Nat.ble 50 (l+50)=true by rw[Dg];omega,Nat.add_sub_cancel];rfl
theorem oe(y:List Rl){j:Nat}(h:j<50):Vk y j=.free:=by
 unfold Vk;rw[show Nat.ble 50 j=false by rw[AK];intro hc;rw[Dg]at hc;omega];rfl
theorem IK(y:List Rl)(r:Rl)(q:ByteArray):Nw (y++[r]) q=if r.path=q then Nw y q++[Ag r]else Nw y q:=by
 unfold Nw;rw[Cf]
 by_cases h:r.path=q
 ·rw[Ap h,Su (by simpa using h)];simp
 ·rw[Aj h,Ss (by simpa using h)];simp
theorem Iz{l:List ByteArray}{q:ByteArray×Nat}(h:q∈l.zipIdx):l[q.2]?=some q.1:=by
 obtain⟨a,b⟩:=q;exact FJ.1 h
open Classical in
theorem Mm{B2:List (Value×AV)}{k:Value}{a:AV}(h:∀a',(k,a')∉B2):E7 B2 k a=B2++[(k,a)]:=by
 unfold E7;rw[Aj (fun⟨a',h'⟩=>h a' h')]
open Classical in
theorem Yy{B2:List (Value×AV)}{k:Value}{a a' : AV}(h:(k,a')∈B2):E7 B2 k a=B2.map fun p=>if p.1=k then(k,a)else p:=by
 unfold E7;rw[Ap ⟨a',h⟩]
section
variable {y:List Rl}{r:Rl}{k:Nat}
theorem Jo(h:(AS y [])[k]?=some r.path):AS (y++[r]) []=AS y []:=by
 rw[Lo,Ap (Ox.2 (Av h))]
theorem Jn(h:r.path∉AS y []):AS (y++[r]) []=AS y []++[r.path]:=by
 rw[Lo,Aj (fun hc=>h (Ox.1 hc))]
theorem Jl{l:List ByteArray}(hd:l.Nodup){i j:Nat}{p:ByteArray}(h1:l[i]?=some p)(h2:l[j]?=some p):i=j:=by
 obtain⟨a1,a2⟩:=As.1 h1;obtain⟨b1,b2⟩:=As.1 h2;exact(List.getElem_inj hd).1 (a2.trans b2.symm)
open Classical in
theorem kq(h:(AS y [])[k]?=some r.path):E7 (RW y) (.string r.path) (.slice (.id (k+50) 9) (Nw y r.path++[Ag r]))=RW (y++[r]):=by
 have hd:=E3 y [] Fp;have hm:ge y (r.path,k)∈RW y:=Am.2 ⟨_,FJ.2 h,rfl⟩;rw[Yy (a':=.slice (.id (k+50) 9) (Nw y r.path)) hm];unfold RW;rw[Jo h,BQ];refine Be fun q hq=>?_;have hg:=Iz hq;obtain⟨q,j⟩:=q;show(if Value.string q=Value.string r.path then _ else _)=ge (y++[r]) (q,j);have hg:(AS y [])[j]?=some q:=hg
 by_cases he:q=r.path
 ·subst he
  have:j=k:=Jl hd hg h
  subst this;rw[Ap rfl];show _=(Value.string r.path,AV.slice (.id (j+50) 9) (Nw (y++[r]) r.path));rw[IK,Ap rfl]
 ·rw[Aj (fun e=>he (by simpa using e))];show(Value.string q,AV.slice (.id (j+50) 9) (Nw y q))=(Value.string q,AV.slice (.id (j+50) 9) (Nw (y++[r]) q));rw[IK,Aj (fun e=>he e.symm)]
theorem bn(h:r.path∉AS y []):Nw y r.path=[]:=by
 have:y.filter (fun s=>decide (s.path=r.path))=[]:=by
  rw[Hz];intro s hs he;exact h ((Hu y [] r.path).2 (.inr ⟨s,hs,A5 he⟩))
 unfold Nw;rw[this];rfl
theorem X2(h:r.path∉AS y [])(a:AV):(Value.string r.path,a)∉RW y:=by
 intro hc;obtain⟨q,h1,h2⟩:=Am.1 hc;simp only[ge,F1,Value.string.injEq]at h2;exact h (by rw[←h2.1];exact Av (Iz h1))
theorem kp(h:r.path∉AS y []):E7 (RW y) (.string r.path) (.slice (.id ((AS y []).length+50) 9) [Ag r])=RW (y++[r]):=by
 rw[Mm (fun a=>X2 h a)];unfold RW;rw[Jn h,List.zipIdx_append,Ay]
 congr 1
 ·refine Be fun q hq=>?_;have hg:=Iz hq
  have:q.1≠r.path:=fun e=>h (by rw[←e];exact Av hg)
  show(Value.string q.1,AV.slice (.id (q.2+50) 9) (Nw y q.1))=(Value.string q.1,AV.slice (.id (q.2+50) 9) (Nw (y++[r]) q.1));rw[IK,Aj (fun e=>this e.symm)]
 ·show [_]=[(Value.string r.path,AV.slice (.id (0+(AS y []).length+50) 9) (Nw (y++[r]) r.path))];rw[IK,Ap rfl,bn h,Bl];rfl
theorem gl{p:ByteArray}{j:Nat}(h:(AS y [])[j]?=some p):(Value.string p,AV.slice (.id (j+50) 9) (Nw y p))∈RW y∧∀b,(Value.string p,b)∈RW y→b=AV.slice (.id (j+50) 9) (Nw y p):=by
 refine⟨Am.2 ⟨(p,j),FJ.2 h,rfl⟩,fun b hb=>?_⟩;obtain⟨q,h1,h2⟩:=Am.1 hb;simp only[ge,F1,Value.string.injEq]at h2;have hg:=Iz h1;rw[h2.1]at hg
 have:=Jl (E3 y [] Fp) hg h
 rw[←h2.2,h2.1,this]
theorem jr{p:ByteArray}{j:Nat}(h:(AS y [])[j]?=some p):JL y j=.tok 9 (Nw y p).length:=by
 unfold JL;rw[h]
theorem ma(h:(AS y [])[k]?=some r.path)(l:Nat):(bif Nat.beq (l+50) (k+50)then HO.tok 9 ((Nw y r.path).length+1)else JL y l)=JL (y++[r]) l:=by
 by_cases he:l=k
 ·subst he;rw[show Nat.beq (l+50) (l+50)=true from CX _];unfold JL;rw[Jo h,h];show HO.tok 9 _=HO.tok 9 (Nw (y++[r]) r.path).length;rw[IK,Ap rfl,Ae];rfl
 ·rw[show Nat.beq (l+50) (k+50)=false by rw[AK];intro hc;have:=AM hc;omega];show JL y l=_;unfold JL;rw[Jo h];cases hq:(AS y [])[l]? with
  |none=>rfl
  |some q =>
   show HO.tok 9 (Nw y q).length=HO.tok 9 (Nw (y++[r]) q).length;rw[IK,Aj];intro e;subst e;exact he (Jl (E3 y [] Fp) hq h)
theorem l8(h:r.path∉AS y [])(l:Nat):(bif Nat.beq (l+50) ((AS y []).length+50)then HO.tok 9 1 else JL y l)=JL (y++[r]) l:=by
 by_cases he:l=(AS y []).length
 ·subst he;rw[show Nat.beq ((AS y []).length+50) ((AS y []).length+50)=true from CX _];unfold JL;rw[Jn h];simp only[AW (Al _),ES,A8];show HO.tok 9 1=HO.tok 9 (Nw (y++[r]) r.path).length;rw[IK,Ap rfl,bn h];rfl
 ·rw[show Nat.beq (l+50) ((AS y []).length+50)=false by rw[AK];intro hc;have:=AM hc;omega];show JL y l=_;unfold JL;rw[Jn h]
  by_cases hl:l<(AS y []).length
  ·rw[A2 hl,Ge hl];show HO.tok 9 (Nw y (AS y [])[l]).length=HO.tok 9 (Nw (y++[r]) (AS y [])[l]).length;rw[IK,Aj];intro e;exact h (by rw[e];exact At hl)
  ·rw[A4 (by omega),A4 (by rw[Ae];simp;omega)]
end
theorem Qd{h:Nat→HO}:∀{B2:List (Value×AV)},(∀p∈B2,UI h p.2=true)→Ri h B2=true
 | [],_=>rfl
 |p::r,hk=>by
  unfold Ri;rw[hk p (Ab ..)];exact Qd (fun q hq=>hk q (Ai _ hq))
theorem Lj(y:List Rl){h:Nat→HO}(hh:∀l,h (l+50)=JL y l):Ri h (RW y)=true:=by
 refine Qd fun p hp=>?_;obtain⟨q,h1,rfl⟩:=Am.1 hp;show RO h (q.2+50)=true;unfold RO;rw[hh,jr (Iz h1)]
theorem Jw{y:List Rl}{h h' : Nat→HO}(hh:∀l,h (l+50)=JL y l)(j:Nat):Vk y j=.free∨(h j=Vk y j∧Yd h' (Vk y j)=true):=by
 by_cases hj:j<50
 ·exact .inl (oe y hj)
 ·obtain⟨l,rfl⟩:∃l,j=l+50:=⟨j-50,by omega⟩
  right
  rw[HQ];refine⟨hh l,?_⟩;unfold JL;cases (AS y [])[l]?<;>rfl
theorem lR{x:List Rl}(hx:AQ x=0){i:Nat}(hi:i<x.length):E7 ((x.take i).map TL) (Rn (EY x[i])) (.agg (Ag x[i]))=(x.take (i+1)).map TL:=by
 rw[Mm]
 ·rw[Bk,Ge hi,Ay];rfl
 intro a ha;obtain⟨r,hr,he,_⟩:=aW ha;obtain⟨j,hj,e2⟩:=Dm.1 hr;rw[AC]at hj;rw[GA]at e2;have hp:=(CF hx).2
 have:=(AZ.1 hp) j i (by omega) hi (by omega)
 rw[e2]at this;exact Ir this he
abbrev sP:RE:=⟨[],[],[],[],[8,9],[9],[40],[],[],[],[8,9,10,11]⟩
abbrev zT:List AV:=[.v (.map none),.v (.map none)]
theorem kd(x:List Rl)(ifs:List (List AV))(n8:PC 37 [EV x ifs] (vi (AQ x)))(h0:AQ x≠0):dW x ifs:=by
 have ht:W9 x=.tup [.agg [.cmap Ut [],.cmap CZ []],vi (AQ x)]:=by unfold W9;rw[Aj h0]
 unfold dW;rw[ht];refine Ps sP Tryz.func41 rfl (Nz rfl) ?_;refine Xi 0 ?_;refine Xi 0 ?_;refine Yi (Nz rfl) ?_;refine Xi 0 ?_;refine Yi (Nz rfl) ?_;refine Xi .pure (Xi _ (Yi (n8) ?_));refine Xi 0 ?_;refine Yi ?_ ?_
 ·intro _;refine Xi 0 ?_;refine Yi (Nz rfl) ?_;refine Yi (Nz rfl) ?_;refine Yi (Nz rfl) ?_;exact .refl _
 ·intro h;exact absurd h (fun hc=>hc h0)
theorem Ht:∀(y:List Rl) (acc:List ByteArray),(AS y acc).length≤acc.length+y.length
 | [],acc=>by simp[AS]
 |r::y,acc=>by
  rw[AS];refine Bx (Ht y _) ?_;split
  ·simp only[Az];omega
  ·simp only[Ae,Az,AJ];omega
section
attribute [local irreducible] Iv
theorem nN(x:List Rl)(ifs:List (List AV))(n8:PC 37 [EV x ifs] (vi (AQ x)))(h0:AQ x=0)(CB:x.length≤256):dW x ifs:=by
 have ht:W9 x=.tup [.agg [.cmap Ut (x.map TL),.cmap CZ ((AS x []).map (jO x))],vi 0]:=by unfold W9;rw[Ap h0]
 unfold dW;rw[ht];rw[h0]at n8;refine Ps sP Tryz.func41 rfl (Nz rfl) ?_;refine Xi 0 ?_;refine Xi 0 ?_;refine Yi (Nz rfl) ?_;refine Xi 0 ?_;refine Yi (Nz rfl) ?_;refine Xi .pure (Xi _ (Yi (n8) ?_));refine Xi 0 ?_;refine Yi ?_ ?_
 ·intro hc;exact absurd (show(0:Int)≠0 from hc) (by decide)
 intro _;refine Xi 0 ?_;refine Xi {i:Nat // i≤x.length} (Xi (fun i=>⟨[(2,.ref 2 0),(4,.ref 4 0),(18,sl Ag x),(19,vi (x.map Ag).length),(20,vi i.1)],[(2,.cells zT),(4,.cells [.mref 8,.mref 9]),(8,.map Ut ((x.take i.1).map TL)),(9,.mapU CZ (RW (x.take i.1)))],Vk (x.take i.1)⟩) (Xi (fun i=>x.length-i.1) (Yi (Xi ⟨0,AD _⟩ ?_) ?_)))
 ·refine⟨Z5,Z4,fun j=>.inl ?_,Tv⟩;show Vk [] j=.free;unfold Vk;cases Nat.ble 50 j<;>rfl
 intro⟨i,i1⟩;have i1:i≤x.length:=i1;refine Xi 0 ?_;refine Yi ?_ ?_
 ·intro h;have h:(i:Int)<(x.map Ag).length:=h;have h:i<x.length:=by simpa using h
  have hg:x[i]?=some x[i]:=Ge h;have KJ:x.take (i+1)=x.take i++[x[i]]:=by rw[Bk,hg];rfl
  refine Xi 0 ?_;refine Xi (Ag x[i]) (Yi (Yi (Nn i) (by simp[hg])) (Yi rfl ?_));refine Yi (Nz rfl) (Yi (Nz rfl) ?_);refine Xi ⟨[(2,.ref 2 0),(4,.ref 4 0),(7,.ref 7 0),(18,sl Ag x),(19,vi (x.map Ag).length),(20,vi i)],[(2,.cells zT),(4,.cells [.mref 8,.mref 9]),(7,.cells (Ag x[i])),(8,.map Ut ((x.take i).map TL)),(9,.mapU CZ (RW (x.take i)))],Vk (x.take i)⟩ (Yi ?_ ?_)
  ·exact⟨Z6,⟨Zr,Zr,Zr,Zr,⟨rfl,Lj _ (HQ _)⟩,Tv⟩,Jw (HQ _),Tv⟩
  refine Xi 0 ?_;refine Yi (Nz rfl) ?_;refine Xi _ (Yi (nA x[i]) ?_);refine Yi (Nz rfl) ?_;refine Yi (by kernel_rfl) ?_;have e8:E7 ((x.take i).map TL) (Rn (EY x[i])) (.agg (Ag x[i]))=(x.take (i+1)).map TL:=lR h0 h;refine Xi ⟨[(2,.ref 2 0),(4,.ref 4 0),(7,.ref 7 0),(18,sl Ag x),(19,vi (x.map Ag).length),(20,vi i)],[(2,.cells zT),(4,.cells [.mref 8,.mref 9]),(7,.cells (Ag x[i])),(8,.map Ut ((x.take (i+1)).map TL)),(9,.mapU CZ (RW (x.take i)))],Vk (x.take i)⟩ (Yi ?_ ?_)
  ·exact⟨Z6,⟨Zr,Zr,Zr,⟨Ac (HO.map Ut) e8,rfl⟩,⟨rfl,Lj _ (HQ _)⟩,Tv⟩,Jw (HQ _),Tv⟩
  have hL:((x.take i).filter (fun r=>decide (r.path=x[i].path))).length≤256:=by
   have:=Bv (fun r:Rl=>decide (r.path=x[i].path)) (x.take i)
   rw[AC]at this;omega
  have hP:∀l,Vk (x.take i) (l+50)=JL (x.take i) l:=HQ _;refine BT (Classical.em (x[i].path∈AS (x.take i) [])) (fun hp=>?_) (fun hp=>?_)
  ·refine Br (B9.1 hp) (fun k hk=>?_);have hu:=gl hk;refine Xi 0 ?_;refine Or.inl (Xi (.slice (.id (k+50) 9) (Nw (x.take i) x[i].path)) (Yi hu ?_));refine Yi (Nz rfl) ?_;have hr:Vk (x.take i) (k+50)=.tok 9 (Nw (x.take i) x[i].path).length:=by rw[hP,jr hk]
   have hl:(Nw (x.take i) x[i].path).length≤256:=by rw[Lm];exact hL
   refine QW (e:=41) (m:=8) (es2:=[Ag x[i]]) rfl rfl rfl (fun _ h=>h) hr ⟨rfl,trivial⟩ (by show(_+1)*120≤_;omega) (by show _+1≤_;omega) ?_;have rP:k<256:=by
    have:=(As.1 hk).1
    have:=Ht (x.take i) []
    rw[AC]at this;simp only[AJ]at this;omega
   have oE:=hk;refine Yi (Ja ⟨A3 _,A3 _,A3 _,A3 _,A3 _,A3 _,A3 _,A3 _,A3 _,A3 _,Ei (show 39<10000000 by decide),Ei (by show _+50<10000000;omega),Ei (show 9<10000000 by decide),trivial⟩ (by kernel_rfl)) ?_;have e9:E7 (RW (x.take i)) (.string x[i].path) (.slice (.id (k+50) 9) (Nw (x.take i) x[i].path++[Ag x[i]]))=RW (x.take (i+1)):=by rw[KJ];exact kq oE
   have hG:∀l,(bif Nat.beq (l+50) (k+50)then HO.tok 9 ((Nw (x.take i) x[i].path).length+1)else JL (x.take i) l)=JL (x.take (i+1)) l:=by rw[KJ];exact ma oE
   refine Xi ⟨[(2,.ref 2 0),(4,.ref 4 0),(18,sl Ag x),(19,vi (x.map Ag).length),(20,vi i)],[(2,.cells zT),(4,.cells [.mref 8,.mref 9]),(8,.map Ut ((x.take (i+1)).map TL)),(9,.mapU CZ (RW (x.take (i+1))))],Vk (x.take (i+1))⟩ (Yi ?_ ?_)
   ·refine⟨Z5,⟨Zr,Zr,Zr,⟨Ac (HO.mapU CZ) e9,Lj _ (HQ _)⟩,Tv⟩,Jw (fun l=>?_),Tv⟩;show(bif Nat.beq (l+50) (k+50)then HO.tok 9 ((Nw (x.take i) x[i].path).length+1)else Vk (x.take i) (l+50))=_;rw[hP];exact hG l
   refine Xi 0 ?_;refine Yi (Ii i (by omega)) ?_;refine Xi ⟨i+1,by omega⟩ ?_;exact⟨Dl x.length i (by omega),Z5,⟨Zr,Zr,Zr,⟨rfl,Lj _ (HQ _)⟩,Tv⟩,Jw (HQ _),Tv⟩
  ·have oE:=hp;have LD:(AS (x.take i) []).length≤256:=by
    have:=Ht (x.take i) []
    rw[AC]at this;simp only[AJ]at this;omega
   have hn:=X2 hp;refine Xi ((AS (x.take i) []).length+50) ?_;refine Or.inr (Yi hn ?_);refine Yi (Nz rfl) ?_;have hr:Vk (x.take i) ((AS (x.take i) []).length+50)=.free:=by
    rw[hP];unfold JL;rw[A4 (Al _)]
   refine QV (e:=41) (m:=8) (es2:=[Ag x[i]]) rfl rfl rfl (fun _ h=>h) hr rfl ⟨rfl,trivial⟩ (by show 1*120≤_;omega) (by show 1≤_;omega) ?_;refine Yi (Ja ⟨A3 _,A3 _,A3 _,A3 _,A3 _,A3 _,A3 _,A3 _,A3 _,A3 _,Ei (show 39<10000000 by decide),Ei (by show _+50<10000000;omega),Ei (show 9<10000000 by decide),trivial⟩ (by kernel_rfl)) ?_;have e9:E7 (RW (x.take i)) (.string x[i].path) (.slice (.id ((AS (x.take i) []).length+50) 9) [Ag x[i]])=RW (x.take (i+1)):=by rw[KJ];exact kp oE
   have hG:∀l,(bif Nat.beq (l+50) ((AS (x.take i) []).length+50)then HO.tok 9 1 else JL (x.take i) l)=JL (x.take (i+1)) l:=by rw[KJ];exact l8 oE
   refine Xi ⟨[(2,.ref 2 0),(4,.ref 4 0),(18,sl Ag x),(19,vi (x.map Ag).length),(20,vi i)],[(2,.cells zT),(4,.cells [.mref 8,.mref 9]),(8,.map Ut ((x.take (i+1)).map TL)),(9,.mapU CZ (RW (x.take (i+1))))],Vk (x.take (i+1))⟩ (Yi ?_ ?_)
   ·refine⟨Z5,⟨Zr,Zr,Zr,⟨Ac (HO.mapU CZ) e9,Lj _ (HQ _)⟩,Tv⟩,Jw (fun l=>?_),Tv⟩;show(bif Nat.beq (l+50) ((AS (x.take i) []).length+50)then HO.tok 9 1 else Vk (x.take i) (l+50))=_;rw[hP];exact hG l
   refine Xi 0 ?_;refine Yi (Ii i (by omega)) ?_;refine Xi ⟨i+1,by omega⟩ ?_;exact⟨Dl x.length i (by omega),Z5,⟨Zr,Zr,Zr,⟨rfl,Lj _ (HQ _)⟩,Tv⟩,Jw (HQ _),Tv⟩
 ·intro h;have h:¬(i:Int)<(x.map Ag).length:=h;have h:¬i<x.length:=by simpa using h
  have et:x.take i=x:=Aw (by omega);refine Xi ⟨[(2,.ref 2 0),(4,.ref 4 0)],[(2,.cells zT),(4,.cells [.mref 8,.mref 9]),(8,.map Ut ((x.take i).map TL)),(9,.mapU CZ (RW (x.take i)))],Vk (x.take i)⟩ (Yi ?_ ?_)
  ·exact⟨Z2,⟨Zr,Zr,Zr,⟨rfl,Lj _ (HQ _)⟩,Tv⟩,Jw (HQ _),Tv⟩
  refine Xi 0 ?_;refine Yi (Nz rfl) ?_;refine Yi (Nz rfl) ?_;refine Yi (Nz rfl) ?_;have es:∀h:Nat→HO,RQ h (RW (x.take i))=(AS x []).map (jO x):=fun h=>by
   rw[et];unfold RQ RW;rw[BQ];refine Dj fun j=>?_;rw[AI,AI,List.getElem?_zipIdx];cases (AS x [])[j]?<;>rfl
  have e1:(x.take i).map TL=x.map TL:=by rw[et]
  exact .of_eq (show AV.tup [.agg [.cmap Ut ((x.take i).map TL),.cmap CZ (RQ _ (RW (x.take i)))],vi 0]=_ by rw[e1,es])
end
theorem c84(x:List Rl)(ifs:List (List AV))(hx:∀r∈x,JM r):dW x ifs:=by
 by_cases h0:AQ x=0
 ·exact nN x ifs (jG SH x ifs hx) h0 (NY h0).1
 ·exact kd x ifs (jG SH x ifs hx) h0
abbrev xM(n:Nat):RE:=⟨[],[(2,n)],[],[],[],[],[5],[],[],[],[2,3]⟩
theorem qL(l:List Sl)(hl:Cp l):A6 Tryz.prog 66 [sl Ad l] (Ak [] Aa) fun r h'=>r=.slice (.id 2000 4) (l.map Ad)∧h'=Ak [(2000,.tok 4 (l.map Ad).length)] Aa:=by
 refine BW (Lg (xM 4)) [(2,2000)] rfl Cw hm rfl Tryz.func66 (by kernel_rfl) rfl (Nz rfl) (by kernel_rfl) rfl ?_;have Gv:CQ 4 (l.map Ad)∧([]:List (List AV)).length=0∧(([]:List (List AV)).length+(l.map Ad).length)*40≤140737488355328∧([]:List (List AV)).length+(l.map Ad).length≤9223372036854775807:=by
  refine⟨Fz (enc:=Ad) (n:=4) (fun _=>rfl) l,rfl,?_,?_⟩<;>simp only[AJ,Lm]<;>unfold Cp at hl<;>omega
 have e2:HO.tok 4 (([]:List (List AV)).length+(l.map Ad).length)=.tok 4 (l.map Ad).length:=by rw[AJ,Bl]
 have e3:AV.slice (.id 2000 4) ([]++l.map Ad)=.slice (.id 2000 4) (l.map Ad):=rfl;refine Xi 0 ?_;refine Xi 0 ?_;refine Yi ?_ ?_
 ·intro _;refine Xi ⟨[(0,sl Ad l)],[],Aa⟩ (Yi ⟨Z1,Tv,Fh,AB (by kernel_rfl)⟩ ?_)
  refine Xi 2 ?_;refine Yi Gv ?_;exact Xi _ (Yi (.refl _) (Yi e3 (Ac (fun o=>Ak [(2000,o)] Aa) e2)))
 ·intro h;have h:l.map Ad=[]:=h;refine Yi ?_ ?_
  ·refine Xi ⟨[],[],Aa⟩ (Yi ⟨trivial,trivial,fun _=>.inl rfl,AB (by kernel_rfl)⟩ ?_)
   refine Xi 0 ?_;exact Xi _ (Yi (.refl _) (Yi (show AV.slice (.id 2000 4) []=_ by rw[h]) (show Ak [(2000,HO.tok 4 0)] Aa=_ by rw[h];rfl)))
  ·refine Xi ⟨[(0,sl Ad l)],[],Aa⟩ (Yi ⟨Z1,Tv,Fh,AB (by kernel_rfl)⟩ ?_)
   refine Xi 2 ?_;refine Yi Gv ?_;exact Xi _ (Yi (.refl _) (Yi e3 (Ac (fun o=>Ak [(2000,o)] Aa) e2)))
def My(q:Rq):Bool:=decide (q.path.size≤100)&&decide (q.set.length≤8)
def Gt(l:List Rq):Bool:=l.all My&&decide (l.length≤20)
theorem y8(l:List Rq)(hl:Cp l):PC 34 [sl AF l] (vb (Gt l)):=by
 unfold Cp at hl;refine Ps E4 Tryz.func34 rfl (Nz rfl) ?_;refine Xi {i:Nat // i≤l.length∧∀j (hj:j<l.length),j<i→My l[j]=true} (Xi (fun i=>⟨[(0,sl AF l),(3,vi i.1)],[],Aa⟩) (Xi (fun i=>l.length-i.1) (Yi (Xi ⟨0,AD _,fun j _ h=>by omega⟩ ?_) ?_)))
 ·exact⟨Z2,Tv,Fh,Tv⟩
 intro⟨i,h1,h2⟩;refine Yi ?_ ?_
 ·intro h;have h:(i:Int)<(l.map AF).length:=h;have h:i<l.length:=by simpa using h
  have hg:l[i]?=some l[i]:=Ge h;have no:My l[i]=false→false=Gt l:=fun e=>by
   unfold Gt
   have:l.all My=false:=by
    rw[AK];intro ha
    have:=AY.1 ha _ (At h)
    rw[e]at this;cases this
   rw[this];rfl
  refine Xi (AF l[i]) (Yi (Yi (Nn i) (by simp[hg])) (Yi rfl ?_));refine Yi ?_ ?_
  ·intro h3;have h3:(100:Int)<((l[i].path.size:Nat):Int):=h3;exact .of_eq (Ac vb (no (by unfold My;rw[Ao (by omega)];rfl)))
  intro h3;have h3:¬(100:Int)<((l[i].path.size:Nat):Int):=h3;refine Xi (AF l[i]) (Yi (Yi (Nn i) (by simp[hg])) (Yi rfl ?_));refine Yi ?_ ?_
  ·intro h4;have h4:(8:Int)<((l[i].set.map Af).length:Int):=h4;rw[Lm]at h4;exact .of_eq (Ac vb (no (by unfold My;rw[Ao (by omega:¬l[i].set.length≤8),Di])))
  intro h4;have h4:¬(8:Int)<((l[i].set.map Af).length:Int):=h4;have h5:l[i].set.length≤8:=by rw[Lm]at h4;omega
  refine Yi (Ii i (by omega)) ?_;refine Xi ⟨i+1,by omega,fun j hj Je=>?_⟩ ?_
  ·rcases B7 j i with z | z
   ·exact h2 j hj z
   ·have:j=i:=by omega
    subst this;unfold My;rw[Ar (by omega),Ar h5];rfl
  ·exact⟨Dl l.length i (by omega),Z2,Tv,Fh,Tv⟩
 ·intro h;have h:¬(i:Int)<(l.map AF).length:=h;have h:¬i<l.length:=by simpa using h
  have ha:l.all My=true:=AY.2 fun q hq=>by
   obtain⟨j,hj,rfl⟩:=BU hq;exact h2 j hj (by omega)
  refine Yi ?_ ?_
  ·intro h3;have h3:((l.map AF).length:Int)≤20:=h3;rw[Lm]at h3;exact .of_eq (Ac vb (show true=Gt l by unfold Gt;rw[ha,Ar (by omega)];rfl))
  ·intro h3;have h3:¬((l.map AF).length:Int)≤20:=h3;rw[Lm]at h3;exact .of_eq (Ac vb (show false=Gt l by unfold Gt;rw[Ao (by omega),Di]))
def IX(r:Rl):Bool:=decide (r.path.size≤100)&&decide (r.arch.size≤100)&&decide (r.ifc.size≤100)&&decide (r.cert.size≤100)&&Gt r.reqs
def Gp(x:List Rl)(n:Nat):Bool:=x.all IX&&decide (x.length≤n)
theorem c34(x:List Rl)(n:Nat)(hl:Cp x)(hr:∀r∈x,Cp r.reqs):PC 33 [sl Ag x,vi n] (vb (Gp x n)):=by
 unfold Cp at hl;refine Ps E4 Tryz.func33 rfl (Nz rfl) ?_;refine Xi {i:Nat // i≤x.length∧∀j (hj:j<x.length),j<i→IX x[j]=true} (Xi (fun i=>⟨[(0,sl Ag x),(1,vi n),(5,vi i.1)],[],Aa⟩) (Xi (fun i=>x.length-i.1) (Yi (Xi ⟨0,AD _,fun j _ h=>by omega⟩ ?_) ?_)))
 ·exact⟨Z3,Tv,Fh,Tv⟩
 intro⟨i,h1,h2⟩;refine Yi ?_ ?_
 ·intro h;have h:(i:Int)<(x.map Ag).length:=h;have h:i<x.length:=by simpa using h
  have hg:x[i]?=some x[i]:=Ge h;have no:IX x[i]=false→false=Gp x n:=fun e=>by
   unfold Gp
   have:x.all IX=false:=by
    rw[AK];intro ha
    have:=AY.1 ha _ (At h)
    rw[e]at this;cases this
   rw[this];rfl
  have hc:=y8 x[i].reqs (hr _ (At h));refine Xi (Ag x[i]) (Yi (Yi (Nn i) (by simp[hg])) (Yi rfl ?_));refine Yi ?_ ?_
  ·intro h3;have h3:(100:Int)<((x[i].path.size:Nat):Int):=h3;exact .of_eq (Ac vb (no (by unfold IX;rw[Ao (by omega:¬x[i].path.size≤100)];simp)))
  intro h3;have h3:¬(100:Int)<((x[i].path.size:Nat):Int):=h3;refine Xi (Ag x[i]) (Yi (Yi (Nn i) (by simp[hg])) (Yi rfl ?_));refine Yi ?_ ?_
  ·intro h4;have h4:(100:Int)<((x[i].arch.size:Nat):Int):=h4;exact .of_eq (Ac vb (no (by unfold IX;rw[Ao (by omega:¬x[i].arch.size≤100)];simp)))
  intro h4;have h4:¬(100:Int)<((x[i].arch.size:Nat):Int):=h4;refine Xi (Ag x[i]) (Yi (Yi (Nn i) (by simp[hg])) (Yi rfl ?_));refine Yi ?_ ?_
  ·intro h5;have h5:(100:Int)<((x[i].ifc.size:Nat):Int):=h5;exact .of_eq (Ac vb (no (by unfold IX;rw[Ao (by omega:¬x[i].ifc.size≤100)];simp)))
  intro h5;have h5:¬(100:Int)<((x[i].ifc.size:Nat):Int):=h5;refine Xi (Ag x[i]) (Yi (Yi (Nn i) (by simp[hg])) (Yi rfl ?_));refine Yi ?_ ?_
  ·intro h6;have h6:(100:Int)<((x[i].cert.size:Nat):Int):=h6;exact .of_eq (Ac vb (no (by unfold IX;rw[Ao (by omega:¬x[i].cert.size≤100)];simp)))
  intro h6;have h6:¬(100:Int)<((x[i].cert.size:Nat):Int):=h6;refine Xi (Ag x[i]) (Yi (Yi (Nn i) (by simp[hg])) (Yi rfl ?_));refine BT (Bt (Gt x[i].reqs)) (fun e=>?_) (fun e=>?_)
  rotate_left
  ·rw[e]at hc;refine Xi .pure (Xi _ (Yi (hc) ?_));exact .of_eq (Ac vb (no (by unfold IX;rw[e,Di])))
  rw[e]at hc;refine Xi .pure (Xi _ (Yi (hc) ?_));refine Yi (Ii i (by omega)) ?_;refine Xi ⟨i+1,by omega,fun j hj Je=>?_⟩ ?_
  ·rcases B7 j i with z | z
   ·exact h2 j hj z
   ·have:j=i:=by omega
    subst this;unfold IX;rw[Ar (by omega:x[j].path.size≤100),Ar (by omega:x[j].arch.size≤100),Ar (by omega:x[j].ifc.size≤100),Ar (by omega:x[j].cert.size≤100),e];rfl
  ·exact⟨Dl x.length i (by omega),Z3,Tv,Fh,Tv⟩
 ·intro h;have h:¬(i:Int)<(x.map Ag).length:=h;have h:¬i<x.length:=by simpa using h
  have ha:x.all IX=true:=AY.2 fun q hq=>by
   obtain⟨j,hj,rfl⟩:=BU hq;exact h2 j hj (by omega)
  refine Yi ?_ ?_
  ·intro h3;have h3:((x.map Ag).length:Int)≤n:=h3;rw[Lm]at h3;exact .of_eq (Ac vb (show true=Gp x n by unfold Gp;rw[ha,Ar (by omega)];rfl))
  ·intro h3;have h3:¬((x.map Ag).length:Int)≤n:=h3;rw[Lm]at h3;exact .of_eq (Ac vb (show false=Gp x n by unfold Gp;rw[Ao (by omega),Di]))
theorem c11(x:List Rl)(ifs:List (List AV))(roots:List Rq)(hl:Cp x)(hr:∀r∈x,Cp r.reqs)(hq:Cp roots):PC 10 [EV x ifs,sl AF roots] (vb (Gp x 16&&Gt roots)):=by
 have h1:=c34 x 16 hl hr;have h2:=y8 roots hq;cases e:Gp x 16 with
 |true =>
  rw[e]at h1;refine Ps E4 Tryz.func10 rfl (Nz rfl) ?_;refine Xi .pure (Xi _ (Yi (h1) ?_));refine Xi .pure (Xi _ (Yi (h2) ?_));exact .refl _
 |false =>
  rw[e]at h1;refine Ps E4 Tryz.func10 rfl (Nz rfl) ?_;refine Xi .pure (Xi _ (Yi (h1) ?_));exact .refl _
structure jF(x:List Rl)(roots:List Rq):Prop where
 ix:Cp x
 rs:Cp roots
 rel:∀r∈x,Cp r.reqs∧JM r
 rq:∀q∈roots,NE q
theorem jF.x{x:List Rl}{roots:List Rq}(h:jF x roots):∀r∈x,JM r:=fun r hr=>(h.rel r hr).2
theorem jF.c84{x:List Rl}{roots:List Rq}(h:jF x roots)(ifs:List (List AV)):dW x ifs:=Go.Eng.c84 x ifs h.x
theorem jF.c11{x:List Rl}{roots:List Rq}(h:jF x roots)(ifs:List (List AV)):PC 10 [EV x ifs,sl AF roots] (vb (Gp x 16&&Gt roots)) :=
 Go.Eng.c11 x ifs roots h.ix (fun r hr=>(h.rel r hr).1) h.rs
end Go.Eng
namespace Go.Proofs
open Go.Shelf
def Tryz.laySortStr_ren:Go.Shelf.Ren:=⟨fun | 190=>76 | 125=>98 | 258=>108 | 128=>137 | 129=>138 | 302=>148 | 303=>149 | 304=>150 | 305=>151 | 306=>152 | 307=>153 | 308=>154 | 309=>155 | 310=>156 | 333=>197 | 329=>186 | 330=>187 | 334=>198 | 335=>199 | 336=>113 | 344=>226 | n=>n,fun | 31=>139 | 9=>9 | 3=>3 | 46=>174 | 0=>0 | 51=>211 | 53=>213 | 4=>4 | 183=>205 | 182=>204 | 131=>110 | 5=>5 | 218=>245 | 222=>249 | 228=>274 | 229=>275 | n=>n,fun | n=>n⟩
theorem Tryz.laySortStr:Go.Proofs.Lays.n190 Tryz.prog Tryz.laySortStr_ren:={
 mixed:=by kernel_rfl
 f125:=Tryz.func98.trans (congrArg some (by kernel_rfl))
 f128:=Tryz.func137.trans (congrArg some (by kernel_rfl))
 f129:=Tryz.func138.trans (congrArg some (by kernel_rfl))
 f190:=Tryz.func76.trans (congrArg some (by kernel_rfl))
 f258:=Tryz.func108.trans (congrArg some (by kernel_rfl))
 f302:=Tryz.func148.trans (congrArg some (by kernel_rfl))
 f303:=Tryz.func149.trans (congrArg some (by kernel_rfl))
 f304:=Tryz.func150.trans (congrArg some (by kernel_rfl))
 f305:=Tryz.func151.trans (congrArg some (by kernel_rfl))
 f306:=Tryz.func152.trans (congrArg some (by kernel_rfl))
 f307:=Tryz.func153.trans (congrArg some (by kernel_rfl))
 f308:=Tryz.func154.trans (congrArg some (by kernel_rfl))
 f309:=Tryz.func155.trans (congrArg some (by kernel_rfl))
 f310:=Tryz.func156.trans (congrArg some (by kernel_rfl))
 f329:=Tryz.func186.trans (congrArg some (by kernel_rfl))
 f330:=Tryz.func187.trans (congrArg some (by kernel_rfl))
 f333:=Tryz.func197.trans (congrArg some (by kernel_rfl))
 f334:=Tryz.func198.trans (congrArg some (by kernel_rfl))
 f335:=Tryz.func199.trans (congrArg some (by kernel_rfl))
 f336:=Tryz.func113.trans (congrArg some (by kernel_rfl))
 f344:=Tryz.func226.trans (congrArg some (by kernel_rfl))
 t0:=Tryz.underlying0
 a0:=Tryz.isAgg0
 z0:=Tryz.sizeOf0
 v0:=Tryz.zeroValue0
 t3:=Tryz.underlying3
 a3:=Tryz.isAgg3
 z3:=Tryz.sizeOf3
 v3:=Tryz.zeroValue3
 t4:=Tryz.underlying4
 a4:=Tryz.isAgg4
 z4:=Tryz.sizeOf4
 v4:=Tryz.zeroValue4
 t5:=Tryz.underlying5
 a5:=Tryz.isAgg5
 z5:=Tryz.sizeOf5
 v5:=Tryz.zeroValue5
 t9:=Tryz.underlying9
 a9:=Tryz.isAgg9
 z9:=Tryz.sizeOf9
 v9:=Tryz.zeroValue9
 t31:=Tryz.underlying139
 a31:=Tryz.isAgg139
 z31:=Tryz.sizeOf139
 v31:=Tryz.zeroValue139
 t46:=Tryz.underlying174
 a46:=Tryz.isAgg174
 z46:=Tryz.sizeOf174
 v46:=Tryz.zeroValue174
 t51:=Tryz.underlying211
 a51:=Tryz.isAgg211
 z51:=Tryz.sizeOf211
 v51:=Tryz.zeroValue211
 t53:=Tryz.underlying213
 a53:=Tryz.isAgg213
 z53:=Tryz.sizeOf213
 v53:=Tryz.zeroValue213
 t131:=Tryz.underlying110
 a131:=Tryz.isAgg110
 z131:=Tryz.sizeOf110
 v131:=Tryz.zeroValue110
 t182:=Tryz.underlying204
 a182:=Tryz.isAgg204
 z182:=Tryz.sizeOf204
 v182:=Tryz.zeroValue204
 t183:=Tryz.underlying205
 a183:=Tryz.isAgg205
 z183:=Tryz.sizeOf205
 v183:=Tryz.zeroValue205
 t218:=Tryz.underlying245
 a218:=Tryz.isAgg245
 z218:=Tryz.sizeOf245
 v218:=Tryz.zeroValue245
 t222:=Tryz.underlying249
 a222:=Tryz.isAgg249
 z222:=Tryz.sizeOf249
 v222:=Tryz.zeroValue249
 t228:=Tryz.underlying274
 a228:=Tryz.isAgg274
 z228:=Tryz.sizeOf274
 v228:=Tryz.zeroValue274
 t229:=Tryz.underlying275
 a229:=Tryz.isAgg275
 z229:=Tryz.sizeOf275
 v229:=Tryz.zeroValue275 }
def Tryz.layCompactStr_ren:Go.Shelf.Ren:=⟨fun | 194=>78 | n=>n,fun | 31=>139 | 9=>9 | 3=>3 | 4=>4 | 0=>0 | n=>n,fun | n=>n⟩
theorem Tryz.layCompactStr:Go.Proofs.Lays.n194 Tryz.prog Tryz.layCompactStr_ren:={
 mixed:=by kernel_rfl
 f194:=Tryz.func78.trans (congrArg some (by kernel_rfl))
 t0:=Tryz.underlying0
 a0:=Tryz.isAgg0
 z0:=Tryz.sizeOf0
 v0:=Tryz.zeroValue0
 t3:=Tryz.underlying3
 a3:=Tryz.isAgg3
 z3:=Tryz.sizeOf3
 v3:=Tryz.zeroValue3
 t4:=Tryz.underlying4
 a4:=Tryz.isAgg4
 z4:=Tryz.sizeOf4
 v4:=Tryz.zeroValue4
 t9:=Tryz.underlying9
 a9:=Tryz.isAgg9
 z9:=Tryz.sizeOf9
 v9:=Tryz.zeroValue9
 t31:=Tryz.underlying139
 a31:=Tryz.isAgg139
 z31:=Tryz.sizeOf139
 v31:=Tryz.zeroValue139 }
end Go.Proofs
namespace Go.Eng
open Go.Proofs Go.Shelf Go.RowKit Go.Lib Go.Sort
abbrev QX(s:ByteArray):List UInt8:=s.data.toList
abbrev aC(l:List UInt8):ByteArray:=⟨l.toArray⟩
theorem j9(s:ByteArray):aC (QX s)=s:=by cases s;simp
theorem ML(zs:List (List UInt8)):((zs.map aC).map Dr).flatten=(zs.map Go.Proofs.encStr).map AV.v:=by
 induction zs with
 |nil=>rfl
 |cons z zs ih=>rw[AP,AP,BC,ih];rfl
theorem Wt(ss:List ByteArray):(ss.map QX).map aC=ss:=by
 rw[BQ,show aC ∘ QX=id from funext j9,JU]
theorem xG(ss t:List ByteArray)(hl:Cp ss)(DF:ss≠[])(hp:t.Perm ss)(ht:(t.map QX).Pairwise fun a b=>a≤b) :
  A6 Tryz.prog 76 [.msl 1000 ss.length] (Ak [(1000,.arr 1 (ss.map Dr))] Aa) fun r h'=>r=.tup []∧h'=Ak [(1000,.arr 1 (t.map Dr))] Aa:=by
 have hl:ss.length≤1073741824:=hl;have hE:Gk Tryz.prog 76:=dZ 76 Tryz.func76 (by kernel_rfl) rfl;obtain⟨zs,hz⟩:∃zs,zs=ss.map QX:=⟨_,rfl⟩;have Eh:ss=zs.map aC:=by rw[hz,Wt]
 have Hq:=PP (P:=Tryz.prog) (f:=76) (es:=ss.map Dr) (sz:=1) (rest:=[]) (Q:=fun FO=>FO=t.map Dr) hE ?_ ?_
 ·rw[Lm]at Hq;refine⟨hE,fun g w vals q1 q2 q3=>(Hq.2 g w vals q1 q2 q3).mono fun _ _ ⟨v,r,h',g',e1,⟨e2,FO,p1,p3⟩,rest⟩=>⟨v,r,h',g',e1,⟨e2,by rw[p3,p1]⟩,rest⟩⟩
 ·intro e;exact absurd (Ed.1 e) DF
 ·intro g w b cap F hr hF hH hb;have re:F.toList=zs.map Go.Proofs.encStr:=Lr (by rw[←ML,←Eh];exact hr);have gu:F=zs.toArray.map Go.Proofs.encStr:=IN.1 (by rw[re];simp);have M9:zs.length=ss.length:=by rw[hz,Lm]
  have rf:Holds Go.Proofs.encStr w b 0 zs.toArray:=fun j hj=>by
   have:=hH j (by rw[gu];simpa using hj)
   refine⟨this.1.trans ?_,this.2⟩;rw[gu,DE _ j (by simpa using hj),DE _ j hj];simp
  have hc:=Any.slices_Sort_string Tryz.laySortStr b 0 cap zs w rf hb (by omega);have htz:(zs.mergeSort fun x y=>decide (x≤y))=t.map QX:=by
   have I3:(zs.mergeSort fun x y=>decide (x≤y)).Perm zs:=List.mergeSort_perm _ _;have sn:=List.pairwise_mergeSort (le:=fun x y:List UInt8=>decide (x≤y)) (fun a b c h1 h2=>by simp only[Au]at *;exact List.le_trans h1 h2) (fun a b=>by simp only[Cj,Au];exact List.le_total a b) zs;refine List.Perm.eq_of_pairwise (le:=fun a b=>a≤b) (fun a b _ _ h k=>List.le_antisymm h k) (sn.imp fun h=>A5 h) ht (I3.trans ?_);rw[hz];exact(hp.map QX).symm
  rw[htz,M9]at hc;rw[Lm];refine hc.mono ?_
  rintro e w' ⟨rfl,n,os,rfl⟩
  have DB:t.length=ss.length:=hp.length_eq;refine⟨rfl,(t.map QX).toArray.map Go.Proofs.encStr,t.map Dr,n,os,?_,rfl,by simp[DB],fun cs hcs=>?_,fun g w _=>?_,by rw[Qs]⟩
  ·rw[gu];simp[DB,M9]
  ·obtain⟨x,_,rfl⟩:=Am.1 hcs;rfl
  ·have e1:t.map Dr=((t.map QX).map aC).map Dr:=by rw[Wt]
   rw[e1,ML];have e:(((t.map QX).toArray.map Go.Proofs.encStr).toList)=(t.map QX).map Go.Proofs.encStr:=by simp
   rw[e];exact M3 _ _ _ _ fun x hx=>by
    obtain⟨z,_,rfl⟩:=Am.1 hx;rfl
def B1(ss:List ByteArray):List ByteArray:=(Lib.compact (ss.map QX)).map aC
theorem QZ(zs:List (List UInt8)):(Lib.compact zs).length≤zs.length:=by
 unfold Lib.compact Lib.compactUpTo;rw[Lm];exact Bx (Bv _ _) (by rw[QS];exact Al _)
theorem xH(ss:List ByteArray)(hl:Cp ss)(DF:ss≠[]) :
  A6 Tryz.prog 78 [.msl 1000 ss.length] (Ak [(1000,.arr 1 (ss.map Dr))] Aa) fun r h'=>r=.msl 2000 (B1 ss).length∧h'=Ak [(1000,.dead),(2000,.arr 1 ((B1 ss).map Dr))] Aa:=by
 have hl:ss.length≤1073741824:=hl;have hE:Gk Tryz.prog 78:=dZ 78 Tryz.func78 (by kernel_rfl) rfl;obtain⟨zs,hz⟩:∃zs,zs=ss.map QX:=⟨_,rfl⟩;have Eh:ss=zs.map aC:=by rw[hz,Wt]
 have M9:zs.length=ss.length:=by rw[hz,Lm]
 have hcl:=QZ zs;have Hq:=UU (P:=Tryz.prog) (f:=78) (es:=ss.map Dr) (sz:=1) (rest:=[]) (n':=(Lib.compact zs).length) (Q:=fun FO=>FO=((Lib.compact zs++List.replicate (zs.length-(Lib.compact zs).length) []).map aC).map Dr) hE (fun e=>DF (Ed.1 e)) (by rw[Lm];omega) ?_
 ·rw[Lm]at Hq;have ez:B1 ss=(Lib.compact zs).map aC:=by unfold B1;rw[hz]
  refine⟨hE,fun g w vals q1 q2 q3=>(Hq.2 g w vals q1 q2 q3).mono fun _ _ ⟨x,r,h',g',e1,⟨e2,FO,p1,p2⟩,rest⟩=>⟨x,r,h',g',e1,⟨by rw[e2,ez,Lm],by
   rw[p2,p1,ez,Ay,Ay,Hj (by rw[Lm,Lm];exact Al _),Aw (by rw[Lm,Lm];exact Al _)]⟩,rest⟩⟩
 ·intro g w b cap F hr hF hH hb hc;rw[Lm]at hF hc⊢;have re:F.toList=zs.map Go.Proofs.encStr:=Lr (by rw[←ML,←Eh];exact hr);have gu:F=zs.toArray.map Go.Proofs.encStr:=IN.1 (by rw[re];simp);have rf:Holds Go.Proofs.encStr w b 0 zs.toArray:=fun j hj=>by
   have:=hH j (by rw[gu];simpa using hj)
   refine⟨this.1.trans ?_,this.2⟩;rw[gu,DE _ j (by simpa using hj),DE _ j hj];simp
  have hcon:=Any.slices_Compact_string Tryz.layCompactStr b 0 cap zs w rf (by omega) (by omega);rw[M9]at hcon;refine hcon.mono ?_
  rintro e w' ⟨rfl,q,rfl⟩
  refine⟨rfl,(Lib.compact zs++List.replicate (zs.length-(Lib.compact zs).length) []).toArray.map Go.Proofs.encStr,_,q,#[],?_,rfl,?_,fun cs hcs=>?_,fun g w _=>?_,?_⟩
  ·rw[gu];simp;omega
  ·simp;omega
  ·obtain⟨x,_,rfl⟩:=Am.1 hcs;rfl
  ·rw[ML];have e:((Lib.compact zs++List.replicate (zs.length-(Lib.compact zs).length) []).toArray.map Go.Proofs.encStr).toList=(Lib.compact zs++List.replicate (zs.length-(Lib.compact zs).length) []).map Go.Proofs.encStr:=by simp
   rw[e];exact M3 _ _ _ _ fun x hx=>by
    obtain⟨z,_,rfl⟩:=Am.1 hx;rfl
  ·rw[Qs,grow_empty,M9]
end Go.Eng
namespace Go.Eng
open Go.Proofs
abbrev xN(n:Nat):RE:=⟨[],[],[(2,n),(5,n)],[],[],[],[5],[],[],[],[2,3]⟩
theorem yH(l:List Sl)(hl:Cp l):A6 Tryz.prog 66 [sl Ad l] (Ak [] Aa) fun r h'=>r=.msl 2000 l.length∧h'=Ak [(2000,.arr 4 (l.map Ad))] Aa:=by
 refine BW (Lg (xN 4)) [(2,2000)] rfl Cw hm rfl Tryz.func66 (by kernel_rfl) rfl (Nz rfl) (by kernel_rfl) rfl ?_;have Gv:CQ 4 (l.map Ad)∧([]:List (List AV)).length=0∧(([]:List (List AV)).length+(l.map Ad).length)*40≤140737488355328∧([]:List (List AV)).length+(l.map Ad).length≤9223372036854775807:=by
  refine⟨Fz (enc:=Ad) (n:=4) (fun _=>rfl) l,rfl,?_,?_⟩<;>simp only[AJ,Lm]<;>unfold Cp at hl<;>omega
 have e1:AV.msl 2000 (([]:List (List AV)).length+(l.map Ad).length)=.msl 2000 l.length:=by simp
 refine Xi 0 ?_;refine Xi 0 ?_;refine Yi ?_ ?_
 ·intro _;refine Xi ⟨[(0,sl Ad l)],[],Aa⟩ (Yi ⟨Z1,Tv,Fh,AB (by kernel_rfl)⟩ ?_)
  refine Xi 2 ?_;refine Yi Gv ?_;exact Xi _ (Yi (.refl _) (Yi e1 rfl))
 ·intro h;have h:l.map Ad=[]:=h;refine Yi ?_ ?_
  ·refine Xi ⟨[],[],Aa⟩ (Yi ⟨trivial,trivial,fun _=>.inl rfl,AB (by kernel_rfl)⟩ ?_)
   refine Xi 2 ?_;exact Xi _ (Yi (.refl _) (Yi (show AV.msl 2000 0=_ by rw[Ed.1 h];rfl) (show Ak [(2000,HO.arr 4 [])] Aa=_ by rw[h])))
  ·refine Xi ⟨[(0,sl Ad l)],[],Aa⟩ (Yi ⟨Z1,Tv,Fh,AB (by kernel_rfl)⟩ ?_)
   refine Xi 2 ?_;refine Yi Gv ?_;exact Xi _ (Yi (.refl _) (Yi e1 rfl))
theorem A6.to2{P:Program}{f:Nat}{args:List AV}{h0:Nat→HO}{r0:AV}{H0:Nat→HO}{Q' : AV→(Nat→HO)→Prop}(h:A6 P f args h0 fun r h'=>r=r0∧h'=H0)(k:Q' r0 H0):A6 P f args h0 Q' :=
 h.mono fun r h' q=>⟨r,.refl _,by rw[q.1,q.2];exact k⟩
theorem cb{f:Nat}{args:List AV}{b x:Bool}(h:b=x)(hc:PC f args (vb b)):PC f args (vb x):=h▸hc
theorem JT{α:Type}{f:α→List AV}{l:List α}{i:Nat}(h:(i:Int)<((l.map f).length:Int)):i<l.length:=by rw[Lm]at h;omega
theorem JS{α:Type}{f:α→List AV}{l:List α}{i:Nat}(h:¬(i:Int)<((l.map f).length:Int)):¬i<l.length:=by rw[Lm]at h;omega
theorem Ns{α:Type}{f:α→List AV}{l:List α}{i:Nat}(h:i<l.length):(0:Int)≤(i:Int)∧(l.map f)[((i:Nat):Int).toNat]?=some (f l[i]):=⟨Int.natCast_nonneg _,by rw[Bj,AI,Ge h];rfl⟩
theorem Zi{n z:Nat}{α:Type}{f:α→List AV}{O:List α}{x:List AV}(hx:x.length=n)(h:O.length≤2147483647)(hz:z≤65536) :
  CQ n [x]∧(O.map f).length=O.length∧((O.map f).length+([x]:List (List AV)).length)*z≤140737488355328∧(O.map f).length+([x]:List (List AV)).length≤9223372036854775807:=by
 refine⟨⟨hx,trivial⟩,Lm _,?_,?_⟩<;>rw[Lm]<;>simp only[Az,AJ]
 ·have:=Nat.mul_le_mul (show O.length+(0+1)≤2147483648 by omega) hz
  omega
 ·omega
theorem tkA{α:Type}{f:α→List AV}{O:List α}{x:α}{r n:Nat}:AV.slice (.id r n) (O.map f++[f x])=.slice (.id r n) ((O++[x]).map f):=by rw[Ay];rfl
theorem hkA{α:Type}{f:α→List AV}{O:List α}{x:α}{y:List AV}{n:Nat}:HO.tok n ((O.map f).length+([y]:List (List AV)).length)=.tok n (O++[x]).length:=by rw[Ae,Lm];rfl
theorem nM(c:UInt8):PC 246 [vc c] (vb (EG c)):=by
 refine Ps E4 Tryz.func246 rfl (Nz rfl) ?_;have e1:decide ((97:UInt8)≤c)=decide ((97:Int)≤(c.toNat:Int)):=VW c 97 (by decide);have e2:decide (c≤(122:UInt8))=decide ((c.toNat:Int)≤(122:Int)):=VV c 122 (by decide);have es:EG c=(decide ((97:Int)≤(c.toNat:Int))&&decide ((c.toNat:Int)≤(122:Int))):=by unfold EG;rw[e1,e2]
 refine Yi ?_ ?_
 ·intro h;have h:(97:Int)≤(c.toNat:Int):=h;refine Yi ?_ ?_
  ·intro h2;have h2:(c.toNat:Int)≤122:=h2;exact .of_eq (Ac vb (show true=EG c by rw[es,Ar h,Ar h2];rfl))
  ·intro h2;have h2:¬(c.toNat:Int)≤122:=h2;exact .of_eq (Ac vb (show false=EG c by rw[es,Ao h2,Di]))
 ·intro h;have h:¬(97:Int)≤(c.toNat:Int):=h;exact .of_eq (Ac vb (show false=EG c by rw[es,Ao h];rfl))
theorem kc(c:UInt8):PC 247 [vc c] (vb (CA c)):=by
 refine Ps E4 Tryz.func247 rfl (Nz rfl) ?_;have e1:decide ((48:UInt8)≤c)=decide ((48:Int)≤(c.toNat:Int)):=VW c 48 (by decide);have e2:decide (c≤(57:UInt8))=decide ((c.toNat:Int)≤(57:Int)):=VV c 57 (by decide);have es:CA c=(decide ((48:Int)≤(c.toNat:Int))&&decide ((c.toNat:Int)≤(57:Int))):=by unfold CA;rw[e1,e2]
 refine Yi ?_ ?_
 ·intro h;have h:(48:Int)≤(c.toNat:Int):=h;refine Yi ?_ ?_
  ·intro h2;have h2:(c.toNat:Int)≤57:=h2;exact .of_eq (Ac vb (show true=CA c by rw[es,Ar h,Ar h2];rfl))
  ·intro h2;have h2:¬(c.toNat:Int)≤57:=h2;exact .of_eq (Ac vb (show false=CA c by rw[es,Ao h2,Di]))
 ·intro h;have h:¬(48:Int)≤(c.toNat:Int):=h;exact .of_eq (Ac vb (show false=CA c by rw[es,Ao h];rfl))
theorem vX(c:UInt8):PC 296 [vc c] (vb (LX c)):=by
 refine Ps E4 Tryz.func296 rfl (Nz rfl) ?_;have e1:decide ((65:UInt8)≤c)=decide ((65:Int)≤(c.toNat:Int)):=VW c 65 (by decide);have e2:decide (c≤(90:UInt8))=decide ((c.toNat:Int)≤(90:Int)):=VV c 90 (by decide);have es:LX c=(decide ((65:Int)≤(c.toNat:Int))&&decide ((c.toNat:Int)≤(90:Int))):=by unfold LX;rw[e1,e2]
 refine Yi ?_ ?_
 ·intro h;have h:(65:Int)≤(c.toNat:Int):=h;refine Yi ?_ ?_
  ·intro h2;have h2:(c.toNat:Int)≤90:=h2;exact .of_eq (Ac vb (show true=LX c by rw[es,Ar h,Ar h2];rfl))
  ·intro h2;have h2:¬(c.toNat:Int)≤90:=h2;exact .of_eq (Ac vb (show false=LX c by rw[es,Ao h2,Di]))
 ·intro h;have h:¬(65:Int)≤(c.toNat:Int):=h;exact .of_eq (Ac vb (show false=LX c by rw[es,Ao h];rfl))
theorem vW(c:UInt8):PC 289 [vc c] (vb (FZ c)):=by
 have h1:=nM c;have h2:=vX c;have h3:=kc c;have ew:FZ c=(EG c||LX c||CA c||decide (c=95)):=rfl;rcases Bt (EG c)with e | e
 ·rw[e]at h1;refine Ps E4 Tryz.func289 rfl (Nz rfl) ?_;refine Xi .pure (Xi _ (Yi (h1) ?_));exact .of_eq (Ac vb (show true=FZ c by rw[ew,e];rfl))
 rw[e]at h1;rcases Bt (LX c)with e2 | e2
 ·rw[e2]at h2;refine Ps E4 Tryz.func289 rfl (Nz rfl) ?_;refine Xi .pure (Xi _ (Yi (h1) ?_));refine Xi .pure (Xi _ (Yi (h2) ?_));exact .of_eq (Ac vb (show true=FZ c by rw[ew,e,e2];rfl))
 rw[e2]at h2;rcases Bt (CA c)with e3 | e3
 ·rw[e3]at h3;refine Ps E4 Tryz.func289 rfl (Nz rfl) ?_;refine Xi .pure (Xi _ (Yi (h1) ?_));refine Xi .pure (Xi _ (Yi (h2) ?_));refine Xi .pure (Xi _ (Yi (h3) ?_));exact .of_eq (Ac vb (show true=FZ c by rw[ew,e,e2,e3];rfl))
 rw[e3]at h3;refine Ps E4 Tryz.func289 rfl (Nz rfl) ?_;refine Xi .pure (Xi _ (Yi (h1) ?_));refine Xi .pure (Xi _ (Yi (h2) ?_));refine Xi .pure (Xi _ (Yi (h3) ?_));have eb:decide (c=95)=decide ((c.toNat:Int)=95):=by
  rw[BR,Au,Au];constructor
  ·intro h;subst h;rfl
  ·intro h;exact Gy.1 (by show c.toNat=95;omega)
 refine Yi ?_ ?_
 ·intro h;have h:(c.toNat:Int)=95:=h;exact .of_eq (Ac vb (show true=FZ c by rw[ew,e,e2,e3,eb,Ar h];rfl))
 ·intro h;have h:¬(c.toNat:Int)=95:=h;exact .of_eq (Ac vb (show false=FZ c by rw[ew,e,e2,e3,eb,Ao h];rfl))
theorem vT(s:ByteArray)(hs:s.data.toList.length<4611686018427387904):PC 268 [vs s] (vb (s.data.toList.all FZ)):=by
 have Eh:s.size=s.data.toList.length:=by simp
 refine Ps E4 Tryz.func268 rfl (Nz rfl) ?_;refine Xi {i:Nat // i≤s.data.toList.length∧∀j (hj:j<s.data.toList.length),j<i→FZ s.data.toList[j]=true} (Xi (fun i=>⟨[(0,vs s),(3,vi i.1)],[],Aa⟩) (Xi (fun i=>s.data.toList.length-i.1) (Yi (Xi ⟨0,AD _,fun j _ h=>by omega⟩ ?_) ?_)))
 ·exact⟨Z2,Tv,Fh,Tv⟩
 intro⟨i,h1,h2⟩;refine Yi ?_ ?_
 ·intro h;have h:(i:Int)<(s.size:Nat):=h;have h:i<s.data.toList.length:=by omega
  refine Xi s.data.toList[i] (Yi ⟨by show(0:Int)≤i;omega,by show s.data[((i:Nat):Int).toNat]?=_;rw[Bj];exact MF s i h⟩ ?_);have hc:=vW s.data.toList[i];refine BT (Bt (FZ s.data.toList[i])) (fun e=>?_) (fun e=>?_)
  ·rw[e]at hc;refine Xi .pure (Xi _ (Yi (hc) ?_));refine Yi (Ii i (by omega)) ?_;refine Xi ⟨i+1,by omega,fun j hj Je=>?_⟩ ?_
   ·rcases B7 j i with z | z
    ·exact h2 j hj z
    ·have:j=i:=by omega
     subst this;exact e
   ·exact⟨Dl s.data.toList.length i (by omega),Z2,Tv,Fh,Tv⟩
  ·rw[e]at hc;refine Xi .pure (Xi _ (Yi (hc) ?_));have er:s.data.toList.all FZ=false:=by
    rw[AK];intro ha
    have:=AY.1 ha _ (At h)
    rw[e]at this;cases this
   exact .of_eq (Ac vb er.symm)
 ·intro h;have h:¬(i:Int)<(s.size:Nat):=h;have er:s.data.toList.all FZ=true:=AY.2 fun c hc=>by
   obtain⟨j,hj,rfl⟩:=BU hc;exact h2 j hj (by omega)
  exact .of_eq (Ac vb er.symm)
abbrev ut:List ByteArray:=oV.map bs
theorem vV:PC 270 [] (sl Dr ut):=by
 refine Ps E4 Tryz.func270 rfl (Nz rfl) ?_;exact .refl _
theorem vU(l:List ByteArray)(s:ByteArray)(hl:Cp l):PC 269 [sl Dr l,vs s] (vb (l.any fun q=>decide (q=s))):=by
 unfold Cp at hl;refine Ps E4 Tryz.func269 rfl (Nz rfl) ?_;refine Xi {i:Nat // i≤l.length∧∀j (hj:j<l.length),j<i→l[j]≠s} (Xi (fun i=>⟨[(0,sl Dr l),(1,vs s),(5,vi i.1)],[],Aa⟩) (Xi (fun i=>l.length-i.1) (Yi (Xi ⟨0,AD _,fun j _ h=>by omega⟩ ?_) ?_)))
 ·exact⟨Z3,Tv,Fh,Tv⟩
 intro⟨i,h1,h2⟩;refine Yi ?_ ?_
 ·intro h;have h:(i:Int)<(l.map Dr).length:=h;have h:i<l.length:=by simpa using h
  have hg:l[i]?=some l[i]:=Ge h;refine Xi (Dr l[i]) (Yi (Yi (Nn i) (by simp[hg])) (Yi rfl ?_));refine Yi ?_ ?_
  ·intro he;have he:l[i]=s:=he;exact .of_eq (Ac vb (show true=_ from(Bc.2 ⟨l[i],At h,by simpa using he⟩).symm))
  ·intro he;have he:¬l[i]=s:=he;refine Yi (Ii i (by omega)) ?_;refine Xi ⟨i+1,by omega,fun j hj Je=>?_⟩ ?_
   ·rcases B7 j i with z | z
    ·exact h2 j hj z
    ·have:j=i:=by omega
     subst this;exact he
   ·exact⟨Dl l.length i (by omega),Z3,Tv,Fh,Tv⟩
 ·intro h;have h:¬(i:Int)<(l.map Dr).length:=h;have h:¬i<l.length:=by simpa using h
  have er:(l.any fun q=>decide (q=s))=false:=by
   rw[FD];intro q hq;obtain⟨j,hj,rfl⟩:=BU hq;simpa using h2 j hj (by omega)
  exact .of_eq (Ac vb er.symm)
theorem qy{w:List UInt8}{s:ByteArray}:bs w=s↔w=s.data.toList:=by
 constructor
 ·intro h;rw[←h];rfl
 ·intro h;rw[h];rfl
theorem oX(s:ByteArray):(ut.any fun q=>decide (q=s))=oV.any (fun w=>decide (w=s.data.toList)):=by
 unfold ut;rw[List.any_map]
 congr 1
 funext w
 simp only[Function.comp];rw[SV];exact qy
theorem vP(s:ByteArray)(hs:s.data.toList.length<4611686018427387904):PC 248 [vs s] (vb (Gr s.data.toList)):=by
 have Eh:s.size=s.data.toList.length:=by simp
 obtain⟨N,hN⟩:∃N,N=Gr s.data.toList:=⟨_,rfl⟩;rw[←hN];unfold Gr at hN;have kw:=vT s hs;have gn:=vU ut s (by decide);rw[oX]at gn;refine Ps E4 Tryz.func248 rfl (Nz rfl) ?_;refine Yi (fun h=>?_) (fun h=>?_)
 rotate_left
 ·have h:¬(1:Int)≤(s.size:Nat):=h;have e:s.data.toList=[]:=AL (by omega);exact .of_eq (Ac vb (show false=N by rw[hN,e];rfl))
 have h:(1:Int)≤(s.size:Nat):=h;have he:s.data.toList.isEmpty=false:=by
  cases e:s.data.toList with
  |nil=>rw[e,AJ]at Eh;omega
  |cons _ _=>rfl
 refine Yi (fun h2=>?_) (fun h2=>?_)
 rotate_left
 ·have h2:¬((s.size:Nat):Int)≤32:=h2;exact .of_eq (Ac vb (show false=N by rw[hN,he,Ao (by omega)];rfl))
 have h2:((s.size:Nat):Int)≤32:=h2;refine Br (show ∃c l,s.data.toList=c::l by cases e:s.data.toList with | nil=>rw[e]at he;cases he | cons c l=>exact⟨c,l,rfl⟩) (fun c hc=>?_);refine Br hc (fun l hc=>?_);refine Xi c (Yi ⟨by decide,by show s.data[(0:Int).toNat]?=_;rw[←AR,hc];rfl⟩ ?_);have ku:=nM c;have hN:N=(EG c&&s.data.toList.all FZ&&!UL s.data.toList):=by
  rw[hN,he,Ar (by omega),hc];rfl
 refine BT (Bt (EG c)).symm (fun e=>?_) (fun e=>?_)
 ·rw[e]at ku;refine Xi .pure (Xi _ (Yi (ku) ?_));exact .of_eq (Ac vb (show false=N by rw[hN,e];rfl))
 rw[e]at ku;refine Xi .pure (Xi _ (Yi (ku) ?_));refine BT (Bt (s.data.toList.all FZ)).symm (fun e2=>?_) (fun e2=>?_)
 ·rw[e2]at kw;refine Xi .pure (Xi _ (Yi (kw) ?_));exact .of_eq (Ac vb (show false=N by rw[hN,e,e2];rfl))
 rw[e2]at kw;refine Xi .pure (Xi _ (Yi (kw) ?_));refine Xi .pure (Xi _ (Yi (vV) ?_));rw[ZN e2]at hN;refine BT (Bt (oV.any (fun w=>decide (w=s.data.toList)))) (fun e3=>?_) (fun e3=>?_)
 ·rw[e3]at gn;refine Xi .pure (Xi _ (Yi (gn) ?_));exact .of_eq (Ac vb (show false=N by rw[hN,e,e2,e3];rfl))
 ·rw[e3]at gn;refine Xi .pure (Xi _ (Yi (gn) ?_));exact .of_eq (Ac vb (show true=N by rw[hN,e,e2,e3];rfl))
end Go.Eng
