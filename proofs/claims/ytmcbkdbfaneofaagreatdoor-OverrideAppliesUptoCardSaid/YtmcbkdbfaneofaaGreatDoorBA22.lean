/- Lemmas for the claims of this seat, without a condition: part 22 (C65, C66, C67, C68, C69, C56, C57, C58, C59, C70, C71, C72, C73, LayStrs, O15, S17, O1, C0, O2, R1). -/
import Derived.Test.YtmcbkdbfaneofaaGreatDoorBA21
import Derived.Test.YtmcbkdbfaneofaaGreatDoorBA17
import Derived.Shelf.Sort.Plain
import Derived.Shelf.Slices.CompactS
import Derived.Ground.NamesProg
namespace Go.Eng
open Go.Proofs
theorem LF:∀(y:List Rl) (acc:List ByteArray) (r:Rl),AU (y++[r]) acc=if(AU y acc).any (fun p=>decide (p=r.path))then AU y acc else AU y acc++[r.path]
 | [],acc,r=>rfl
 |s::y,acc,r=>by rw[D7,AU,AU,LF y]
theorem E3:∀(y:List Rl) (acc:List ByteArray),acc.Nodup→(AU y acc).Nodup
 | [],_,h=>h
 |s::y,acc,h=>by
  rw[AU];refine E3 y _ ?_;split
  ·exact h
  ·rename_i hn;rw[Gy];refine⟨h,by simp,fun a ha b hb e=>?_⟩;rw[As]at hb;exact hn (OS.2 (by rw[←hb,←e];exact ha))
abbrev NU(y:List Rl)(p:ByteArray):List (List AV):=(y.filter fun r=>decide (r.path=p)).map Ag
abbrev gC(y:List Rl)(q:ByteArray×Nat):Value×AV:=(.string q.1,.slice (.id (q.2+50) 9) (NU y q.1))
abbrev Sn(y:List Rl):List (Value×AV):=(AU y []).zipIdx.map (gC y)
def JW(y:List Rl)(l:Nat):HO:=match(AU y [])[l]? with
 |some q=>.tok 9 (NU y q).length
 |none=>.free
def VA(y:List Rl)(j:Nat):HO:=bif Nat.ble 50 j then JW y (j-50)else .free
theorem HX(y:List Rl)(l:Nat):VA y (l+50)=JW y l:=by
 unfold VA;rw[show Nat.ble 50 (l+50)=true by rw[Dp];omega,Nat.add_sub_cancel];rfl
theorem oV(y:List Rl){j:Nat}(h:j<50):VA y j=.free:=by
 unfold VA;rw[show Nat.ble 50 j=false by rw[AD];intro hc;rw[Dp]at hc;omega];rfl
theorem IW(y:List Rl)(r:Rl)(q:ByteArray):NU (y++[r]) q=if r.path=q then NU y q++[Ag r]else NU y q:=by
 unfold NU;rw[DA]
 by_cases h:r.path=q
 ·rw[Au h,SI (by simpa using h)];simp
 ·rw[Al h,SH (by simpa using h)];simp
theorem IK{l:List ByteArray}{q:ByteArray×Nat}(h:q∈l.zipIdx):l[q.2]?=some q.1:=by
 obtain⟨a,b⟩:=q;exact FM.1 h
open Classical in
theorem MH{B7:List (Value×AV)}{k:Value}{a:AV}(h:∀a',(k,a')∉B7):E6 B7 k a=B7++[(k,a)]:=by
 unfold E6;rw[Al (fun⟨a',h'⟩=>h a' h')]
open Classical in
theorem YI{B7:List (Value×AV)}{k:Value}{a a' : AV}(h:(k,a')∈B7):E6 B7 k a=B7.map fun p=>if p.1=k then(k,a)else p:=by
 unfold E6;rw[Au ⟨a',h⟩]
section
variable {y:List Rl}{r:Rl}{k:Nat}
theorem Jx(h:(AU y [])[k]?=some r.path):AU (y++[r]) []=AU y []:=by
 rw[LF,Au (OS.2 (Ax h))]
theorem Jw(h:r.path∉AU y []):AU (y++[r]) []=AU y []++[r.path]:=by
 rw[LF,Al (fun hc=>h (OS.1 hc))]
theorem Ju{l:List ByteArray}(hd:l.Nodup){i j:Nat}{p:ByteArray}(h1:l[i]?=some p)(h2:l[j]?=some p):i=j:=by
 obtain⟨a1,a2⟩:=Aw.1 h1;obtain⟨b1,b2⟩:=Aw.1 h2;exact(List.getElem_inj hd).1 (a2.trans b2.symm)
open Classical in
theorem lg(h:(AU y [])[k]?=some r.path):E6 (Sn y) (.string r.path) (.slice (.id (k+50) 9) (NU y r.path++[Ag r]))=Sn (y++[r]):=by
 have hd:=E3 y [] Fs;have hm:gC y (r.path,k)∈Sn y:=Ao.2 ⟨_,FM.2 h,rfl⟩;rw[YI (a':=.slice (.id (k+50) 9) (NU y r.path)) hm];unfold Sn;rw[Jx h,BU];refine Bk fun q hq=>?_;have hg:=IK hq;obtain⟨q,j⟩:=q;show(if Value.string q=Value.string r.path then _ else _)=gC (y++[r]) (q,j);have hg:(AU y [])[j]?=some q:=hg
 by_cases he:q=r.path
 ·subst he
  have:j=k:=Ju hd hg h
  subst this;rw[Au rfl];show _=(Value.string r.path,AV.slice (.id (j+50) 9) (NU (y++[r]) r.path));rw[IW,Au rfl]
 ·rw[Al (fun e=>he (by simpa using e))];show(Value.string q,AV.slice (.id (j+50) 9) (NU y q))=(Value.string q,AV.slice (.id (j+50) 9) (NU (y++[r]) q));rw[IW,Al (fun e=>he e.symm)]
theorem bH(h:r.path∉AU y []):NU y r.path=[]:=by
 have:y.filter (fun s=>decide (s.path=r.path))=[]:=by
  rw[HE];intro s hs he;exact h ((HB y [] r.path).2 (.inr ⟨s,hs,BC he⟩))
 unfold NU;rw[this];rfl
theorem X9(h:r.path∉AU y [])(a:AV):(Value.string r.path,a)∉Sn y:=by
 intro hc;obtain⟨q,h1,h2⟩:=Ao.1 hc;simp only[gC,F4,Value.string.injEq]at h2;exact h (by rw[←h2.1];exact Ax (IK h1))
theorem lf(h:r.path∉AU y []):E6 (Sn y) (.string r.path) (.slice (.id ((AU y []).length+50) 9) [Ag r])=Sn (y++[r]):=by
 rw[MH (fun a=>X9 h a)];unfold Sn;rw[Jw h,List.zipIdx_append,AG]
 congr 1
 ·refine Bk fun q hq=>?_;have hg:=IK hq
  have:q.1≠r.path:=fun e=>h (by rw[←e];exact Ax hg)
  show(Value.string q.1,AV.slice (.id (q.2+50) 9) (NU y q.1))=(Value.string q.1,AV.slice (.id (q.2+50) 9) (NU (y++[r]) q.1));rw[IW,Al (fun e=>this e.symm)]
 ·show [_]=[(Value.string r.path,AV.slice (.id (0+(AU y []).length+50) 9) (NU (y++[r]) r.path))];rw[IW,Au rfl,bH h,Bo];rfl
theorem gF{p:ByteArray}{j:Nat}(h:(AU y [])[j]?=some p):(Value.string p,AV.slice (.id (j+50) 9) (NU y p))∈Sn y∧∀b,(Value.string p,b)∈Sn y→b=AV.slice (.id (j+50) 9) (NU y p):=by
 refine⟨Ao.2 ⟨(p,j),FM.2 h,rfl⟩,fun b hb=>?_⟩;obtain⟨q,h1,h2⟩:=Ao.1 hb;simp only[gC,F4,Value.string.injEq]at h2;have hg:=IK h1;rw[h2.1]at hg
 have:=Ju (E3 y [] Fs) hg h
 rw[←h2.2,h2.1,this]
theorem jX{p:ByteArray}{j:Nat}(h:(AU y [])[j]?=some p):JW y j=.tok 9 (NU y p).length:=by
 unfold JW;rw[h]
theorem mK(h:(AU y [])[k]?=some r.path)(l:Nat):(bif Nat.beq (l+50) (k+50)then HO.tok 9 ((NU y r.path).length+1)else JW y l)=JW (y++[r]) l:=by
 by_cases he:l=k
 ·subst he;rw[show Nat.beq (l+50) (l+50)=true from Dg _];unfold JW;rw[Jx h,h];show HO.tok 9 _=HO.tok 9 (NU (y++[r]) r.path).length;rw[IW,Au rfl,Ad];rfl
 ·rw[show Nat.beq (l+50) (k+50)=false by rw[AD];intro hc;have:=AP hc;omega];show JW y l=_;unfold JW;rw[Jx h];cases hq:(AU y [])[l]? with
  |none=>rfl
  |some q =>
   show HO.tok 9 (NU y q).length=HO.tok 9 (NU (y++[r]) q).length;rw[IW,Al];intro e;subst e;exact he (Ju (E3 y [] Fs) hq h)
theorem mJ(h:r.path∉AU y [])(l:Nat):(bif Nat.beq (l+50) ((AU y []).length+50)then HO.tok 9 1 else JW y l)=JW (y++[r]) l:=by
 by_cases he:l=(AU y []).length
 ·subst he;rw[show Nat.beq ((AU y []).length+50) ((AU y []).length+50)=true from Dg _];unfold JW;rw[Jw h];simp only[A1 (Am _),ET,Bb];show HO.tok 9 1=HO.tok 9 (NU (y++[r]) r.path).length;rw[IW,Au rfl,bH h];rfl
 ·rw[show Nat.beq (l+50) ((AU y []).length+50)=false by rw[AD];intro hc;have:=AP hc;omega];show JW y l=_;unfold JW;rw[Jw h]
  by_cases hl:l<(AU y []).length
  ·rw[A3 hl,Ge hl];show HO.tok 9 (NU y (AU y [])[l]).length=HO.tok 9 (NU (y++[r]) (AU y [])[l]).length;rw[IW,Al];intro e;exact h (by rw[e];exact Ak hl)
  ·rw[A7 (by omega),A7 (by rw[Ad];simp;omega)]
end
theorem Qz{h:Nat→HO}:∀{B7:List (Value×AV)},(∀p∈B7,UV h p.2=true)→RD h B7=true
 | [],_=>rfl
 |p::r,hk=>by
  unfold RD;rw[hk p (Ac ..)];exact Qz (fun q hq=>hk q (Ah _ hq))
theorem Lu(y:List Rl){h:Nat→HO}(hh:∀l,h (l+50)=JW y l):RD h (Sn y)=true:=by
 refine Qz fun p hp=>?_;obtain⟨q,h1,rfl⟩:=Ao.1 hp;show Sd h (q.2+50)=true;unfold Sd;rw[hh,jX (IK h1)]
theorem JF{y:List Rl}{h h' : Nat→HO}(hh:∀l,h (l+50)=JW y l)(j:Nat):VA y j=.free∨(h j=VA y j∧Yo h' (VA y j)=true):=by
 by_cases hj:j<50
 ·exact .inl (oV y hj)
 ·obtain⟨l,rfl⟩:∃l,j=l+50:=⟨j-50,by omega⟩
  right
  rw[HX];refine⟨hh l,?_⟩;unfold JW;cases (AU y [])[l]?<;>rfl
theorem mz{x:List Rl}(hx:A6 x=0){i:Nat}(hi:i<x.length):E6 ((x.take i).map VL) (TZ (Gf x[i])) (.agg (Ag x[i]))=(x.take (i+1)).map VL:=by
 rw[MH]
 ·rw[BA,Ge hi,AG];rfl
 intro a ha;obtain⟨r,hr,he,_⟩:=lU ha;obtain⟨j,hj,e2⟩:=Ce.1 hr;rw[AH]at hj;rw[Il]at e2;have hp:=(CO hx).2
 have:=(Be.1 hp) j i (by omega) hi (by omega)
 rw[e2]at this;exact LC this he
abbrev tg:Si:=⟨[],[],[],[],[8,9],[9],[40],[],[],[],[8,9,10,11]⟩
abbrev zT:List AV:=[.v (.map none),.v (.map none)]
theorem kU(x:List Rl)(ifs:List (List AV))(oP:PC 20 [M8 x ifs] (vi (A6 x)))(h0:A6 x≠0):mQ x ifs:=by
 have ht:aN x=.tup [.agg [.cmap Xq [],.cmap Dn []],vi (A6 x)]:=by unfold aN;rw[Al h0]
 unfold mQ;rw[ht];refine Ps tg Tryz.func73 rfl (Nz rfl) ?_;refine Xi 0 ?_;refine Xi 0 ?_;refine Yi (Nz rfl) ?_;refine Xi 0 ?_;refine Yi (Nz rfl) ?_;refine Xi .pure (Xi _ (Yi (oP) ?_));refine Xi 0 ?_;refine Yi ?_ ?_
 ·intro _;refine Xi 0 ?_;refine Yi (Nz rfl) ?_;refine Yi (Nz rfl) ?_;refine Yi (Nz rfl) ?_;exact .refl _
 ·intro h;exact absurd h (fun hc=>hc h0)
theorem HA:∀(y:List Rl) (acc:List ByteArray),(AU y acc).length≤acc.length+y.length
 | [],acc=>by simp[AU]
 |r::y,acc=>by
  rw[AU];refine AT (HA y _) ?_;split
  ·simp only[Av];omega
  ·simp only[Ad,Av,AE];omega
section
attribute [local irreducible] IF
theorem oA(x:List Rl)(ifs:List (List AV))(oP:PC 20 [M8 x ifs] (vi (A6 x)))(h0:A6 x=0)(CF:x.length≤256):mQ x ifs:=by
 have ht:aN x=.tup [.agg [.cmap Xq (x.map VL),.cmap Dn ((AU x []).map (nA x))],vi 0]:=by unfold aN;rw[Au h0]
 unfold mQ;rw[ht];rw[h0]at oP;refine Ps tg Tryz.func73 rfl (Nz rfl) ?_;refine Xi 0 ?_;refine Xi 0 ?_;refine Yi (Nz rfl) ?_;refine Xi 0 ?_;refine Yi (Nz rfl) ?_;refine Xi .pure (Xi _ (Yi (oP) ?_));refine Xi 0 ?_;refine Yi ?_ ?_
 ·intro hc;exact absurd (show(0:Int)≠0 from hc) (by decide)
 intro _;refine Xi 0 ?_;refine Xi {i:Nat // i≤x.length} (Xi (fun i=>⟨[(2,.ref 2 0),(4,.ref 4 0),(18,sl Ag x),(19,vi (x.map Ag).length),(20,vi i.1)],[(2,.cells zT),(4,.cells [.mref 8,.mref 9]),(8,.map Xq ((x.take i.1).map VL)),(9,.mapU Dn (Sn (x.take i.1)))],VA (x.take i.1)⟩) (Xi (fun i=>x.length-i.1) (Yi (Xi ⟨0,AF _⟩ ?_) ?_)))
 ·refine⟨Z5,Z4,fun j=>.inl ?_,Tv⟩;show VA [] j=.free;unfold VA;cases Nat.ble 50 j<;>rfl
 intro⟨i,i1⟩;have i1:i≤x.length:=i1;refine Xi 0 ?_;refine Yi ?_ ?_
 ·intro h;have h:(i:Int)<(x.map Ag).length:=h;have h:i<x.length:=by simpa using h
  have hg:x[i]?=some x[i]:=Ge h;have KU:x.take (i+1)=x.take i++[x[i]]:=by rw[BA,hg];rfl
  refine Xi 0 ?_;refine Xi (Ag x[i]) (Yi (Yi (Nn i) (by simp[hg])) (Yi rfl ?_));refine Yi (Nz rfl) (Yi (Nz rfl) ?_);refine Xi ⟨[(2,.ref 2 0),(4,.ref 4 0),(7,.ref 7 0),(18,sl Ag x),(19,vi (x.map Ag).length),(20,vi i)],[(2,.cells zT),(4,.cells [.mref 8,.mref 9]),(7,.cells (Ag x[i])),(8,.map Xq ((x.take i).map VL)),(9,.mapU Dn (Sn (x.take i)))],VA (x.take i)⟩ (Yi ?_ ?_)
  ·exact⟨Z6,⟨Zr,Zr,Zr,Zr,⟨rfl,Lu _ (HX _)⟩,Tv⟩,JF (HX _),Tv⟩
  refine Xi 0 ?_;refine Yi (Nz rfl) ?_;refine Xi _ (Yi (oc x[i]) ?_);refine Yi (Nz rfl) ?_;refine Yi (by kernel_rfl) ?_;have e8:E6 ((x.take i).map VL) (TZ (Gf x[i])) (.agg (Ag x[i]))=(x.take (i+1)).map VL:=mz h0 h;refine Xi ⟨[(2,.ref 2 0),(4,.ref 4 0),(7,.ref 7 0),(18,sl Ag x),(19,vi (x.map Ag).length),(20,vi i)],[(2,.cells zT),(4,.cells [.mref 8,.mref 9]),(7,.cells (Ag x[i])),(8,.map Xq ((x.take (i+1)).map VL)),(9,.mapU Dn (Sn (x.take i)))],VA (x.take i)⟩ (Yi ?_ ?_)
  ·exact⟨Z6,⟨Zr,Zr,Zr,⟨Aa (HO.map Xq) e8,rfl⟩,⟨rfl,Lu _ (HX _)⟩,Tv⟩,JF (HX _),Tv⟩
  have hL:((x.take i).filter (fun r=>decide (r.path=x[i].path))).length≤256:=by
   have:=BE (fun r:Rl=>decide (r.path=x[i].path)) (x.take i)
   rw[AH]at this;omega
  have hP:∀l,VA (x.take i) (l+50)=JW (x.take i) l:=HX _;refine Bp (Classical.em (x[i].path∈AU (x.take i) [])) (fun hp=>?_) (fun hp=>?_)
  ·refine BM (Ch.1 hp) (fun k hk=>?_);have hu:=gF hk;refine Xi 0 ?_;refine Or.inl (Xi (.slice (.id (k+50) 9) (NU (x.take i) x[i].path)) (Yi hu ?_));refine Yi (Nz rfl) ?_;have hr:VA (x.take i) (k+50)=.tok 9 (NU (x.take i) x[i].path).length:=by rw[hP,jX hk]
   have hl:(NU (x.take i) x[i].path).length≤256:=by rw[Lm];exact hL
   refine Rr (e:=45) (m:=8) (es2:=[Ag x[i]]) rfl rfl rfl (fun _ h=>h) hr ⟨rfl,trivial⟩ (by show(_+1)*120≤_;omega) (by show _+1≤_;omega) ?_;have se:k<256:=by
    have:=(Aw.1 hk).1
    have:=HA (x.take i) []
    rw[AH]at this;simp only[AE]at this;omega
   have pg:=hk;refine Yi (Jl ⟨A5 _,A5 _,A5 _,A5 _,A5 _,A5 _,A5 _,A5 _,A5 _,A5 _,Ei (show 39<10000000 by decide),Ei (by show _+50<10000000;omega),Ei (show 9<10000000 by decide),trivial⟩ (by kernel_rfl)) ?_;have e9:E6 (Sn (x.take i)) (.string x[i].path) (.slice (.id (k+50) 9) (NU (x.take i) x[i].path++[Ag x[i]]))=Sn (x.take (i+1)):=by rw[KU];exact lg pg
   have hG:∀l,(bif Nat.beq (l+50) (k+50)then HO.tok 9 ((NU (x.take i) x[i].path).length+1)else JW (x.take i) l)=JW (x.take (i+1)) l:=by rw[KU];exact mK pg
   refine Xi ⟨[(2,.ref 2 0),(4,.ref 4 0),(18,sl Ag x),(19,vi (x.map Ag).length),(20,vi i)],[(2,.cells zT),(4,.cells [.mref 8,.mref 9]),(8,.map Xq ((x.take (i+1)).map VL)),(9,.mapU Dn (Sn (x.take (i+1))))],VA (x.take (i+1))⟩ (Yi ?_ ?_)
   ·refine⟨Z5,⟨Zr,Zr,Zr,⟨Aa (HO.mapU Dn) e9,Lu _ (HX _)⟩,Tv⟩,JF (fun l=>?_),Tv⟩;show(bif Nat.beq (l+50) (k+50)then HO.tok 9 ((NU (x.take i) x[i].path).length+1)else VA (x.take i) (l+50))=_;rw[hP];exact hG l
   refine Xi 0 ?_;refine Yi (Ii i (by omega)) ?_;refine Xi ⟨i+1,by omega⟩ ?_;exact⟨Dl x.length i (by omega),Z5,⟨Zr,Zr,Zr,⟨rfl,Lu _ (HX _)⟩,Tv⟩,JF (HX _),Tv⟩
  ·have pg:=hp;have LU:(AU (x.take i) []).length≤256:=by
    have:=HA (x.take i) []
    rw[AH]at this;simp only[AE]at this;omega
   have hn:=X9 hp;refine Xi ((AU (x.take i) []).length+50) ?_;refine Or.inr (Yi hn ?_);refine Yi (Nz rfl) ?_;have hr:VA (x.take i) ((AU (x.take i) []).length+50)=.free:=by
    rw[hP];unfold JW;rw[A7 (Am _)]
   refine Rp (e:=45) (m:=8) (es2:=[Ag x[i]]) rfl rfl rfl (fun _ h=>h) hr rfl ⟨rfl,trivial⟩ (by show 1*120≤_;omega) (by show 1≤_;omega) ?_;refine Yi (Jl ⟨A5 _,A5 _,A5 _,A5 _,A5 _,A5 _,A5 _,A5 _,A5 _,A5 _,Ei (show 39<10000000 by decide),Ei (by show _+50<10000000;omega),Ei (show 9<10000000 by decide),trivial⟩ (by kernel_rfl)) ?_;have e9:E6 (Sn (x.take i)) (.string x[i].path) (.slice (.id ((AU (x.take i) []).length+50) 9) [Ag x[i]])=Sn (x.take (i+1)):=by rw[KU];exact lf pg
   have hG:∀l,(bif Nat.beq (l+50) ((AU (x.take i) []).length+50)then HO.tok 9 1 else JW (x.take i) l)=JW (x.take (i+1)) l:=by rw[KU];exact mJ pg
   refine Xi ⟨[(2,.ref 2 0),(4,.ref 4 0),(18,sl Ag x),(19,vi (x.map Ag).length),(20,vi i)],[(2,.cells zT),(4,.cells [.mref 8,.mref 9]),(8,.map Xq ((x.take (i+1)).map VL)),(9,.mapU Dn (Sn (x.take (i+1))))],VA (x.take (i+1))⟩ (Yi ?_ ?_)
   ·refine⟨Z5,⟨Zr,Zr,Zr,⟨Aa (HO.mapU Dn) e9,Lu _ (HX _)⟩,Tv⟩,JF (fun l=>?_),Tv⟩;show(bif Nat.beq (l+50) ((AU (x.take i) []).length+50)then HO.tok 9 1 else VA (x.take i) (l+50))=_;rw[hP];exact hG l
   refine Xi 0 ?_;refine Yi (Ii i (by omega)) ?_;refine Xi ⟨i+1,by omega⟩ ?_;exact⟨Dl x.length i (by omega),Z5,⟨Zr,Zr,Zr,⟨rfl,Lu _ (HX _)⟩,Tv⟩,JF (HX _),Tv⟩
 ·intro h;have h:¬(i:Int)<(x.map Ag).length:=h;have h:¬i<x.length:=by simpa using h
  have et:x.take i=x:=AL (by omega);refine Xi ⟨[(2,.ref 2 0),(4,.ref 4 0)],[(2,.cells zT),(4,.cells [.mref 8,.mref 9]),(8,.map Xq ((x.take i).map VL)),(9,.mapU Dn (Sn (x.take i)))],VA (x.take i)⟩ (Yi ?_ ?_)
  ·exact⟨Z2,⟨Zr,Zr,Zr,⟨rfl,Lu _ (HX _)⟩,Tv⟩,JF (HX _),Tv⟩
  refine Xi 0 ?_;refine Yi (Nz rfl) ?_;refine Yi (Nz rfl) ?_;refine Yi (Nz rfl) ?_;have es:∀h:Nat→HO,Sf h (Sn (x.take i))=(AU x []).map (nA x):=fun h=>by
   rw[et];unfold Sf Sn;rw[BU];refine CN fun j=>?_;rw[AJ,AJ,List.getElem?_zipIdx];cases (AU x [])[j]?<;>rfl
  have e1:(x.take i).map VL=x.map VL:=by rw[et]
  exact .of_eq (show AV.tup [.agg [.cmap Xq ((x.take i).map VL),.cmap Dn (Sf _ (Sn (x.take i)))],vi 0]=_ by rw[e1,es])
end
theorem c84(x:List Rl)(ifs:List (List AV))(hx:∀r∈x,Jg r):mQ x ifs:=by
 by_cases h0:A6 x=0
 ·exact oA x ifs (rm Zw x ifs hx) h0 (QB h0).1
 ·exact kU x ifs (rm Zw x ifs hx) h0
abbrev xX(n:Nat):Si:=⟨[],[(2,n)],[],[],[],[],[5],[],[],[],[2,3]⟩
theorem rk(l:List Sl)(hl:Ci l):Bj Tryz.prog 89 [sl Ae l] (Ap [] Ab) fun r h'=>r=.slice (.id 2000 4) (l.map Ae)∧h'=Ap [(2000,.tok 4 (l.map Ae).length)] Ab:=by
 refine Cq (M4 (xX 4)) [(2,2000)] rfl CX hm rfl Tryz.func89 (by kernel_rfl) rfl (Nz rfl) (by kernel_rfl) rfl ?_;have F3:Da 4 (l.map Ae)∧([]:List (List AV)).length=0∧(([]:List (List AV)).length+(l.map Ae).length)*40≤140737488355328∧([]:List (List AV)).length+(l.map Ae).length≤9223372036854775807:=by
  refine⟨EN (enc:=Ae) (n:=4) (fun _=>rfl) l,rfl,?_,?_⟩<;>simp only[AE,Lm]<;>unfold Ci at hl<;>omega
 have e2:HO.tok 4 (([]:List (List AV)).length+(l.map Ae).length)=.tok 4 (l.map Ae).length:=by rw[AE,Bo]
 have e3:AV.slice (.id 2000 4) ([]++l.map Ae)=.slice (.id 2000 4) (l.map Ae):=rfl;refine Xi 0 ?_;refine Xi 0 ?_;refine Yi ?_ ?_
 ·intro _;refine Xi ⟨[(0,sl Ae l)],[],Ab⟩ (Yi ⟨Z1,Tv,Fh,Az (by kernel_rfl)⟩ ?_)
  refine Xi 2 ?_;refine Yi F3 ?_;exact Xi _ (Yi (.refl _) (Yi e3 (Aa (fun o=>Ap [(2000,o)] Ab) e2)))
 ·intro h;have h:l.map Ae=[]:=h;refine Yi ?_ ?_
  ·refine Xi ⟨[],[],Ab⟩ (Yi ⟨trivial,trivial,fun _=>.inl rfl,Az (by kernel_rfl)⟩ ?_)
   refine Xi 0 ?_;exact Xi _ (Yi (.refl _) (Yi (show AV.slice (.id 2000 4) []=_ by rw[h]) (show Ap [(2000,HO.tok 4 0)] Ab=_ by rw[h];rfl)))
  ·refine Xi ⟨[(0,sl Ae l)],[],Ab⟩ (Yi ⟨Z1,Tv,Fh,Az (by kernel_rfl)⟩ ?_)
   refine Xi 2 ?_;refine Yi F3 ?_;exact Xi _ (Yi (.refl _) (Yi e3 (Aa (fun o=>Ap [(2000,o)] Ab) e2)))
section
variable {S:Type}{x:List Rl}{roots:List Rq}{s:List Sl}{step:S→Vis→S}{st0:S}{before:List Sl}{needs:List Rq}{n:Nat}{st:S}
end
def MS(q:Rq):Bool:=decide (q.path.size≤100)&&decide (q.set.length≤8)
def Hg(l:List Rq):Bool:=l.all MS&&decide (l.length≤20)
theorem yZ(l:List Rq)(hl:Ci l):PC 29 [sl AM l] (vb (Hg l)):=by
 unfold Ci at hl;refine Ps EY Tryz.func29 rfl (Nz rfl) ?_;refine Xi {i:Nat // i≤l.length∧∀j (hj:j<l.length),j<i→MS l[j]=true} (Xi (fun i=>⟨[(0,sl AM l),(3,vi i.1)],[],Ab⟩) (Xi (fun i=>l.length-i.1) (Yi (Xi ⟨0,AF _,fun j _ h=>by omega⟩ ?_) ?_)))
 ·exact⟨Z2,Tv,Fh,Tv⟩
 intro⟨i,h1,h2⟩;refine Yi ?_ ?_
 ·intro h;have h:(i:Int)<(l.map AM).length:=h;have h:i<l.length:=by simpa using h
  have hg:l[i]?=some l[i]:=Ge h;have no:MS l[i]=false→false=Hg l:=fun e=>by
   unfold Hg
   have:l.all MS=false:=by
    rw[AD];intro ha
    have:=AS.1 ha _ (Ak h)
    rw[e]at this;cases this
   rw[this];rfl
  refine Xi (AM l[i]) (Yi (Yi (Nn i) (by simp[hg])) (Yi rfl ?_));refine Yi ?_ ?_
  ·intro h3;have h3:(100:Int)<((l[i].path.size:Nat):Int):=h3;exact .of_eq (Aa vb (no (by unfold MS;rw[Aj (by omega)];rfl)))
  intro h3;have h3:¬(100:Int)<((l[i].path.size:Nat):Int):=h3;refine Xi (AM l[i]) (Yi (Yi (Nn i) (by simp[hg])) (Yi rfl ?_));refine Yi ?_ ?_
  ·intro h4;have h4:(8:Int)<((l[i].set.map Af).length:Int):=h4;rw[Lm]at h4;exact .of_eq (Aa vb (no (by unfold MS;rw[Aj (by omega:¬l[i].set.length≤8),Cz])))
  intro h4;have h4:¬(8:Int)<((l[i].set.map Af).length:Int):=h4;have h5:l[i].set.length≤8:=by rw[Lm]at h4;omega
  refine Yi (Ii i (by omega)) ?_;refine Xi ⟨i+1,by omega,fun j hj GF=>?_⟩ ?_
  ·rcases Cv j i with z | z
   ·exact h2 j hj z
   ·have:j=i:=by omega
    subst this;unfold MS;rw[At (by omega),At h5];rfl
  ·exact⟨Dl l.length i (by omega),Z2,Tv,Fh,Tv⟩
 ·intro h;have h:¬(i:Int)<(l.map AM).length:=h;have h:¬i<l.length:=by simpa using h
  have ha:l.all MS=true:=AS.2 fun q hq=>by
   obtain⟨j,hj,rfl⟩:=B9 hq;exact h2 j hj (by omega)
  refine Yi ?_ ?_
  ·intro h3;have h3:((l.map AM).length:Int)≤20:=h3;rw[Lm]at h3;exact .of_eq (Aa vb (show true=Hg l by unfold Hg;rw[ha,At (by omega)];rfl))
  ·intro h3;have h3:¬((l.map AM).length:Int)≤20:=h3;rw[Lm]at h3;exact .of_eq (Aa vb (show false=Hg l by unfold Hg;rw[Aj (by omega),Cz]))
def JT(r:Rl):Bool:=decide (r.path.size≤100)&&decide (r.arch.size≤100)&&decide (r.ifc.size≤100)&&decide (r.cert.size≤100)&&Hg r.reqs
def EO(x:List Rl)(n:Nat):Bool:=x.all JT&&decide (x.length≤n)
theorem v8(x:List Rl)(n:Nat)(hl:Ci x)(hr:∀r∈x,Ci r.reqs):PC 60 [sl Ag x,vi n] (vb (EO x n)):=by
 unfold Ci at hl;refine Ps EY Tryz.func60 rfl (Nz rfl) ?_;refine Xi {i:Nat // i≤x.length∧∀j (hj:j<x.length),j<i→JT x[j]=true} (Xi (fun i=>⟨[(0,sl Ag x),(1,vi n),(5,vi i.1)],[],Ab⟩) (Xi (fun i=>x.length-i.1) (Yi (Xi ⟨0,AF _,fun j _ h=>by omega⟩ ?_) ?_)))
 ·exact⟨Z3,Tv,Fh,Tv⟩
 intro⟨i,h1,h2⟩;refine Yi ?_ ?_
 ·intro h;have h:(i:Int)<(x.map Ag).length:=h;have h:i<x.length:=by simpa using h
  have hg:x[i]?=some x[i]:=Ge h;have no:JT x[i]=false→false=EO x n:=fun e=>by
   unfold EO
   have:x.all JT=false:=by
    rw[AD];intro ha
    have:=AS.1 ha _ (Ak h)
    rw[e]at this;cases this
   rw[this];rfl
  have hc:=yZ x[i].reqs (hr _ (Ak h));refine Xi (Ag x[i]) (Yi (Yi (Nn i) (by simp[hg])) (Yi rfl ?_));refine Yi ?_ ?_
  ·intro h3;have h3:(100:Int)<((x[i].path.size:Nat):Int):=h3;exact .of_eq (Aa vb (no (by unfold JT;rw[Aj (by omega:¬x[i].path.size≤100)];simp)))
  intro h3;have h3:¬(100:Int)<((x[i].path.size:Nat):Int):=h3;refine Xi (Ag x[i]) (Yi (Yi (Nn i) (by simp[hg])) (Yi rfl ?_));refine Yi ?_ ?_
  ·intro h4;have h4:(100:Int)<((x[i].arch.size:Nat):Int):=h4;exact .of_eq (Aa vb (no (by unfold JT;rw[Aj (by omega:¬x[i].arch.size≤100)];simp)))
  intro h4;have h4:¬(100:Int)<((x[i].arch.size:Nat):Int):=h4;refine Xi (Ag x[i]) (Yi (Yi (Nn i) (by simp[hg])) (Yi rfl ?_));refine Yi ?_ ?_
  ·intro h5;have h5:(100:Int)<((x[i].ifc.size:Nat):Int):=h5;exact .of_eq (Aa vb (no (by unfold JT;rw[Aj (by omega:¬x[i].ifc.size≤100)];simp)))
  intro h5;have h5:¬(100:Int)<((x[i].ifc.size:Nat):Int):=h5;refine Xi (Ag x[i]) (Yi (Yi (Nn i) (by simp[hg])) (Yi rfl ?_));refine Yi ?_ ?_
  ·intro h6;have h6:(100:Int)<((x[i].cert.size:Nat):Int):=h6;exact .of_eq (Aa vb (no (by unfold JT;rw[Aj (by omega:¬x[i].cert.size≤100)];simp)))
  intro h6;have h6:¬(100:Int)<((x[i].cert.size:Nat):Int):=h6;refine Xi (Ag x[i]) (Yi (Yi (Nn i) (by simp[hg])) (Yi rfl ?_));refine Bp (Bt (Hg x[i].reqs)) (fun e=>?_) (fun e=>?_)
  rotate_left
  ·rw[e]at hc;refine Xi .pure (Xi _ (Yi (hc) ?_));exact .of_eq (Aa vb (no (by unfold JT;rw[e,Cz])))
  rw[e]at hc;refine Xi .pure (Xi _ (Yi (hc) ?_));refine Yi (Ii i (by omega)) ?_;refine Xi ⟨i+1,by omega,fun j hj GF=>?_⟩ ?_
  ·rcases Cv j i with z | z
   ·exact h2 j hj z
   ·have:j=i:=by omega
    subst this;unfold JT;rw[At (by omega:x[j].path.size≤100),At (by omega:x[j].arch.size≤100),At (by omega:x[j].ifc.size≤100),At (by omega:x[j].cert.size≤100),e];rfl
  ·exact⟨Dl x.length i (by omega),Z3,Tv,Fh,Tv⟩
 ·intro h;have h:¬(i:Int)<(x.map Ag).length:=h;have h:¬i<x.length:=by simpa using h
  have ha:x.all JT=true:=AS.2 fun q hq=>by
   obtain⟨j,hj,rfl⟩:=B9 hq;exact h2 j hj (by omega)
  refine Yi ?_ ?_
  ·intro h3;have h3:((x.map Ag).length:Int)≤n:=h3;rw[Lm]at h3;exact .of_eq (Aa vb (show true=EO x n by unfold EO;rw[ha,At (by omega)];rfl))
  ·intro h3;have h3:¬((x.map Ag).length:Int)≤n:=h3;rw[Lm]at h3;exact .of_eq (Aa vb (show false=EO x n by unfold EO;rw[Aj (by omega),Cz]))
theorem c11(x:List Rl)(ifs:List (List AV))(roots:List Rq)(hl:Ci x)(hr:∀r∈x,Ci r.reqs)(hq:Ci roots):PC 36 [M8 x ifs,sl AM roots] (vb (EO x 16&&Hg roots)):=by
 have h1:=v8 x 16 hl hr;have h2:=yZ roots hq;cases e:EO x 16 with
 |true =>
  rw[e]at h1;refine Ps EY Tryz.func36 rfl (Nz rfl) ?_;refine Xi .pure (Xi _ (Yi (h1) ?_));refine Xi .pure (Xi _ (Yi (h2) ?_));exact .refl _
 |false =>
  rw[e]at h1;refine Ps EY Tryz.func36 rfl (Nz rfl) ?_;refine Xi .pure (Xi _ (Yi (h1) ?_));exact .refl _
section
variable {l:List Rl}{roots t:List Rq}{d:List ByteArray}{n:Nat}
end
structure mR(x:List Rl)(roots:List Rq):Prop where
 ix:Ci x
 rs:Ci roots
 rel:∀r∈x,Ci r.reqs∧Jg r
 rq:∀q∈roots,N0 q
theorem mR.x{x:List Rl}{roots:List Rq}(h:mR x roots):∀r∈x,Jg r:=fun r hr=>(h.rel r hr).2
theorem mR.c11{x:List Rl}{roots:List Rq}(h:mR x roots)(ifs:List (List AV)):PC 36 [M8 x ifs,sl AM roots] (vb (EO x 16&&Hg roots)) :=
 Go.Eng.c11 x ifs roots h.ix (fun r hr=>(h.rel r hr).1) h.rs
end Go.Eng
namespace Go.Proofs
open Go.Shelf
def Tryz.laySortStr_ren:Go.Shelf.Ren:=⟨fun | 190=>102 | 125=>130 | 258=>132 | 128=>170 | 129=>171 | 302=>173 | 303=>174 | 304=>175 | 305=>176 | 306=>177 | 307=>178 | 308=>179 | 309=>180 | 310=>181 | 333=>211 | 329=>207 | 330=>208 | 334=>212 | 335=>213 | 336=>81 | 344=>239 | n=>n,fun | 31=>129 | 9=>9 | 3=>3 | 46=>185 | 0=>0 | 51=>220 | 53=>222 | 4=>4 | 183=>214 | 182=>213 | 131=>133 | 5=>5 | 218=>248 | 222=>252 | 228=>270 | 229=>271 | n=>n,fun | n=>n⟩
theorem Tryz.laySortStr:Go.Proofs.Lays.n190 Tryz.prog Tryz.laySortStr_ren:={
 mixed:=by kernel_rfl
 f125:=Tryz.func130.trans (congrArg some (by kernel_rfl))
 f128:=Tryz.func170.trans (congrArg some (by kernel_rfl))
 f129:=Tryz.func171.trans (congrArg some (by kernel_rfl))
 f190:=Tryz.func102.trans (congrArg some (by kernel_rfl))
 f258:=Tryz.func132.trans (congrArg some (by kernel_rfl))
 f302:=Tryz.func173.trans (congrArg some (by kernel_rfl))
 f303:=Tryz.func174.trans (congrArg some (by kernel_rfl))
 f304:=Tryz.func175.trans (congrArg some (by kernel_rfl))
 f305:=Tryz.func176.trans (congrArg some (by kernel_rfl))
 f306:=Tryz.func177.trans (congrArg some (by kernel_rfl))
 f307:=Tryz.func178.trans (congrArg some (by kernel_rfl))
 f308:=Tryz.func179.trans (congrArg some (by kernel_rfl))
 f309:=Tryz.func180.trans (congrArg some (by kernel_rfl))
 f310:=Tryz.func181.trans (congrArg some (by kernel_rfl))
 f329:=Tryz.func207.trans (congrArg some (by kernel_rfl))
 f330:=Tryz.func208.trans (congrArg some (by kernel_rfl))
 f333:=Tryz.func211.trans (congrArg some (by kernel_rfl))
 f334:=Tryz.func212.trans (congrArg some (by kernel_rfl))
 f335:=Tryz.func213.trans (congrArg some (by kernel_rfl))
 f336:=Tryz.func81.trans (congrArg some (by kernel_rfl))
 f344:=Tryz.func239.trans (congrArg some (by kernel_rfl))
 t0:=Tryz.underlying0
 a0:=Tryz.isAgg0
 z0:=Tryz.sizeOf0
 v0:=Tryz.zeroValue0
 t3:=Tryz.underlying3
 a3:=Tryz.isAgg3
 z3:=Tryz.sizeOf3
 v3:=Tryz.zeroValue3
 t4:=Tryz.underlying4
 a4:=Tryz.isAgg4
 z4:=Tryz.sizeOf4
 v4:=Tryz.zeroValue4
 t5:=Tryz.underlying5
 a5:=Tryz.isAgg5
 z5:=Tryz.sizeOf5
 v5:=Tryz.zeroValue5
 t9:=Tryz.underlying9
 a9:=Tryz.isAgg9
 z9:=Tryz.sizeOf9
 v9:=Tryz.zeroValue9
 t31:=Tryz.underlying129
 a31:=Tryz.isAgg129
 z31:=Tryz.sizeOf129
 v31:=Tryz.zeroValue129
 t46:=Tryz.underlying185
 a46:=Tryz.isAgg185
 z46:=Tryz.sizeOf185
 v46:=Tryz.zeroValue185
 t51:=Tryz.underlying220
 a51:=Tryz.isAgg220
 z51:=Tryz.sizeOf220
 v51:=Tryz.zeroValue220
 t53:=Tryz.underlying222
 a53:=Tryz.isAgg222
 z53:=Tryz.sizeOf222
 v53:=Tryz.zeroValue222
 t131:=Tryz.underlying133
 a131:=Tryz.isAgg133
 z131:=Tryz.sizeOf133
 v131:=Tryz.zeroValue133
 t182:=Tryz.underlying213
 a182:=Tryz.isAgg213
 z182:=Tryz.sizeOf213
 v182:=Tryz.zeroValue213
 t183:=Tryz.underlying214
 a183:=Tryz.isAgg214
 z183:=Tryz.sizeOf214
 v183:=Tryz.zeroValue214
 t218:=Tryz.underlying248
 a218:=Tryz.isAgg248
 z218:=Tryz.sizeOf248
 v218:=Tryz.zeroValue248
 t222:=Tryz.underlying252
 a222:=Tryz.isAgg252
 z222:=Tryz.sizeOf252
 v222:=Tryz.zeroValue252
 t228:=Tryz.underlying270
 a228:=Tryz.isAgg270
 z228:=Tryz.sizeOf270
 v228:=Tryz.zeroValue270
 t229:=Tryz.underlying271
 a229:=Tryz.isAgg271
 z229:=Tryz.sizeOf271
 v229:=Tryz.zeroValue271 }
def Tryz.layCompactStr_ren:Go.Shelf.Ren:=⟨fun | 194=>104 | n=>n,fun | 31=>129 | 9=>9 | 3=>3 | 4=>4 | 0=>0 | n=>n,fun | n=>n⟩
theorem Tryz.layCompactStr:Go.Proofs.Lays.n194 Tryz.prog Tryz.layCompactStr_ren:={
 mixed:=by kernel_rfl
 f194:=Tryz.func104.trans (congrArg some (by kernel_rfl))
 t0:=Tryz.underlying0
 a0:=Tryz.isAgg0
 z0:=Tryz.sizeOf0
 v0:=Tryz.zeroValue0
 t3:=Tryz.underlying3
 a3:=Tryz.isAgg3
 z3:=Tryz.sizeOf3
 v3:=Tryz.zeroValue3
 t4:=Tryz.underlying4
 a4:=Tryz.isAgg4
 z4:=Tryz.sizeOf4
 v4:=Tryz.zeroValue4
 t9:=Tryz.underlying9
 a9:=Tryz.isAgg9
 z9:=Tryz.sizeOf9
 v9:=Tryz.zeroValue9
 t31:=Tryz.underlying129
 a31:=Tryz.isAgg129
 z31:=Tryz.sizeOf129
 v31:=Tryz.zeroValue129 }
end Go.Proofs
namespace Go.Eng
open Go.Proofs Go.Shelf Go.RowKit Go.Lib Go.Sort
abbrev aU(s:ByteArray):List UInt8:=s.data.toList
abbrev kg(l:List UInt8):ByteArray:=⟨l.toArray⟩
theorem kN(s:ByteArray):kg (aU s)=s:=by cases s;simp
theorem M6(zs:List (List UInt8)):((zs.map kg).map Dx).flatten=(zs.map Go.Proofs.encStr).map AV.v:=by
 induction zs with
 |nil=>rfl
 |cons z zs ih=>rw[AQ,AQ,BI,ih];rfl
theorem Ww(ss:List ByteArray):(ss.map aU).map kg=ss:=by
 rw[BU,show kg ∘ aU=id from funext kN,J4]
theorem xE(ss t:List ByteArray)(hl:Ci ss)(DM:ss≠[])(hp:t.Perm ss)(ht:(t.map aU).Pairwise fun a b=>a≤b) :
  Bj Tryz.prog 102 [.msl 1000 ss.length] (Ap [(1000,.arr 1 (ss.map Dx))] Ab) fun r h'=>r=.tup []∧h'=Ap [(1000,.arr 1 (t.map Dx))] Ab:=by
 have hl:ss.length≤1073741824:=hl;have hE:Gl Tryz.prog 102:=ff 102 Tryz.func102 (by kernel_rfl) rfl;obtain⟨zs,hz⟩:∃zs,zs=ss.map aU:=⟨_,rfl⟩;have El:ss=zs.map kg:=by rw[hz,Ww]
 have Hx:=Qi (P:=Tryz.prog) (f:=102) (es:=ss.map Dx) (sz:=1) (rest:=[]) (Q:=fun FQ=>FQ=t.map Dx) hE ?_ ?_
 ·rw[Lm]at Hx;refine⟨hE,fun g w vals q1 q2 q3=>(Hx.2 g w vals q1 q2 q3).mono fun _ _ ⟨v,r,h',g',e1,⟨e2,FQ,p1,p3⟩,rest⟩=>⟨v,r,h',g',e1,⟨e2,by rw[p3,p1]⟩,rest⟩⟩
 ·intro e;exact absurd (DD.1 e) DM
 ·intro g w b cap F hr hF hH hb;have rH:F.toList=zs.map Go.Proofs.encStr:=LI (by rw[←M6,←El];exact hr);have gJ:F=zs.toArray.map Go.Proofs.encStr:=I0.1 (by rw[rH];simp);have Nw:zs.length=ss.length:=by rw[hz,Lm]
  have rI:Holds Go.Proofs.encStr w b 0 zs.toArray:=fun j hj=>by
   have:=hH j (by rw[gJ];simpa using hj)
   refine⟨this.1.trans ?_,this.2⟩;rw[gJ,DL _ j (by simpa using hj),DL _ j hj];simp
  have hc:=Any.slices_Sort_string Tryz.laySortStr b 0 cap zs w rI hb (by omega);have htz:(zs.mergeSort fun x y=>decide (x≤y))=t.map aU:=by
   have Jd:(zs.mergeSort fun x y=>decide (x≤y)).Perm zs:=List.mergeSort_perm _ _;have sI:=List.pairwise_mergeSort (le:=fun x y:List UInt8=>decide (x≤y)) (fun a b c h1 h2=>by simp only[Ay]at *;exact List.le_trans h1 h2) (fun a b=>by simp only[CG,Ay];exact List.le_total a b) zs;refine List.Perm.eq_of_pairwise (le:=fun a b=>a≤b) (fun a b _ _ h k=>List.le_antisymm h k) (sI.imp fun h=>BC h) ht (Jd.trans ?_);rw[hz];exact(hp.map aU).symm
  rw[htz,Nw]at hc;rw[Lm];refine hc.mono ?_
  rintro e w' ⟨rfl,n,os,rfl⟩
  have DH:t.length=ss.length:=hp.length_eq;refine⟨rfl,(t.map aU).toArray.map Go.Proofs.encStr,t.map Dx,n,os,?_,rfl,by simp[DH],fun cs hcs=>?_,fun g w _=>?_,by rw[QQ]⟩
  ·rw[gJ];simp[DH,Nw]
  ·obtain⟨x,_,rfl⟩:=Ao.1 hcs;rfl
  ·have e1:t.map Dx=((t.map aU).map kg).map Dx:=by rw[Ww]
   rw[e1,M6];have e:(((t.map aU).toArray.map Go.Proofs.encStr).toList)=(t.map aU).map Go.Proofs.encStr:=by simp
   rw[e];exact Ns _ _ _ _ fun x hx=>by
    obtain⟨z,_,rfl⟩:=Ao.1 hx;rfl
def Cf(ss:List ByteArray):List ByteArray:=(Lib.compact (ss.map aU)).map kg
theorem Ru(zs:List (List UInt8)):(Lib.compact zs).length≤zs.length:=by
 unfold Lib.compact Lib.compactUpTo;rw[Lm];exact AT (BE _ _) (by rw[Rm];exact Am _)
theorem xF(ss:List ByteArray)(hl:Ci ss)(DM:ss≠[]) :
  Bj Tryz.prog 104 [.msl 1000 ss.length] (Ap [(1000,.arr 1 (ss.map Dx))] Ab) fun r h'=>r=.msl 2000 (Cf ss).length∧h'=Ap [(1000,.dead),(2000,.arr 1 ((Cf ss).map Dx))] Ab:=by
 have hl:ss.length≤1073741824:=hl;have hE:Gl Tryz.prog 104:=ff 104 Tryz.func104 (by kernel_rfl) rfl;obtain⟨zs,hz⟩:∃zs,zs=ss.map aU:=⟨_,rfl⟩;have El:ss=zs.map kg:=by rw[hz,Ww]
 have Nw:zs.length=ss.length:=by rw[hz,Lm]
 have hcl:=Ru zs;have Hx:=Va (P:=Tryz.prog) (f:=104) (es:=ss.map Dx) (sz:=1) (rest:=[]) (n':=(Lib.compact zs).length) (Q:=fun FQ=>FQ=((Lib.compact zs++List.replicate (zs.length-(Lib.compact zs).length) []).map kg).map Dx) hE (fun e=>DM (DD.1 e)) (by rw[Lm];omega) ?_
 ·rw[Lm]at Hx;have ez:Cf ss=(Lib.compact zs).map kg:=by unfold Cf;rw[hz]
  refine⟨hE,fun g w vals q1 q2 q3=>(Hx.2 g w vals q1 q2 q3).mono fun _ _ ⟨x,r,h',g',e1,⟨e2,FQ,p1,p2⟩,rest⟩=>⟨x,r,h',g',e1,⟨by rw[e2,ez,Lm],by
   rw[p2,p1,ez,AG,AG,Eg (by rw[Lm,Lm];exact Am _),AL (by rw[Lm,Lm];exact Am _)]⟩,rest⟩⟩
 ·intro g w b cap F hr hF hH hb hc;rw[Lm]at hF hc⊢;have rH:F.toList=zs.map Go.Proofs.encStr:=LI (by rw[←M6,←El];exact hr);have gJ:F=zs.toArray.map Go.Proofs.encStr:=I0.1 (by rw[rH];simp);have rI:Holds Go.Proofs.encStr w b 0 zs.toArray:=fun j hj=>by
   have:=hH j (by rw[gJ];simpa using hj)
   refine⟨this.1.trans ?_,this.2⟩;rw[gJ,DL _ j (by simpa using hj),DL _ j hj];simp
  have hcon:=Any.slices_Compact_string Tryz.layCompactStr b 0 cap zs w rI (by omega) (by omega);rw[Nw]at hcon;refine hcon.mono ?_
  rintro e w' ⟨rfl,q,rfl⟩
  refine⟨rfl,(Lib.compact zs++List.replicate (zs.length-(Lib.compact zs).length) []).toArray.map Go.Proofs.encStr,_,q,#[],?_,rfl,?_,fun cs hcs=>?_,fun g w _=>?_,?_⟩
  ·rw[gJ];simp;omega
  ·simp;omega
  ·obtain⟨x,_,rfl⟩:=Ao.1 hcs;rfl
  ·rw[M6];have e:((Lib.compact zs++List.replicate (zs.length-(Lib.compact zs).length) []).toArray.map Go.Proofs.encStr).toList=(Lib.compact zs++List.replicate (zs.length-(Lib.compact zs).length) []).map Go.Proofs.encStr:=by simp
   rw[e];exact Ns _ _ _ _ fun x hx=>by
    obtain⟨z,_,rfl⟩:=Ao.1 hx;rfl
  ·rw[QQ,grow_empty,Nw]
end Go.Eng
namespace Go.Eng
open Go.Proofs
abbrev pK(n:Nat):Si:=⟨[],[],[(2,n),(5,n)],[],[],[],[5],[],[],[],[2,3]⟩
theorem tM(l:List Sl)(hl:Ci l):Bj Tryz.prog 89 [sl Ae l] (Ap [] Ab) fun r h'=>r=.msl 2000 l.length∧h'=Ap [(2000,.arr 4 (l.map Ae))] Ab:=by
 refine Cq (M4 (pK 4)) [(2,2000)] rfl CX hm rfl Tryz.func89 (by kernel_rfl) rfl (Nz rfl) (by kernel_rfl) rfl ?_;have F3:Da 4 (l.map Ae)∧([]:List (List AV)).length=0∧(([]:List (List AV)).length+(l.map Ae).length)*40≤140737488355328∧([]:List (List AV)).length+(l.map Ae).length≤9223372036854775807:=by
  refine⟨EN (enc:=Ae) (n:=4) (fun _=>rfl) l,rfl,?_,?_⟩<;>simp only[AE,Lm]<;>unfold Ci at hl<;>omega
 have e1:AV.msl 2000 (([]:List (List AV)).length+(l.map Ae).length)=.msl 2000 l.length:=by simp
 refine Xi 0 ?_;refine Xi 0 ?_;refine Yi ?_ ?_
 ·intro _;refine Xi ⟨[(0,sl Ae l)],[],Ab⟩ (Yi ⟨Z1,Tv,Fh,Az (by kernel_rfl)⟩ ?_)
  refine Xi 2 ?_;refine Yi F3 ?_;exact Xi _ (Yi (.refl _) (Yi e1 rfl))
 ·intro h;have h:l.map Ae=[]:=h;refine Yi ?_ ?_
  ·refine Xi ⟨[],[],Ab⟩ (Yi ⟨trivial,trivial,fun _=>.inl rfl,Az (by kernel_rfl)⟩ ?_)
   refine Xi 2 ?_;exact Xi _ (Yi (.refl _) (Yi (show AV.msl 2000 0=_ by rw[DD.1 h];rfl) (show Ap [(2000,HO.arr 4 [])] Ab=_ by rw[h])))
  ·refine Xi ⟨[(0,sl Ae l)],[],Ab⟩ (Yi ⟨Z1,Tv,Fh,Az (by kernel_rfl)⟩ ?_)
   refine Xi 2 ?_;refine Yi F3 ?_;exact Xi _ (Yi (.refl _) (Yi e1 rfl))
theorem yP(l:List Rl)(hl:Ci l):Bj Tryz.prog 76 [sl Ag l] (Ap [] Ab) fun r h'=>r=.msl 2000 l.length∧h'=Ap [(2000,.arr 9 (l.map Ag))] Ab:=by
 refine Cq (M4 (pK 9)) [(2,2000)] rfl CX hm rfl Tryz.func76 (by kernel_rfl) rfl (Nz rfl) (by kernel_rfl) rfl ?_;have F3:Da 9 (l.map Ag)∧([]:List (List AV)).length=0∧(([]:List (List AV)).length+(l.map Ag).length)*120≤140737488355328∧([]:List (List AV)).length+(l.map Ag).length≤9223372036854775807:=by
  refine⟨EN (enc:=Ag) (n:=9) (fun _=>rfl) l,rfl,?_,?_⟩<;>simp only[AE,Lm]<;>unfold Ci at hl<;>omega
 have e1:AV.msl 2000 (([]:List (List AV)).length+(l.map Ag).length)=.msl 2000 l.length:=by simp
 refine Xi 0 ?_;refine Xi 0 ?_;refine Yi ?_ ?_
 ·intro _;refine Xi ⟨[(0,sl Ag l)],[],Ab⟩ (Yi ⟨Z1,Tv,Fh,Az (by kernel_rfl)⟩ ?_)
  refine Xi 2 ?_;refine Yi F3 ?_;exact Xi _ (Yi (.refl _) (Yi e1 rfl))
 ·intro h;have h:l.map Ag=[]:=h;refine Yi ?_ ?_
  ·refine Xi ⟨[],[],Ab⟩ (Yi ⟨trivial,trivial,fun _=>.inl rfl,Az (by kernel_rfl)⟩ ?_)
   refine Xi 2 ?_;exact Xi _ (Yi (.refl _) (Yi (show AV.msl 2000 0=_ by rw[DD.1 h];rfl) (show Ap [(2000,HO.arr 9 [])] Ab=_ by rw[h])))
  ·refine Xi ⟨[(0,sl Ag l)],[],Ab⟩ (Yi ⟨Z1,Tv,Fh,Az (by kernel_rfl)⟩ ?_)
   refine Xi 2 ?_;refine Yi F3 ?_;exact Xi _ (Yi (.refl _) (Yi e1 rfl))
theorem yQ(l:List Rq)(hl:Ci l):Bj Tryz.prog 77 [sl AM l] (Ap [] Ab) fun r h'=>r=.msl 2000 l.length∧h'=Ap [(2000,.arr 2 (l.map AM))] Ab:=by
 refine Cq (M4 (pK 2)) [(2,2000)] rfl CX hm rfl Tryz.func77 (by kernel_rfl) rfl (Nz rfl) (by kernel_rfl) rfl ?_;have F3:Da 2 (l.map AM)∧([]:List (List AV)).length=0∧(([]:List (List AV)).length+(l.map AM).length)*40≤140737488355328∧([]:List (List AV)).length+(l.map AM).length≤9223372036854775807:=by
  refine⟨EN (enc:=AM) (n:=2) (fun _=>rfl) l,rfl,?_,?_⟩<;>simp only[AE,Lm]<;>unfold Ci at hl<;>omega
 have e1:AV.msl 2000 (([]:List (List AV)).length+(l.map AM).length)=.msl 2000 l.length:=by simp
 refine Xi 0 ?_;refine Xi 0 ?_;refine Yi ?_ ?_
 ·intro _;refine Xi ⟨[(0,sl AM l)],[],Ab⟩ (Yi ⟨Z1,Tv,Fh,Az (by kernel_rfl)⟩ ?_)
  refine Xi 2 ?_;refine Yi F3 ?_;exact Xi _ (Yi (.refl _) (Yi e1 rfl))
 ·intro h;have h:l.map AM=[]:=h;refine Yi ?_ ?_
  ·refine Xi ⟨[],[],Ab⟩ (Yi ⟨trivial,trivial,fun _=>.inl rfl,Az (by kernel_rfl)⟩ ?_)
   refine Xi 2 ?_;exact Xi _ (Yi (.refl _) (Yi (show AV.msl 2000 0=_ by rw[DD.1 h];rfl) (show Ap [(2000,HO.arr 2 [])] Ab=_ by rw[h])))
  ·refine Xi ⟨[(0,sl AM l)],[],Ab⟩ (Yi ⟨Z1,Tv,Fh,Az (by kernel_rfl)⟩ ?_)
   refine Xi 2 ?_;refine Yi F3 ?_;exact Xi _ (Yi (.refl _) (Yi e1 rfl))
theorem Bj.to2{P:Program}{f:Nat}{args:List AV}{h0:Nat→HO}{r0:AV}{H0:Nat→HO}{Q' : AV→(Nat→HO)→Prop}(h:Bj P f args h0 fun r h'=>r=r0∧h'=H0)(k:Q' r0 H0):Bj P f args h0 Q' :=
 h.mono fun r h' q=>⟨r,.refl _,by rw[q.1,q.2];exact k⟩
theorem cb{f:Nat}{args:List AV}{b x:Bool}(h:b=x)(hc:PC f args (vb b)):PC f args (vb x):=h▸hc
theorem Iy{α:Type}{f:α→List AV}{l:List α}{i:Nat}(h:(i:Int)<((l.map f).length:Int)):i<l.length:=by rw[Lm]at h;omega
theorem Ix{α:Type}{f:α→List AV}{l:List α}{i:Nat}(h:¬(i:Int)<((l.map f).length:Int)):¬i<l.length:=by rw[Lm]at h;omega
theorem J3{α:Type}{f:α→List AV}{l:List α}{i:Nat}(h:i<l.length):(0:Int)≤(i:Int)∧(l.map f)[((i:Nat):Int).toNat]?=some (f l[i]):=⟨OL _,by rw[Bl,AJ,Ge h];rfl⟩
theorem Mg{n z:Nat}{α:Type}{f:α→List AV}{O:List α}{x:List AV}(hx:x.length=n)(h:O.length≤2147483647)(hz:z≤65536) :
  Da n [x]∧(O.map f).length=O.length∧((O.map f).length+([x]:List (List AV)).length)*z≤140737488355328∧(O.map f).length+([x]:List (List AV)).length≤9223372036854775807:=by
 refine⟨⟨hx,trivial⟩,Lm _,?_,?_⟩<;>rw[Lm]<;>simp only[Av,AE]
 ·have:=Nat.mul_le_mul (show O.length+(0+1)≤2147483648 by omega) hz
  omega
 ·omega
theorem RT{α:Type}{f:α→List AV}{O:List α}{x:α}{r n:Nat}:AV.slice (.id r n) (O.map f++[f x])=.slice (.id r n) ((O++[x]).map f):=by rw[AG];rfl
theorem Qc{α:Type}{f:α→List AV}{O:List α}{x:α}{y:List AV}{n:Nat}:HO.tok n ((O.map f).length+([y]:List (List AV)).length)=.tok n (O++[x]).length:=by rw[Ad,Lm];rfl
abbrev hE(l:List Rl)(i:Nat)(r:Rl):List (List AV):=(l.map Ag).set i (over (Ag r) 4 [.junk])
theorem ZQ(l:List Rl)(i:Nat)(r:Rl):(hE l i r).length=l.length:=by simp
theorem rG{l:List Rl}{i:Nat}(h:i<l.length):(hE l i l[i])[i]?=some (over (Ag l[i]) 4 [.junk]):=by
 rw[UJ (by rw[Lm];exact h)]
theorem lq{l:List Rl}{i:Nat}(h:i<l.length):(hE l i l[i]).set i (over (over (Ag l[i]) 4 [.junk]) 4 [.slice .none (l[i].reqs.map AM)])=l.map Ag:=by
 unfold hE;rw[List.set_set];refine CN fun k=>?_;rw[Rk];split
 ·rename_i e;subst e;rw[Au (by rw[Lm];exact h),AJ,Ge h];rfl
 ·rfl
theorem jK{qs:List Rq}{k:Nat}(h:k<qs.length):(qs.map AM).set k (over (AM qs[k]) 1 [sl Af qs[k].set])=qs.map AM:=by
 refine CN fun j=>?_;rw[Rk];split
 ·rename_i e;subst e;rw[Au (by rw[Lm];exact h),AJ,Ge h];rfl
 ·rfl
set_option maxHeartbeats 4000000 in
theorem tL(l:List Rl)(hl:Ci l)(hq:∀r∈l,Ci r.reqs)(hs:∀r∈l,∀q∈r.reqs,Ci q.set):Bj Tryz.prog 37 [sl Ag l] (Ap [] Ab) fun r h'=>r=.msl 2000 l.length∧h'=Ap [(2000,.arr 9 (l.map Ag))] Ab:=by
 refine Cq (M4 ⟨[],[],[],[],[],[],[],[],[],[(950011,10700)],[2,6,7,8,9,10,11]⟩) [(10700,2000)] rfl CX hm rfl Tryz.func37 (by kernel_rfl) rfl (Nz rfl) (by kernel_rfl) rfl ?_;refine Xi (.gen [] 1) (Yi rfl (Bj.imp (yP l hl) ?_));intro v1 g1 q1;have jA:=q1.1;have jB:=q1.2;subst jA;subst jB;refine Xi ⟨[(3,.msl 10700 l.length)],[(10700,.arr 9 (l.map Ag))],Ab⟩ (Yi ⟨Z1,Z1,Fh,Az (by kernel_rfl)⟩ ?_)
 refine Xi {q:Nat // q≤l.length} (Xi (fun q=>⟨[(3,.msl 10700 l.length),(9,vi l.length),(10,vi q.1)],[(10700,.arr 9 (l.map Ag))],Ab⟩) (Xi (fun q=>l.length-q.1) (Yi (Xi ⟨0,AF _⟩ ?_) ?_)))
 ·exact⟨Z3,Z1,Fh,Az (by kernel_rfl)⟩
 intro⟨i,i1⟩;have i1:i≤l.length:=i1;refine Yi (fun h2=>?_) (fun h2=>?_)
 ·have h2:(i:Int)<(l.length:Int):=h2;have n2:i<l.length:=by omega
  have g2:l[i]?=some l[i]:=Ge n2;have ni:i<l.length:=by omega
  have hqi:l[i].reqs.length≤1073741824:=hq _ (Ak ni);refine Yi (show(0:Int)≤i∧(i:Int)<(l.length:Nat) by omega) ?_;refine Yi (show l.length=(l.map Ag).length by rw[Lm]) ?_;refine Xi (Ag l[i]) (Yi (B3 (Ge ni)) ?_);refine Xi (.gen [] 1) (Yi rfl (Bj.imp (yQ l[i].reqs (hq _ (Ak ni))) ?_));intro v5 g5 q5;have q5a:=q5.1;have q5b:=q5.2;subst q5a;subst q5b;refine Yi (show(0:Int)≤i∧(i:Int)<(l.length:Nat) by omega) ?_;refine Yi (show l.length=(l.map Ag).length by rw[Lm]) ?_;refine Xi (Ag l[i]) (Yi (B3 (Ge ni)) ?_);refine Yi (Nz rfl) ?_;refine Xi ⟨[(3,.msl 10700 l.length),(4,vi i),(9,vi l.length),(10,vi i)],[(10700,.hol 9 (hE l i l[i]) i 4 (.msl 12000 l[i].reqs.length)),(12000,.arr 2 (l[i].reqs.map AM))],Ab⟩ (Yi ⟨Z4,Z2,Fh,Az (by kernel_rfl)⟩ ?_)
  refine Yi (show(0:Int)≤i∧(i:Int)<(l.length:Nat) by omega) ?_;refine Yi (show l.length=(hE l i l[i]).length∧(i:Int).toNat=i∧4=4 from⟨(ZQ l i l[i]).symm,rfl,rfl⟩) ?_;refine Xi {q:Nat // q≤l[i].reqs.length} (Xi (fun q=>⟨[(3,.msl 10700 l.length),(4,vi i),(9,vi l.length),(10,vi i),(28,vi (l[i].reqs.length:Nat)),(29,vi q.1)],[(10700,.hol 9 (hE l i l[i]) i 4 (.msl 12000 l[i].reqs.length)),(12000,.arr 2 (l[i].reqs.map AM))],Ab⟩) (Xi (fun q=>l[i].reqs.length-q.1) (Yi (Xi ⟨0,AF _⟩ ?_) ?_)))
  ·exact⟨Z6,Z2,Fh,Az (by kernel_rfl)⟩
  intro⟨k,k1⟩;have k1:k≤l[i].reqs.length:=k1;refine Xi ⟨[(3,.msl 10700 l.length),(4,vi i),(9,vi l.length),(10,vi i),(28,vi (l[i].reqs.length:Nat)),(29,vi k)],[(10700,.hol 9 (hE l i l[i]) i 4 (.msl 12000 l[i].reqs.length)),(12000,.arr 2 (l[i].reqs.map AM))],Ab⟩ (Yi ⟨Z6,Z2,Fh,Az (by kernel_rfl)⟩ ?_)
  refine Yi (fun h3=>?_) (fun h3=>?_)
  ·have h3:(k:Int)<((l[i].reqs.length:Nat):Int):=h3;have nk:k<l[i].reqs.length:=by omega
   refine Xi ⟨[(3,.msl 10700 l.length),(4,vi i),(9,vi l.length),(10,vi i),(28,vi (l[i].reqs.length:Nat)),(29,vi k)],[(10700,.hol 9 (hE l i l[i]) i 4 (.msl 12000 l[i].reqs.length)),(12000,.arr 2 (l[i].reqs.map AM))],Ab⟩ (Yi ⟨Z6,Z2,Fh,Az (by kernel_rfl)⟩ ?_)
   refine Xi ⟨[(3,.msl 10700 l.length),(4,vi i),(5,vi k),(9,vi l.length),(10,vi i),(28,vi (l[i].reqs.length:Nat)),(29,vi k)],[(10700,.hol 9 (hE l i l[i]) i 4 (.msl 12000 l[i].reqs.length)),(12000,.arr 2 (l[i].reqs.map AM))],Ab⟩ (Yi ⟨Z7,Z2,Fh,Az (by kernel_rfl)⟩ ?_)
   refine Yi (show(0:Int)≤i∧(i:Int)<(l.length:Nat) by omega) ?_;refine Yi (show l.length=(hE l i l[i]).length∧(i:Int).toNat=i∧4=4 from⟨(ZQ l i l[i]).symm,rfl,rfl⟩) ?_;refine Yi (show(0:Int)≤i∧(i:Int)<(l.length:Nat) by omega) ?_;refine Yi (show l.length=(hE l i l[i]).length∧(i:Int).toNat=i∧4=4 from⟨(ZQ l i l[i]).symm,rfl,rfl⟩) ?_;refine Yi (show(0:Int)≤k∧(k:Int)<(l[i].reqs.length:Nat) by omega) ?_;refine Yi (show l[i].reqs.length=(l[i].reqs.map AM).length by rw[Lm]) ?_;refine Xi (AM l[i].reqs[k]) (Yi (B3 (Ge nk)) ?_);refine Xi _ (Yi (vl l[i].reqs[k].set (hs _ (Ak ni) _ (Ak nk))) ?_);refine Yi (show(0:Int)≤k∧(k:Int)<(l[i].reqs.length:Nat) by omega) ?_;refine Yi (show l[i].reqs.length=(l[i].reqs.map AM).length by rw[Lm]) ?_;refine Xi (AM l[i].reqs[k]) (Yi (B3 (Ge nk)) ?_);refine Yi (Nz rfl) ?_;refine Yi (by kernel_rfl) ?_;refine Xi ⟨[(3,.msl 10700 l.length),(4,vi i),(9,vi l.length),(10,vi i),(28,vi (l[i].reqs.length:Nat)),(29,vi k)],[(10700,.hol 9 (hE l i l[i]) i 4 (.msl 12000 l[i].reqs.length)),(12000,.arr 2 (l[i].reqs.map AM))],Ab⟩ (Yi ⟨Z6,⟨Zr,⟨(show(.arr 2 ((l[i].reqs.map AM).set k (over (AM l[i].reqs[k]) 1 [sl Af l[i].reqs[k].set])):HO)=.arr 2 (l[i].reqs.map AM)from Aa (HO.arr 2) (jK nk)),rfl⟩,Tv⟩,Fh,Az (by kernel_rfl)⟩ ?_)
   refine Yi (Ii k (by omega)) ?_;refine Xi ⟨k+1,nk⟩ ?_;exact⟨by show l[i].reqs.length-(k+1)<l[i].reqs.length-k;omega,Z6,Z2,Fh,Az (by kernel_rfl)⟩
  have h3:¬((k:Int)<((l[i].reqs.length:Nat):Int)):=h3;refine Yi (show l[i].reqs.length=(l[i].reqs.map AM).length by rw[Lm]) ?_;refine Xi (over (Ag l[i]) 4 [.junk]) (Yi (rG ni) (Yi (Nz rfl) ?_));refine Xi ⟨[(3,.msl 10700 l.length),(9,vi l.length),(10,vi i)],[(10700,.arr 9 (l.map Ag))],Ab⟩ (Yi ⟨Z3,⟨⟨(show HO.arr 9 ((hE l i l[i]).set i (over (over (Ag l[i]) 4 [.junk]) 4 [.slice .none (l[i].reqs.map AM)]))=.arr 9 (l.map Ag)from Aa (HO.arr 9) (lq ni)),rfl⟩,Tv⟩,Fh,Az (by kernel_rfl)⟩ ?_)
  refine Yi (Ii i (by omega)) ?_;refine Xi ⟨i+1,ni⟩ ?_;exact⟨Dl l.length i (by omega),Z3,Z1,Fh,Az (by kernel_rfl)⟩
 have h2:¬((i:Int)<(l.length:Int)):=h2;have n2:¬i<l.length:=by omega
 exact Xi _ (Yi (.refl _) Zr)
theorem oz(c:UInt8):PC 182 [vc c] (vb (EH c)):=by
 refine Ps EY Tryz.func182 rfl (Nz rfl) ?_;have e1:decide ((97:UInt8)≤c)=decide ((97:Int)≤(c.toNat:Int)):=V9 c 97 (by decide);have e2:decide (c≤(122:UInt8))=decide ((c.toNat:Int)≤(122:Int)):=V8 c 122 (by decide);have es:EH c=(decide ((97:Int)≤(c.toNat:Int))&&decide ((c.toNat:Int)≤(122:Int))):=by unfold EH;rw[e1,e2]
 refine Yi ?_ ?_
 ·intro h;have h:(97:Int)≤(c.toNat:Int):=h;refine Yi ?_ ?_
  ·intro h2;have h2:(c.toNat:Int)≤122:=h2;exact .of_eq (Aa vb (show true=EH c by rw[es,At h,At h2];rfl))
  ·intro h2;have h2:¬(c.toNat:Int)≤122:=h2;exact .of_eq (Aa vb (show false=EH c by rw[es,Aj h2,Cz]))
 ·intro h;have h:¬(97:Int)≤(c.toNat:Int):=h;exact .of_eq (Aa vb (show false=EH c by rw[es,Aj h];rfl))
theorem kT(c:UInt8):PC 183 [vc c] (vb (CK c)):=by
 refine Ps EY Tryz.func183 rfl (Nz rfl) ?_;have e1:decide ((48:UInt8)≤c)=decide ((48:Int)≤(c.toNat:Int)):=V9 c 48 (by decide);have e2:decide (c≤(57:UInt8))=decide ((c.toNat:Int)≤(57:Int)):=V8 c 57 (by decide);have es:CK c=(decide ((48:Int)≤(c.toNat:Int))&&decide ((c.toNat:Int)≤(57:Int))):=by unfold CK;rw[e1,e2]
 refine Yi ?_ ?_
 ·intro h;have h:(48:Int)≤(c.toNat:Int):=h;refine Yi ?_ ?_
  ·intro h2;have h2:(c.toNat:Int)≤57:=h2;exact .of_eq (Aa vb (show true=CK c by rw[es,At h,At h2];rfl))
  ·intro h2;have h2:¬(c.toNat:Int)≤57:=h2;exact .of_eq (Aa vb (show false=CK c by rw[es,Aj h2,Cz]))
 ·intro h;have h:¬(48:Int)≤(c.toNat:Int):=h;exact .of_eq (Aa vb (show false=CK c by rw[es,Aj h];rfl))
theorem vZ(c:UInt8):PC 259 [vc c] (vb (Mh c)):=by
 refine Ps EY Tryz.func259 rfl (Nz rfl) ?_;have e1:decide ((65:UInt8)≤c)=decide ((65:Int)≤(c.toNat:Int)):=V9 c 65 (by decide);have e2:decide (c≤(90:UInt8))=decide ((c.toNat:Int)≤(90:Int)):=V8 c 90 (by decide);have es:Mh c=(decide ((65:Int)≤(c.toNat:Int))&&decide ((c.toNat:Int)≤(90:Int))):=by unfold Mh;rw[e1,e2]
 refine Yi ?_ ?_
 ·intro h;have h:(65:Int)≤(c.toNat:Int):=h;refine Yi ?_ ?_
  ·intro h2;have h2:(c.toNat:Int)≤90:=h2;exact .of_eq (Aa vb (show true=Mh c by rw[es,At h,At h2];rfl))
  ·intro h2;have h2:¬(c.toNat:Int)≤90:=h2;exact .of_eq (Aa vb (show false=Mh c by rw[es,Aj h2,Cz]))
 ·intro h;have h:¬(65:Int)≤(c.toNat:Int):=h;exact .of_eq (Aa vb (show false=Mh c by rw[es,Aj h];rfl))
theorem vY(c:UInt8):PC 240 [vc c] (vb (F2 c)):=by
 have h1:=oz c;have h2:=vZ c;have h3:=kT c;have ew:F2 c=(EH c||Mh c||CK c||decide (c=95)):=rfl;rcases Bt (EH c)with e | e
 ·rw[e]at h1;refine Ps EY Tryz.func240 rfl (Nz rfl) ?_;refine Xi .pure (Xi _ (Yi (h1) ?_));exact .of_eq (Aa vb (show true=F2 c by rw[ew,e];rfl))
 rw[e]at h1;rcases Bt (Mh c)with e2 | e2
 ·rw[e2]at h2;refine Ps EY Tryz.func240 rfl (Nz rfl) ?_;refine Xi .pure (Xi _ (Yi (h1) ?_));refine Xi .pure (Xi _ (Yi (h2) ?_));exact .of_eq (Aa vb (show true=F2 c by rw[ew,e,e2];rfl))
 rw[e2]at h2;rcases Bt (CK c)with e3 | e3
 ·rw[e3]at h3;refine Ps EY Tryz.func240 rfl (Nz rfl) ?_;refine Xi .pure (Xi _ (Yi (h1) ?_));refine Xi .pure (Xi _ (Yi (h2) ?_));refine Xi .pure (Xi _ (Yi (h3) ?_));exact .of_eq (Aa vb (show true=F2 c by rw[ew,e,e2,e3];rfl))
 rw[e3]at h3;refine Ps EY Tryz.func240 rfl (Nz rfl) ?_;refine Xi .pure (Xi _ (Yi (h1) ?_));refine Xi .pure (Xi _ (Yi (h2) ?_));refine Xi .pure (Xi _ (Yi (h3) ?_));have eb:decide (c=95)=decide ((c.toNat:Int)=95):=by
  rw[BZ,Ay,Ay];constructor
  ·intro h;subst h;rfl
  ·intro h;exact Gv.1 (by show c.toNat=95;omega)
 refine Yi ?_ ?_
 ·intro h;have h:(c.toNat:Int)=95:=h;exact .of_eq (Aa vb (show true=F2 c by rw[ew,e,e2,e3,eb,At h];rfl))
 ·intro h;have h:¬(c.toNat:Int)=95:=h;exact .of_eq (Aa vb (show false=F2 c by rw[ew,e,e2,e3,eb,Aj h];rfl))
theorem vV(s:ByteArray)(hs:s.data.toList.length<4611686018427387904):PC 214 [vs s] (vb (s.data.toList.all F2)):=by
 have El:s.size=s.data.toList.length:=by simp
 refine Ps EY Tryz.func214 rfl (Nz rfl) ?_;refine Xi {i:Nat // i≤s.data.toList.length∧∀j (hj:j<s.data.toList.length),j<i→F2 s.data.toList[j]=true} (Xi (fun i=>⟨[(0,vs s),(3,vi i.1)],[],Ab⟩) (Xi (fun i=>s.data.toList.length-i.1) (Yi (Xi ⟨0,AF _,fun j _ h=>by omega⟩ ?_) ?_)))
 ·exact⟨Z2,Tv,Fh,Tv⟩
 intro⟨i,h1,h2⟩;refine Yi ?_ ?_
 ·intro h;have h:(i:Int)<(s.size:Nat):=h;have h:i<s.data.toList.length:=by omega
  refine Xi s.data.toList[i] (Yi ⟨by show(0:Int)≤i;omega,by show s.data[((i:Nat):Int).toNat]?=_;rw[Bl];exact MZ s i h⟩ ?_);have hc:=vY s.data.toList[i];refine Bp (Bt (F2 s.data.toList[i])) (fun e=>?_) (fun e=>?_)
  ·rw[e]at hc;refine Xi .pure (Xi _ (Yi (hc) ?_));refine Yi (Ii i (by omega)) ?_;refine Xi ⟨i+1,by omega,fun j hj GF=>?_⟩ ?_
   ·rcases Cv j i with z | z
    ·exact h2 j hj z
    ·have:j=i:=by omega
     subst this;exact e
   ·exact⟨Dl s.data.toList.length i (by omega),Z2,Tv,Fh,Tv⟩
  ·rw[e]at hc;refine Xi .pure (Xi _ (Yi (hc) ?_));have er:s.data.toList.all F2=false:=by
    rw[AD];intro ha
    have:=AS.1 ha _ (Ak h)
    rw[e]at this;cases this
   exact .of_eq (Aa vb er.symm)
 ·intro h;have h:¬(i:Int)<(s.size:Nat):=h;have er:s.data.toList.all F2=true:=AS.2 fun c hc=>by
   obtain⟨j,hj,rfl⟩:=B9 hc;exact h2 j hj (by omega)
  exact .of_eq (Aa vb er.symm)
end Go.Eng
