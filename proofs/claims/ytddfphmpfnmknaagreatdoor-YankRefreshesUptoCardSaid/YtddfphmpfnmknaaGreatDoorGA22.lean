/- Lemmas for the claims of this seat, without a condition: part 22 (C65, C66, C67, C68, C69, C56, C57, C58, C59, C70, C71, C72, C73, LayStrs, O15, S17, O1, C0, O2, R1, R2). -/
import Derived.Test.YtddfphmpfnmknaaGreatDoorGA21
import Derived.Test.YtddfphmpfnmknaaGreatDoorGA17
import Derived.Shelf.Sort.Plain
import Derived.Shelf.Slices.CompactS
import Derived.Ground.NamesProg
namespace Go.Eng
open Go.Proofs
variable {B8:List (Value×AV)}{p:ByteArray}{h:Nat→HO}{k:Value}{a:AV}(y:List Rl)(before:List Sl)(r:Rl)(j:Nat)(l:List Rq)(acc:Option ByteArray)(q:Rq)
theorem Mb:∀(y:List Rl) (acc:List ByteArray) (r:Rl),AX (y++[r]) acc=if(AX y acc).any (fun p=>decide (p=r.path))then AX y acc else AX y acc++[r.path]
 | [],acc,r=>rfl
 |s::y,acc,r=>by rw[Eg,AX,AX,Mb y]
theorem Fm:∀(y:List Rl) (acc:List ByteArray),acc.Nodup→(AX y acc).Nodup
 | [],_,h=>h
 |s::y,acc,h=>by
  rw[AX];refine Fm y _ ?_;split
  ·exact h
  ·rename_i hn;rw[GU];refine⟨h,by simp,fun a ha b hb e=>?_⟩;rw[Ar]at hb;exact hn (Py.2 (by rw[←hb,←e];exact ha))
abbrev Oo(p:ByteArray):List (List AV):=(y.filter fun r=>decide (r.path=p)).map At
abbrev kk(q:ByteArray×Nat):Value×AV:=(.string q.1,.slice (.id (q.2+50) 9) (Oo y q.1))
abbrev Tq:List (Value×AV):=(AX y []).zipIdx.map (kk y)
def Ku(l:Nat):HO:=match(AX y [])[l]? with
 |some q=>.tok 9 (Oo y q).length
 |none=>.free
def WO:HO:=bif Nat.ble 50 j then Ku y (j-50)else .free
theorem Io(l:Nat):WO y (l+50)=Ku y l:=by
 unfold WO;rw[show Nat.ble 50 (l+50)=true by rw[Do];omega,Nat.add_sub_cancel];rfl
theorem rU{j:Nat}(h:j<50):WO y j=.free:=by
 unfold WO;rw[show Nat.ble 50 j=false by rw[AI];intro hc;rw[Do]at hc;omega];rfl
theorem Jp(q:ByteArray):Oo (y++[r]) q=if r.path=q then Oo y q++[At r]else Oo y q:=by
 unfold Oo;rw[DB]
 by_cases h:r.path=q
 ·rw[Al h,KC (by simpa using h)];simp
 ·rw[Ae h,KB (by simpa using h)];simp
theorem Ja{l:List ByteArray}{q:ByteArray×Nat}(h:q∈l.zipIdx):l[q.2]?=some q.1:=by
 obtain⟨a,b⟩:=q;exact F1.1 h
open Classical in
theorem Nc(h:∀a',(k,a')∉B8):FD B8 k a=B8++[(k,a)]:=by
 unfold FD;rw[Ae (fun⟨a',h'⟩=>h a' h')]
open Classical in
theorem ax{a':AV}(h:(k,a')∈B8):FD B8 k a=B8.map fun p=>if p.1=k then(k,a)else p:=by
 unfold FD;rw[Al ⟨a',h⟩]
section
variable {y:List Rl}{r:Rl}{k:Nat}
theorem J6(h:(AX y [])[k]?=some r.path):AX (y++[r]) []=AX y []:=by
 rw[Mb,Al (Py.2 (Ay h))]
theorem J5(h:r.path∉AX y []):AX (y++[r]) []=AX y []++[r.path]:=by
 rw[Mb,Ae (fun hc=>h (Py.1 hc))]
theorem J3{l:List ByteArray}(hd:l.Nodup){i j:Nat}(h1:l[i]?=some p)(h2:l[j]?=some p):i=j:=by
 obtain⟨a1,a2⟩:=Aw.1 h1;obtain⟨b1,b2⟩:=Aw.1 h2;exact(List.getElem_inj hd).1 (a2.trans b2.symm)
open Classical in
theorem nZ(h:(AX y [])[k]?=some r.path):FD (Tq y) (.string r.path) (.slice (.id (k+50) 9) (Oo y r.path++[At r]))=Tq (y++[r]):=by
 have hd:=Fm y [] FI;have hm:kk y (r.path,k)∈Tq y:=Am.2 ⟨_,F1.2 h,rfl⟩;rw[ax (a':=.slice (.id (k+50) 9) (Oo y r.path)) hm];unfold Tq;rw[J6 h,BE];refine Bd fun q hq=>?_;have hg:=Ja hq;obtain⟨q,j⟩:=q;show(if Value.string q=Value.string r.path then _ else _)=kk (y++[r]) (q,j);have hg:(AX y [])[j]?=some q:=hg
 by_cases he:q=r.path
 ·subst he
  have:j=k:=J3 hd hg h
  subst this;rw[Al rfl];show _=(Value.string r.path,AV.slice (.id (j+50) 9) (Oo (y++[r]) r.path));rw[Jp,Al rfl]
 ·rw[Ae (fun e=>he (by simpa using e))];show(Value.string q,AV.slice (.id (j+50) 9) (Oo y q))=(Value.string q,AV.slice (.id (j+50) 9) (Oo (y++[r]) q));rw[Jp,Ae (fun e=>he e.symm)]
theorem eu(h:r.path∉AX y []):Oo y r.path=[]:=by
 have:y.filter (fun s=>decide (s.path=r.path))=[]:=by
  rw[H4];intro s hs he;exact h ((HZ y [] r.path).2 (.inr ⟨s,hs,A4 he⟩))
 unfold Oo;rw[this];rfl
theorem ZC(h:r.path∉AX y [])(a:AV):(Value.string r.path,a)∉Tq y:=by
 intro hc;obtain⟨q,h1,h2⟩:=Am.1 hc;simp only[kk,Gk,Value.string.injEq]at h2;exact h (by rw[←h2.1];exact Ay (Ja h1))
theorem nY(h:r.path∉AX y []):FD (Tq y) (.string r.path) (.slice (.id ((AX y []).length+50) 9) [At r])=Tq (y++[r]):=by
 rw[Nc (fun a=>ZC h a)];unfold Tq;rw[J5 h,List.zipIdx_append,As]
 congr 1
 ·refine Bd fun q hq=>?_;have hg:=Ja hq
  have:q.1≠r.path:=fun e=>h (by rw[←e];exact Ay hg)
  show(Value.string q.1,AV.slice (.id (q.2+50) 9) (Oo y q.1))=(Value.string q.1,AV.slice (.id (q.2+50) 9) (Oo (y++[r]) q.1));rw[Jp,Ae (fun e=>this e.symm)]
 ·show [_]=[(Value.string r.path,AV.slice (.id (0+(AX y []).length+50) 9) (Oo (y++[r]) r.path))];rw[Jp,Al rfl,eu h,Bi];rfl
theorem kn{j:Nat}(h:(AX y [])[j]?=some p):(Value.string p,AV.slice (.id (j+50) 9) (Oo y p))∈Tq y∧∀b,(Value.string p,b)∈Tq y→b=AV.slice (.id (j+50) 9) (Oo y p):=by
 refine⟨Am.2 ⟨(p,j),F1.2 h,rfl⟩,fun b hb=>?_⟩;obtain⟨q,h1,h2⟩:=Am.1 hb;simp only[kk,Gk,Value.string.injEq]at h2;have hg:=Ja h1;rw[h2.1]at hg
 have:=J3 (Fm y [] FI) hg h
 rw[←h2.2,h2.1,this]
theorem mK{j:Nat}(h:(AX y [])[j]?=some p):Ku y j=.tok 9 (Oo y p).length:=by
 unfold Ku;rw[h]
theorem pX(h:(AX y [])[k]?=some r.path)(l:Nat):(bif Nat.beq (l+50) (k+50)then HO.tok 9 ((Oo y r.path).length+1)else Ku y l)=Ku (y++[r]) l:=by
 by_cases he:l=k
 ·subst he;rw[show Nat.beq (l+50) (l+50)=true from Dh _];unfold Ku;rw[J6 h,h];show HO.tok 9 _=HO.tok 9 (Oo (y++[r]) r.path).length;rw[Jp,Al rfl,Ad];rfl
 ·rw[show Nat.beq (l+50) (k+50)=false by rw[AI];intro hc;have:=AM hc;omega];show Ku y l=_;unfold Ku;rw[J6 h];cases hq:(AX y [])[l]? with
  |none=>rfl
  |some q =>
   show HO.tok 9 (Oo y q).length=HO.tok 9 (Oo (y++[r]) q).length;rw[Jp,Ae];intro e;subst e;exact he (J3 (Fm y [] FI) hq h)
theorem pW(h:r.path∉AX y [])(l:Nat):(bif Nat.beq (l+50) ((AX y []).length+50)then HO.tok 9 1 else Ku y l)=Ku (y++[r]) l:=by
 by_cases he:l=(AX y []).length
 ·subst he;rw[show Nat.beq ((AX y []).length+50) ((AX y []).length+50)=true from Dh _];unfold Ku;rw[J5 h];simp only[AR (Ao _),EF,A9];show HO.tok 9 1=HO.tok 9 (Oo (y++[r]) r.path).length;rw[Jp,Al rfl,eu h];rfl
 ·rw[show Nat.beq (l+50) ((AX y []).length+50)=false by rw[AI];intro hc;have:=AM hc;omega];show Ku y l=_;unfold Ku;rw[J5 h]
  by_cases hl:l<(AX y []).length
  ·rw[A2 hl,Ge hl];show HO.tok 9 (Oo y (AX y [])[l]).length=HO.tok 9 (Oo (y++[r]) (AX y [])[l]).length;rw[Jp,Ae];intro e;exact h (by rw[e];exact Aj hl)
  ·rw[A6 ch,A6 (by rw[Ad];simp;omega)]
end
theorem Rv{h:Nat→HO}:∀{B8:List (Value×AV)},(∀p∈B8,VY h p.2=true)→Sz h B8=true
 | [],_=>rfl
 |p::r,hk=>by
  unfold Sz;rw[hk p (Aa ..)];exact Rv (fun q hq=>hk q (Ah _ hq))
theorem L1(hh:∀l,h (l+50)=Ku y l):Sz h (Tq y)=true:=by
 refine Rv fun p hp=>?_;obtain⟨q,h1,rfl⟩:=Am.1 hp;show Tf h (q.2+50)=true;unfold Tf;rw[hh,mK (Ja h1)]
theorem Kf{y:List Rl}{h':Nat→HO}(hh:∀l,h (l+50)=Ku y l)(j:Nat):WO y j=.free∨(h j=WO y j∧ZU h' (WO y j)=true):=by
 by_cases hj:j<50
 ·exact .inl (rU y hj)
 ·obtain⟨l,rfl⟩:∃l,j=l+50:=⟨j-50,by omega⟩
  right
  rw[Io];refine⟨hh l,?_⟩;unfold Ku;cases (AX y [])[l]?<;>rfl
theorem pD{x:List Rl}(hx:AN x=0){i:Nat}(hi:i<x.length):FD ((x.take i).map W3) (SC (Fa x[i])) (.agg (At x[i]))=(x.take (i+1)).map W3:=by
 rw[Nc]
 ·rw[Be,Ge hi,As];rfl
 intro a ha;obtain⟨r,hr,he,_⟩:=dX ha;obtain⟨j,hj,e2⟩:=BR.1 hr;rw[AB]at hj;rw[E4]at e2;have hp:=(Ct hx).2
 have:=(AS.1 hp) j i ch hi ch
 rw[e2]at this;exact HE this he
abbrev wM:Q0:=⟨[],[],[],[],[8,9],[9],[40],[],[],[],[8,9,10,11]⟩
abbrev zT:List AV:=[.v (.map none),.v (.map none)]
theorem nO(x:List Rl)(ifs:List (List AV))(rP:PC 37 [EZ x ifs] (vi (AN x)))(h0:AN x≠0):jl x ifs:=by
 have ht:YG x=.tup [.agg [.cmap bw [],.cmap Du []],vi (AN x)]:=by unfold YG;rw[Ae h0]
 unfold jl;rw[ht];refine Ps wM Tryz.func41 rfl (Nz rfl) (Xi 0 (Xi 0 (yN (Xi 0 (yN (Xi .pure (Xi _ (Yi (rP) (Xi 0 (Yi ?_ ?_))))))))))
 ·intro _;refine Xi 0 (yN (yN (yN ?_)));exact .refl _
 ·intro h;exact absurd h (fun hc=>hc h0)
theorem HY:∀(y:List Rl) (acc:List ByteArray),(AX y acc).length≤acc.length+y.length
 | [],acc=>by simp[AX]
 |r::y,acc=>by
  rw[AX];refine Bf (HY y _) ?_;split
  ·simp only[Av];omega
  ·simp only[Ad,Av,Ax];omega
section
attribute [local irreducible] I4
theorem rC(x:List Rl)(ifs:List (List AV))(rP:PC 37 [EZ x ifs] (vi (AN x)))(h0:AN x=0)(CB:x.length≤256):jl x ifs:=by
 have ht:YG x=.tup [.agg [.cmap bw (x.map W3),.cmap Du ((AX x []).map (sE x))],vi 0]:=by unfold YG;rw[Al h0]
 unfold jl;rw[ht];rw[h0]at rP;refine Ps wM Tryz.func41 rfl (Nz rfl) (Xi 0 (Xi 0 (yN (Xi 0 (yN (Xi .pure (Xi _ (Yi (rP) (Xi 0 (Yi ?_ ?_))))))))))
 ·intro hc;exact absurd (show(0:Int)≠0 from hc) Cl
 intro _;refine Xi 0 (Xi {i:Nat // i≤x.length} (Xi (fun i=>⟨[(2,.ref 2 0),(4,.ref 4 0),(18,sl At x),(19,vi (x.map At).length),(20,vi i.1)],[(2,.cells zT),(4,.cells [.mref 8,.mref 9]),(8,.map bw ((x.take i.1).map W3)),(9,.mapU Du (Tq (x.take i.1)))],WO (x.take i.1)⟩) (Xi (fun i=>x.length-i.1) (Yi (Xi ⟨0,AA _⟩ ?_) ?_))))
 ·refine⟨Z5,Z4,fun j=>.inl ?_,Tv⟩;show WO [] j=.free;unfold WO;cases Nat.ble 50 j<;>rfl
 intro⟨i,i1⟩;have i1:i≤x.length:=i1;refine Xi 0 (Yi ?_ ?_)
 ·intro h;have h:(i:Int)<(x.map At).length:=h;have h:i<x.length:=by simpa using h
  have hg:x[i]?=some x[i]:=Ge h;have Lu:x.take (i+1)=x.take i++[x[i]]:=by rw[Be,hg];rfl
  refine Xi 0 (Xi (At x[i]) (Yi (Yi (Nn i) (by simp[hg])) (Yi rfl ?_)));refine Yi (Nz rfl) (yN (Xi ⟨[(2,.ref 2 0),(4,.ref 4 0),(7,.ref 7 0),(18,sl At x),(19,vi (x.map At).length),(20,vi i)],[(2,.cells zT),(4,.cells [.mref 8,.mref 9]),(7,.cells (At x[i])),(8,.map bw ((x.take i).map W3)),(9,.mapU Du (Tq (x.take i)))],WO (x.take i)⟩ (Yi ?_ ?_)))
  ·exact⟨Z6,⟨Zr,Zr,Zr,Zr,⟨rfl,L1 _ (Io _)⟩,Tv⟩,Kf (Io _),Tv⟩
  refine Xi 0 (yN (Xi _ (Yi (rg x[i]) (yN (Yi Wk ?_)))));have e8:FD ((x.take i).map W3) (SC (Fa x[i])) (.agg (At x[i]))=(x.take (i+1)).map W3:=pD h0 h;refine Xi ⟨[(2,.ref 2 0),(4,.ref 4 0),(7,.ref 7 0),(18,sl At x),(19,vi (x.map At).length),(20,vi i)],[(2,.cells zT),(4,.cells [.mref 8,.mref 9]),(7,.cells (At x[i])),(8,.map bw ((x.take (i+1)).map W3)),(9,.mapU Du (Tq (x.take i)))],WO (x.take i)⟩ (Yi ?_ ?_)
  ·exact⟨Z6,⟨Zr,Zr,Zr,⟨Ab (HO.map bw) e8,rfl⟩,⟨rfl,L1 _ (Io _)⟩,Tv⟩,Kf (Io _),Tv⟩
  have hL:((x.take i).filter (fun r=>decide (r.path=x[i].path))).length≤256:=by
   have:=BC (fun r:Rl=>decide (r.path=x[i].path)) (x.take i)
   rw[AB]at this;omega
  have hP:∀l,WO (x.take i) (l+50)=Ku (x.take i) l:=Io _;refine BF (Classical.em (x[i].path∈AX (x.take i) [])) (fun hp=>?_) (fun hp=>?_)
  ·refine Ba (Cg.1 hp) (fun k hk=>?_);have hu:=kn hk;refine Xi 0 ?_;refine Or.inl (Xi (.slice (.id (k+50) 9) (Oo (x.take i) x[i].path)) (Yi hu ?_));refine yN ?_;have hr:WO (x.take i) (k+50)=.tok 9 (Oo (x.take i) x[i].path).length:=by rw[hP,mK hk]
   have hl:(Oo (x.take i) x[i].path).length≤256:=by rw[Lm];exact hL
   refine Sp (e:=41) (m:=8) (es2:=[At x[i]]) rfl rfl rfl (fun _ h=>h) hr ⟨rfl,trivial⟩ (by show(_+1)*120≤_;omega) (by show _+1≤_;omega) ?_;have vR:k<256:=by
    have:=(Aw.1 hk).1
    have:=HY (x.take i) []
    rw[AB]at this;simp only[Ax]at this;omega
   have sd:=hk;refine Yi (JR ⟨A3 _,A3 _,A3 _,A3 _,A3 _,A3 _,A3 _,A3 _,A3 _,A3 _,Ew (show 39<10000000 by decide),Ew (by show _+50<10000000;omega),Ew (show 9<10000000 by decide),trivial⟩ Wk) ?_;have e9:FD (Tq (x.take i)) (.string x[i].path) (.slice (.id (k+50) 9) (Oo (x.take i) x[i].path++[At x[i]]))=Tq (x.take (i+1)):=by rw[Lu];exact nZ sd
   have hG:∀l,(bif Nat.beq (l+50) (k+50)then HO.tok 9 ((Oo (x.take i) x[i].path).length+1)else Ku (x.take i) l)=Ku (x.take (i+1)) l:=by rw[Lu];exact pX sd
   refine Xi ⟨[(2,.ref 2 0),(4,.ref 4 0),(18,sl At x),(19,vi (x.map At).length),(20,vi i)],[(2,.cells zT),(4,.cells [.mref 8,.mref 9]),(8,.map bw ((x.take (i+1)).map W3)),(9,.mapU Du (Tq (x.take (i+1))))],WO (x.take (i+1))⟩ (Yi ?_ ?_)
   ·refine⟨Z5,⟨Zr,Zr,Zr,⟨Ab (HO.mapU Du) e9,L1 _ (Io _)⟩,Tv⟩,Kf (fun l=>?_),Tv⟩;show(bif Nat.beq (l+50) (k+50)then HO.tok 9 ((Oo (x.take i) x[i].path).length+1)else WO (x.take i) (l+50))=_;rw[hP];exact hG l
   refine Xi 0 (Yi (Ii i ch) (Xi ⟨i+1,by omega⟩ ?_));exact⟨Dl x.length i ch,Z5,⟨Zr,Zr,Zr,⟨rfl,L1 _ (Io _)⟩,Tv⟩,Kf (Io _),Tv⟩
  ·have sd:=hp;have Mr:(AX (x.take i) []).length≤256:=by
    have:=HY (x.take i) []
    rw[AB]at this;simp only[Ax]at this;omega
   have hn:=ZC hp;refine Xi ((AX (x.take i) []).length+50) ?_;refine Or.inr (Yi hn ?_);refine yN ?_;have hr:WO (x.take i) ((AX (x.take i) []).length+50)=.free:=by
    rw[hP];unfold Ku;rw[A6 (Ao _)]
   refine So (e:=41) (m:=8) (es2:=[At x[i]]) rfl rfl rfl (fun _ h=>h) hr rfl ⟨rfl,trivial⟩ (by show 1*120≤_;omega) (by show 1≤_;omega) (Yi (JR ⟨A3 _,A3 _,A3 _,A3 _,A3 _,A3 _,A3 _,A3 _,A3 _,A3 _,Ew (show 39<10000000 by decide),Ew (by show _+50<10000000;omega),Ew (show 9<10000000 by decide),trivial⟩ Wk) ?_);have e9:FD (Tq (x.take i)) (.string x[i].path) (.slice (.id ((AX (x.take i) []).length+50) 9) [At x[i]])=Tq (x.take (i+1)):=by rw[Lu];exact nY sd
   have hG:∀l,(bif Nat.beq (l+50) ((AX (x.take i) []).length+50)then HO.tok 9 1 else Ku (x.take i) l)=Ku (x.take (i+1)) l:=by rw[Lu];exact pW sd
   refine Xi ⟨[(2,.ref 2 0),(4,.ref 4 0),(18,sl At x),(19,vi (x.map At).length),(20,vi i)],[(2,.cells zT),(4,.cells [.mref 8,.mref 9]),(8,.map bw ((x.take (i+1)).map W3)),(9,.mapU Du (Tq (x.take (i+1))))],WO (x.take (i+1))⟩ (Yi ?_ ?_)
   ·refine⟨Z5,⟨Zr,Zr,Zr,⟨Ab (HO.mapU Du) e9,L1 _ (Io _)⟩,Tv⟩,Kf (fun l=>?_),Tv⟩;show(bif Nat.beq (l+50) ((AX (x.take i) []).length+50)then HO.tok 9 1 else WO (x.take i) (l+50))=_;rw[hP];exact hG l
   refine Xi 0 (Yi (Ii i ch) (Xi ⟨i+1,by omega⟩ ?_));exact⟨Dl x.length i ch,Z5,⟨Zr,Zr,Zr,⟨rfl,L1 _ (Io _)⟩,Tv⟩,Kf (Io _),Tv⟩
 ·intro h;have h:¬(i:Int)<(x.map At).length:=h;have h:¬i<x.length:=by simpa using h
  have et:x.take i=x:=Au ch;refine Xi ⟨[(2,.ref 2 0),(4,.ref 4 0)],[(2,.cells zT),(4,.cells [.mref 8,.mref 9]),(8,.map bw ((x.take i).map W3)),(9,.mapU Du (Tq (x.take i)))],WO (x.take i)⟩ (Yi ?_ ?_)
  ·exact⟨Z2,⟨Zr,Zr,Zr,⟨rfl,L1 _ (Io _)⟩,Tv⟩,Kf (Io _),Tv⟩
  refine Xi 0 (yN (yN (yN ?_)));have es:∀h:Nat→HO,Ti h (Tq (x.take i))=(AX x []).map (sE x):=fun h=>by
   rw[et];unfold Ti Tq;rw[BE];refine Dq fun j=>?_;rw[AL,AL,List.getElem?_zipIdx];cases (AX x [])[j]?<;>rfl
  have e1:(x.take i).map W3=x.map W3:=by rw[et]
  exact .of_eq (show AV.tup [.agg [.cmap bw ((x.take i).map W3),.cmap Du (Ti _ (Tq (x.take i)))],vi 0]=_ by rw[e1,es])
end
theorem c84(x:List Rl)(ifs:List (List AV))(hx:∀r∈x,Gv r):jl x ifs:=by
 by_cases h0:AN x=0
 ·exact rC x ifs (nN VQ x ifs hx) h0 (L6 h0).1
 ·exact nO x ifs (nN VQ x ifs hx) h0
abbrev plT(n:Nat):Q0:=⟨[],[(2,n)],[],[],[],[],[5],[],[],[],[2,3]⟩
theorem rA(l:List Sl)(hl:Cy l):A1 Tryz.prog 66 [sl Ac l] (Ak [] Af) fun r h'=>r=.slice (.id 2000 4) (l.map Ac)∧h'=Ak [(2000,.tok 4 (l.map Ac).length)] Af:=by
 refine BW (KV (plT 4)) [(2,2000)] rfl Co hm rfl Tryz.func66 Wk rfl (Nz rfl) Wk rfl ?_;have GQ:Cf 4 (l.map Ac)∧([]:List (List AV)).length=0∧(([]:List (List AV)).length+(l.map Ac).length)*40≤140737488355328∧([]:List (List AV)).length+(l.map Ac).length≤9223372036854775807:=by
  refine⟨DW (enc:=Ac) (n:=4) (fun _=>rfl) l,rfl,?_,?_⟩<;>simp only[Ax,Lm]<;>unfold Cy at hl<;>omega
 have e2:HO.tok 4 (([]:List (List AV)).length+(l.map Ac).length)=.tok 4 (l.map Ac).length:=by rw[Ax,Bi]
 have e3:AV.slice (.id 2000 4) ([]++l.map Ac)=.slice (.id 2000 4) (l.map Ac):=rfl;refine Xi 0 (Xi 0 (Yi ?_ ?_))
 ·intro _;refine cU [(0,sl Ac l)] [] Z1 Tv (Xi 2 (Yi GQ ?_));exact Xi _ (Yi (.refl _) (Yi e3 (Ab (fun o=>Ak [(2000,o)] Af) e2)))
 ·intro h;have h:l.map Ac=[]:=h;refine Yi ?_ ?_
  ·refine Xi ⟨[],[],Af⟩ (Yi ⟨trivial,trivial,fun _=>.inl rfl,Bo Wk⟩ ?_);refine Xi 0 ?_;exact Xi _ (Yi (.refl _) (Yi (show AV.slice (.id 2000 4) []=_ by rw[h]) (show Ak [(2000,HO.tok 4 0)] Af=_ by rw[h];rfl)))
  ·refine cU [(0,sl Ac l)] [] Z1 Tv (Xi 2 (Yi GQ ?_));exact Xi _ (Yi (.refl _) (Yi e3 (Ab (fun o=>Ak [(2000,o)] Af) e2)))
def Iz:Option ByteArray:=if CA before q.path then acc else match acc with
  |none=>some q.path
  |some p=>if DL q.path p then some q.path else some p
theorem On(before:List Sl):∀(a b:List Rq) (acc:Option ByteArray),CH before (a++b) acc=CH before b (CH before a acc)
 | [],_,_=>rfl
 |q::a,b,acc=>On before a b (if CA before q.path then acc else match acc with |none=>some q.path |some p=>if DL q.path p then some q.path else some p)
theorem Jo{j:Nat}(h:j<l.length):CH before (l.take (j+1)) acc=Iz before (CH before (l.take j) acc) l[j]:=by
 rw[Be,Ge h];show CH before (l.take j++[l[j]]) acc=_;rw[On];rfl
def Ns:Bool:=decide (q.path.size≤100)&&decide (q.set.length≤8)
def Ff:Bool:=l.all Ns&&decide (l.length≤20)
theorem c35(hl:Cy l):PC 34 [sl AH l] (vb (Ff l)):=by
 unfold Cy at hl;refine Ps D3 Tryz.func34 rfl (Nz rfl) (Xi {i:Nat // i≤l.length∧∀j (hj:j<l.length),j<i→Ns l[j]=true} (Xi (fun i=>⟨[(0,sl AH l),(3,vi i.1)],[],Af⟩) (Xi (fun i=>l.length-i.1) (Yi (Xi ⟨0,AA _,fun j _ h=>by omega⟩ ?_) ?_))))
 ·exact⟨Z2,Tv,Fh,Tv⟩
 intro⟨i,h1,h2⟩;refine Yi ?_ ?_
 ·intro h;have h:(i:Int)<(l.map AH).length:=h;have h:i<l.length:=by simpa using h
  have hg:l[i]?=some l[i]:=Ge h;have no:Ns l[i]=false→false=Ff l:=fun e=>by
   unfold Ff
   have:l.all Ns=false:=by
    rw[AI];intro ha
    have:=AZ.1 ha _ (Aj h)
    rw[e]at this;cases this
   rw[this];rfl
  refine Xi (AH l[i]) (Yi (Yi (Nn i) (by simp[hg])) (Yi rfl ?_));refine Yi ?_ ?_
  ·intro h3;have h3:(100:Int)<((l[i].path.size:Nat):Int):=h3;exact .of_eq (Ab vb (no (by unfold Ns;rw[Ap ch];rfl)))
  intro h3;have h3:¬(100:Int)<((l[i].path.size:Nat):Int):=h3;refine Xi (AH l[i]) (Yi (Yi (Nn i) (by simp[hg])) (Yi rfl ?_));refine Yi ?_ ?_
  ·intro h4;have h4:(8:Int)<((l[i].set.map Ag).length:Int):=h4;rw[Lm]at h4;exact .of_eq (Ab vb (no (by unfold Ns;rw[Ap (by omega:¬l[i].set.length≤8),Cz])))
  intro h4;have h4:¬(8:Int)<((l[i].set.map Ag).length:Int):=h4;have h5:l[i].set.length≤8:=by rw[Lm]at h4;omega
  refine Yi (Ii i ch) (Xi ⟨i+1,by omega,fun j hj Iq=>?_⟩ ?_)
  ·rcases BY j i with z | z
   ·exact h2 j hj z
   ·have:j=i:=by omega
    subst this;unfold Ns;rw[Aq ch,Aq h5];rfl
  ·exact⟨Dl l.length i ch,Z2,Tv,Fh,Tv⟩
 ·intro h;have h:¬(i:Int)<(l.map AH).length:=h;have h:¬i<l.length:=by simpa using h
  have ha:l.all Ns=true:=AZ.2 fun q hq=>by
   obtain⟨j,hj,rfl⟩:=BZ hq;exact h2 j hj ch
  refine Yi ?_ ?_
  ·intro h3;have h3:((l.map AH).length:Int)≤20:=h3;rw[Lm]at h3;exact .of_eq (Ab vb (show true=Ff l by unfold Ff;rw[ha,Aq ch];rfl))
  ·intro h3;have h3:¬((l.map AH).length:Int)≤20:=h3;rw[Lm]at h3;exact .of_eq (Ab vb (show false=Ff l by unfold Ff;rw[Ap ch,Cz]))
def JE:Bool:=decide (r.path.size≤100)&&decide (r.arch.size≤100)&&decide (r.ifc.size≤100)&&decide (r.cert.size≤100)&&Ff r.reqs
def FE(x:List Rl)(n:Nat):Bool:=x.all JE&&decide (x.length≤n)
theorem c34(x:List Rl)(n:Nat)(hl:Cy x)(hr:∀r∈x,Cy r.reqs):PC 33 [sl At x,vi n] (vb (FE x n)):=by
 unfold Cy at hl;refine Ps D3 Tryz.func33 rfl (Nz rfl) (Xi {i:Nat // i≤x.length∧∀j (hj:j<x.length),j<i→JE x[j]=true} (Xi (fun i=>⟨[(0,sl At x),(1,vi n),(5,vi i.1)],[],Af⟩) (Xi (fun i=>x.length-i.1) (Yi (Xi ⟨0,AA _,fun j _ h=>by omega⟩ ?_) ?_))))
 ·exact⟨Z3,Tv,Fh,Tv⟩
 intro⟨i,h1,h2⟩;refine Yi ?_ ?_
 ·intro h;have h:(i:Int)<(x.map At).length:=h;have h:i<x.length:=by simpa using h
  have hg:x[i]?=some x[i]:=Ge h;have no:JE x[i]=false→false=FE x n:=fun e=>by
   unfold FE
   have:x.all JE=false:=by
    rw[AI];intro ha
    have:=AZ.1 ha _ (Aj h)
    rw[e]at this;cases this
   rw[this];rfl
  have hc:=c35 x[i].reqs (hr _ (Aj h));refine Xi (At x[i]) (Yi (Yi (Nn i) (by simp[hg])) (Yi rfl ?_));refine Yi ?_ ?_
  ·intro h3;have h3:(100:Int)<((x[i].path.size:Nat):Int):=h3;exact .of_eq (Ab vb (no (by unfold JE;rw[Ap (by omega:¬x[i].path.size≤100)];simp)))
  intro h3;have h3:¬(100:Int)<((x[i].path.size:Nat):Int):=h3;refine Xi (At x[i]) (Yi (Yi (Nn i) (by simp[hg])) (Yi rfl ?_));refine Yi ?_ ?_
  ·intro h4;have h4:(100:Int)<((x[i].arch.size:Nat):Int):=h4;exact .of_eq (Ab vb (no (by unfold JE;rw[Ap (by omega:¬x[i].arch.size≤100)];simp)))
  intro h4;have h4:¬(100:Int)<((x[i].arch.size:Nat):Int):=h4;refine Xi (At x[i]) (Yi (Yi (Nn i) (by simp[hg])) (Yi rfl ?_));refine Yi ?_ ?_
  ·intro h5;have h5:(100:Int)<((x[i].ifc.size:Nat):Int):=h5;exact .of_eq (Ab vb (no (by unfold JE;rw[Ap (by omega:¬x[i].ifc.size≤100)];simp)))
  intro h5;have h5:¬(100:Int)<((x[i].ifc.size:Nat):Int):=h5;refine Xi (At x[i]) (Yi (Yi (Nn i) (by simp[hg])) (Yi rfl ?_));refine Yi ?_ ?_
  ·intro h6;have h6:(100:Int)<((x[i].cert.size:Nat):Int):=h6;exact .of_eq (Ab vb (no (by unfold JE;rw[Ap (by omega:¬x[i].cert.size≤100)];simp)))
  intro h6;have h6:¬(100:Int)<((x[i].cert.size:Nat):Int):=h6;refine Xi (At x[i]) (Yi (Yi (Nn i) (by simp[hg])) (Yi rfl ?_));refine BF (Bt (Ff x[i].reqs)) (fun e=>?_) (fun e=>?_)
  rotate_left
  ·rw[e]at hc;refine Xi .pure (Xi _ (Yi (hc) ?_));exact .of_eq (Ab vb (no (by unfold JE;rw[e,Cz])))
  rw[e]at hc;refine Xi .pure (Xi _ (Yi (hc) (Yi (Ii i ch) (Xi ⟨i+1,by omega,fun j hj Iq=>?_⟩ ?_))))
  ·rcases BY j i with z | z
   ·exact h2 j hj z
   ·have:j=i:=by omega
    subst this;unfold JE;rw[Aq (by omega:x[j].path.size≤100),Aq (by omega:x[j].arch.size≤100),Aq (by omega:x[j].ifc.size≤100),Aq (by omega:x[j].cert.size≤100),e];rfl
  ·exact⟨Dl x.length i ch,Z3,Tv,Fh,Tv⟩
 ·intro h;have h:¬(i:Int)<(x.map At).length:=h;have h:¬i<x.length:=by simpa using h
  have ha:x.all JE=true:=AZ.2 fun q hq=>by
   obtain⟨j,hj,rfl⟩:=BZ hq;exact h2 j hj ch
  refine Yi ?_ ?_
  ·intro h3;have h3:((x.map At).length:Int)≤n:=h3;rw[Lm]at h3;exact .of_eq (Ab vb (show true=FE x n by unfold FE;rw[ha,Aq ch];rfl))
  ·intro h3;have h3:¬((x.map At).length:Int)≤n:=h3;rw[Lm]at h3;exact .of_eq (Ab vb (show false=FE x n by unfold FE;rw[Ap ch,Cz]))
theorem c11(x:List Rl)(ifs:List (List AV))(roots:List Rq)(hl:Cy x)(hr:∀r∈x,Cy r.reqs)(hq:Cy roots):PC 10 [EZ x ifs,sl AH roots] (vb (FE x 16&&Ff roots)):=by
 have h1:=c34 x 16 hl hr;have h2:=c35 roots hq;cases e:FE x 16 with
 |true =>
  rw[e]at h1;refine Ps D3 Tryz.func10 rfl (Nz rfl) (Xi .pure (Xi _ (Yi (h1) (Xi .pure (Xi _ (Yi (h2) ?_))))));exact .refl _
 |false =>
  rw[e]at h1;refine Ps D3 Tryz.func10 rfl (Nz rfl) (Xi .pure (Xi _ (Yi (h1) ?_)));exact .refl _
structure p8(x:List Rl)(roots:List Rq):Prop where
 ix:Cy x
 rs:Cy roots
 rel:∀r∈x,Cy r.reqs∧Gv r
 rq:∀q∈roots,J8 q
theorem p8.x{x:List Rl}{roots:List Rq}(h:p8 x roots):∀r∈x,Gv r:=fun r hr=>(h.rel r hr).2
theorem p8.c11{x:List Rl}{roots:List Rq}(h:p8 x roots)(ifs:List (List AV)):PC 10 [EZ x ifs,sl AH roots] (vb (FE x 16&&Ff roots)) :=
 Go.Eng.c11 x ifs roots h.ix (fun r hr=>(h.rel r hr).1) h.rs
end Go.Eng
namespace Go.Proofs
open Go.Shelf
def Tryz.laySortStr_ren:Go.Shelf.Ren:=⟨fun | 190=>76 | 125=>98 | 258=>108 | 128=>137 | 129=>138 | 302=>148 | 303=>149 | 304=>150 | 305=>151 | 306=>152 | 307=>153 | 308=>154 | 309=>155 | 310=>156 | 333=>197 | 329=>186 | 330=>187 | 334=>198 | 335=>199 | 336=>113 | 344=>226 | n=>n,fun | 31=>139 | 9=>9 | 3=>3 | 46=>174 | 0=>0 | 51=>211 | 53=>213 | 4=>4 | 183=>205 | 182=>204 | 131=>110 | 5=>5 | 218=>245 | 222=>249 | 228=>274 | 229=>275 | n=>n,fun | n=>n⟩
theorem Tryz.laySortStr:Go.Proofs.Lays.n190 Tryz.prog Tryz.laySortStr_ren:={
 mixed:=by kernel_rfl
 f125:=Tryz.func98.trans (congrArg some Go.Eng.Wk)
 f128:=Tryz.func137.trans (congrArg some Go.Eng.Wk)
 f129:=Tryz.func138.trans (congrArg some Go.Eng.Wk)
 f190:=Tryz.func76.trans (congrArg some Go.Eng.Wk)
 f258:=Tryz.func108.trans (congrArg some Go.Eng.Wk)
 f302:=Tryz.func148.trans (congrArg some Go.Eng.Wk)
 f303:=Tryz.func149.trans (congrArg some Go.Eng.Wk)
 f304:=Tryz.func150.trans (congrArg some Go.Eng.Wk)
 f305:=Tryz.func151.trans (congrArg some Go.Eng.Wk)
 f306:=Tryz.func152.trans (congrArg some Go.Eng.Wk)
 f307:=Tryz.func153.trans (congrArg some Go.Eng.Wk)
 f308:=Tryz.func154.trans (congrArg some Go.Eng.Wk)
 f309:=Tryz.func155.trans (congrArg some Go.Eng.Wk)
 f310:=Tryz.func156.trans (congrArg some Go.Eng.Wk)
 f329:=Tryz.func186.trans (congrArg some Go.Eng.Wk)
 f330:=Tryz.func187.trans (congrArg some Go.Eng.Wk)
 f333:=Tryz.func197.trans (congrArg some Go.Eng.Wk)
 f334:=Tryz.func198.trans (congrArg some Go.Eng.Wk)
 f335:=Tryz.func199.trans (congrArg some Go.Eng.Wk)
 f336:=Tryz.func113.trans (congrArg some Go.Eng.Wk)
 f344:=Tryz.func226.trans (congrArg some Go.Eng.Wk)
 t0:=Tryz.underlying0
 a0:=Tryz.isAgg0
 z0:=Tryz.sizeOf0
 v0:=Tryz.zeroValue0
 t3:=Tryz.underlying3
 a3:=Tryz.isAgg3
 z3:=Tryz.sizeOf3
 v3:=Tryz.zeroValue3
 t4:=Tryz.underlying4
 a4:=Tryz.isAgg4
 z4:=Tryz.sizeOf4
 v4:=Tryz.zeroValue4
 t5:=Tryz.underlying5
 a5:=Tryz.isAgg5
 z5:=Tryz.sizeOf5
 v5:=Tryz.zeroValue5
 t9:=Tryz.underlying9
 a9:=Tryz.isAgg9
 z9:=Tryz.sizeOf9
 v9:=Tryz.zeroValue9
 t31:=Tryz.underlying139
 a31:=Tryz.isAgg139
 z31:=Tryz.sizeOf139
 v31:=Tryz.zeroValue139
 t46:=Tryz.underlying174
 a46:=Tryz.isAgg174
 z46:=Tryz.sizeOf174
 v46:=Tryz.zeroValue174
 t51:=Tryz.underlying211
 a51:=Tryz.isAgg211
 z51:=Tryz.sizeOf211
 v51:=Tryz.zeroValue211
 t53:=Tryz.underlying213
 a53:=Tryz.isAgg213
 z53:=Tryz.sizeOf213
 v53:=Tryz.zeroValue213
 t131:=Tryz.underlying110
 a131:=Tryz.isAgg110
 z131:=Tryz.sizeOf110
 v131:=Tryz.zeroValue110
 t182:=Tryz.underlying204
 a182:=Tryz.isAgg204
 z182:=Tryz.sizeOf204
 v182:=Tryz.zeroValue204
 t183:=Tryz.underlying205
 a183:=Tryz.isAgg205
 z183:=Tryz.sizeOf205
 v183:=Tryz.zeroValue205
 t218:=Tryz.underlying245
 a218:=Tryz.isAgg245
 z218:=Tryz.sizeOf245
 v218:=Tryz.zeroValue245
 t222:=Tryz.underlying249
 a222:=Tryz.isAgg249
 z222:=Tryz.sizeOf249
 v222:=Tryz.zeroValue249
 t228:=Tryz.underlying274
 a228:=Tryz.isAgg274
 z228:=Tryz.sizeOf274
 v228:=Tryz.zeroValue274
 t229:=Tryz.underlying275
 a229:=Tryz.isAgg275
 z229:=Tryz.sizeOf275
 v229:=Tryz.zeroValue275 }
def Tryz.layCompactStr_ren:Go.Shelf.Ren:=⟨fun | 194=>78 | n=>n,fun | 31=>139 | 9=>9 | 3=>3 | 4=>4 | 0=>0 | n=>n,fun | n=>n⟩
theorem Tryz.layCompactStr:Go.Proofs.Lays.n194 Tryz.prog Tryz.layCompactStr_ren:={
 mixed:=by kernel_rfl
 f194:=Tryz.func78.trans (congrArg some Go.Eng.Wk)
 t0:=Tryz.underlying0
 a0:=Tryz.isAgg0
 z0:=Tryz.sizeOf0
 v0:=Tryz.zeroValue0
 t3:=Tryz.underlying3
 a3:=Tryz.isAgg3
 z3:=Tryz.sizeOf3
 v3:=Tryz.zeroValue3
 t4:=Tryz.underlying4
 a4:=Tryz.isAgg4
 z4:=Tryz.sizeOf4
 v4:=Tryz.zeroValue4
 t9:=Tryz.underlying9
 a9:=Tryz.isAgg9
 z9:=Tryz.sizeOf9
 v9:=Tryz.zeroValue9
 t31:=Tryz.underlying139
 a31:=Tryz.isAgg139
 z31:=Tryz.sizeOf139
 v31:=Tryz.zeroValue139 }
end Go.Proofs
namespace Go.Eng
open Go.Proofs Go.Shelf Go.RowKit Go.Lib Go.Sort
variable (ss:List ByteArray)(zs:List (List UInt8))(s:ByteArray)
abbrev MN:List UInt8:=s.data.toList
abbrev Wv(l:List UInt8):ByteArray:=⟨l.toArray⟩
theorem nH:Wv (MN s)=s:=by cases s;simp
theorem ND:((zs.map Wv).map Dx).flatten=(zs.map Go.Proofs.encStr).map AV.v:=by
 induction zs with
 |nil=>rfl
 |cons z zs ih=>rw[AJ,AJ,Bm,ih];rfl
theorem XW:(ss.map MN).map Wv=ss:=by
 rw[BE,show Wv ∘ MN=id from funext nH,HL]
theorem Abc(t:List ByteArray)(hl:Cy ss)(DM:ss≠[])(hp:t.Perm ss)(ht:(t.map MN).Pairwise fun a b=>a≤b) :
  A1 Tryz.prog 76 [.msl 1000 ss.length] (Ak [(1000,.arr 1 (ss.map Dx))] Af) fun r h'=>r=.tup []∧h'=Ak [(1000,.arr 1 (t.map Dx))] Af:=by
 have hl:ss.length≤1073741824:=hl;have hE:GD Tryz.prog 76:=iX 76 Tryz.func76 Wk rfl;obtain⟨zs,hz⟩:∃zs,zs=ss.map MN:=⟨_,rfl⟩;have Ev:ss=zs.map Wv:=by rw[hz,XW]
 have HT:=Rc (P:=Tryz.prog) (f:=76) (es:=ss.map Dx) (sz:=1) (rest:=[]) (Q:=fun F7=>F7=t.map Dx) hE ?_ ?_
 ·rw[Lm]at HT;refine⟨hE,fun g w vals q1 q2 q3=>(HT.2 g w vals q1 q2 q3).mono fun _ _ ⟨v,r,h',g',e1,⟨e2,F7,p1,p3⟩,rest⟩=>⟨v,r,h',g',e1,⟨e2,by rw[p3,p1]⟩,rest⟩⟩
 ·intro e;exact absurd (Er.1 e) DM
 ·intro g w b cap F hr hF hH hb;have u7:F.toList=zs.map Go.Proofs.encStr:=Me (by rw[←ND,←Ev];exact hr);have ky:F=zs.toArray.map Go.Proofs.encStr:=Jt.1 (by rw[u7];simp);have NZ:zs.length=ss.length:=by rw[hz,Lm]
  have u9:Holds Go.Proofs.encStr w b 0 zs.toArray:=fun j hj=>by
   have:=hH j (by rw[ky];simpa using hj)
   refine⟨this.1.trans ?_,this.2⟩;rw[ky,DO _ j (by simpa using hj),DO _ j hj];simp
  have hc:=Any.slices_Sort_string Tryz.laySortStr b 0 cap zs w u9 hb ch;have htz:(zs.mergeSort fun x y=>decide (x≤y))=t.map MN:=by
   have JK:(zs.mergeSort fun x y=>decide (x≤y)).Perm zs:=List.mergeSort_perm _ _;have wu:=TP (le:=fun x y:List UInt8=>decide (x≤y)) (fun a b c h1 h2=>by simp only[Az]at *;exact List.le_trans h1 h2) (fun a b=>by simp only[Cq,Az];exact List.le_total a b) zs;refine List.Perm.eq_of_pairwise (le:=fun a b=>a≤b) (fun a b _ _ h k=>List.le_antisymm h k) (wu.imp fun h=>A4 h) ht (JK.trans ?_);rw[hz];exact(hp.map MN).symm
  rw[htz,NZ]at hc;rw[Lm];refine hc.mono ?_
  rintro e w' ⟨rfl,n,os,rfl⟩
  have DJ:t.length=ss.length:=hp.length_eq;refine⟨rfl,(t.map MN).toArray.map Go.Proofs.encStr,t.map Dx,n,os,?_,rfl,by simp[DJ],fun cs hcs=>?_,fun g w _=>?_,by rw[RM]⟩
  ·rw[ky];simp[DJ,NZ]
  ·obtain⟨x,_,rfl⟩:=Am.1 hcs;rfl
  ·have e1:t.map Dx=((t.map MN).map Wv).map Dx:=by rw[XW]
   rw[e1,ND];have e:(((t.map MN).toArray.map Go.Proofs.encStr).toList)=(t.map MN).map Go.Proofs.encStr:=by simp
   rw[e];exact NT _ _ _ _ fun x hx=>by
    obtain⟨z,_,rfl⟩:=Am.1 hx;rfl
def B5:List ByteArray:=(Lib.compact (ss.map MN)).map Wv
theorem MR:(Lib.compact zs).length≤zs.length:=by
 unfold Lib.compact Lib.compactUpTo;rw[Lm];exact Bf (BC _ _) (by rw[Si];exact Ao _)
theorem Abd(hl:Cy ss)(DM:ss≠[]) :
  A1 Tryz.prog 78 [.msl 1000 ss.length] (Ak [(1000,.arr 1 (ss.map Dx))] Af) fun r h'=>r=.msl 2000 (B5 ss).length∧h'=Ak [(1000,.dead),(2000,.arr 1 ((B5 ss).map Dx))] Af:=by
 have hl:ss.length≤1073741824:=hl;have hE:GD Tryz.prog 78:=iX 78 Tryz.func78 Wk rfl;obtain⟨zs,hz⟩:∃zs,zs=ss.map MN:=⟨_,rfl⟩;have Ev:ss=zs.map Wv:=by rw[hz,XW]
 have NZ:zs.length=ss.length:=by rw[hz,Lm]
 have hcl:=MR zs;have HT:=Wj (P:=Tryz.prog) (f:=78) (es:=ss.map Dx) (sz:=1) (rest:=[]) (n':=(Lib.compact zs).length) (Q:=fun F7=>F7=((Lib.compact zs++List.replicate (zs.length-(Lib.compact zs).length) []).map Wv).map Dx) hE (fun e=>DM (Er.1 e)) (by rw[Lm];omega) ?_
 ·rw[Lm]at HT;have ez:B5 ss=(Lib.compact zs).map Wv:=by unfold B5;rw[hz]
  refine⟨hE,fun g w vals q1 q2 q3=>(HT.2 g w vals q1 q2 q3).mono fun _ _ ⟨x,r,h',g',e1,⟨e2,F7,p1,p2⟩,rest⟩=>⟨x,r,h',g',e1,⟨by rw[e2,ez,Lm],by
   rw[p2,p1,ez,As,As,FJ (by rw[Lm,Lm];exact Ao _),Au (by rw[Lm,Lm];exact Ao _)]⟩,rest⟩⟩
 ·intro g w b cap F hr hF hH hb hc;rw[Lm]at hF hc⊢;have u7:F.toList=zs.map Go.Proofs.encStr:=Me (by rw[←ND,←Ev];exact hr);have ky:F=zs.toArray.map Go.Proofs.encStr:=Jt.1 (by rw[u7];simp);have u9:Holds Go.Proofs.encStr w b 0 zs.toArray:=fun j hj=>by
   have:=hH j (by rw[ky];simpa using hj)
   refine⟨this.1.trans ?_,this.2⟩;rw[ky,DO _ j (by simpa using hj),DO _ j hj];simp
  have hcon:=Any.slices_Compact_string Tryz.layCompactStr b 0 cap zs w u9 ch ch;rw[NZ]at hcon;refine hcon.mono ?_
  rintro e w' ⟨rfl,q,rfl⟩
  refine⟨rfl,(Lib.compact zs++List.replicate (zs.length-(Lib.compact zs).length) []).toArray.map Go.Proofs.encStr,_,q,#[],?_,rfl,?_,fun cs hcs=>?_,fun g w _=>?_,?_⟩
  ·rw[ky];simp;omega
  ·simp;omega
  ·obtain⟨x,_,rfl⟩:=Am.1 hcs;rfl
  ·rw[ND];have e:((Lib.compact zs++List.replicate (zs.length-(Lib.compact zs).length) []).toArray.map Go.Proofs.encStr).toList=(Lib.compact zs++List.replicate (zs.length-(Lib.compact zs).length) []).map Go.Proofs.encStr:=by simp
   rw[e];exact NT _ _ _ _ fun x hx=>by
    obtain⟨z,_,rfl⟩:=Am.1 hx;rfl
  ·rw[RM,grow_empty,NZ]
end Go.Eng
namespace Go.Eng
open Go.Proofs
variable {α:Type}{f:α→List AV}{l O:List α}{args:List AV}{i n:Nat}{x:α}(s:ByteArray)(c:UInt8)
abbrev Abj(n:Nat):Q0:=⟨[],[],[(2,n),(5,n)],[],[],[],[5],[],[],[],[2,3]⟩
theorem Ace(l:List Sl)(hl:Cy l):A1 Tryz.prog 66 [sl Ac l] (Ak [] Af) fun r h'=>r=.msl 2000 l.length∧h'=Ak [(2000,.arr 4 (l.map Ac))] Af:=by
 refine BW (KV (Abj 4)) [(2,2000)] rfl Co hm rfl Tryz.func66 Wk rfl (Nz rfl) Wk rfl ?_;have GQ:Cf 4 (l.map Ac)∧([]:List (List AV)).length=0∧(([]:List (List AV)).length+(l.map Ac).length)*40≤140737488355328∧([]:List (List AV)).length+(l.map Ac).length≤9223372036854775807:=by
  refine⟨DW (enc:=Ac) (n:=4) (fun _=>rfl) l,rfl,?_,?_⟩<;>simp only[Ax,Lm]<;>unfold Cy at hl<;>omega
 have e1:AV.msl 2000 (([]:List (List AV)).length+(l.map Ac).length)=.msl 2000 l.length:=by simp
 refine Xi 0 (Xi 0 (Yi ?_ ?_))
 ·intro _;refine cU [(0,sl Ac l)] [] Z1 Tv (Xi 2 (Yi GQ ?_));exact Xi _ (Yi (.refl _) (Yi e1 rfl))
 ·intro h;have h:l.map Ac=[]:=h;refine Yi ?_ ?_
  ·refine Xi ⟨[],[],Af⟩ (Yi ⟨trivial,trivial,fun _=>.inl rfl,Bo Wk⟩ ?_);refine Xi 2 ?_;exact Xi _ (Yi (.refl _) (Yi (show AV.msl 2000 0=_ by rw[Er.1 h];rfl) (show Ak [(2000,HO.arr 4 [])] Af=_ by rw[h])))
  ·refine cU [(0,sl Ac l)] [] Z1 Tv (Xi 2 (Yi GQ ?_));exact Xi _ (Yi (.refl _) (Yi e1 rfl))
theorem A1.to2{P:Program}{f:Nat}{h0:Nat→HO}{r0:AV}{H0:Nat→HO}{Q' : AV→(Nat→HO)→Prop}(h:A1 P f args h0 fun r h'=>r=r0∧h'=H0)(k:Q' r0 H0):A1 P f args h0 Q' :=
 h.mono fun r h' q=>⟨r,.refl _,by rw[q.1,q.2];exact k⟩
theorem cb{f:Nat}{b x:Bool}(h:b=x)(hc:PC f args (vb b)):PC f args (vb x):=h▸hc
theorem GI(h:(i:Int)<((l.map f).length:Int)):i<l.length:=by rw[Lm]at h;omega
theorem GH(h:¬(i:Int)<((l.map f).length:Int)):¬i<l.length:=by rw[Lm]at h;omega
theorem Hb(h:i<l.length):(0:Int)≤(i:Int)∧(l.map f)[((i:Nat):Int).toNat]?=some (f l[i]):=⟨Int.natCast_nonneg _,by rw[A7,AL,Ge h];rfl⟩
theorem Wt{z:Nat}{x:List AV}(hx:x.length=n)(h:O.length≤2147483647)(hz:z≤65536) :
  Cf n [x]∧(O.map f).length=O.length∧((O.map f).length+([x]:List (List AV)).length)*z≤140737488355328∧(O.map f).length+([x]:List (List AV)).length≤9223372036854775807:=by
 refine⟨⟨hx,trivial⟩,Lm _,?_,?_⟩<;>rw[Lm]<;>simp only[Av,Ax]
 ·have:=Nat.mul_le_mul (show O.length+(0+1)≤2147483648 by omega) hz
  omega
 ·omega
theorem tkA{r:Nat}:AV.slice (.id r n) (O.map f++[f x])=.slice (.id r n) ((O++[x]).map f):=by rw[As];rfl
theorem tY{y:List AV}:HO.tok n ((O.map f).length+([y]:List (List AV)).length)=.tok n (O++[x]).length:=by rw[Ad,Lm];rfl
theorem rz:PC 246 [vc c] (vb (EW c)):=by
 refine Ps D3 Tryz.func246 rfl (Nz rfl) ?_;have e1:decide ((97:UInt8)≤c)=decide ((97:Int)≤(c.toNat:Int)):=Xy c 97 Cl;have e2:decide (c≤(122:UInt8))=decide ((c.toNat:Int)≤(122:Int)):=Xx c 122 Cl;have es:EW c=(decide ((97:Int)≤(c.toNat:Int))&&decide ((c.toNat:Int)≤(122:Int))):=by unfold EW;rw[e1,e2]
 refine Yi ?_ ?_
 ·intro h;have h:(97:Int)≤(c.toNat:Int):=h;refine Yi ?_ ?_
  ·intro h2;have h2:(c.toNat:Int)≤122:=h2;exact .of_eq (Ab vb (show true=EW c by rw[es,Aq h,Aq h2];rfl))
  ·intro h2;have h2:¬(c.toNat:Int)≤122:=h2;exact .of_eq (Ab vb (show false=EW c by rw[es,Ap h2,Cz]))
 ·intro h;have h:¬(97:Int)≤(c.toNat:Int):=h;exact .of_eq (Ab vb (show false=EW c by rw[es,Ap h];rfl))
theorem nM:PC 247 [vc c] (vb (CM c)):=by
 refine Ps D3 Tryz.func247 rfl (Nz rfl) ?_;have e1:decide ((48:UInt8)≤c)=decide ((48:Int)≤(c.toNat:Int)):=Xy c 48 Cl;have e2:decide (c≤(57:UInt8))=decide ((c.toNat:Int)≤(57:Int)):=Xx c 57 Cl;have es:CM c=(decide ((48:Int)≤(c.toNat:Int))&&decide ((c.toNat:Int)≤(57:Int))):=by unfold CM;rw[e1,e2]
 refine Yi ?_ ?_
 ·intro h;have h:(48:Int)≤(c.toNat:Int):=h;refine Yi ?_ ?_
  ·intro h2;have h2:(c.toNat:Int)≤57:=h2;exact .of_eq (Ab vb (show true=CM c by rw[es,Aq h,Aq h2];rfl))
  ·intro h2;have h2:¬(c.toNat:Int)≤57:=h2;exact .of_eq (Ab vb (show false=CM c by rw[es,Ap h2,Cz]))
 ·intro h;have h:¬(48:Int)≤(c.toNat:Int):=h;exact .of_eq (Ab vb (show false=CM c by rw[es,Ap h];rfl))
theorem zO:PC 296 [vc c] (vb (MO c)):=by
 refine Ps D3 Tryz.func296 rfl (Nz rfl) ?_;have e1:decide ((65:UInt8)≤c)=decide ((65:Int)≤(c.toNat:Int)):=Xy c 65 Cl;have e2:decide (c≤(90:UInt8))=decide ((c.toNat:Int)≤(90:Int)):=Xx c 90 Cl;have es:MO c=(decide ((65:Int)≤(c.toNat:Int))&&decide ((c.toNat:Int)≤(90:Int))):=by unfold MO;rw[e1,e2]
 refine Yi ?_ ?_
 ·intro h;have h:(65:Int)≤(c.toNat:Int):=h;refine Yi ?_ ?_
  ·intro h2;have h2:(c.toNat:Int)≤90:=h2;exact .of_eq (Ab vb (show true=MO c by rw[es,Aq h,Aq h2];rfl))
  ·intro h2;have h2:¬(c.toNat:Int)≤90:=h2;exact .of_eq (Ab vb (show false=MO c by rw[es,Ap h2,Cz]))
 ·intro h;have h:¬(65:Int)≤(c.toNat:Int):=h;exact .of_eq (Ab vb (show false=MO c by rw[es,Ap h];rfl))
theorem zN:PC 289 [vc c] (vb (Gg c)):=by
 have h1:=rz c;have h2:=zO c;have h3:=nM c;have ew:Gg c=(EW c||MO c||CM c||decide (c=95)):=rfl;rcases Bt (EW c)with e | e
 ·rw[e]at h1;refine Ps D3 Tryz.func289 rfl (Nz rfl) (Xi .pure (Xi _ (Yi (h1) ?_)));exact .of_eq (Ab vb (show true=Gg c by rw[ew,e];rfl))
 rw[e]at h1;rcases Bt (MO c)with e2 | e2
 ·rw[e2]at h2;refine Ps D3 Tryz.func289 rfl (Nz rfl) (Xi .pure (Xi _ (Yi (h1) (Xi .pure (Xi _ (Yi (h2) ?_))))));exact .of_eq (Ab vb (show true=Gg c by rw[ew,e,e2];rfl))
 rw[e2]at h2;rcases Bt (CM c)with e3 | e3
 ·rw[e3]at h3;refine Ps D3 Tryz.func289 rfl (Nz rfl) (Xi .pure (Xi _ (Yi (h1) (Xi .pure (Xi _ (Yi (h2) (Xi .pure (Xi _ (Yi (h3) ?_)))))))));exact .of_eq (Ab vb (show true=Gg c by rw[ew,e,e2,e3];rfl))
 rw[e3]at h3;refine Ps D3 Tryz.func289 rfl (Nz rfl) (Xi .pure (Xi _ (Yi (h1) (Xi .pure (Xi _ (Yi (h2) (Xi .pure (Xi _ (Yi (h3) ?_)))))))));have eb:decide (c=95)=decide ((c.toNat:Int)=95):=by
  rw[B2,Az,Az];constructor
  ·intro h;subst h;rfl
  ·intro h;exact GS.1 (by show c.toNat=95;omega)
 refine Yi ?_ ?_
 ·intro h;have h:(c.toNat:Int)=95:=h;exact .of_eq (Ab vb (show true=Gg c by rw[ew,e,e2,e3,eb,Aq h];rfl))
 ·intro h;have h:¬(c.toNat:Int)=95:=h;exact .of_eq (Ab vb (show false=Gg c by rw[ew,e,e2,e3,eb,Ap h];rfl))
theorem zK(hs:s.data.toList.length<4611686018427387904):PC 268 [vs s] (vb (s.data.toList.all Gg)):=by
 have Ev:s.size=s.data.toList.length:=by simp
 refine Ps D3 Tryz.func268 rfl (Nz rfl) (Xi {i:Nat // i≤s.data.toList.length∧∀j (hj:j<s.data.toList.length),j<i→Gg s.data.toList[j]=true} (Xi (fun i=>⟨[(0,vs s),(3,vi i.1)],[],Af⟩) (Xi (fun i=>s.data.toList.length-i.1) (Yi (Xi ⟨0,AA _,fun j _ h=>by omega⟩ ?_) ?_))))
 ·exact⟨Z2,Tv,Fh,Tv⟩
 intro⟨i,h1,h2⟩;refine Yi ?_ ?_
 ·intro h;have h:(i:Int)<(s.size:Nat):=h;have h:i<s.data.toList.length:=by omega
  refine Xi s.data.toList[i] (Yi ⟨by show(0:Int)≤i;omega,by show s.data[((i:Nat):Int).toNat]?=_;rw[A7];exact Nx s i h⟩ ?_);have hc:=zN s.data.toList[i];refine BF (Bt (Gg s.data.toList[i])) (fun e=>?_) (fun e=>?_)
  ·rw[e]at hc;refine Xi .pure (Xi _ (Yi (hc) (Yi (Ii i ch) (Xi ⟨i+1,by omega,fun j hj Iq=>?_⟩ ?_))))
   ·rcases BY j i with z | z
    ·exact h2 j hj z
    ·have:j=i:=by omega
     subst this;exact e
   ·exact⟨Dl s.data.toList.length i ch,Z2,Tv,Fh,Tv⟩
  ·rw[e]at hc;refine Xi .pure (Xi _ (Yi (hc) ?_));have er:s.data.toList.all Gg=false:=by
    rw[AI];intro ha
    have:=AZ.1 ha _ (Aj h)
    rw[e]at this;cases this
   exact .of_eq (Ab vb er.symm)
 ·intro h;have h:¬(i:Int)<(s.size:Nat):=h;have er:s.data.toList.all Gg=true:=AZ.2 fun c hc=>by
   obtain⟨j,hj,rfl⟩:=BZ hc;exact h2 j hj ch
  exact .of_eq (Ab vb er.symm)
abbrev yn:List ByteArray:=sF.map bs
theorem zM:PC 270 [] (sl Dx yn):=by
 refine Ps D3 Tryz.func270 rfl (Nz rfl) ?_;exact .refl _
theorem zL(l:List ByteArray)(s:ByteArray)(hl:Cy l):PC 269 [sl Dx l,vs s] (vb (l.any fun q=>decide (q=s))):=by
 unfold Cy at hl;refine Ps D3 Tryz.func269 rfl (Nz rfl) (Xi {i:Nat // i≤l.length∧∀j (hj:j<l.length),j<i→l[j]≠s} (Xi (fun i=>⟨[(0,sl Dx l),(1,vs s),(5,vi i.1)],[],Af⟩) (Xi (fun i=>l.length-i.1) (Yi (Xi ⟨0,AA _,fun j _ h=>by omega⟩ ?_) ?_))))
 ·exact⟨Z3,Tv,Fh,Tv⟩
 intro⟨i,h1,h2⟩;refine Yi ?_ ?_
 ·intro h;have h:(i:Int)<(l.map Dx).length:=h;have h:i<l.length:=by simpa using h
  have hg:l[i]?=some l[i]:=Ge h;refine Xi (Dx l[i]) (Yi (Yi (Nn i) (by simp[hg])) (Yi rfl ?_));refine Yi ?_ ?_
  ·intro he;have he:l[i]=s:=he;exact .of_eq (Ab vb (show true=_ from(A5.2 ⟨l[i],Aj h,by simpa using he⟩).symm))
  ·intro he;have he:¬l[i]=s:=he;refine Yi (Ii i ch) (Xi ⟨i+1,by omega,fun j hj Iq=>?_⟩ ?_)
   ·rcases BY j i with z | z
    ·exact h2 j hj z
    ·have:j=i:=by omega
     subst this;exact he
   ·exact⟨Dl l.length i ch,Z3,Tv,Fh,Tv⟩
 ·intro h;have h:¬(i:Int)<(l.map Dx).length:=h;have h:¬i<l.length:=by simpa using h
  have er:(l.any fun q=>decide (q=s))=false:=by
   rw[De];intro q hq;obtain⟨j,hj,rfl⟩:=BZ hq;simpa using h2 j hj ch
  exact .of_eq (Ab vb er.symm)
theorem uu{w:List UInt8}{s:ByteArray}:bs w=s↔w=s.data.toList:=by
 constructor
 ·intro h;rw[←h];rfl
 ·intro h;rw[h];rfl
theorem sH:(yn.any fun q=>decide (q=s))=sF.any (fun w=>decide (w=s.data.toList)):=by
 unfold yn;rw[List.any_map]
 congr 1
 funext w
 simp only[Function.comp];rw[Jz];exact uu
theorem zG(hs:s.data.toList.length<4611686018427387904):PC 248 [vs s] (vb (GN s.data.toList)):=by
 have Ev:s.size=s.data.toList.length:=by simp
 obtain⟨N,hN⟩:∃N,N=GN s.data.toList:=⟨_,rfl⟩;rw[←hN];unfold GN at hN;have oa:=zK s hs;have kr:=zL yn s Cl;rw[sH]at kr;refine Ps D3 Tryz.func248 rfl (Nz rfl) (Yi (fun h=>?_) (fun h=>?_))
 rotate_left
 ·have h:¬(1:Int)≤(s.size:Nat):=h;have e:s.data.toList=[]:=AK ch;exact .of_eq (Ab vb (show false=N by rw[hN,e];rfl))
 have h:(1:Int)≤(s.size:Nat):=h;have he:s.data.toList.isEmpty=false:=by
  cases e:s.data.toList with
  |nil=>rw[e,Ax]at Ev;omega
  |cons _ _=>rfl
 refine Yi (fun h2=>?_) (fun h2=>?_)
 rotate_left
 ·have h2:¬((s.size:Nat):Int)≤32:=h2;exact .of_eq (Ab vb (show false=N by rw[hN,he,Ap ch];rfl))
 have h2:((s.size:Nat):Int)≤32:=h2;refine Ba (show ∃c l,s.data.toList=c::l by cases e:s.data.toList with | nil=>rw[e]at he;cases he | cons c l=>exact⟨c,l,rfl⟩) (fun c hc=>?_);refine Ba hc (fun l hc=>?_);refine Xi c (Yi ⟨by decide,by show s.data[(0:Int).toNat]?=_;rw[←AQ,hc];rfl⟩ ?_);have n9:=rz c;have hN:N=(EW c&&s.data.toList.all Gg&&!Wb s.data.toList):=by
  rw[hN,he,Aq ch,hc];rfl
 refine BF (Bt (EW c)).symm (fun e=>?_) (fun e=>?_)
 ·rw[e]at n9;refine Xi .pure (Xi _ (Yi (n9) ?_));exact .of_eq (Ab vb (show false=N by rw[hN,e];rfl))
 rw[e]at n9;refine Xi .pure (Xi _ (Yi (n9) (BF (Bt (s.data.toList.all Gg)).symm (fun e2=>?_) (fun e2=>?_))))
 ·rw[e2]at oa;refine Xi .pure (Xi _ (Yi (oa) ?_));exact .of_eq (Ab vb (show false=N by rw[hN,e,e2];rfl))
 rw[e2]at oa;refine Xi .pure (Xi _ (Yi (oa) (Xi .pure (Xi _ (Yi (zM) ?_)))));rw[cw e2]at hN;refine BF (Bt (sF.any (fun w=>decide (w=s.data.toList)))) (fun e3=>?_) (fun e3=>?_)
 ·rw[e3]at kr;refine Xi .pure (Xi _ (Yi (kr) ?_));exact .of_eq (Ab vb (show false=N by rw[hN,e,e2,e3];rfl))
 ·rw[e3]at kr;refine Xi .pure (Xi _ (Yi (kr) ?_));exact .of_eq (Ab vb (show true=N by rw[hN,e,e2,e3];rfl))
end Go.Eng
