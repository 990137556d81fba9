/- Lemmas 22. -/
import Derived.Test.YtjhkbdgingfbaaaGreatDoorHA21
import Derived.Shelf.Strconv.Itoa3
import Derived.Shelf.Strings.Repeat
import Derived.Shelf.Pu.Clone
import Derived.Ground.NamesProg
import Derived.Ground.MpProg
set_option maxHeartbeats 4000000
namespace Go.Eng
open Go.Proofs
variable {B7:List (Value×AV)}{p:ByteArray}{h:Nat->HO}{k:Value}{a:AV}(y:List Rl)(j:Nat)(r:Rl)(l:List Rq)
theorem Me:∀(y:List Rl) (acc:List ByteArray) (r:Rl),AW (y++[r]) acc=if(AW y acc).any (fun p=>decide (p=r.path))then AW y acc else AW y acc++[r.path]
 | [],acc,r=>rfl
 |s::y,acc,r=>by rw[DA,AW,AW,Me y]
theorem Fa:∀(y:List Rl) (acc:List ByteArray),acc.Nodup->(AW y acc).Nodup
 | [],_,h=>h
 |s::y,acc,h=>by
  rw[AW];refine Fa y _ ?_;split
  .exact h
  .rename_i hn;rw[GK];refine⟨h,by simp,fun a ha b hb e=>?_⟩;rw[Aj]at hb;exact hn (Pf.2 (by rw[<-hb,<-e];exact ha))
abbrev Of(p:ByteArray):List (List AV):=(y.filter fun r=>decide (r.path=p)).map BS
abbrev lX(q:ByteArray×Nat):Value×AV:=(.string q.1,.slice (.id (q.2+50) 9) (Of y q.1))
abbrev SY:List (Value×AV):=(AW y []).zipIdx.map (lX y)
def Kd(l:Nat):HO:=match(AW y [])[l]? with
 |some q=>.tok 9 (Of y q).length
 |none=>.free
def Wv:HO:=bif Nat.ble 50 j then Kd y (j-50)else .free
theorem H8(l:Nat):Wv y (l+50)=Kd y l:=by
 unfold Wv;rw[show Nat.ble 50 (l+50)=true by rw[Df];omega,Nat.add_sub_cancel];rfl
theorem tB{j:Nat}(h:j<50):Wv y j=.free:=by
 unfold Wv;rw[show Nat.ble 50 j=false by rw[AH];intro hc;rw[Df]at hc;omega];rfl
theorem I7(q:ByteArray):Of (y++[r]) q=if r.path=q then Of y q++[BS r]else Of y q:=by
 unfold Of;rw[ED]
 by_cases h:r.path=q
 .rw[As h,Kn (by simpa using h)];simp
 .rw[Ah h,Km (by simpa using h)];simp
theorem IT{l:List ByteArray}{q:ByteArray×Nat}(h:q∈l.zipIdx):l[q.2]?=some q.1:=by
 obtain⟨a,b⟩:=q;exact FL.1 h
open Classical in
theorem Nb(h:∀a',(k,a')∉B7):Ff B7 k a=B7++[(k,a)]:=by
 unfold Ff;rw[Ah (fun⟨a',h'⟩=>h a' h')]
open Classical in
theorem aQ{a':AV}(h:(k,a')∈B7):Ff B7 k a=B7.map fun p=>if p.1=k then(k,a)else p:=by
 unfold Ff;rw[As ⟨a',h⟩]
section
variable {y:List Rl}{r:Rl}{k:Nat}
theorem JO(h:(AW y [])[k]?=some r.path):AW (y++[r]) []=AW y []:=by
 rw[Me,As (Pf.2 (Av h))]
theorem JN(h:r.path∉AW y []):AW (y++[r]) []=AW y []++[r.path]:=by
 rw[Me,Ah (fun hc=>h (Pf.1 hc))]
theorem JL{l:List ByteArray}(hd:l.Nodup){i j:Nat}(h1:l[i]?=some p)(h2:l[j]?=some p):i=j:=by
 obtain⟨a1,a2⟩:=Ar.1 h1;obtain⟨b1,b2⟩:=Ar.1 h2;exact(List.getElem_inj hd).1 (a2.trans b2.symm)
open Classical in
theorem pR(h:(AW y [])[k]?=some r.path):Ff (SY y) (.string r.path) (.slice (.id (k+50) 9) (Of y r.path++[BS r]))=SY (y++[r]):=by
 have hd:=Fa y [] Fz;have hm:lX y (r.path,k)∈SY y:=Ak.2 ⟨_,FL.2 h,rfl⟩;rw[aQ (a':=.slice (.id (k+50) 9) (Of y r.path)) hm];unfold SY;rw[JO h,Bw];refine Ba fun q hq=>?_;have hg:=IT hq;obtain⟨q,j⟩:=q;show(if Value.string q=Value.string r.path then _ else _)=lX (y++[r]) (q,j)
 by_cases he:q=r.path
 .subst he
  have:j=k:=JL hd hg h
  subst this;rw[As rfl];show _=(Value.string r.path,AV.slice (.id (j+50) 9) (Of (y++[r]) r.path));rw[I7,As rfl]
 .rw[Ah (fun e=>he (by simpa using e))];show(Value.string q,AV.slice (.id (j+50) 9) (Of y q))=(Value.string q,AV.slice (.id (j+50) 9) (Of (y++[r]) q));rw[I7,Ah (fun e=>he e.symm)]
theorem fo(h:r.path∉AW y []):Of y r.path=[]:=by
 have:y.filter (fun s=>decide (s.path=r.path))=[]:=by
  rw[EX];intro s hs he;exact h ((HN y [] r.path).2 (.inr ⟨s,hs,BO he⟩))
 unfold Of;rw[this];rfl
theorem ZQ(h:r.path∉AW y [])(a:AV):(Value.string r.path,a)∉SY y:=by
 intro hc;obtain⟨q,h1,h2⟩:=Ak.1 hc;simp only[lX,ES,Value.string.injEq]at h2;exact h (by rw[<-h2.1];exact Av (IT h1))
theorem pQ(h:r.path∉AW y []):Ff (SY y) (.string r.path) (.slice (.id ((AW y []).length+50) 9) [BS r])=SY (y++[r]):=by
 rw[Nb (fun a=>ZQ h a)];unfold SY;rw[JN h,List.zipIdx_append,Az]
 congr 1
 .refine Ba fun q hq=>?_;have hg:=IT hq
  have:q.1≠r.path:=fun e=>h (by rw[<-e];exact Av hg)
  show(Value.string q.1,AV.slice (.id (q.2+50) 9) (Of y q.1))=(Value.string q.1,AV.slice (.id (q.2+50) 9) (Of (y++[r]) q.1));rw[I7,Ah (fun e=>this e.symm)]
 .show [_]=[(Value.string r.path,AV.slice (.id (0+(AW y []).length+50) 9) (Of (y++[r]) r.path))];rw[I7,As rfl,fo h,A7];rfl
theorem l5{j:Nat}(h:(AW y [])[j]?=some p):(Value.string p,AV.slice (.id (j+50) 9) (Of y p))∈SY y/\∀b,(Value.string p,b)∈SY y->b=AV.slice (.id (j+50) 9) (Of y p):=by
 refine⟨Ak.2 ⟨(p,j),FL.2 h,rfl⟩,fun b hb=>?_⟩;obtain⟨q,h1,h2⟩:=Ak.1 hb;simp only[lX,ES,Value.string.injEq]at h2;have hg:=IT h1;rw[h2.1]at hg
 have:=JL (Fa y [] Fz) hg h
 rw[<-h2.2,h2.1,this]
theorem ol{j:Nat}(h:(AW y [])[j]?=some p):Kd y j=.tok 9 (Of y p).length:=by
 unfold Kd;rw[h]
theorem rv(h:(AW y [])[k]?=some r.path)(l:Nat):(bif Nat.beq (l+50) (k+50)then HO.tok 9 ((Of y r.path).length+1)else Kd y l)=Kd (y++[r]) l:=by
 by_cases he:l=k
 .subst he;rw[show Nat.beq (l+50) (l+50)=true from CU _];unfold Kd;rw[JO h,h];show HO.tok 9 _=HO.tok 9 (Of (y++[r]) r.path).length;rw[I7,As rfl,Ac];rfl
 .rw[show Nat.beq (l+50) (k+50)=false by rw[AH];intro hc;have:=AM hc;omega];show Kd y l=_;unfold Kd;rw[JO h];cases hq:(AW y [])[l]? with
  |none=>rfl
  |some q=>
   show HO.tok 9 (Of y q).length=HO.tok 9 (Of (y++[r]) q).length;rw[I7,Ah];intro e;subst e;exact he (JL (Fa y [] Fz) hq h)
theorem ru(h:r.path∉AW y [])(l:Nat):(bif Nat.beq (l+50) ((AW y []).length+50)then HO.tok 9 1 else Kd y l)=Kd (y++[r]) l:=by
 by_cases he:l=(AW y []).length
 .subst he;rw[show Nat.beq ((AW y []).length+50) ((AW y []).length+50)=true from CU _];unfold Kd;rw[JN h];simp only[A0 (Ai _),F7,A4];show HO.tok 9 1=HO.tok 9 (Of (y++[r]) r.path).length;rw[I7,As rfl,fo h];rfl
 .rw[show Nat.beq (l+50) ((AW y []).length+50)=false by rw[AH];intro hc;have:=AM hc;omega];show Kd y l=_;unfold Kd;rw[JN h]
  by_cases hl:l<(AW y []).length
  .rw[AU hl,Ge hl];show HO.tok 9 (Of y (AW y [])[l]).length=HO.tok 9 (Of (y++[r]) (AW y [])[l]).length;rw[I7,Ah];intro e;exact h (by rw[e];exact Aq hl)
  .rw[AQ ch,AQ (by rw[Ac];simp;omega)]
end
theorem QR{h:Nat->HO}:∀{B7:List (Value×AV)},(∀p∈B7,Un h p.2=true)->Se h B7=true
 | [],_=>rfl
 |p::r,hk=>by
  unfold Se;rw[hk p (Ab ..)];exact QR (fun q hq=>hk q (Ae _ hq))
theorem L6(hh:∀l,h (l+50)=Kd y l):Se h (SY y)=true:=by
 refine QR fun p hp=>?_;obtain⟨q,h1,rfl⟩:=Ak.1 hp;show SJ h (q.2+50)=true;unfold SJ;rw[hh,ol (IT h1)]
theorem JV{y:List Rl}{h':Nat->HO}(hh:∀l,h (l+50)=Kd y l)(j:Nat):Wv y j=.free\/(h j=Wv y j/\SK h' (Wv y j)=true):=by
 by_cases hj:j<50
 .exact .inl (tB y hj)
 .obtain⟨l,rfl⟩:∃l,j=l+50:=⟨j-50,by omega⟩
  right
  rw[H8];refine⟨hh l,?_⟩;unfold Kd;cases (AW y [])[l]?<;>rfl
theorem rc{x:List Rl}(hx:Bd x=0){i:Nat}(hi:i<x.length):Ff ((x.take i).map WH) (Iv (FC x[i])) (.agg (BS x[i]))=(x.take (i+1)).map WH:=by
 rw[Nb]
 .rw[AZ,Ge hi,Az];rfl
 intro a ha;obtain⟨r,hr,he,_⟩:=eU ha;obtain⟨j,hj,e2⟩:=B1.1 hr;rw[AA]at hj;rw[K6]at e2;have hp:=(CF hx).2
 have:=(A8.1 hp) j i ch hi ch
 rw[e2]at this;exact JZ this he
abbrev yG:Qn:=⟨[],[],[],[],[8,9],[9],[40],[],[],[],[8,9,10,11]⟩
abbrev zT:List AV:=[.v (.map none),.v (.map none)]
theorem py(x:List Rl)(ifs:List (List AV))(tt:PC 40 [LO x ifs] (vi (Bd x)))(h0:Bd x≠0):ky x ifs:=by
 have ht:YS x=.tup [.agg [.cmap SP [],.cmap Ek []],vi (Bd x)]:=by unfold YS;rw[Ah h0]
 unfold ky;rw[ht];refine Ps yG Tryz.func82 rfl (Nz rfl) (Xi 0 (Xi 0 (yN (Xi 0 (yN (Xi .pure (Xi _ (Yi (tt) (Xi 0 (Yi ?_ ?_))))))))))
 .intro _;refine Xi 0 (yN (yN (yN ?_)));exact .refl _
 .intro h;exact absurd h (fun hc=>hc h0)
theorem HM:∀(y:List Rl) (acc:List ByteArray),(AW y acc).length<=acc.length+y.length
 | [],acc=>by simp[AW]
 |r::y,acc=>by
  rw[AW];refine A9 (HM y _) ?_;split
  .simp only[Al];omega
  .simp only[Ac,Al,Ax];omega
section
attribute [local irreducible] IK
theorem tc(x:List Rl)(ifs:List (List AV))(tt:PC 40 [LO x ifs] (vi (Bd x)))(h0:Bd x=0)(Ca:x.length<=256):ky x ifs:=by
 have ht:YS x=.tup [.agg [.cmap SP (x.map WH),.cmap Ek ((AW x []).map (ur x))],vi 0]:=by unfold YS;rw[As h0]
 unfold ky;rw[ht];rw[h0]at tt;refine Ps yG Tryz.func82 rfl (Nz rfl) (Xi 0 (Xi 0 (yN (Xi 0 (yN (Xi .pure (Xi _ (Yi (tt) (Xi 0 (Yi ?_ ?_))))))))))
 .intro hc;exact absurd (show(0:Int)≠0 from hc) Cl
 intro _;refine Xi 0 (Xi {i:Nat // i<=x.length} (Xi (fun i=>⟨[(2,.ref 2 0),(4,.ref 4 0),(18,sl BS x),(19,vi (x.map BS).length),(20,vi i.1)],[(2,.cells zT),(4,.cells [.mref 8,.mref 9]),(8,.map SP ((x.take i.1).map WH)),(9,.mapU Ek (SY (x.take i.1)))],Wv (x.take i.1)⟩) (Xi (fun i=>x.length-i.1) (Yi (Xi ⟨0,AE _⟩ ?_) ?_))))
 .refine⟨Z5,Z4,fun j=>.inl ?_,Tv⟩;show Wv [] j=.free;unfold Wv;cases Nat.ble 50 j<;>rfl
 intro⟨i,i1⟩;refine Xi 0 (Yi ?_ ?_)
 .intro h;have h:i<x.length:=by simpa using h
  have hg:x[i]?=some x[i]:=Ge h;have Ky:x.take (i+1)=x.take i++[x[i]]:=by rw[AZ,hg];rfl
  refine Xi 0 (Xi (BS x[i]) (Yi (Yi (Nn i) (by simp[hg])) (Yi rfl ?_)));refine Yi (Nz rfl) (yN (Xi ⟨[(2,.ref 2 0),(4,.ref 4 0),(7,.ref 7 0),(18,sl BS x),(19,vi (x.map BS).length),(20,vi i)],[(2,.cells zT),(4,.cells [.mref 8,.mref 9]),(7,.cells (BS x[i])),(8,.map SP ((x.take i).map WH)),(9,.mapU Ek (SY (x.take i)))],Wv (x.take i)⟩ (Yi ?_ ?_)))
  .exact⟨Z6,⟨Zr,Zr,Zr,Zr,⟨rfl,L6 _ (H8 _)⟩,Tv⟩,JV (H8 _),Tv⟩
  refine Xi 0 (yN (Xi _ (Yi (sV x[i]) (yN (Yi aa0 ?_)))));have e8:Ff ((x.take i).map WH) (Iv (FC x[i])) (.agg (BS x[i]))=(x.take (i+1)).map WH:=rc h0 h;refine Xi ⟨[(2,.ref 2 0),(4,.ref 4 0),(7,.ref 7 0),(18,sl BS x),(19,vi (x.map BS).length),(20,vi i)],[(2,.cells zT),(4,.cells [.mref 8,.mref 9]),(7,.cells (BS x[i])),(8,.map SP ((x.take (i+1)).map WH)),(9,.mapU Ek (SY (x.take i)))],Wv (x.take i)⟩ (Yi ?_ ?_)
  .exact⟨Z6,⟨Zr,Zr,Zr,⟨Aa (HO.map SP) e8,rfl⟩,⟨rfl,L6 _ (H8 _)⟩,Tv⟩,JV (H8 _),Tv⟩
  have hL:((x.take i).filter (fun r=>decide (r.path=x[i].path))).length<=256:=by
   have:=BC (fun r:Rl=>decide (r.path=x[i].path)) (x.take i)
   rw[AA]at this;omega
  have hP:∀l,Wv (x.take i) (l+50)=Kd (x.take i) l:=H8 _;refine BL (Classical.em (x[i].path∈AW (x.take i) [])) (fun hp=>?_) (fun hp=>?_)
  .refine BA (Cg.1 hp) (fun k hk=>?_);have hu:=l5 hk;refine Xi 0 ?_;refine Or.inl (Xi (.slice (.id (k+50) 9) (Of (x.take i) x[i].path)) (Yi hu ?_));refine yN ?_;have hr:Wv (x.take i) (k+50)=.tok 9 (Of (x.take i) x[i].path).length:=by rw[hP,ol hk]
   have hl:(Of (x.take i) x[i].path).length<=256:=by rw[Lm];exact hL
   refine RT (e:=79) (m:=8) (es2:=[BS x[i]]) rfl rfl rfl (fun _ h=>h) hr ⟨rfl,trivial⟩ (by show(_+1)*120<=_;omega) (by show _+1<=_;omega) ?_;have xU:k<256:=by
    have:=(Ar.1 hk).1
    have:=HM (x.take i) []
    rw[AA]at this;simp only[Ax]at this;omega
   have t7:=hk;refine Yi (JC ⟨A1 _,A1 _,A1 _,A1 _,A1 _,A1 _,A1 _,A1 _,A1 _,A1 _,El (show 39<10000000 by decide),El (by show _+50<10000000;omega),El (show 9<10000000 by decide),trivial⟩ aa0) ?_;have e9:Ff (SY (x.take i)) (.string x[i].path) (.slice (.id (k+50) 9) (Of (x.take i) x[i].path++[BS x[i]]))=SY (x.take (i+1)):=by rw[Ky];exact pR t7
   have hG:∀l,(bif Nat.beq (l+50) (k+50)then HO.tok 9 ((Of (x.take i) x[i].path).length+1)else Kd (x.take i) l)=Kd (x.take (i+1)) l:=by rw[Ky];exact rv t7
   refine Xi ⟨[(2,.ref 2 0),(4,.ref 4 0),(18,sl BS x),(19,vi (x.map BS).length),(20,vi i)],[(2,.cells zT),(4,.cells [.mref 8,.mref 9]),(8,.map SP ((x.take (i+1)).map WH)),(9,.mapU Ek (SY (x.take (i+1))))],Wv (x.take (i+1))⟩ (Yi ?_ ?_)
   .refine⟨Z5,⟨Zr,Zr,Zr,⟨Aa (HO.mapU Ek) e9,L6 _ (H8 _)⟩,Tv⟩,JV (fun l=>?_),Tv⟩;show(bif Nat.beq (l+50) (k+50)then HO.tok 9 ((Of (x.take i) x[i].path).length+1)else Wv (x.take i) (l+50))=_;rw[hP];exact hG l
   refine Xi 0 (Yi (Ii i ch) (Xi ⟨i+1,by omega⟩ ?_));exact⟨Dl x.length i ch,Z5,⟨Zr,Zr,Zr,⟨rfl,L6 _ (H8 _)⟩,Tv⟩,JV (H8 _),Tv⟩
  .have t7:=hp;have Mt:(AW (x.take i) []).length<=256:=by
    have:=HM (x.take i) []
    rw[AA]at this;simp only[Ax]at this;omega
   have hn:=ZQ hp;refine Xi ((AW (x.take i) []).length+50) ?_;refine Or.inr (Yi hn ?_);refine yN ?_;have hr:Wv (x.take i) ((AW (x.take i) []).length+50)=.free:=by
    rw[hP];unfold Kd;rw[AQ (Ai _)]
   refine RS (e:=79) (m:=8) (es2:=[BS x[i]]) rfl rfl rfl (fun _ h=>h) hr rfl ⟨rfl,trivial⟩ (by show 1*120<=_;omega) (by show 1<=_;omega) (Yi (JC ⟨A1 _,A1 _,A1 _,A1 _,A1 _,A1 _,A1 _,A1 _,A1 _,A1 _,El (show 39<10000000 by decide),El (by show _+50<10000000;omega),El (show 9<10000000 by decide),trivial⟩ aa0) ?_);have e9:Ff (SY (x.take i)) (.string x[i].path) (.slice (.id ((AW (x.take i) []).length+50) 9) [BS x[i]])=SY (x.take (i+1)):=by rw[Ky];exact pQ t7
   have hG:∀l,(bif Nat.beq (l+50) ((AW (x.take i) []).length+50)then HO.tok 9 1 else Kd (x.take i) l)=Kd (x.take (i+1)) l:=by rw[Ky];exact ru t7
   refine Xi ⟨[(2,.ref 2 0),(4,.ref 4 0),(18,sl BS x),(19,vi (x.map BS).length),(20,vi i)],[(2,.cells zT),(4,.cells [.mref 8,.mref 9]),(8,.map SP ((x.take (i+1)).map WH)),(9,.mapU Ek (SY (x.take (i+1))))],Wv (x.take (i+1))⟩ (Yi ?_ ?_)
   .refine⟨Z5,⟨Zr,Zr,Zr,⟨Aa (HO.mapU Ek) e9,L6 _ (H8 _)⟩,Tv⟩,JV (fun l=>?_),Tv⟩;show(bif Nat.beq (l+50) ((AW (x.take i) []).length+50)then HO.tok 9 1 else Wv (x.take i) (l+50))=_;rw[hP];exact hG l
   refine Xi 0 (Yi (Ii i ch) (Xi ⟨i+1,by omega⟩ ?_));exact⟨Dl x.length i ch,Z5,⟨Zr,Zr,Zr,⟨rfl,L6 _ (H8 _)⟩,Tv⟩,JV (H8 _),Tv⟩
 .intro h;have h:¬i<x.length:=by simpa using h
  have et:x.take i=x:=AB ch;refine Xi ⟨[(2,.ref 2 0),(4,.ref 4 0)],[(2,.cells zT),(4,.cells [.mref 8,.mref 9]),(8,.map SP ((x.take i).map WH)),(9,.mapU Ek (SY (x.take i)))],Wv (x.take i)⟩ (Yi ?_ ?_)
  .exact⟨Z2,⟨Zr,Zr,Zr,⟨rfl,L6 _ (H8 _)⟩,Tv⟩,JV (H8 _),Tv⟩
  refine Xi 0 (yN (yN (yN ?_)));have es:∀h:Nat->HO,SQ h (SY (x.take i))=(AW x []).map (ur x):=fun h=>by
   rw[et];unfold SQ SY;rw[Bw];refine Cz fun j=>?_;rw[Aw,Aw,List.getElem?_zipIdx];cases (AW x [])[j]?<;>rfl
  have e1:(x.take i).map WH=x.map WH:=by rw[et]
  exact .of_eq (show AV.tup [.agg [.cmap SP ((x.take i).map WH),.cmap Ek (SQ _ (SY (x.take i)))],vi 0]=_ by rw[e1,es])
end
theorem c84(x:List Rl)(ifs:List (List AV))(hx:∀r∈x,Jw r):ky x ifs:=by
 by_cases h0:Bd x=0
 .exact tc x ifs (wV Zn x ifs hx) h0 (M6 h0).1
 .exact py x ifs (wV Zn x ifs hx) h0
abbrev plT(n:Nat):Qn:=⟨[],[(2,n)],[],[],[],[],[5],[],[],[],[2,3]⟩
theorem wU(l:List Sl)(hl:Cw l):Bb Tryz.prog 89 [sl Ao l] (Ag [] Ad) fun r h'=>r=.slice (.id 2000 4) (l.map Ao)/\h'=Ag [(2000,.tok 4 (l.map Ao).length)] Ad:=by
 refine Cm (MC (plT 4)) [(2,2000)] rfl Cu hm rfl Tryz.func89 aa0 rfl (Nz rfl) aa0 rfl ?_;have GA:CR 4 (l.map Ao)/\([]:List (List AV)).length=0/\(([]:List (List AV)).length+(l.map Ao).length)*40<=140737488355328/\([]:List (List AV)).length+(l.map Ao).length<=9223372036854775807:=by
  refine⟨Fj (enc:=Ao) (n:=4) (fun _=>rfl) l,rfl,?_,?_⟩<;>simp only[Ax,Lm]<;>unfold Cw at hl<;>omega
 have e2:HO.tok 4 (([]:List (List AV)).length+(l.map Ao).length)=.tok 4 (l.map Ao).length:=by rw[Ax,A7]
 have e3:AV.slice (.id 2000 4) ([]++l.map Ao)=.slice (.id 2000 4) (l.map Ao):=rfl;refine Xi 0 (Xi 0 (Yi ?_ ?_))
 .intro _;refine cU [(0,sl Ao l)] [] Z1 Tv (Xi 2 (Yi GA ?_));exact Xi _ (Yi (.refl _) (Yi e3 (Aa (fun o=>Ag [(2000,o)] Ad) e2)))
 .intro h;refine Yi ?_ ?_
  .refine Xi ⟨[],[],Ad⟩ (Yi ⟨trivial,trivial,fun _=>.inl rfl,BQ aa0⟩ ?_);refine Xi 0 ?_;exact Xi _ (Yi (.refl _) (Yi (show AV.slice (.id 2000 4) []=_ by rw[h]) (show Ag [(2000,HO.tok 4 0)] Ad=_ by rw[h];rfl)))
  .refine cU [(0,sl Ao l)] [] Z1 Tv (Xi 2 (Yi GA ?_));exact Xi _ (Yi (.refl _) (Yi e3 (Aa (fun o=>Ag [(2000,o)] Ad) e2)))
def No(q:Rq):Bool:=decide (q.path.size<=100)&&decide (q.set.length<=8)
def G3:Bool:=l.all No&&decide (l.length<=20)
theorem c35(hl:Cw l):PC 37 [sl A2 l] (vb (G3 l)):=by
 unfold Cw at hl;refine Ps DU Tryz.func37 rfl (Nz rfl) (Xi {i:Nat // i<=l.length/\∀j (hj:j<l.length),j<i->No l[j]=true} (Xi (fun i=>⟨[(0,sl A2 l),(3,vi i.1)],[],Ad⟩) (Xi (fun i=>l.length-i.1) (Yi (Xi ⟨0,AE _,fun j _ h=>by omega⟩ ?_) ?_))))
 .exact⟨Z2,Tv,Fh,Tv⟩
 intro⟨i,h1,h2⟩;refine Yi ?_ ?_
 .intro h;have h:i<l.length:=by simpa using h
  have hg:l[i]?=some l[i]:=Ge h;have no:No l[i]=false->false=G3 l:=fun e=>by
   unfold G3
   have:l.all No=false:=by
    rw[AH];intro ha
    have:=AP.1 ha _ (Aq h)
    rw[e]at this;cases this
   rw[this];rfl
  refine Xi (A2 l[i]) (Yi (Yi (Nn i) (by simp[hg])) (Yi rfl ?_));refine Yi ?_ ?_
  .intro h3;exact .of_eq (Aa vb (no (by unfold No;rw[Am ch];rfl)))
  intro h3;refine Xi (A2 l[i]) (Yi (Yi (Nn i) (by simp[hg])) (Yi rfl ?_));refine Yi ?_ ?_
  .intro h4;rw[Lm]at h4;exact .of_eq (Aa vb (no (by unfold No;rw[Am (by omega:¬l[i].set.length<=8),Di])))
  intro h4;have h5:l[i].set.length<=8:=by rw[Lm]at h4;omega
  refine Yi (Ii i ch) (Xi ⟨i+1,by omega,fun j hj Iu=>?_⟩ ?_)
  .rcases BT j i with z | z
   .exact h2 j hj z
   .have:j=i:=by omega
    subst this;unfold No;rw[Ap ch,Ap h5];rfl
  .exact⟨Dl l.length i ch,Z2,Tv,Fh,Tv⟩
 .intro h;have h:¬i<l.length:=by simpa using h
  have ha:l.all No=true:=AP.2 fun q hq=>by
   obtain⟨j,hj,rfl⟩:=CE hq;exact h2 j hj ch
  refine Yi ?_ ?_
  .intro h3;rw[Lm]at h3;exact .of_eq (Aa vb (show true=G3 l by unfold G3;rw[ha,Ap ch];rfl))
  .intro h3;rw[Lm]at h3;exact .of_eq (Aa vb (show false=G3 l by unfold G3;rw[Am ch,Di]))
def Kb:Bool:=decide (r.path.size<=100)&&decide (r.arch.size<=100)&&decide (r.ifc.size<=100)&&decide (r.cert.size<=100)&&G3 r.reqs
def II(x:List Rl)(n:Nat):Bool:=x.all Kb&&decide (x.length<=n)
theorem c34(x:List Rl)(n:Nat)(hl:Cw x)(hr:∀r∈x,Cw r.reqs):PC 36 [sl BS x,vi n] (vb (II x n)):=by
 unfold Cw at hl;refine Ps DU Tryz.func36 rfl (Nz rfl) (Xi {i:Nat // i<=x.length/\∀j (hj:j<x.length),j<i->Kb x[j]=true} (Xi (fun i=>⟨[(0,sl BS x),(1,vi n),(5,vi i.1)],[],Ad⟩) (Xi (fun i=>x.length-i.1) (Yi (Xi ⟨0,AE _,fun j _ h=>by omega⟩ ?_) ?_))))
 .exact⟨Z3,Tv,Fh,Tv⟩
 intro⟨i,h1,h2⟩;refine Yi ?_ ?_
 .intro h;have h:i<x.length:=by simpa using h
  have hg:x[i]?=some x[i]:=Ge h;have no:Kb x[i]=false->false=II x n:=fun e=>by
   unfold II
   have:x.all Kb=false:=by
    rw[AH];intro ha
    have:=AP.1 ha _ (Aq h)
    rw[e]at this;cases this
   rw[this];rfl
  have hc:=c35 x[i].reqs (hr _ (Aq h));refine Xi (BS x[i]) (Yi (Yi (Nn i) (by simp[hg])) (Yi rfl ?_));refine Yi ?_ ?_
  .intro h3;exact .of_eq (Aa vb (no (by unfold Kb;rw[Am (by omega:¬x[i].path.size<=100)];simp)))
  intro h3;refine Xi (BS x[i]) (Yi (Yi (Nn i) (by simp[hg])) (Yi rfl ?_));refine Yi ?_ ?_
  .intro h4;exact .of_eq (Aa vb (no (by unfold Kb;rw[Am (by omega:¬x[i].arch.size<=100)];simp)))
  intro h4;refine Xi (BS x[i]) (Yi (Yi (Nn i) (by simp[hg])) (Yi rfl ?_));refine Yi ?_ ?_
  .intro h5;exact .of_eq (Aa vb (no (by unfold Kb;rw[Am (by omega:¬x[i].ifc.size<=100)];simp)))
  intro h5;refine Xi (BS x[i]) (Yi (Yi (Nn i) (by simp[hg])) (Yi rfl ?_));refine Yi ?_ ?_
  .intro h6;exact .of_eq (Aa vb (no (by unfold Kb;rw[Am (by omega:¬x[i].cert.size<=100)];simp)))
  intro h6;refine Xi (BS x[i]) (Yi (Yi (Nn i) (by simp[hg])) (Yi rfl ?_));refine BL (Bt (G3 x[i].reqs)) (fun e=>?_) (fun e=>?_)
  rotate_left
  .rw[e]at hc;refine Xi .pure (Xi _ (Yi (hc) ?_));exact .of_eq (Aa vb (no (by unfold Kb;rw[e,Di])))
  rw[e]at hc;refine Xi .pure (Xi _ (Yi (hc) (Yi (Ii i ch) (Xi ⟨i+1,by omega,fun j hj Iu=>?_⟩ ?_))))
  .rcases BT j i with z | z
   .exact h2 j hj z
   .have:j=i:=by omega
    subst this;unfold Kb;rw[Ap (by omega:x[j].path.size<=100),Ap (by omega:x[j].arch.size<=100),Ap (by omega:x[j].ifc.size<=100),Ap (by omega:x[j].cert.size<=100),e];rfl
  .exact⟨Dl x.length i ch,Z3,Tv,Fh,Tv⟩
 .intro h;have h:¬i<x.length:=by simpa using h
  have ha:x.all Kb=true:=AP.2 fun q hq=>by
   obtain⟨j,hj,rfl⟩:=CE hq;exact h2 j hj ch
  refine Yi ?_ ?_
  .intro h3;rw[Lm]at h3;exact .of_eq (Aa vb (show true=II x n by unfold II;rw[ha,Ap ch];rfl))
  .intro h3;rw[Lm]at h3;exact .of_eq (Aa vb (show false=II x n by unfold II;rw[Am ch,Di]))
theorem c11(x:List Rl)(ifs:List (List AV))(roots:List Rq)(hl:Cw x)(hr:∀r∈x,Cw r.reqs)(hq:Cw roots):PC 10 [LO x ifs,sl A2 roots] (vb (II x 16&&G3 roots)):=by
 have h1:=c34 x 16 hl hr;have h2:=c35 roots hq;cases e:II x 16 with
 |true=>
  rw[e]at h1;refine Ps DU Tryz.func10 rfl (Nz rfl) (Xi .pure (Xi _ (Yi (h1) (Xi .pure (Xi _ (Yi (h2) ?_))))));exact .refl _
 |false=>
  rw[e]at h1;refine Ps DU Tryz.func10 rfl (Nz rfl) (Xi .pure (Xi _ (Yi (h1) ?_)));exact .refl _
structure sv(x:List Rl)(roots:List Rq):Prop where
 ix:Cw x
 rs:Cw roots
 rel:∀r∈x,Cw r.reqs/\Jw r
 rq:∀q∈roots,NQ q
theorem sv.x{x:List Rl}{roots:List Rq}(h:sv x roots):∀r∈x,Jw r:=fun r hr=>(h.rel r hr).2
theorem sv.c11{x:List Rl}{roots:List Rq}(h:sv x roots)(ifs:List (List AV)):PC 10 [LO x ifs,sl A2 roots] (vb (II x 16&&G3 roots)):=
 Go.Eng.c11 x ifs roots h.ix (fun r hr=>(h.rel r hr).1) h.rs
end Go.Eng
namespace Go.Eng
variable {i:Nat}{tl:List AV}{m:Nat}(x a w:Int)(s:ByteArray)(ws:List Int)(k b:Int)
abbrev EQ:AV:=.v (.int .u32 x)
theorem Hm{cs r:List AV}{a:AV}{K:AV->Prop}(h:cs=a::r)(k:K a):Ls cs K:=by rw[h];exact k
theorem Pp{l:List AV}{n:Nat}{a:AV}(h:l[n]?=some a)(e:m=n):l.drop m=a::l.drop (n+1):=by
 subst e;obtain⟨h1,h2⟩:=Ar.1 h;rw[<-h2];exact AY h1
theorem sa{a:AV}:∀{l:List AV} {n:Nat},over l n [a]=l.set n a
 | [],_=>rfl
 |c::l,0=>by cases l<;>rfl
 |c::l,n+1=>by show c::over l n [a]=_;rw[sa (l:=l)];rfl
def jF:Int:=G5 .or .u32 (FP .shl .u32 x (G5 .and .u64 (IntKind.wrap .u64 k) 31)) (FP .shr .u32 x (IntKind.wrap .u64 (32-G5 .and .u64 (IntKind.wrap .u64 k) 31)))
def xr:Int:=G5 .xor .u32 a b
def an:Int:=G5 .and .u32 a b
def nt:Int:=G5 .xor .u32 4294967295 a
def ad:Int:=IntKind.wrap .u32 (a+b)
def uC(c:Int):Int:=xr (xr (jF x (-a)) (jF x (-b))) (jF x (-c))
def mU(s:Int):Int:=xr (xr (jF x (-a)) (jF x (-b))) (FP .shr .u32 x s)
def CV(i:Nat):UInt8:=s.data[i]?.getD 0
def Sy(s:ByteArray)(i:Nat):Nat->Int
 |0=>0
 |k+1=>G5 .or .u32 (FP .shl .u32 (Sy s i k) 8) (IntKind.wrap .u32 ((CV s (4*i+k)).toNat:Int))
def Y5(i:Nat):Int:=ws[i]?.getD 0
def aT(i:Nat):Int:=
 if i<16 then Sy s i 4 else ad (ad (ad (mU (Y5 ws (i-2)) 17 19 10) (Y5 ws (i-7))) (mU (Y5 ws (i-15)) 7 18 3)) (Y5 ws (i-16))
def Gl(s:ByteArray):Nat->List Int
 |0=>[]
 |i+1=>Gl s i++[aT s (Gl s i) i]
theorem Ka(s:ByteArray):∀i,(Gl s i).length=i
 |0=>rfl
 |i+1=>by rw[Gl,Ac,Ka s i];rfl
theorem dO{ws:List Int}(h:i<ws.length):ws[i]?=some (Y5 ws i):=by rw[Y5,Ge h];rfl
structure S8 where
 (a b c d e f g h:Int)
def S8.l(v:S8):List Int:=[v.a,v.b,v.c,v.d,v.e,v.f,v.g,v.h]
abbrev Zz(v:S8):List AV:=[EQ v.a,EQ v.b,EQ v.c,EQ v.d,EQ v.e,EQ v.f,EQ v.g,EQ v.h]
def rT1(v:S8):Int:=ad (ad (ad (ad v.h (uC v.e 6 11 25)) (xr (an v.e v.f) (an (nt v.e) v.g))) k) w
def rT2(v:S8):Int:=ad (uC v.a 2 13 22) (xr (xr (an v.a v.b) (an v.a v.c)) (an v.b v.c))
def Ad5(v:S8):S8:=⟨ad (rT1 w k v) (rT2 v),v.a,v.b,v.c,ad v.d (rT1 w k v),v.e,v.f,v.g⟩
def U8(ws ks:List Int)(v:S8):Nat->S8
 |0=>v
 |i+1=>Ad5 (Y5 ws i) (Y5 ks i) (U8 ws ks v i)
def wo(v r:S8):S8:=⟨ad v.a r.a,ad v.b r.b,ad v.c r.c,ad v.d r.d,ad v.e r.e,ad v.f r.f,ad v.g r.g,ad v.h r.h⟩
def kK:List Int:=[0x428a2f98,0x71374491,0xb5c0fbcf,0xe9b5dba5,0x3956c25b,0x59f111f1,0x923f82a4,0xab1c5ed5,
 0xd807aa98,0x12835b01,0x243185be,0x550c7dc3,0x72be5d74,0x80deb1fe,0x9bdc06a7,0xc19bf174,
 0xe49b69c1,0xefbe4786,0x0fc19dc6,0x240ca1cc,0x2de92c6f,0x4a7484aa,0x5cb0a9dc,0x76f988da,
 0x983e5152,0xa831c66d,0xb00327c8,0xbf597fc7,0xc6e00bf3,0xd5a79147,0x06ca6351,0x14292967,
 0x27b70a85,0x2e1b2138,0x4d2c6dfc,0x53380d13,0x650a7354,0x766a0abb,0x81c2c92e,0x92722c85,
 0xa2bfe8a1,0xa81a664b,0xc24b8b70,0xc76c51a3,0xd192e819,0xd6990624,0xf40e3585,0x106aa070,
 0x19a4c116,0x1e376c08,0x2748774c,0x34b0bcb5,0x391c0cb3,0x4ed8aa4a,0x5b9cca4f,0x682e6ff3,
 0x748f82ee,0x78a5636f,0x84c87814,0x8cc70208,0x90befffa,0xa4506ceb,0xbef9a3f7,0xc67178f2]
def rp(v:S8)(s:ByteArray):S8:=wo v (U8 (Gl s 64) kK v 64)
def Sn(v r:S8)(i:Nat)(tl:List AV):List AV:=
 EQ (if 0<i then ad v.a r.a else v.a)::EQ (if 1<i then ad v.b r.b else v.b)::EQ (if 2<i then ad v.c r.c else v.c)::EQ (if 3<i then ad v.d r.d else v.d) ::
 EQ (if 4<i then ad v.e r.e else v.e)::EQ (if 5<i then ad v.f r.f else v.f)::EQ (if 6<i then ad v.g r.g else v.g)::EQ (if 7<i then ad v.h r.h else v.h)::tl
def G6(v:S8)(b:ByteArray):S8×ByteArray:=
 if 64<=b.size then G6 (rp v (b.extract 0 64)) (b.extract 64 b.size)else(v,b)
termination_by b.size
decreasing_by simp only[F6];omega
def iv0:S8:=⟨1779033703,3144134277,1013904242,2773480762,1359893119,2600822924,528734635,1541459225⟩
structure HS where
 v:S8
 rest:ByteArray
 tot:Int
abbrev HH(x:HS):List AV:=[EQ x.v.a,EQ x.v.b,EQ x.v.c,EQ x.v.d,EQ x.v.e,EQ x.v.f,EQ x.v.g,EQ x.v.h,vs x.rest,.v (.int .u64 x.tot)]
def IJ(x:HS)(s:ByteArray):HS:=⟨(G6 x.v (x.rest++s)).1,(G6 x.v (x.rest++s)).2,IntKind.wrap .u64 (x.tot+IntKind.wrap .u64 (s.size:Int))⟩
def qN(n:Int):ByteArray:=⟨((List.range 8).map fun(i:Nat)=>UInt8.ofNat (IntKind.wrap .u8 (FP .shr .u64 n (56-8*(i:Int)))).toNat).toArray⟩
def Gt:List UInt8:=[UInt8.ofNat (IntKind.wrap .u8 (FP .shr .u32 x 24)).toNat,UInt8.ofNat (IntKind.wrap .u8 (FP .shr .u32 x 16)).toNat,UInt8.ofNat (IntKind.wrap .u8 (FP .shr .u32 x 8)).toNat,UInt8.ofNat (IntKind.wrap .u8 x).toNat]
def sn(n:Nat):ByteArray:=⟨(List.replicate n 0).toArray⟩
def Ez(x:HS):ByteArray:=(⟨#[128]⟩++sn ((119-(x.rest.size:Int)) % 64).toNat)++qN (IntKind.wrap .u64 (8*x.tot))
def rt(x:HS):ByteArray:=⟨(((IJ x (Ez x)).v.l).flatMap Gt).toArray⟩
def MH:HS:=⟨iv0,⟨#[]⟩,0⟩
theorem lr{b:Bool}{p:Prop}(h:b=true)(k:p):(match(generalizing:=false) b with | true=>p | false=>False):=by subst h;exact k
theorem mapU(h:Nat->HO):∀ws:List Int,(ws.map EQ).map (str0 h)=ws.map EQ
 | []=>rfl
 |_::ws=>Aa (_ :: ·) (mapU h ws)
theorem Adu{h:Nat->HO}{l:List AV}{ws:List Int}(e:l=ws.map EQ):EY (.agg (l.map (str0 h))) (.agg (ws.map EQ)):=by
 rw[e,mapU];exact .refl _
theorem sG{l:List AV}{a:AV}{n:Nat}(h:l.length=n):(l++a::tl)[n]?=some a:=by
 subst h;rw[A0 (Ai _),F7];rfl
theorem Yx{ws:List Int}(h:i<ws.length):(ws.map EQ++tl)[i]?=some (EQ (Y5 ws i)):=by
 rw[AU (by rw[Lm];exact h),Aw,dO h];rfl
theorem Yy{ws:List Int}(h:i<ws.length):(ws.map EQ)[i]?=some (EQ (Y5 ws i)):=by
 rw[Aw,dO h];rfl
theorem PX{a b:AV}{tl:List AV}:∀{l:List AV} {n:Nat},l.length=n->over (l++a::tl) n [b]=l++b::tl
 | [],_,rfl=>by cases tl<;>rfl
 |c::l,_,rfl=>by show c::over (l++a::tl) l.length [b]=_;rw[PX rfl];rfl
theorem Nh:∀{z l:List AV},z.length=l.length->over z 0 l=l
 | [],[],_=>rfl
 | [],_::_,h=>by cases h
 |_::_,[],h=>by cases h
 |_::z,b::l,h=>by show b::over z 0 l=_;rw[Nh (Nat.succ.inj h)]
theorem LR{s:ByteArray}{z:Int}{n:Nat}(h:n<s.size)(e:z=(n:Int)):(0:Int)<=z/\s.data[z.toNat]?=some (CV s n):=by
 subst e;refine⟨Int.natCast_nonneg n,?_⟩;have h:n<s.data.size:=h;rw[BE,CV,Bj h];rfl
def S8.n(v:S8)(i:Nat):Int:=Y5 v.l i
theorem rI{v:S8}(h:i<8)(e:m=i):(Zz v).drop m=EQ (v.n i)::(Zz v).drop (i+1):=
 Pp (Yy (ws:=v.l) h) e
theorem lE{v r:S8}(h:i<8)(e:m=i):(Sn v r i tl).drop m=EQ (v.n i)::(Sn v r i tl).drop (i+1):=by
 refine Pp ?_ e
 match i,h with
 |0,_ |1,_ |2,_ |3,_ |4,_ |5,_ |6,_ |7,_=>rfl
theorem nv{v r:S8}(h:i<8)(e:m=i):over (Sn v r i tl) m [EQ (ad (v.n i) (r.n i))]=Sn v r (i+1) tl:=by
 subst e;rw[sa]
 match m,h with
 |0,_ |1,_ |2,_ |3,_ |4,_ |5,_ |6,_ |7,_=>rfl
theorem fE{n:Nat}(h:n<64):List.replicate (64-n) (EQ 0)=EQ 0::List.replicate (64-(n+1)) (EQ 0):=by
 rw[show 64-n=(64-(n+1))+1 by omega];rfl
theorem bw{s:ByteArray}{x:Int}(h:x=aT s (Gl s i) i):(Gl s i).map EQ++EQ x::List.replicate (64-(i+1)) (EQ 0)=(Gl s (i+1)).map EQ++List.replicate (64-(i+1)) (EQ 0):=by
 rw[h,Gl,Az,Bm];rfl
theorem ui(h:Nat->HO)(tl:List AV):∀ws:List Int,Yo h (ws.map EQ++tl)=Yo h tl
 | []=>rfl
 |_::ws=>ui h tl ws
theorem uh(h:Nat->HO):∀n:Nat,Yo h (List.replicate n (EQ 0))=true
 |0=>rfl
 |n+1=>uh h n
theorem cQ(h:Nat->HO):∀ws:List Int,SK h (.cells (ws.map EQ))=true
 | []=>rfl
 |_::ws=>cQ h ws
theorem uj(h:Nat->HO)(ws:List Int)(n:Nat):SK h (.cells (ws.map EQ++List.replicate n (EQ 0)))=true:=(ui h _ ws).trans (uh h n)
theorem yt(h:Nat->HO)(ws:List Int)(x:Int)(n:Nat):SK h (.cells (ws.map EQ++EQ x::List.replicate n (EQ 0)))=true:=(ui h _ ws).trans (uh h n)
theorem Vb(i:Nat):((Gl s i).map EQ).length=i:=by rw[Lm,Ka]
end Go.Eng
namespace Go.Eng
open Go.Proofs
variable {α:Type}{f:α->List AV}{l O:List α}{args:List AV}{i n:Nat}(a:Int)
theorem Bb.to2{P:Program}{f:Nat}{h0:Nat->HO}{r0:AV}{H0:Nat->HO}{Q' : AV->(Nat->HO)->Prop}(h:Bb P f args h0 fun r h'=>r=r0/\h'=H0)(k:Q' r0 H0):Bb P f args h0 Q':=
 h.mono fun r h' q=>⟨r,.refl _,by rw[q.1,q.2];exact k⟩
theorem cb{f:Nat}{b x:Bool}(h:b=x)(hc:PC f args (vb b)):PC f args (vb x):=h▸hc
theorem Lu(h:(i:Int)<((l.map f).length:Int)):i<l.length:=by rw[Lm]at h;omega
theorem Ip(h:¬(i:Int)<((l.map f).length:Int)):¬i<l.length:=by rw[Lm]at h;omega
theorem Y4(h:i<l.length):(0:Int)<=(i:Int)/\(l.map f)[((i:Nat):Int).toNat]?=some (f l[i]):=⟨Int.natCast_nonneg _,by rw[BE,Aw,Ge h];rfl⟩
theorem gA{z:Nat}{x:List AV}(hx:x.length=n)(h:O.length<=2147483647)(hz:z<=65536) :
  CR n [x]/\(O.map f).length=O.length/\((O.map f).length+([x]:List (List AV)).length)*z<=140737488355328/\(O.map f).length+([x]:List (List AV)).length<=9223372036854775807:=by
 refine⟨⟨hx,trivial⟩,Lm _,?_,?_⟩<;>rw[Lm]<;>simp only[Al,Ax]
 .have:=Nat.mul_le_mul (show O.length+(0+1)<=2147483648 by omega) hz
  omega
 .omega
theorem tkA{x:α}{r:Nat}:AV.slice (.id r n) (O.map f++[f x])=.slice (.id r n) ((O++[x]).map f):=by rw[Az];rfl
theorem hkA{x:α}{y:List AV}:HO.tok n ((O.map f).length+([y]:List (List AV)).length)=.tok n (O++[x]).length:=by rw[Ac,Lm];rfl
theorem bE:0<=IntKind.wrap .u64 a:=Int.emod_nonneg _ Cl
theorem ld(b:Int):0<=G5 .and .u64 a b:=bE _
theorem bD(x k:Int):PC 169 [.v (.int .u32 x),vi k] (.v (.int .u32 (jF x k))):=by
 refine Ps DU Tryz.func169 rfl (Nz rfl) (Yi (ld _ _) (Yi (bE _) ?_));exact .refl _
theorem oA(x a b c:Int)(ha:0<=a/\a<=64)(hb:0<=b/\b<=64)(hc:0<=c):PC 222 [.v (.int .u32 x),vi a,vi b,vi c] (.v (.int .u32 (mU x a b c))):=by
 refine Ps DU Tryz.func222 rfl (Nz rfl) (Yi (by show A5 (-a);unfold A5;omega) (Xi _ (Yi (bD x (-a)) (Yi (by show A5 (-b);unfold A5;omega) (Xi _ (Yi (bD x (-b)) (Yi hc (Yi aa0 ?_))))))));exact .refl _
theorem oz(x a b c:Int)(ha:0<=a/\a<=64)(hb:0<=b/\b<=64)(hc:0<=c)(hd:c<=64):PC 168 [.v (.int .u32 x),vi a,vi b,vi c] (.v (.int .u32 (uC x a b c))):=by
 refine Ps DU Tryz.func168 rfl (Nz rfl) (Yi (by show A5 (-a);unfold A5;omega) (Xi .pure (Xi _ (Yi (bD x (-a)) (Yi (by show A5 (-b);unfold A5;omega) (Xi .pure (Xi _ (Yi (bD x (-b)) (Yi (by show A5 (-c);unfold A5;omega) (Xi .pure (Xi _ (Yi (bD x (-c)) ?_))))))))))));exact .refl _
set_option maxRecDepth 100000 in
theorem rz  : PC 171 [] (.agg (kK.map EQ)):=by
 refine Ps DU Tryz.func171 rfl (Nz rfl) (yN (yN ?_));exact .refl _
theorem zp(s:ByteArray)(hs:s.size=64):PC 170 [vs s] (.agg ((Gl s 64).map EQ)):=by
 refine Ps DU Tryz.func170 rfl (Nz rfl) (Xi {q:Nat // q<=64} (Xi (fun q=>⟨[(0,vs s),(2,.ref 2 0),(3,.ref 3 0),(4,.v (.func (.func 222) #[] #[])),(7,vi q.1)],[(2,.cells (List.replicate 64 (EQ 0))),(3,.cells ((Gl s q.1).map EQ++List.replicate (64-q.1) (EQ 0)))],Ad⟩) (Xi (fun q=>64-q.1) (Yi (Xi ⟨0,AE _⟩ ?_) ?_))))
 .exact⟨Z5,⟨Zr,⟨rfl,(uj _ _ _)⟩,Tv⟩,Fh,Tv⟩
 intro⟨i,i1⟩;have i1:i<=64:=i1;refine Yi (fun h1=>?_) (fun h1=>?_)
 .have h1:(i:Int)<(64:Int):=h1;refine Yi (fun h2=>?_) (fun h2=>?_)
  .have h2:(i:Int)<(16:Int):=h2;refine Xi {q:Nat // q<=4} (Xi (fun q=>⟨[(0,vs s),(2,.ref 2 0),(3,.ref 3 0),(4,.v (.func (.func 222) #[] #[])),(5,vi i),(7,vi i),(12,vi q.1)],[(2,.cells (List.replicate 64 (EQ 0))),(3,.cells ((Gl s i).map EQ++EQ (Sy s i q.1)::List.replicate (64-(i+1)) (EQ 0)))],Ad⟩) (Xi (fun q=>4-q.1) (Yi (Xi ⟨0,AE _⟩ ?_) ?_)))
   .exact⟨Z7,⟨Zr,⟨(Aa (fun z=>HO.cells ((Gl s i).map EQ++z)) (fE (show i<64 by omega))),(yt _ _ _ _)⟩,Tv⟩,Fh,Tv⟩
   intro⟨k,k1⟩;have k1:k<=4:=k1;refine Yi (fun h3=>?_) (fun h3=>?_)
   .have h3:(k:Int)<(4:Int):=h3;refine Yi (show(0:Int)<=i/\(i:Int)<(64:Nat)from by omega) (Hm (Pp (sG (Vb s i)) (show(0+(i:Int).toNat*1)=i by omega)) (Yi Cl (Yi (by show A5 ((4:Int)*(i:Int));unfold A5;omega) (Yi (by show A5 ((4*i:Int)+(k:Int));unfold A5;omega) (Xi (CV s (4*i+k)) (Yi (LR (z:=(4*i)+k) (show 4*i+k<s.size by omega) ch) (Yi (show(0:Int)<=i/\(i:Int)<(64:Nat)from by omega) (Yi (show(0+(i:Int).toNat*1)+1<=(((Gl s i).map EQ++EQ (Sy s i k)::List.replicate (64-(i+1)) (EQ 0))).length from by rw[Ac,Vb];simp only[Al,Bv];omega) ?_))))))));refine Yi aa0 (Yi (Ii k ch) (Xi ⟨k+1,by omega⟩ ?_));exact⟨Dl 4 k ch,Z7,⟨Zr,⟨(show HO.cells (over ((Gl s i).map EQ++EQ (Sy s i k)::List.replicate (64-(i+1)) (EQ 0)) (0+(i:Int).toNat*1) [.v (.int .u32 (G5 .or .u32 (FP .shl .u32 (Sy s i k) 8) (IntKind.wrap .u32 ((CV s (4*i+k)).toNat:Int))))])=.cells ((Gl s i).map EQ++EQ (Sy s i (k+1))::List.replicate (64-(i+1)) (EQ 0))from Aa HO.cells (PX (by rw[Vb];omega))),(yt _ _ _ _)⟩,Tv⟩,Fh,Tv⟩
   have h3:¬((k:Int)<(4:Int)):=h3;refine Yi (Ii i ch) (Xi ⟨i+1,by omega⟩ ?_);exact⟨Dl 64 i ch,Z5,⟨Zr,⟨(Aa HO.cells (bw (show Sy s i k=aT s (Gl s i) i by rw[aT,As ch,show k=4 by omega]))),(uj _ _ _)⟩,Tv⟩,Fh,Tv⟩
  have h2:¬((i:Int)<(16:Int)):=h2;refine Yi (by show A5 ((i:Int)-(2:Int));unfold A5;omega) (Yi (show(0:Int)<=i-2/\(i-2:Int)<(64:Nat)from by omega) (Hm (Pp (Yx (show i-2<(Gl s i).length by rw[Ka];omega)) (show(0+(i-2:Int).toNat*1)=i-2 by omega)) (Xi _ (Yi (oA (Y5 (Gl s i) (i-2)) 17 19 10 Cl Cl Cl) (Yi (by show A5 ((i:Int)-(7:Int));unfold A5;omega) (Yi (show(0:Int)<=i-7/\(i-7:Int)<(64:Nat)from by omega) (Hm (Pp (Yx (show i-7<(Gl s i).length by rw[Ka];omega)) (show(0+(i-7:Int).toNat*1)=i-7 by omega)) (Yi (by show A5 ((i:Int)-(15:Int));unfold A5;omega) (Yi (show(0:Int)<=i-15/\(i-15:Int)<(64:Nat)from by omega) (Hm (Pp (Yx (show i-15<(Gl s i).length by rw[Ka];omega)) (show(0+(i-15:Int).toNat*1)=i-15 by omega)) (Xi _ (Yi (oA (Y5 (Gl s i) (i-15)) 7 18 3 Cl Cl Cl) (Yi (by show A5 ((i:Int)-(16:Int));unfold A5;omega) (Yi (show(0:Int)<=i-16/\(i-16:Int)<(64:Nat)from by omega) (Hm (Pp (Yx (show i-16<(Gl s i).length by rw[Ka];omega)) (show(0+(i-16:Int).toNat*1)=i-16 by omega)) (Yi (show(0:Int)<=i/\(i:Int)<(64:Nat)from by omega) (Yi (show(0+(i:Int).toNat*1)+1<=(((Gl s i).map EQ++List.replicate (64-i) (EQ 0))).length from by rw[Ac,Vb];simp only[Bv];omega) ?_)))))))))))))))));refine Yi aa0 (Yi (Ii i ch) (Xi ⟨i+1,by omega⟩ ?_));exact⟨Dl 64 i ch,Z5,⟨Zr,⟨(show HO.cells (over ((Gl s i).map EQ++List.replicate (64-i) (EQ 0)) (0+(i:Int).toNat*1) [.v (.int .u32 (IntKind.wrap .u32 ((IntKind.wrap .u32 ((IntKind.wrap .u32 ((mU (Y5 (Gl s i) (i-2)) 17 19 10)+(Y5 (Gl s i) (i-7))))+(mU (Y5 (Gl s i) (i-15)) 7 18 3)))+(Y5 (Gl s i) (i-16)))))])=.cells ((Gl s (i+1)).map EQ++List.replicate (64-(i+1)) (EQ 0))from Aa HO.cells (by rw[fE (show i<64 by omega),PX (by rw[Vb];omega)];exact bw (by rw[aT,Ah ch];rfl))),(uj _ _ _)⟩,Tv⟩,Fh,Tv⟩
 have h1:¬((i:Int)<(64:Int)):=h1;refine Yi (show 64<=((Gl s i).map EQ++List.replicate (64-i) (EQ 0)).length by rw[Ac,Vb,Bv];omega) ?_
 conv=>whnf
 refine lr (show Nat.beq (((Gl s i).map EQ++List.replicate (64-i) (EQ 0)).take 64).length 64=true from by rw[show(((Gl s i).map EQ++List.replicate (64-i) (EQ 0)).take 64).length=64 by rw[AA,Ac,Vb,Bv];omega];rfl) ?_;refine Yi (show 0+(((Gl s i).map EQ++List.replicate (64-i) (EQ 0)).take 64).length<=64 from by rw[AA];omega) ?_;refine Yi (show 64<=(over (List.replicate 64 (EQ 0)) 0 (((Gl s i).map EQ++List.replicate (64-i) (EQ 0)).take 64)).length by rw[Nh (by rw[AA,Ac,Vb,Bv,Bv];omega),AA,Ac,Vb,Bv];omega) ?_;exact Adu (show(over (List.replicate 64 (EQ 0)) 0 (((Gl s i).map EQ++List.replicate (64-i) (EQ 0)).take 64)).take 64=(Gl s 64).map EQ from by rw[show i=64 by omega,Nh (by rw[AA,Ac,Vb];rfl),La,Nat.min_self,Ev (Vb s 64)])
theorem ve(x:HS)(s:ByteArray)(W Kk:List Int)(r8:S8)(hW:W.length=64)(hK:Kk.length=64)(hr:U8 W Kk x.v 64=r8)(hc:PC 170 [vs s] (.agg (W.map EQ)))(hk:PC 171 [] (.agg (Kk.map EQ))):Bb Tryz.prog 107 [.ref 1000 0,vs s] (Ag [(1000,.cells (HH x))] Ad) fun r h'=>r=.tup []/\h'=Ag [(1000,.cells (HH ⟨wo x.v r8,x.rest,x.tot⟩))] Ad:=by
 refine Cm (MC (pC [] [2,11])) [(1000,1000)] rfl Cu hm rfl Tryz.func107 aa0 rfl (Nz rfl) aa0 rfl (Xi .pure (Xi _ (Yi hc (Xi .pure (Xi _ (Yi hk ?_))))))
 conv=>whnf
 refine lr (show Nat.beq (W.map EQ).length 64=true from by rw[Lm,hW];rfl) (Yi (show 0+(W.map EQ).length<=64 from by rw[Lm];omega) ?_)
 conv=>whnf
 refine lr (show Nat.beq (Kk.map EQ).length 64=true from by rw[Lm,hK];rfl) (Yi (show 0+(Kk.map EQ).length<=64 from by rw[Lm];omega) (cU [(0,.ref 1000 0),(4,.v (.func (.func 168) #[] #[])),(5,.ref 5 0),(6,.ref 6 0)] [(5,.cells (W.map EQ)),(6,.cells (Kk.map EQ)),(1000,.cells (HH x))] Z4 ⟨⟨(Aa HO.cells (Nh (show 64=(W.map EQ).length by rw[Lm,hW]))),(cQ _ _)⟩,⟨(Aa HO.cells (Nh (show 64=(Kk.map EQ).length by rw[Lm,hK]))),(cQ _ _)⟩,Zr,Tv⟩ ?_))
 refine yN (yN (Xi {q:Nat // q<=64} (Xi (fun q=>⟨[(0,.ref 1000 0),(4,.v (.func (.func 168) #[] #[])),(5,.ref 5 0),(6,.ref 6 0),(7,.ref 7 0),(26,vi q.1)],[(5,.cells (W.map EQ)),(6,.cells (Kk.map EQ)),(7,.cells (Zz (U8 W Kk x.v q.1))),(1000,.cells (HH x))],Ad⟩) (Xi (fun q=>64-q.1) (Yi (Xi ⟨0,AE _⟩ ?_) ?_)))))
 .exact⟨Z6,⟨⟨rfl,(cQ _ _)⟩,⟨rfl,(cQ _ _)⟩,Zr,Zr,Tv⟩,Fh,BQ aa0⟩
 intro⟨i,i1⟩;have i1:i<=64:=i1;refine Yi (fun h1=>?_) (fun h1=>?_)
 .have h1:(i:Int)<(64:Int):=h1;refine Yi ⟨by decide,by decide⟩ ?_;refine Yi ⟨by decide,by decide⟩ ?_;refine Yi ⟨by decide,by decide⟩ ?_;refine Yi ⟨by decide,by decide⟩ ?_;refine Yi ⟨by decide,by decide⟩ ?_;refine Yi ⟨by decide,by decide⟩ ?_;refine Yi aa0 (Yi ⟨by decide,by decide⟩ ?_);refine Xi _ (Yi (oz (U8 W Kk x.v i).e 6 11 25 Cl Cl Cl Cl) (Yi (show(0:Int)<=i/\(i:Int)<(64:Nat)from by omega) (Hm (Pp (Yy (show i<Kk.length by omega)) (show(0+(i:Int).toNat*1)=i by omega)) (Yi (show(0:Int)<=i/\(i:Int)<(64:Nat)from by omega) (Hm (Pp (Yy (show i<W.length by omega)) (show(0+(i:Int).toNat*1)=i by omega)) (Yi aa0 (Xi .pure (Xi _ (Yi (oz (U8 W Kk x.v i).a 2 13 22 Cl Cl Cl Cl) (Yi ⟨by decide,by decide⟩ ?_))))))))));refine yN (Yi (Ii i ch) (Xi ⟨i+1,by omega⟩ ?_));exact⟨Dl 64 i ch,Z6,⟨⟨rfl,(cQ _ _)⟩,⟨rfl,(cQ _ _)⟩,Zr,Zr,Tv⟩,Fh,BQ aa0⟩
 have h1:¬((i:Int)<(64:Int)):=h1;refine cU [(0,.ref 1000 0),(7,.ref 7 0)] [(7,.cells (Zz r8)),(1000,.cells (HH x))] Z2 ⟨⟨(Aa (fun z=>HO.cells (Zz z)) (show U8 W Kk x.v i=r8 by rw[show i=64 by omega,hr])),rfl⟩,Zr,Tv⟩ (yN (Xi {q:Nat // q<=8} (Xi (fun q=>⟨[(0,.ref 1000 0),(94,.agg [.v (.int .u32 r8.a),.v (.int .u32 r8.b),.v (.int .u32 r8.c),.v (.int .u32 r8.d),.v (.int .u32 r8.e),.v (.int .u32 r8.f),.v (.int .u32 r8.g),.v (.int .u32 r8.h)]),(95,vi q.1)],[(1000,.cells (Sn x.v r8 q.1 [vs x.rest,.v (.int .u64 x.tot)]))],Ad⟩) (Xi (fun q=>8-q.1) (Yi (Xi ⟨0,AE _⟩ ?_) ?_)))))
 .exact⟨Z3,Z1,Fh,BQ aa0⟩
 intro⟨j,j1⟩;have j1:j<=8:=j1;refine Yi (fun h3=>?_) (fun h3=>?_)
 .have h3:(j:Int)<(8:Int):=h3;refine Yi (show(0:Int)<=j/\(j:Int)<(8:Nat)from by omega) (Hm (rI (v:=r8) (show j<8 by omega) (show((j:Int).toNat*1)=j by omega)) (Yi (show(0:Int)<=j/\(j:Int)<(8:Nat)from by omega) (Hm (lE (show j<8 by omega) (show(0+(j:Int).toNat*1)=j by omega)) (Yi (show(0:Int)<=j/\(j:Int)<(8:Nat)from by omega) (Yi (show(0+(j:Int).toNat*1)+1<=((Sn x.v r8 j [vs x.rest,.v (.int .u64 x.tot)])).length from by show(0+(j:Int).toNat*1)+1<=10;omega) ?_)))));refine Yi aa0 (Yi (Ii j ch) (Xi ⟨j+1,by omega⟩ ?_));exact⟨Dl 8 j ch,Z3,⟨⟨(show HO.cells (over (Sn x.v r8 j [vs x.rest,.v (.int .u64 x.tot)]) (0+(j:Int).toNat*1) [.v (.int .u32 (IntKind.wrap .u32 ((S8.n x.v j)+(S8.n r8 j))))])=.cells (Sn x.v r8 (j+1) [vs x.rest,.v (.int .u64 x.tot)])from Aa HO.cells (nv (show j<8 by omega) ch)),rfl⟩,Tv⟩,Fh,BQ aa0⟩
 have h3:¬((j:Int)<(8:Int)):=h3;have e8:j=8:=by omega
 subst e8;exact Xi _ (Yi (.refl _) Zr)
theorem zm(x:HS)(s:ByteArray)(hs:s.size=64):Bb Tryz.prog 107 [.ref 1000 0,vs s] (Ag [(1000,.cells (HH x))] Ad) fun r h'=>r=.tup []/\h'=Ag [(1000,.cells (HH ⟨rp x.v s,x.rest,x.tot⟩))] Ad:=
 ve x s (Gl s 64) kK _ (Ka s 64) rfl rfl (zp s hs) rz
end Go.Eng
namespace Go.Proofs
open Go.Shelf
def Tryz.layItoa_ren:Go.Shelf.Ren:=⟨fun | 171=>101 | 243=>161 | 246=>211 | 283=>259 | 284=>260 | 285=>261 | 286=>262 | 129=>121 | 317=>295 | 318=>296 | 319=>297 | 320=>298 | 337=>325 | 338=>326 | n=>n,fun | 3=>3 | 9=>9 | 2=>2 | 4=>4 | 171=>317 | 0=>0 | 53=>177 | 37=>68 | 5=>5 | 173=>319 | 212=>345 | 51=>155 | 20=>20 | 213=>346 | 46=>127 | 232=>382 | 233=>383 | n=>n,fun | 17=>1 | 18=>6 | 19=>7 | n=>n⟩
theorem Tryz.layItoa:Go.Proofs.LaysM.n171 Tryz.prog Tryz.layItoa_ren:={
 mixed:=by kernel_rfl
 f129:=Tryz.func121.trans (congrArg some Go.Eng.aa0)
 f171:=Tryz.func101.trans (congrArg some Go.Eng.aa0)
 f243:=Tryz.func161.trans (congrArg some Go.Eng.aa0)
 f246:=Tryz.func211.trans (congrArg some Go.Eng.aa0)
 f283:=Tryz.func259.trans (congrArg some Go.Eng.aa0)
 f284:=Tryz.func260.trans (congrArg some Go.Eng.aa0)
 f285:=Tryz.func261.trans (congrArg some Go.Eng.aa0)
 f286:=Tryz.func262.trans (congrArg some Go.Eng.aa0)
 f317:=Tryz.func295.trans (congrArg some Go.Eng.aa0)
 f318:=Tryz.func296.trans (congrArg some Go.Eng.aa0)
 f319:=Tryz.func297.trans (congrArg some Go.Eng.aa0)
 f320:=Tryz.func298.trans (congrArg some Go.Eng.aa0)
 f337:=Tryz.func325.trans (congrArg some Go.Eng.aa0)
 f338:=Tryz.func326.trans (congrArg some Go.Eng.aa0)
 t0:=Tryz.underlying0
 a0:=Tryz.isAgg0
 z0:=Tryz.sizeOf0
 v0:=Tryz.zeroValue0
 t2:=Tryz.underlying2
 a2:=Tryz.isAgg2
 z2:=Tryz.sizeOf2
 v2:=Tryz.zeroValue2
 t3:=Tryz.underlying3
 a3:=Tryz.isAgg3
 z3:=Tryz.sizeOf3
 v3:=Tryz.zeroValue3
 t4:=Tryz.underlying4
 a4:=Tryz.isAgg4
 z4:=Tryz.sizeOf4
 v4:=Tryz.zeroValue4
 t5:=Tryz.underlying5
 a5:=Tryz.isAgg5
 z5:=Tryz.sizeOf5
 v5:=Tryz.zeroValue5
 t9:=Tryz.underlying9
 a9:=Tryz.isAgg9
 z9:=Tryz.sizeOf9
 v9:=Tryz.zeroValue9
 t20:=Tryz.underlying20
 a20:=Tryz.isAgg20
 z20:=Tryz.sizeOf20
 v20:=Tryz.zeroValue20
 t37:=Tryz.underlying68
 a37:=Tryz.isAgg68
 z37:=Tryz.sizeOf68
 v37:=Tryz.zeroValue68
 t46:=Tryz.underlying127
 a46:=Tryz.isAgg127
 z46:=Tryz.sizeOf127
 v46:=Tryz.zeroValue127
 t51:=Tryz.underlying155
 a51:=Tryz.isAgg155
 z51:=Tryz.sizeOf155
 v51:=Tryz.zeroValue155
 t53:=Tryz.underlying177
 a53:=Tryz.isAgg177
 z53:=Tryz.sizeOf177
 v53:=Tryz.zeroValue177
 t171:=Tryz.underlying317
 a171:=Tryz.isAgg317
 z171:=Tryz.sizeOf317
 v171:=Tryz.zeroValue317
 t173:=Tryz.underlying319
 a173:=Tryz.isAgg319
 z173:=Tryz.sizeOf319
 v173:=Tryz.zeroValue319
 t212:=Tryz.underlying345
 a212:=Tryz.isAgg345
 z212:=Tryz.sizeOf345
 v212:=Tryz.zeroValue345
 t213:=Tryz.underlying346
 a213:=Tryz.isAgg346
 z213:=Tryz.sizeOf346
 t232:=Tryz.underlying382
 a232:=Tryz.isAgg382
 z232:=Tryz.sizeOf382
 v232:=Tryz.zeroValue382
 t233:=Tryz.underlying383
 a233:=Tryz.isAgg383
 z233:=Tryz.sizeOf383
 v233:=Tryz.zeroValue383
 g17:=by kernel_rfl
 g18:=by kernel_rfl
 g19:=by kernel_rfl
 i0:=by kernel_rfl
 i2:=by kernel_rfl
 i3:=by kernel_rfl
 i4:=by kernel_rfl
 i5:=by kernel_rfl
 i9:=by kernel_rfl
 i20:=by kernel_rfl
 i37:=by kernel_rfl
 i46:=by kernel_rfl
 i51:=by kernel_rfl
 i53:=by kernel_rfl
 i171:=by kernel_rfl
 i173:=by kernel_rfl
 i212:=by kernel_rfl
 i232:=by kernel_rfl
 i233:=by kernel_rfl
 m17:=by kernel_rfl
 m18:=by kernel_rfl
 m19:=by kernel_rfl }
def Tryz.layRepeat_ren:Go.Shelf.Ren:=⟨fun | 105=>110 | 212=>173 | 99=>174 | 165=>99 | 166=>57 | 170=>175 | 169=>61 | 263=>223 | 264=>224 | 206=>225 | 240=>98 | 241=>160 | 276=>159 | 277=>210 | n=>n,fun | 9=>9 | 3=>3 | 4=>4 | 20=>20 | 0=>0 | 46=>127 | 109=>245 | 5=>5 | 72=>104 | 76=>107 | 51=>155 | 146=>285 | 53=>177 | 148=>287 | 70=>102 | 37=>68 | 75=>106 | 127=>170 | 164=>235 | 80=>112 | n=>n,fun | n=>n⟩
theorem Tryz.layRepeat:Go.Proofs.Lays.n105 Tryz.prog Tryz.layRepeat_ren:={
 mixed:=by kernel_rfl
 f99:=Tryz.func174.trans (congrArg some Go.Eng.aa0)
 f105:=Tryz.func110.trans (congrArg some Go.Eng.aa0)
 f165:=Tryz.func99.trans (congrArg some Go.Eng.aa0)
 f166:=Tryz.func57.trans (congrArg some Go.Eng.aa0)
 f169:=Tryz.func61.trans (congrArg some Go.Eng.aa0)
 f170:=Tryz.func175.trans (congrArg some Go.Eng.aa0)
 f206:=Tryz.func225.trans (congrArg some Go.Eng.aa0)
 f212:=Tryz.func173.trans (congrArg some Go.Eng.aa0)
 f240:=Tryz.func98.trans (congrArg some Go.Eng.aa0)
 f241:=Tryz.func160.trans (congrArg some Go.Eng.aa0)
 f263:=Tryz.func223.trans (congrArg some Go.Eng.aa0)
 f264:=Tryz.func224.trans (congrArg some Go.Eng.aa0)
 f276:=Tryz.func159.trans (congrArg some Go.Eng.aa0)
 f277:=Tryz.func210.trans (congrArg some Go.Eng.aa0)
 t0:=Tryz.underlying0
 a0:=Tryz.isAgg0
 z0:=Tryz.sizeOf0
 v0:=Tryz.zeroValue0
 t3:=Tryz.underlying3
 a3:=Tryz.isAgg3
 z3:=Tryz.sizeOf3
 v3:=Tryz.zeroValue3
 t4:=Tryz.underlying4
 a4:=Tryz.isAgg4
 z4:=Tryz.sizeOf4
 v4:=Tryz.zeroValue4
 t5:=Tryz.underlying5
 a5:=Tryz.isAgg5
 z5:=Tryz.sizeOf5
 v5:=Tryz.zeroValue5
 t9:=Tryz.underlying9
 a9:=Tryz.isAgg9
 z9:=Tryz.sizeOf9
 v9:=Tryz.zeroValue9
 t20:=Tryz.underlying20
 a20:=Tryz.isAgg20
 z20:=Tryz.sizeOf20
 v20:=Tryz.zeroValue20
 t37:=Tryz.underlying68
 a37:=Tryz.isAgg68
 z37:=Tryz.sizeOf68
 v37:=Tryz.zeroValue68
 t46:=Tryz.underlying127
 a46:=Tryz.isAgg127
 z46:=Tryz.sizeOf127
 v46:=Tryz.zeroValue127
 t51:=Tryz.underlying155
 a51:=Tryz.isAgg155
 z51:=Tryz.sizeOf155
 v51:=Tryz.zeroValue155
 t53:=Tryz.underlying177
 a53:=Tryz.isAgg177
 z53:=Tryz.sizeOf177
 v53:=Tryz.zeroValue177
 t70:=Tryz.underlying102
 a70:=Tryz.isAgg102
 z70:=Tryz.sizeOf102
 v70:=Tryz.zeroValue102
 t72:=Tryz.underlying104
 a72:=Tryz.isAgg104
 z72:=Tryz.sizeOf104
 v72:=Tryz.zeroValue104
 t75:=Tryz.underlying106
 a75:=Tryz.isAgg106
 z75:=Tryz.sizeOf106
 v75:=Tryz.zeroValue106
 t76:=Tryz.underlying107
 a76:=Tryz.isAgg107
 z76:=Tryz.sizeOf107
 v76:=Tryz.zeroValue107
 t109:=Tryz.underlying245
 a109:=Tryz.isAgg245
 z109:=Tryz.sizeOf245
 v109:=Tryz.zeroValue245
 t127:=Tryz.underlying170
 a127:=Tryz.isAgg170
 z127:=Tryz.sizeOf170
 v127:=Tryz.zeroValue170
 t146:=Tryz.underlying285
 a146:=Tryz.isAgg285
 z146:=Tryz.sizeOf285
 v146:=Tryz.zeroValue285
 t148:=Tryz.underlying287
 a148:=Tryz.isAgg287
 z148:=Tryz.sizeOf287
 v148:=Tryz.zeroValue287
 t164:=Tryz.underlying235
 a164:=Tryz.isAgg235
 z164:=Tryz.sizeOf235
 v164:=Tryz.zeroValue235 }
def Tryz.layClone_ren:Go.Shelf.Ren:=⟨fun | 25=>172 | n=>n,fun | 9=>9 | 3=>3 | 4=>4 | 37=>68 | 0=>0 | 47=>170 | 5=>5 | n=>n,fun | n=>n⟩
theorem Tryz.layClone:Go.Proofs.LaysPu.n25 Tryz.prog Tryz.layClone_ren:={
 mixed:=by kernel_rfl
 f25:=Tryz.func172.trans (congrArg some Go.Eng.aa0)
 t0:=Tryz.underlying0
 a0:=Tryz.isAgg0
 z0:=Tryz.sizeOf0
 v0:=Tryz.zeroValue0
 i0:=by kernel_rfl
 t3:=Tryz.underlying3
 a3:=Tryz.isAgg3
 z3:=Tryz.sizeOf3
 v3:=Tryz.zeroValue3
 i3:=by kernel_rfl
 t4:=Tryz.underlying4
 a4:=Tryz.isAgg4
 z4:=Tryz.sizeOf4
 v4:=Tryz.zeroValue4
 i4:=by kernel_rfl
 t5:=Tryz.underlying5
 a5:=Tryz.isAgg5
 z5:=Tryz.sizeOf5
 v5:=Tryz.zeroValue5
 i5:=by kernel_rfl
 t9:=Tryz.underlying9
 a9:=Tryz.isAgg9
 z9:=Tryz.sizeOf9
 v9:=Tryz.zeroValue9
 i9:=by kernel_rfl
 t37:=Tryz.underlying68
 a37:=Tryz.isAgg68
 z37:=Tryz.sizeOf68
 v37:=Tryz.zeroValue68
 i37:=by kernel_rfl
 t47:=Tryz.underlying170
 a47:=Tryz.isAgg170
 z47:=Tryz.sizeOf170
 v47:=Tryz.zeroValue170
 i47:=by kernel_rfl }
theorem Tryz.layRepeatX:Builder.Extra Tryz.prog Tryz.layRepeat_ren:={
 sizeBuilder:=by kernel_rfl
 liesBuilder:=by kernel_rfl
 t5:=Tryz.underlying5
 a5:=Tryz.isAgg5
 z5:=Tryz.sizeOf5
 v5:=Tryz.zeroValue5
 infoByte:=by kernel_rfl
 cellsByte:=by kernel_rfl
 sizeByte:=by kernel_rfl
 neB5:=by decide }
end Go.Proofs
