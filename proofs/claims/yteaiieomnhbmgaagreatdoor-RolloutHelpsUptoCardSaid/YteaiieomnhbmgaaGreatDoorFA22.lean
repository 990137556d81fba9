/- Lemmas 22. -/
import Derived.Test.YteaiieomnhbmgaaGreatDoorFA21
import Derived.Shelf.Strconv.Itoa3
import Derived.Shelf.Strings.Repeat
import Derived.Shelf.Pu.Clone
import Derived.Ground.NamesProg
import Derived.Ground.MpProg
set_option maxHeartbeats 4000000
namespace Go.Eng
open Go.Proofs
variable {Ch:List (Value×AV)}{p:ByteArray}{h:Nat->HO}{k:Value}{a:AV}(y:List Rl)(j:Nat)(r:Rl)(l:List Rq)
theorem MF:∀(y:List Rl) (acc:List ByteArray) (r:Rl),AZ (y++[r]) acc=if(AZ y acc).any (fun p=>decide (p=r.path))then AZ y acc else AZ y acc++[r.path]
 | [],acc,r=>rfl
 |s::y,acc,r=>by rw[HB,AZ,AZ,MF y]
theorem Fp:∀(y:List Rl) (acc:List ByteArray),acc.Nodup->(AZ y acc).Nodup
 | [],_,h=>h
 |s::y,acc,h=>by
  rw[AZ];refine Fp y _ ?_;split
  .exact h
  .rename_i hn;rw[FQ];refine⟨h,by simp,fun a ha b hb e=>?_⟩;rw[Ar]at hb;exact hn (PR.2 (by rw[<-hb,<-e];exact ha))
abbrev OM(p:ByteArray):List (List AV):=(y.filter fun r=>decide (r.path=p)).map AC
abbrev mM(q:ByteArray×Nat):Value×AV:=(.string q.1,.slice (.id (q.2+50) 9) (OM y q.1))
abbrev TP:List (Value×AV):=(AZ y []).zipIdx.map (mM y)
def KT(l:Nat):HO:=match(AZ y [])[l]? with
 |some q=>.tok 9 (OM y q).length
 |none=>.free
def XK:HO:=bif Nat.ble 50 j then KT y (j-50)else .free
theorem IH(l:Nat):XK y (l+50)=KT y l:=by
 unfold XK;rw[show Nat.ble 50 (l+50)=true by rw[Dw];omega,Nat.add_sub_cancel];rfl
theorem uZ{j:Nat}(h:j<50):XK y j=.free:=by
 unfold XK;rw[show Nat.ble 50 j=false by rw[AM];intro hc;rw[Dw]at hc;omega];rfl
theorem JD(q:ByteArray):OM (y++[r]) q=if r.path=q then OM y q++[AC r]else OM y q:=by
 unfold OM;rw[EL]
 by_cases h:r.path=q
 .rw[Ap h,Ue (by simpa using h)];simp
 .rw[Aj h,Ud (by simpa using h)];simp
theorem Jn{l:List ByteArray}{q:ByteArray×Nat}(h:q∈l.zipIdx):l[q.2]?=some q.1:=by
 obtain⟨a,b⟩:=q;exact FX.1 h
open Classical in
theorem NF(h:∀a',(k,a')∉Ch):E2 Ch k a=Ch++[(k,a)]:=by
 unfold E2;rw[Aj (fun⟨a',h'⟩=>h a' h')]
open Classical in
theorem bS{a':AV}(h:(k,a')∈Ch):E2 Ch k a=Ch.map fun p=>if p.1=k then(k,a)else p:=by
 unfold E2;rw[Ap ⟨a',h⟩]
section
variable {y:List Rl}{r:Rl}{k:Nat}
theorem Kp(h:(AZ y [])[k]?=some r.path):AZ (y++[r]) []=AZ y []:=by
 rw[MF,Ap (PR.2 (Az h))]
theorem Ko(h:r.path∉AZ y []):AZ (y++[r]) []=AZ y []++[r.path]:=by
 rw[MF,Aj (fun hc=>h (PR.1 hc))]
theorem Km{l:List ByteArray}(hd:l.Nodup){i j:Nat}(h1:l[i]?=some p)(h2:l[j]?=some p):i=j:=by
 obtain⟨a1,a2⟩:=Aw.1 h1;obtain⟨b1,b2⟩:=Aw.1 h2;exact(List.getElem_inj hd).1 (a2.trans b2.symm)
open Classical in
theorem qR(h:(AZ y [])[k]?=some r.path):E2 (TP y) (.string r.path) (.slice (.id (k+50) 9) (OM y r.path++[AC r]))=TP (y++[r]):=by
 have hd:=Fp y [] FF;have hm:mM y (r.path,k)∈TP y:=Ai.2 ⟨_,FX.2 h,rfl⟩;rw[bS (a':=.slice (.id (k+50) 9) (OM y r.path)) hm];unfold TP;rw[Kp h,Bq];refine Bg fun q hq=>?_;have hg:=Jn hq;obtain⟨q,j⟩:=q;show(if Value.string q=Value.string r.path then _ else _)=mM (y++[r]) (q,j)
 by_cases he:q=r.path
 .subst he
  have:j=k:=Km hd hg h
  subst this;rw[Ap rfl];show _=(Value.string r.path,AV.slice (.id (j+50) 9) (OM (y++[r]) r.path));rw[JD,Ap rfl]
 .rw[Aj (fun e=>he (by simpa using e))];show(Value.string q,AV.slice (.id (j+50) 9) (OM y q))=(Value.string q,AV.slice (.id (j+50) 9) (OM (y++[r]) q));rw[JD,Aj (fun e=>he e.symm)]
theorem gY(h:r.path∉AZ y []):OM y r.path=[]:=by
 have:y.filter (fun s=>decide (s.path=r.path))=[]:=by
  rw[Ir];intro s hs he;exact h ((G6 y [] r.path).2 (.inr ⟨s,hs,AP he⟩))
 unfold OM;rw[this];rfl
theorem bn(h:r.path∉AZ y [])(a:AV):(Value.string r.path,a)∉TP y:=by
 intro hc;obtain⟨q,h1,h2⟩:=Ai.1 hc;simp only[mM,Gk,Value.string.injEq]at h2;exact h (by rw[<-h2.1];exact Az (Jn h1))
theorem qQ(h:r.path∉AZ y []):E2 (TP y) (.string r.path) (.slice (.id ((AZ y []).length+50) 9) [AC r])=TP (y++[r]):=by
 rw[NF (fun a=>bn h a)];unfold TP;rw[Ko h,List.zipIdx_append,At]
 congr 1
 .refine Bg fun q hq=>?_;have hg:=Jn hq
  have:q.1≠r.path:=fun e=>h (by rw[<-e];exact Az hg)
  show(Value.string q.1,AV.slice (.id (q.2+50) 9) (OM y q.1))=(Value.string q.1,AV.slice (.id (q.2+50) 9) (OM (y++[r]) q.1));rw[JD,Aj (fun e=>this e.symm)]
 .show [_]=[(Value.string r.path,AV.slice (.id (0+(AZ y []).length+50) 9) (OM (y++[r]) r.path))];rw[JD,Ap rfl,gY h,Bb];rfl
theorem mP{j:Nat}(h:(AZ y [])[j]?=some p):(Value.string p,AV.slice (.id (j+50) 9) (OM y p))∈TP y/\∀b,(Value.string p,b)∈TP y->b=AV.slice (.id (j+50) 9) (OM y p):=by
 refine⟨Ai.2 ⟨(p,j),FX.2 h,rfl⟩,fun b hb=>?_⟩;obtain⟨q,h1,h2⟩:=Ai.1 hb;simp only[mM,Gk,Value.string.injEq]at h2;have hg:=Jn h1;rw[h2.1]at hg
 have:=Km (Fp y [] FF) hg h
 rw[<-h2.2,h2.1,this]
theorem pk{j:Nat}(h:(AZ y [])[j]?=some p):KT y j=.tok 9 (OM y p).length:=by
 unfold KT;rw[h]
theorem su(h:(AZ y [])[k]?=some r.path)(l:Nat):(bif Nat.beq (l+50) (k+50)then HO.tok 9 ((OM y r.path).length+1)else KT y l)=KT (y++[r]) l:=by
 by_cases he:l=k
 .subst he;rw[show Nat.beq (l+50) (l+50)=true from Ds _];unfold KT;rw[Kp h,h];show HO.tok 9 _=HO.tok 9 (OM (y++[r]) r.path).length;rw[JD,Ap rfl,Ac];rfl
 .rw[show Nat.beq (l+50) (k+50)=false by rw[AM];intro hc;have:=AL hc;omega];show KT y l=_;unfold KT;rw[Kp h];cases hq:(AZ y [])[l]? with
  |none=>rfl
  |some q=>
   show HO.tok 9 (OM y q).length=HO.tok 9 (OM (y++[r]) q).length;rw[JD,Aj];intro e;subst e;exact he (Km (Fp y [] FF) hq h)
theorem sr(h:r.path∉AZ y [])(l:Nat):(bif Nat.beq (l+50) ((AZ y []).length+50)then HO.tok 9 1 else KT y l)=KT (y++[r]) l:=by
 by_cases he:l=(AZ y []).length
 .subst he;rw[show Nat.beq ((AZ y []).length+50) ((AZ y []).length+50)=true from Ds _];unfold KT;rw[Ko h];simp only[A2 (Am _),E7,Bd];show HO.tok 9 1=HO.tok 9 (OM (y++[r]) r.path).length;rw[JD,Ap rfl,gY h];rfl
 .rw[show Nat.beq (l+50) ((AZ y []).length+50)=false by rw[AM];intro hc;have:=AL hc;omega];show KT y l=_;unfold KT;rw[Ko h]
  by_cases hl:l<(AZ y []).length
  .rw[AT hl,Ge hl];show HO.tok 9 (OM y (AZ y [])[l]).length=HO.tok 9 (OM (y++[r]) (AZ y [])[l]).length;rw[JD,Aj];intro e;exact h (by rw[e];exact Ao hl)
  .rw[A8 ch,A8 (by rw[Ac];simp;omega)]
end
theorem RN{h:Nat->HO}:∀{Ch:List (Value×AV)},(∀p∈Ch,WP h p.2=true)->SU h Ch=true
 | [],_=>rfl
 |p::r,hk=>by
  unfold SU;rw[hk p (Ab ..)];exact RN (fun q hq=>hk q (Ah _ hq))
theorem Mu(hh:∀l,h (l+50)=KT y l):SU h (TP y)=true:=by
 refine RN fun p hp=>?_;obtain⟨q,h1,rfl⟩:=Ai.1 hp;show TE h (q.2+50)=true;unfold TE;rw[hh,pk (Jn h1)]
theorem KB{y:List Rl}{h':Nat->HO}(hh:∀l,h (l+50)=KT y l)(j:Nat):XK y j=.free\/(h j=XK y j/\TF h' (XK y j)=true):=by
 by_cases hj:j<50
 .exact .inl (uZ y hj)
 .obtain⟨l,rfl⟩:∃l,j=l+50:=⟨j-50,by omega⟩
  right
  rw[IH];refine⟨hh l,?_⟩;unfold KT;cases (AZ y [])[l]?<;>rfl
theorem r6{x:List Rl}(hx:A0 x=0){i:Nat}(hi:i<x.length):E2 ((x.take i).map Wt) (SY (Fa x[i])) (.agg (AC x[i]))=(x.take (i+1)).map Wt:=by
 rw[NF]
 .rw[Bh,Ge hi,At];rfl
 intro a ha;obtain⟨r,hr,he,_⟩:=gJ ha;obtain⟨j,hj,e2⟩:=Cc.1 hr;rw[Ax]at hj;rw[GS]at e2;have hp:=(CF hx).2
 have:=(AU.1 hp) j i ch hi ch
 rw[e2]at this;exact G2 this he
abbrev z7:Tt:=⟨[],[],[],[],[8,9],[9],[40],[],[],[],[8,9,10,11]⟩
abbrev zT:List AV:=[.v (.map none),.v (.map none)]
theorem qD(x:List Rl)(ifs:List (List AV))(uV:PC 86 [Iu x ifs] (vi (A0 x)))(h0:A0 x≠0):li x ifs:=by
 have ht:WV x=.tup [.agg [.cmap ZZ [],.cmap Cu []],vi (A0 x)]:=by unfold WV;rw[Aj h0]
 unfold li;rw[ht];refine Ps z7 Tryz.func82 rfl (Nz rfl) (Xi 0 (Xi 0 (yN (Xi 0 (yN (Xi .pure (Xi _ (Yi (uV) (Xi 0 (Yi ?_ ?_))))))))))
 .intro _;refine Xi 0 (yN (yN (yN ?_)));exact .refl _
 .intro h;exact absurd h (fun hc=>hc h0)
theorem Ik:∀(y:List Rl) (acc:List ByteArray),(AZ y acc).length<=acc.length+y.length
 | [],acc=>by simp[AZ]
 |r::y,acc=>by
  rw[AZ];refine AK (Ik y _) ?_;split
  .simp only[Al];omega
  .simp only[Ac,Al,Au];omega
section
attribute [local irreducible] Jh
theorem uI(x:List Rl)(ifs:List (List AV))(uV:PC 86 [Iu x ifs] (vi (A0 x)))(h0:A0 x=0)(CH:x.length<=256):li x ifs:=by
 have ht:WV x=.tup [.agg [.cmap ZZ (x.map Wt),.cmap Cu ((AZ x []).map (rt x))],vi 0]:=by unfold WV;rw[Ap h0]
 unfold li;rw[ht];rw[h0]at uV;refine Ps z7 Tryz.func82 rfl (Nz rfl) (Xi 0 (Xi 0 (yN (Xi 0 (yN (Xi .pure (Xi _ (Yi (uV) (Xi 0 (Yi ?_ ?_))))))))))
 .intro hc;exact absurd (show(0:Int)≠0 from hc) Cl
 intro _;refine Xi 0 (Xi {i:Nat // i<=x.length} (Xi (fun i=>⟨[(2,.ref 2 0),(4,.ref 4 0),(18,sl AC x),(19,vi (x.map AC).length),(20,vi i.1)],[(2,.cells zT),(4,.cells [.mref 8,.mref 9]),(8,.map ZZ ((x.take i.1).map Wt)),(9,.mapU Cu (TP (x.take i.1)))],XK (x.take i.1)⟩) (Xi (fun i=>x.length-i.1) (Yi (Xi ⟨0,AB _⟩ ?_) ?_))))
 .refine⟨Z5,Z4,fun j=>.inl ?_,Tv⟩;show XK [] j=.free;unfold XK;cases Nat.ble 50 j<;>rfl
 intro⟨i,i1⟩;refine Xi 0 (Yi ?_ ?_)
 .intro h;have h:i<x.length:=by simpa using h
  have hg:x[i]?=some x[i]:=Ge h;have LW:x.take (i+1)=x.take i++[x[i]]:=by rw[Bh,hg];rfl
  refine Xi 0 (Xi (AC x[i]) (Yi (Yi (Nn i) (by simp[hg])) (Yi rfl ?_)));refine Yi (Nz rfl) (yN (Xi ⟨[(2,.ref 2 0),(4,.ref 4 0),(7,.ref 7 0),(18,sl AC x),(19,vi (x.map AC).length),(20,vi i)],[(2,.cells zT),(4,.cells [.mref 8,.mref 9]),(7,.cells (AC x[i])),(8,.map ZZ ((x.take i).map Wt)),(9,.mapU Cu (TP (x.take i)))],XK (x.take i)⟩ (Yi ?_ ?_)))
  .exact⟨Z6,⟨Zr,Zr,Zr,Zr,⟨rfl,Mu _ (IH _)⟩,Tv⟩,KB (IH _),Tv⟩
  refine Xi 0 (yN (Xi _ (Yi (uw x[i]) (yN (Yi Wk ?_)))));have e8:E2 ((x.take i).map Wt) (SY (Fa x[i])) (.agg (AC x[i]))=(x.take (i+1)).map Wt:=r6 h0 h;refine Xi ⟨[(2,.ref 2 0),(4,.ref 4 0),(7,.ref 7 0),(18,sl AC x),(19,vi (x.map AC).length),(20,vi i)],[(2,.cells zT),(4,.cells [.mref 8,.mref 9]),(7,.cells (AC x[i])),(8,.map ZZ ((x.take (i+1)).map Wt)),(9,.mapU Cu (TP (x.take i)))],XK (x.take i)⟩ (Yi ?_ ?_)
  .exact⟨Z6,⟨Zr,Zr,Zr,⟨Aa (HO.map ZZ) e8,rfl⟩,⟨rfl,Mu _ (IH _)⟩,Tv⟩,KB (IH _),Tv⟩
  have hL:((x.take i).filter (fun r=>decide (r.path=x[i].path))).length<=256:=by
   have:=Bx (fun r:Rl=>decide (r.path=x[i].path)) (x.take i)
   rw[Ax]at this;omega
  have hP:∀l,XK (x.take i) (l+50)=KT (x.take i) l:=IH _;refine BX (Classical.em (x[i].path∈AZ (x.take i) [])) (fun hp=>?_) (fun hp=>?_)
  .refine CL (Ct.1 hp) (fun k hk=>?_);have hu:=mP hk;refine Xi 0 ?_;refine Or.inl (Xi (.slice (.id (k+50) 9) (OM (x.take i) x[i].path)) (Yi hu ?_));refine yN ?_;have hr:XK (x.take i) (k+50)=.tok 9 (OM (x.take i) x[i].path).length:=by rw[hP,pk hk]
   have hl:(OM (x.take i) x[i].path).length<=256:=by rw[Lm];exact hL
   refine SE (e:=78) (m:=8) (es2:=[AC x[i]]) rfl rfl rfl (fun _ h=>h) hr ⟨rfl,trivial⟩ (by show(_+1)*120<=_;omega) (by show _+1<=_;omega) ?_;have zk:k<256:=by
    have:=(Aw.1 hk).1
    have:=Ik (x.take i) []
    rw[Ax]at this;simp only[Au]at this;omega
   have vz:=hk;refine Yi (Ka ⟨A4 _,A4 _,A4 _,A4 _,A4 _,A4 _,A4 _,A4 _,A4 _,A4 _,Ew (show 39<10000000 by decide),Ew (by show _+50<10000000;omega),Ew (show 9<10000000 by decide),trivial⟩ Wk) ?_;have e9:E2 (TP (x.take i)) (.string x[i].path) (.slice (.id (k+50) 9) (OM (x.take i) x[i].path++[AC x[i]]))=TP (x.take (i+1)):=by rw[LW];exact qR vz
   have hG:∀l,(bif Nat.beq (l+50) (k+50)then HO.tok 9 ((OM (x.take i) x[i].path).length+1)else KT (x.take i) l)=KT (x.take (i+1)) l:=by rw[LW];exact su vz
   refine Xi ⟨[(2,.ref 2 0),(4,.ref 4 0),(18,sl AC x),(19,vi (x.map AC).length),(20,vi i)],[(2,.cells zT),(4,.cells [.mref 8,.mref 9]),(8,.map ZZ ((x.take (i+1)).map Wt)),(9,.mapU Cu (TP (x.take (i+1))))],XK (x.take (i+1))⟩ (Yi ?_ ?_)
   .refine⟨Z5,⟨Zr,Zr,Zr,⟨Aa (HO.mapU Cu) e9,Mu _ (IH _)⟩,Tv⟩,KB (fun l=>?_),Tv⟩;show(bif Nat.beq (l+50) (k+50)then HO.tok 9 ((OM (x.take i) x[i].path).length+1)else XK (x.take i) (l+50))=_;rw[hP];exact hG l
   refine Xi 0 (Yi (Ii i ch) (Xi ⟨i+1,by omega⟩ ?_));exact⟨Dl x.length i ch,Z5,⟨Zr,Zr,Zr,⟨rfl,Mu _ (IH _)⟩,Tv⟩,KB (IH _),Tv⟩
  .have vz:=hp;have MX:(AZ (x.take i) []).length<=256:=by
    have:=Ik (x.take i) []
    rw[Ax]at this;simp only[Au]at this;omega
   have hn:=bn hp;refine Xi ((AZ (x.take i) []).length+50) ?_;refine Or.inr (Yi hn ?_);refine yN ?_;have hr:XK (x.take i) ((AZ (x.take i) []).length+50)=.free:=by
    rw[hP];unfold KT;rw[A8 (Am _)]
   refine SD (e:=78) (m:=8) (es2:=[AC x[i]]) rfl rfl rfl (fun _ h=>h) hr rfl ⟨rfl,trivial⟩ (by show 1*120<=_;omega) (by show 1<=_;omega) (Yi (Ka ⟨A4 _,A4 _,A4 _,A4 _,A4 _,A4 _,A4 _,A4 _,A4 _,A4 _,Ew (show 39<10000000 by decide),Ew (by show _+50<10000000;omega),Ew (show 9<10000000 by decide),trivial⟩ Wk) ?_);have e9:E2 (TP (x.take i)) (.string x[i].path) (.slice (.id ((AZ (x.take i) []).length+50) 9) [AC x[i]])=TP (x.take (i+1)):=by rw[LW];exact qQ vz
   have hG:∀l,(bif Nat.beq (l+50) ((AZ (x.take i) []).length+50)then HO.tok 9 1 else KT (x.take i) l)=KT (x.take (i+1)) l:=by rw[LW];exact sr vz
   refine Xi ⟨[(2,.ref 2 0),(4,.ref 4 0),(18,sl AC x),(19,vi (x.map AC).length),(20,vi i)],[(2,.cells zT),(4,.cells [.mref 8,.mref 9]),(8,.map ZZ ((x.take (i+1)).map Wt)),(9,.mapU Cu (TP (x.take (i+1))))],XK (x.take (i+1))⟩ (Yi ?_ ?_)
   .refine⟨Z5,⟨Zr,Zr,Zr,⟨Aa (HO.mapU Cu) e9,Mu _ (IH _)⟩,Tv⟩,KB (fun l=>?_),Tv⟩;show(bif Nat.beq (l+50) ((AZ (x.take i) []).length+50)then HO.tok 9 1 else XK (x.take i) (l+50))=_;rw[hP];exact hG l
   refine Xi 0 (Yi (Ii i ch) (Xi ⟨i+1,by omega⟩ ?_));exact⟨Dl x.length i ch,Z5,⟨Zr,Zr,Zr,⟨rfl,Mu _ (IH _)⟩,Tv⟩,KB (IH _),Tv⟩
 .intro h;have h:¬i<x.length:=by simpa using h
  have et:x.take i=x:=Av ch;refine Xi ⟨[(2,.ref 2 0),(4,.ref 4 0)],[(2,.cells zT),(4,.cells [.mref 8,.mref 9]),(8,.map ZZ ((x.take i).map Wt)),(9,.mapU Cu (TP (x.take i)))],XK (x.take i)⟩ (Yi ?_ ?_)
  .exact⟨Z2,⟨Zr,Zr,Zr,⟨rfl,Mu _ (IH _)⟩,Tv⟩,KB (IH _),Tv⟩
  refine Xi 0 (yN (yN (yN ?_)));have es:∀h:Nat->HO,TK h (TP (x.take i))=(AZ x []).map (rt x):=fun h=>by
   rw[et];unfold TK TP;rw[Bq];refine Dz fun j=>?_;rw[AG,AG,List.getElem?_zipIdx];cases (AZ x [])[j]?<;>rfl
  have e1:(x.take i).map Wt=x.map Wt:=by rw[et]
  exact .of_eq (show AV.tup [.agg [.cmap ZZ ((x.take i).map Wt),.cmap Cu (TK _ (TP (x.take i)))],vi 0]=_ by rw[e1,es])
end
theorem c84(x:List Rl)(ifs:List (List AV))(hx:∀r∈x,Ey r):li x ifs:=by
 by_cases h0:A0 x=0
 .exact uI x ifs (xo WF x ifs hx) h0 (My h0).1
 .exact qD x ifs (xo WF x ifs hx) h0
abbrev plT(n:Nat):Tt:=⟨[],[(2,n)],[],[],[],[],[5],[],[],[],[2,3]⟩
theorem uH(l:List Sl)(hl:B8 l):A9 Tryz.prog 138 [sl Aq l] (As [] Ag) fun r h'=>r=.slice (.id 2000 4) (l.map Aq)/\h'=As [(2000,.tok 4 (l.map Aq).length)] Ag:=by
 refine Cz (No (plT 4)) [(2,2000)] rfl C3 hm rfl Tryz.func138 Wk rfl (Nz rfl) Wk rfl ?_;have HG:Cr 4 (l.map Aq)/\([]:List (List AV)).length=0/\(([]:List (List AV)).length+(l.map Aq).length)*40<=140737488355328/\([]:List (List AV)).length+(l.map Aq).length<=9223372036854775807:=by
  refine⟨D5 (enc:=Aq) (n:=4) (fun _=>rfl) l,rfl,?_,?_⟩<;>simp only[Au,Lm]<;>unfold B8 at hl<;>omega
 have e2:HO.tok 4 (([]:List (List AV)).length+(l.map Aq).length)=.tok 4 (l.map Aq).length:=by rw[Au,Bb]
 have e3:AV.slice (.id 2000 4) ([]++l.map Aq)=.slice (.id 2000 4) (l.map Aq):=rfl;refine Xi 0 (Xi 0 (Yi ?_ ?_))
 .intro _;refine cU [(0,sl Aq l)] [] Z1 Tv (Xi 2 (Yi HG ?_));exact Xi _ (Yi (.refl _) (Yi e3 (Aa (fun o=>As [(2000,o)] Ag) e2)))
 .intro h;refine Yi ?_ ?_
  .refine Xi ⟨[],[],Ag⟩ (Yi ⟨trivial,trivial,fun _=>.inl rfl,BV Wk⟩ ?_);refine Xi 0 ?_;exact Xi _ (Yi (.refl _) (Yi (show AV.slice (.id 2000 4) []=_ by rw[h]) (show As [(2000,HO.tok 4 0)] Ag=_ by rw[h];rfl)))
  .refine cU [(0,sl Aq l)] [] Z1 Tv (Xi 2 (Yi HG ?_));exact Xi _ (Yi (.refl _) (Yi e3 (Aa (fun o=>As [(2000,o)] Ag) e2)))
def NO(q:Rq):Bool:=decide (q.path.size<=100)&&decide (q.set.length<=8)
def EN:Bool:=l.all NO&&decide (l.length<=20)
theorem c35(hl:B8 l):PC 30 [sl AW l] (vb (EN l)):=by
 unfold B8 at hl;refine Ps Ej Tryz.func30 rfl (Nz rfl) (Xi {i:Nat // i<=l.length/\∀j (hj:j<l.length),j<i->NO l[j]=true} (Xi (fun i=>⟨[(0,sl AW l),(3,vi i.1)],[],Ag⟩) (Xi (fun i=>l.length-i.1) (Yi (Xi ⟨0,AB _,fun j _ h=>by omega⟩ ?_) ?_))))
 .exact⟨Z2,Tv,Fh,Tv⟩
 intro⟨i,h1,h2⟩;refine Yi ?_ ?_
 .intro h;have h:i<l.length:=by simpa using h
  have hg:l[i]?=some l[i]:=Ge h;have no:NO l[i]=false->false=EN l:=fun e=>by
   unfold EN
   have:l.all NO=false:=by
    rw[AM];intro ha
    have:=A1.1 ha _ (Ao h)
    rw[e]at this;cases this
   rw[this];rfl
  refine Xi (AW l[i]) (Yi (Yi (Nn i) (by simp[hg])) (Yi rfl ?_));refine Yi ?_ ?_
  .intro h3;exact .of_eq (Aa vb (no (by unfold NO;rw[Ae ch];rfl)))
  intro h3;refine Xi (AW l[i]) (Yi (Yi (Nn i) (by simp[hg])) (Yi rfl ?_));refine Yi ?_ ?_
  .intro h4;rw[Lm]at h4;exact .of_eq (Aa vb (no (by unfold NO;rw[Ae (by omega:¬l[i].set.length<=8),Cp])))
  intro h4;have h5:l[i].set.length<=8:=by rw[Lm]at h4;omega
  refine Yi (Ii i ch) (Xi ⟨i+1,by omega,fun j hj I6=>?_⟩ ?_)
  .rcases CR j i with z|z
   .exact h2 j hj z
   .have:j=i:=by omega
    subst this;unfold NO;rw[Ak ch,Ak h5];rfl
  .exact⟨Dl l.length i ch,Z2,Tv,Fh,Tv⟩
 .intro h;have h:¬i<l.length:=by simpa using h
  have ha:l.all NO=true:=A1.2 fun q hq=>by
   obtain⟨j,hj,rfl⟩:=F4 hq;exact h2 j hj ch
  refine Yi ?_ ?_
  .intro h3;rw[Lm]at h3;exact .of_eq (Aa vb (show true=EN l by unfold EN;rw[ha,Ak ch];rfl))
  .intro h3;rw[Lm]at h3;exact .of_eq (Aa vb (show false=EN l by unfold EN;rw[Ae ch,Cp]))
def JR:Bool:=decide (r.path.size<=100)&&decide (r.arch.size<=100)&&decide (r.ifc.size<=100)&&decide (r.cert.size<=100)&&EN r.reqs
def GL(x:List Rl)(n:Nat):Bool:=x.all JR&&decide (x.length<=n)
theorem c34(x:List Rl)(n:Nat)(hl:B8 x)(hr:∀r∈x,B8 r.reqs):PC 60 [sl AC x,vi n] (vb (GL x n)):=by
 unfold B8 at hl;refine Ps Ej Tryz.func60 rfl (Nz rfl) (Xi {i:Nat // i<=x.length/\∀j (hj:j<x.length),j<i->JR x[j]=true} (Xi (fun i=>⟨[(0,sl AC x),(1,vi n),(5,vi i.1)],[],Ag⟩) (Xi (fun i=>x.length-i.1) (Yi (Xi ⟨0,AB _,fun j _ h=>by omega⟩ ?_) ?_))))
 .exact⟨Z3,Tv,Fh,Tv⟩
 intro⟨i,h1,h2⟩;refine Yi ?_ ?_
 .intro h;have h:i<x.length:=by simpa using h
  have hg:x[i]?=some x[i]:=Ge h;have no:JR x[i]=false->false=GL x n:=fun e=>by
   unfold GL
   have:x.all JR=false:=by
    rw[AM];intro ha
    have:=A1.1 ha _ (Ao h)
    rw[e]at this;cases this
   rw[this];rfl
  have hc:=c35 x[i].reqs (hr _ (Ao h));refine Xi (AC x[i]) (Yi (Yi (Nn i) (by simp[hg])) (Yi rfl ?_));refine Yi ?_ ?_
  .intro h3;exact .of_eq (Aa vb (no (by unfold JR;rw[Ae (by omega:¬x[i].path.size<=100)];simp)))
  intro h3;refine Xi (AC x[i]) (Yi (Yi (Nn i) (by simp[hg])) (Yi rfl ?_));refine Yi ?_ ?_
  .intro h4;exact .of_eq (Aa vb (no (by unfold JR;rw[Ae (by omega:¬x[i].arch.size<=100)];simp)))
  intro h4;refine Xi (AC x[i]) (Yi (Yi (Nn i) (by simp[hg])) (Yi rfl ?_));refine Yi ?_ ?_
  .intro h5;exact .of_eq (Aa vb (no (by unfold JR;rw[Ae (by omega:¬x[i].ifc.size<=100)];simp)))
  intro h5;refine Xi (AC x[i]) (Yi (Yi (Nn i) (by simp[hg])) (Yi rfl ?_));refine Yi ?_ ?_
  .intro h6;exact .of_eq (Aa vb (no (by unfold JR;rw[Ae (by omega:¬x[i].cert.size<=100)];simp)))
  intro h6;refine Xi (AC x[i]) (Yi (Yi (Nn i) (by simp[hg])) (Yi rfl ?_));refine BX (Bt (EN x[i].reqs)) (fun e=>?_) (fun e=>?_)
  rotate_left
  .rw[e]at hc;refine Xi .pure (Xi _ (Yi (hc) ?_));exact .of_eq (Aa vb (no (by unfold JR;rw[e,Cp])))
  rw[e]at hc;refine Xi .pure (Xi _ (Yi (hc) (Yi (Ii i ch) (Xi ⟨i+1,by omega,fun j hj I6=>?_⟩ ?_))))
  .rcases CR j i with z|z
   .exact h2 j hj z
   .have:j=i:=by omega
    subst this;unfold JR;rw[Ak (by omega:x[j].path.size<=100),Ak (by omega:x[j].arch.size<=100),Ak (by omega:x[j].ifc.size<=100),Ak (by omega:x[j].cert.size<=100),e];rfl
  .exact⟨Dl x.length i ch,Z3,Tv,Fh,Tv⟩
 .intro h;have h:¬i<x.length:=by simpa using h
  have ha:x.all JR=true:=A1.2 fun q hq=>by
   obtain⟨j,hj,rfl⟩:=F4 hq;exact h2 j hj ch
  refine Yi ?_ ?_
  .intro h3;rw[Lm]at h3;exact .of_eq (Aa vb (show true=GL x n by unfold GL;rw[ha,Ak ch];rfl))
  .intro h3;rw[Lm]at h3;exact .of_eq (Aa vb (show false=GL x n by unfold GL;rw[Ae ch,Cp]))
theorem c11(x:List Rl)(ifs:List (List AV))(roots:List Rq)(hl:B8 x)(hr:∀r∈x,B8 r.reqs)(hq:B8 roots):PC 26 [Iu x ifs,sl AW roots] (vb (GL x 16&&EN roots)):=by
 have h1:=c34 x 16 hl hr;have h2:=c35 roots hq;cases e:GL x 16 with
 |true=>
  rw[e]at h1;refine Ps Ej Tryz.func26 rfl (Nz rfl) (Xi .pure (Xi _ (Yi (h1) (Xi .pure (Xi _ (Yi (h2) ?_))))));exact .refl _
 |false=>
  rw[e]at h1;refine Ps Ej Tryz.func26 rfl (Nz rfl) (Xi .pure (Xi _ (Yi (h1) ?_)));exact .refl _
structure sT(x:List Rl)(roots:List Rq):Prop where
 ix:B8 x
 rs:B8 roots
 rel:∀r∈x,B8 r.reqs/\Ey r
 rq:∀q∈roots,JH q
theorem sT.x{x:List Rl}{roots:List Rq}(h:sT x roots):∀r∈x,Ey r:=fun r hr=>(h.rel r hr).2
theorem sT.c11{x:List Rl}{roots:List Rq}(h:sT x roots)(ifs:List (List AV)):PC 26 [Iu x ifs,sl AW roots] (vb (GL x 16&&EN roots)):=
 Go.Eng.c11 x ifs roots h.ix (fun r hr=>(h.rel r hr).1) h.rs
end Go.Eng
namespace Go.Eng
variable {i:Nat}{tl:List AV}{m:Nat}(x a w:Int)(s:ByteArray)(ws:List Int)(k b:Int)
abbrev E0:AV:=.v (.int .u32 x)
theorem HM{cs r:List AV}{a:AV}{K:AV->Prop}(h:cs=a::r)(k:K a):MW cs K:=by rw[h];exact k
theorem Qf{l:List AV}{n:Nat}{a:AV}(h:l[n]?=some a)(e:m=n):l.drop m=a::l.drop (n+1):=by
 subst e;obtain⟨h1,h2⟩:=Aw.1 h;rw[<-h2];exact AI h1
theorem tD{a:AV}:∀{l:List AV} {n:Nat},over l n [a]=l.set n a
 | [],_=>rfl
 |c::l,0=>by cases l<;>rfl
 |c::l,n+1=>by show c::over l n [a]=_;rw[tD (l:=l)];rfl
def kJ:Int:=JV .or .u32 (GK .shl .u32 x (JV .and .u64 (IntKind.wrap .u64 k) 31)) (GK .shr .u32 x (IntKind.wrap .u64 (32-JV .and .u64 (IntKind.wrap .u64 k) 31)))
def xr:Int:=JV .xor .u32 a b
def an:Int:=JV .and .u32 a b
def nt:Int:=JV .xor .u32 4294967295 a
def ad:Int:=IntKind.wrap .u32 (a+b)
def vW(c:Int):Int:=xr (xr (kJ x (-a)) (kJ x (-b))) (kJ x (-c))
def nQ(s:Int):Int:=xr (xr (kJ x (-a)) (kJ x (-b))) (GK .shr .u32 x s)
def OX(i:Nat):UInt8:=s.data[i]?.getD 0
def Tr(s:ByteArray)(i:Nat):Nat->Int
 |0=>0
 |k+1=>JV .or .u32 (GK .shl .u32 (Tr s i k) 8) (IntKind.wrap .u32 ((OX s (4*i+k)).toNat:Int))
def Z0(i:Nat):Int:=ws[i]?.getD 0
def bW(i:Nat):Int:=
 if i<16 then Tr s i 4 else ad (ad (ad (nQ (Z0 ws (i-2)) 17 19 10) (Z0 ws (i-7))) (nQ (Z0 ws (i-15)) 7 18 3)) (Z0 ws (i-16))
def Gv(s:ByteArray):Nat->List Int
 |0=>[]
 |i+1=>Gv s i++[bW s (Gv s i) i]
theorem KO(s:ByteArray):∀i,(Gv s i).length=i
 |0=>rfl
 |i+1=>by rw[Gv,Ac,KO s i];rfl
theorem fK{ws:List Int}(h:i<ws.length):ws[i]?=some (Z0 ws i):=by rw[Z0,Ge h];rfl
structure S8 where
 (a b c d e f g h:Int)
def S8.l(v:S8):List Int:=[v.a,v.b,v.c,v.d,v.e,v.f,v.g,v.h]
abbrev aL(v:S8):List AV:=[E0 v.a,E0 v.b,E0 v.c,E0 v.d,E0 v.e,E0 v.f,E0 v.g,E0 v.h]
def rT1(v:S8):Int:=ad (ad (ad (ad v.h (vW v.e 6 11 25)) (xr (an v.e v.f) (an (nt v.e) v.g))) k) w
def rT2(v:S8):Int:=ad (vW v.a 2 13 22) (xr (xr (an v.a v.b) (an v.a v.c)) (an v.b v.c))
def AeF(v:S8):S8:=⟨ad (rT1 w k v) (rT2 v),v.a,v.b,v.c,ad v.d (rT1 w k v),v.e,v.f,v.g⟩
def VS(ws ks:List Int)(v:S8):Nat->S8
 |0=>v
 |i+1=>AeF (Z0 ws i) (Z0 ks i) (VS ws ks v i)
def xU(v r:S8):S8:=⟨ad v.a r.a,ad v.b r.b,ad v.c r.c,ad v.d r.d,ad v.e r.e,ad v.f r.f,ad v.g r.g,ad v.h r.h⟩
def kK:List Int:=[0x428a2f98,0x71374491,0xb5c0fbcf,0xe9b5dba5,0x3956c25b,0x59f111f1,0x923f82a4,0xab1c5ed5,
 0xd807aa98,0x12835b01,0x243185be,0x550c7dc3,0x72be5d74,0x80deb1fe,0x9bdc06a7,0xc19bf174,
 0xe49b69c1,0xefbe4786,0x0fc19dc6,0x240ca1cc,0x2de92c6f,0x4a7484aa,0x5cb0a9dc,0x76f988da,
 0x983e5152,0xa831c66d,0xb00327c8,0xbf597fc7,0xc6e00bf3,0xd5a79147,0x06ca6351,0x14292967,
 0x27b70a85,0x2e1b2138,0x4d2c6dfc,0x53380d13,0x650a7354,0x766a0abb,0x81c2c92e,0x92722c85,
 0xa2bfe8a1,0xa81a664b,0xc24b8b70,0xc76c51a3,0xd192e819,0xd6990624,0xf40e3585,0x106aa070,
 0x19a4c116,0x1e376c08,0x2748774c,0x34b0bcb5,0x391c0cb3,0x4ed8aa4a,0x5b9cca4f,0x682e6ff3,
 0x748f82ee,0x78a5636f,0x84c87814,0x8cc70208,0x90befffa,0xa4506ceb,0xbef9a3f7,0xc67178f2]
def wz(v:S8)(s:ByteArray):S8:=xU v (VS (Gv s 64) kK v 64)
def Tc(v r:S8)(i:Nat)(tl:List AV):List AV:=
 E0 (if 0<i then ad v.a r.a else v.a)::E0 (if 1<i then ad v.b r.b else v.b)::E0 (if 2<i then ad v.c r.c else v.c)::E0 (if 3<i then ad v.d r.d else v.d) ::
 E0 (if 4<i then ad v.e r.e else v.e)::E0 (if 5<i then ad v.f r.f else v.f)::E0 (if 6<i then ad v.g r.g else v.g)::E0 (if 7<i then ad v.h r.h else v.h)::tl
def JM(v:S8)(b:ByteArray):S8×ByteArray:=
 if 64<=b.size then JM (wz v (b.extract 0 64)) (b.extract 64 b.size)else(v,b)
termination_by b.size
decreasing_by simp only[Io];omega
def iv0:S8:=⟨1779033703,3144134277,1013904242,2773480762,1359893119,2600822924,528734635,1541459225⟩
structure HS where
 v:S8
 rest:ByteArray
 tot:Int
abbrev GN(x:HS):List AV:=[E0 x.v.a,E0 x.v.b,E0 x.v.c,E0 x.v.d,E0 x.v.e,E0 x.v.f,E0 x.v.g,E0 x.v.h,vs x.rest,.v (.int .u64 x.tot)]
def HA(x:HS)(s:ByteArray):HS:=⟨(JM x.v (x.rest++s)).1,(JM x.v (x.rest++s)).2,IntKind.wrap .u64 (x.tot+IntKind.wrap .u64 (s.size:Int))⟩
def K5(n:Int):ByteArray:=⟨((List.range 8).map fun(i:Nat)=>UInt8.ofNat (IntKind.wrap .u8 (GK .shr .u64 n (56-8*(i:Int)))).toNat).toArray⟩
def G9:List UInt8:=[UInt8.ofNat (IntKind.wrap .u8 (GK .shr .u32 x 24)).toNat,UInt8.ofNat (IntKind.wrap .u8 (GK .shr .u32 x 16)).toNat,UInt8.ofNat (IntKind.wrap .u8 (GK .shr .u32 x 8)).toNat,UInt8.ofNat (IntKind.wrap .u8 x).toNat]
def tW(n:Nat):ByteArray:=⟨(List.replicate n 0).toArray⟩
def Fc(x:HS):ByteArray:=(⟨#[128]⟩++tW ((119-(x.rest.size:Int)) % 64).toNat)++K5 (IntKind.wrap .u64 (8*x.tot))
def so(x:HS):ByteArray:=⟨(((HA x (Fc x)).v.l).flatMap G9).toArray⟩
def TG:HS:=⟨iv0,⟨#[]⟩,0⟩
def Ri(x:HS)(l:List ByteArray):HS:=l.foldl (fun x s=>HA (HA x (K5 (IntKind.wrap .u64 (s.size:Int)))) s) x
def iz(tag:ByteArray)(l:List ByteArray):ByteArray:=so (Ri (HA TG (K5 (IntKind.wrap .u64 (tag.size:Int))++tag)) l)
theorem mc{b:Bool}{p:Prop}(h:b=true)(k:p):(match(generalizing:=false) b with|true=>p|false=>False):=by subst h;exact k
theorem mapU(h:Nat->HO):∀ws:List Int,(ws.map E0).map (str0 h)=ws.map E0
 | []=>rfl
 |_::ws=>Aa (_ :: ·) (mapU h ws)
theorem Af2{h:Nat->HO}{l:List AV}{ws:List Int}(e:l=ws.map E0):CX (.agg (l.map (str0 h))) (.agg (ws.map E0)):=by
 rw[e,mapU];exact .refl _
theorem uk{l:List AV}{a:AV}{n:Nat}(h:l.length=n):(l++a::tl)[n]?=some a:=by
 subst h;rw[A2 (Am _),E7];rfl
theorem Zq{ws:List Int}(h:i<ws.length):(ws.map E0++tl)[i]?=some (E0 (Z0 ws i)):=by
 rw[AT (by rw[Lm];exact h),AG,fK h];rfl
theorem Zs{ws:List Int}(h:i<ws.length):(ws.map E0)[i]?=some (E0 (Z0 ws i)):=by
 rw[AG,fK h];rfl
theorem QV{a b:AV}{tl:List AV}:∀{l:List AV} {n:Nat},l.length=n->over (l++a::tl) n [b]=l++b::tl
 | [],_,rfl=>by cases tl<;>rfl
 |c::l,_,rfl=>by show c::over (l++a::tl) l.length [b]=_;rw[QV rfl];rfl
theorem NJ:∀{z l:List AV},z.length=l.length->over z 0 l=l
 | [],[],_=>rfl
 | [],_::_,h=>by cases h
 |_::_,[],h=>by cases h
 |_::z,b::l,h=>by show b::over z 0 l=_;rw[NJ (Nat.succ.inj h)]
theorem fY{s:ByteArray}{z:Int}{n:Nat}(h:n<s.size)(e:z=(n:Int)):(0:Int)<=z/\s.data[z.toNat]?=some (OX s n):=by
 subst e;refine⟨Ip n,?_⟩;have h:n<s.data.size:=h;rw[Cb,OX,A6 h];rfl
def S8.n(v:S8)(i:Nat):Int:=Z0 v.l i
theorem sY{v:S8}(h:i<8)(e:m=i):(aL v).drop m=E0 (v.n i)::(aL v).drop (i+1):=
 Qf (Zs (ws:=v.l) h) e
theorem mu{v r:S8}(h:i<8)(e:m=i):(Tc v r i tl).drop m=E0 (v.n i)::(Tc v r i tl).drop (i+1):=by
 refine Qf ?_ e
 match i,h with
 |0,_ |1,_ |2,_ |3,_ |4,_ |5,_ |6,_ |7,_=>rfl
theorem oz{v r:S8}(h:i<8)(e:m=i):over (Tc v r i tl) m [E0 (ad (v.n i) (r.n i))]=Tc v r (i+1) tl:=by
 subst e;rw[tD]
 match m,h with
 |0,_ |1,_ |2,_ |3,_ |4,_ |5,_ |6,_ |7,_=>rfl
theorem ii{n:Nat}(h:n<64):List.replicate (64-n) (E0 0)=E0 0::List.replicate (64-(n+1)) (E0 0):=by
 rw[show 64-n=(64-(n+1))+1 by omega];rfl
theorem cE{s:ByteArray}{x:Int}(h:x=bW s (Gv s i) i):(Gv s i).map E0++E0 x::List.replicate (64-(i+1)) (E0 0)=(Gv s (i+1)).map E0++List.replicate (64-(i+1)) (E0 0):=by
 rw[h,Gv,At,BD];rfl
theorem vN(h:Nat->HO)(tl:List AV):∀ws:List Int,Zi h (ws.map E0++tl)=Zi h tl
 | []=>rfl
 |_::ws=>vN h tl ws
theorem vM(h:Nat->HO):∀n:Nat,Zi h (List.replicate n (E0 0))=true
 |0=>rfl
 |n+1=>vM h n
theorem eh(h:Nat->HO):∀ws:List Int,TF h (.cells (ws.map E0))=true
 | []=>rfl
 |_::ws=>eh h ws
theorem vO(h:Nat->HO)(ws:List Int)(n:Nat):TF h (.cells (ws.map E0++List.replicate n (E0 0)))=true:=(vN h _ ws).trans (vM h n)
theorem zJ(h:Nat->HO)(ws:List Int)(x:Int)(n:Nat):TF h (.cells (ws.map E0++E0 x::List.replicate n (E0 0)))=true:=(vN h _ ws).trans (vM h n)
theorem VV(i:Nat):((Gv s i).map E0).length=i:=by rw[Lm,KO]
end Go.Eng
namespace Go.Eng
open Go.Proofs
variable {α:Type}{f:α->List AV}{l O:List α}{args:List AV}{i n:Nat}(a:Int)
theorem A9.to2{P:Program}{f:Nat}{h0:Nat->HO}{r0:AV}{H0:Nat->HO}{Q' : AV->(Nat->HO)->Prop}(h:A9 P f args h0 fun r h'=>r=r0/\h'=H0)(k:Q' r0 H0):A9 P f args h0 Q':=
 h.mono fun r h' q=>⟨r,.refl _,by rw[q.1,q.2];exact k⟩
theorem cb{f:Nat}{b x:Bool}(h:b=x)(hc:PC f args (vb b)):PC f args (vb x):=h▸hc
theorem FJ(h:(i:Int)<((l.map f).length:Int)):i<l.length:=by rw[Lm]at h;omega
theorem DP(h:¬(i:Int)<((l.map f).length:Int)):¬i<l.length:=by rw[Lm]at h;omega
theorem Lv(h:i<l.length):(0:Int)<=(i:Int)/\(l.map f)[((i:Nat):Int).toNat]?=some (f l[i]):=⟨Ip _,by rw[Cb,AG,Ge h];rfl⟩
theorem lj{z:Nat}{x:List AV}(hx:x.length=n)(h:O.length<=2147483647)(hz:z<=65536) :
  Cr n [x]/\(O.map f).length=O.length/\((O.map f).length+([x]:List (List AV)).length)*z<=140737488355328/\(O.map f).length+([x]:List (List AV)).length<=9223372036854775807:=by
 refine⟨⟨hx,trivial⟩,Lm _,?_,?_⟩<;>rw[Lm]<;>simp only[Al,Au]
 .have:=Nat.mul_le_mul (show O.length+(0+1)<=2147483648 by omega) hz
  omega
 .omega
theorem tkA{x:α}{r:Nat}:AV.slice (.id r n) (O.map f++[f x])=.slice (.id r n) ((O++[x]).map f):=by rw[At];rfl
theorem hkA{x:α}{y:List AV}:HO.tok n ((O.map f).length+([y]:List (List AV)).length)=.tok n (O++[x]).length:=by rw[Ac,Lm];rfl
theorem Wp:0<=IntKind.wrap .u64 a:=WZ _ Cl
theorem lQ(b:Int):0<=JV .and .u64 a b:=Wp _
theorem cV(x k:Int):PC 201 [.v (.int .u32 x),vi k] (.v (.int .u32 (kJ x k))):=by
 refine Ps Ej Tryz.func201 rfl (Nz rfl) (Yi (lQ _ _) (Yi (Wp _) ?_));exact .refl _
theorem pH(x a b c:Int)(ha:0<=a/\a<=64)(hb:0<=b/\b<=64)(hc:0<=c):PC 266 [.v (.int .u32 x),vi a,vi b,vi c] (.v (.int .u32 (nQ x a b c))):=by
 refine Ps Ej Tryz.func266 rfl (Nz rfl) (Yi (by show Bc (-a);unfold Bc;omega) (Xi _ (Yi (cV x (-a)) (Yi (by show Bc (-b);unfold Bc;omega) (Xi _ (Yi (cV x (-b)) (Yi hc (Yi Wk ?_))))))));exact .refl _
theorem pG(x a b c:Int)(ha:0<=a/\a<=64)(hb:0<=b/\b<=64)(hc:0<=c)(hd:c<=64):PC 200 [.v (.int .u32 x),vi a,vi b,vi c] (.v (.int .u32 (vW x a b c))):=by
 refine Ps Ej Tryz.func200 rfl (Nz rfl) (Yi (by show Bc (-a);unfold Bc;omega) (Xi .pure (Xi _ (Yi (cV x (-a)) (Yi (by show Bc (-b);unfold Bc;omega) (Xi .pure (Xi _ (Yi (cV x (-b)) (Yi (by show Bc (-c);unfold Bc;omega) (Xi .pure (Xi _ (Yi (cV x (-c)) ?_))))))))))));exact .refl _
set_option maxRecDepth 100000 in
theorem sH  : PC 203 [] (.agg (kK.map E0)):=by
 refine Ps Ej Tryz.func203 rfl (Nz rfl) (yN (yN ?_));exact .refl _
theorem AaS(s:ByteArray)(hs:s.size=64):PC 202 [vs s] (.agg ((Gv s 64).map E0)):=by
 refine Ps Ej Tryz.func202 rfl (Nz rfl) (Xi {q:Nat // q<=64} (Xi (fun q=>⟨[(0,vs s),(2,.ref 2 0),(3,.ref 3 0),(4,.v (.func (.func 266) #[] #[])),(7,vi q.1)],[(2,.cells (List.replicate 64 (E0 0))),(3,.cells ((Gv s q.1).map E0++List.replicate (64-q.1) (E0 0)))],Ag⟩) (Xi (fun q=>64-q.1) (Yi (Xi ⟨0,AB _⟩ ?_) ?_))))
 .exact⟨Z5,⟨Zr,⟨rfl,(vO _ _ _)⟩,Tv⟩,Fh,Tv⟩
 intro⟨i,i1⟩;have i1:i<=64:=i1;refine Yi (fun h1=>?_) (fun h1=>?_)
 .have h1:(i:Int)<(64:Int):=h1;refine Yi (fun h2=>?_) (fun h2=>?_)
  .have h2:(i:Int)<(16:Int):=h2;refine Xi {q:Nat // q<=4} (Xi (fun q=>⟨[(0,vs s),(2,.ref 2 0),(3,.ref 3 0),(4,.v (.func (.func 266) #[] #[])),(5,vi i),(7,vi i),(12,vi q.1)],[(2,.cells (List.replicate 64 (E0 0))),(3,.cells ((Gv s i).map E0++E0 (Tr s i q.1)::List.replicate (64-(i+1)) (E0 0)))],Ag⟩) (Xi (fun q=>4-q.1) (Yi (Xi ⟨0,AB _⟩ ?_) ?_)))
   .exact⟨Z7,⟨Zr,⟨(Aa (fun z=>HO.cells ((Gv s i).map E0++z)) (ii (show i<64 by omega))),(zJ _ _ _ _)⟩,Tv⟩,Fh,Tv⟩
   intro⟨k,k1⟩;have k1:k<=4:=k1;refine Yi (fun h3=>?_) (fun h3=>?_)
   .have h3:(k:Int)<(4:Int):=h3;refine Yi (show(0:Int)<=i/\(i:Int)<(64:Nat)from by omega) (HM (Qf (uk (VV s i)) (show(0+(i:Int).toNat*1)=i by omega)) (Yi Cl (Yi (by show Bc ((4:Int)*(i:Int));unfold Bc;omega) (Yi (by show Bc ((4*i:Int)+(k:Int));unfold Bc;omega) (Xi (OX s (4*i+k)) (Yi (fY (z:=(4*i)+k) (show 4*i+k<s.size by omega) ch) (Yi (show(0:Int)<=i/\(i:Int)<(64:Nat)from by omega) (Yi (show(0+(i:Int).toNat*1)+1<=(((Gv s i).map E0++E0 (Tr s i k)::List.replicate (64-(i+1)) (E0 0))).length from by rw[Ac,VV];simp only[Al,B3];omega) ?_))))))));refine Yi Wk (Yi (Ii k ch) (Xi ⟨k+1,by omega⟩ ?_));exact⟨Dl 4 k ch,Z7,⟨Zr,⟨(show HO.cells (over ((Gv s i).map E0++E0 (Tr s i k)::List.replicate (64-(i+1)) (E0 0)) (0+(i:Int).toNat*1) [.v (.int .u32 (JV .or .u32 (GK .shl .u32 (Tr s i k) 8) (IntKind.wrap .u32 ((OX s (4*i+k)).toNat:Int))))])=.cells ((Gv s i).map E0++E0 (Tr s i (k+1))::List.replicate (64-(i+1)) (E0 0))from Aa HO.cells (QV (by rw[VV];omega))),(zJ _ _ _ _)⟩,Tv⟩,Fh,Tv⟩
   have h3:¬((k:Int)<(4:Int)):=h3;refine Yi (Ii i ch) (Xi ⟨i+1,by omega⟩ ?_);exact⟨Dl 64 i ch,Z5,⟨Zr,⟨(Aa HO.cells (cE (show Tr s i k=bW s (Gv s i) i by rw[bW,Ap ch,show k=4 by omega]))),(vO _ _ _)⟩,Tv⟩,Fh,Tv⟩
  have h2:¬((i:Int)<(16:Int)):=h2;refine Yi (by show Bc ((i:Int)-(2:Int));unfold Bc;omega) (Yi (show(0:Int)<=i-2/\(i-2:Int)<(64:Nat)from by omega) (HM (Qf (Zq (show i-2<(Gv s i).length by rw[KO];omega)) (show(0+(i-2:Int).toNat*1)=i-2 by omega)) (Xi _ (Yi (pH (Z0 (Gv s i) (i-2)) 17 19 10 Cl Cl Cl) (Yi (by show Bc ((i:Int)-(7:Int));unfold Bc;omega) (Yi (show(0:Int)<=i-7/\(i-7:Int)<(64:Nat)from by omega) (HM (Qf (Zq (show i-7<(Gv s i).length by rw[KO];omega)) (show(0+(i-7:Int).toNat*1)=i-7 by omega)) (Yi (by show Bc ((i:Int)-(15:Int));unfold Bc;omega) (Yi (show(0:Int)<=i-15/\(i-15:Int)<(64:Nat)from by omega) (HM (Qf (Zq (show i-15<(Gv s i).length by rw[KO];omega)) (show(0+(i-15:Int).toNat*1)=i-15 by omega)) (Xi _ (Yi (pH (Z0 (Gv s i) (i-15)) 7 18 3 Cl Cl Cl) (Yi (by show Bc ((i:Int)-(16:Int));unfold Bc;omega) (Yi (show(0:Int)<=i-16/\(i-16:Int)<(64:Nat)from by omega) (HM (Qf (Zq (show i-16<(Gv s i).length by rw[KO];omega)) (show(0+(i-16:Int).toNat*1)=i-16 by omega)) (Yi (show(0:Int)<=i/\(i:Int)<(64:Nat)from by omega) (Yi (show(0+(i:Int).toNat*1)+1<=(((Gv s i).map E0++List.replicate (64-i) (E0 0))).length from by rw[Ac,VV];simp only[B3];omega) ?_)))))))))))))))));refine Yi Wk (Yi (Ii i ch) (Xi ⟨i+1,by omega⟩ ?_));exact⟨Dl 64 i ch,Z5,⟨Zr,⟨(show HO.cells (over ((Gv s i).map E0++List.replicate (64-i) (E0 0)) (0+(i:Int).toNat*1) [.v (.int .u32 (IntKind.wrap .u32 ((IntKind.wrap .u32 ((IntKind.wrap .u32 ((nQ (Z0 (Gv s i) (i-2)) 17 19 10)+(Z0 (Gv s i) (i-7))))+(nQ (Z0 (Gv s i) (i-15)) 7 18 3)))+(Z0 (Gv s i) (i-16)))))])=.cells ((Gv s (i+1)).map E0++List.replicate (64-(i+1)) (E0 0))from Aa HO.cells (by rw[ii (show i<64 by omega),QV (by rw[VV];omega)];exact cE (by rw[bW,Aj ch];rfl))),(vO _ _ _)⟩,Tv⟩,Fh,Tv⟩
 have h1:¬((i:Int)<(64:Int)):=h1;refine Yi (show 64<=((Gv s i).map E0++List.replicate (64-i) (E0 0)).length by rw[Ac,VV,B3];omega) ?_
 conv=>whnf
 refine mc (show Nat.beq (((Gv s i).map E0++List.replicate (64-i) (E0 0)).take 64).length 64=true from by rw[show(((Gv s i).map E0++List.replicate (64-i) (E0 0)).take 64).length=64 by rw[Ax,Ac,VV,B3];omega];rfl) ?_;refine Yi (show 0+(((Gv s i).map E0++List.replicate (64-i) (E0 0)).take 64).length<=64 from by rw[Ax];omega) ?_;refine Yi (show 64<=(over (List.replicate 64 (E0 0)) 0 (((Gv s i).map E0++List.replicate (64-i) (E0 0)).take 64)).length by rw[NJ (by rw[Ax,Ac,VV,B3,B3];omega),Ax,Ac,VV,B3];omega) ?_;exact Af2 (show(over (List.replicate 64 (E0 0)) 0 (((Gv s i).map E0++List.replicate (64-i) (E0 0)).take 64)).take 64=(Gv s 64).map E0 from by rw[show i=64 by omega,NJ (by rw[Ax,Ac,VV];rfl),PM,Nat.min_self,FZ (VV s 64)])
theorem wL(x:HS)(s:ByteArray)(W Kk:List Int)(r8:S8)(hW:W.length=64)(hK:Kk.length=64)(hr:VS W Kk x.v 64=r8)(hc:PC 202 [vs s] (.agg (W.map E0)))(hk:PC 203 [] (.agg (Kk.map E0))):A9 Tryz.prog 148 [.ref 1000 0,vs s] (As [(1000,.cells (GN x))] Ag) fun r h'=>r=.tup []/\h'=As [(1000,.cells (GN ⟨xU x.v r8,x.rest,x.tot⟩))] Ag:=by
 refine Cz (No (pC [] [2,11])) [(1000,1000)] rfl C3 hm rfl Tryz.func148 Wk rfl (Nz rfl) Wk rfl (Xi .pure (Xi _ (Yi hc (Xi .pure (Xi _ (Yi hk ?_))))))
 conv=>whnf
 refine mc (show Nat.beq (W.map E0).length 64=true from by rw[Lm,hW];rfl) (Yi (show 0+(W.map E0).length<=64 from by rw[Lm];omega) ?_)
 conv=>whnf
 refine mc (show Nat.beq (Kk.map E0).length 64=true from by rw[Lm,hK];rfl) (Yi (show 0+(Kk.map E0).length<=64 from by rw[Lm];omega) (cU [(0,.ref 1000 0),(4,.v (.func (.func 200) #[] #[])),(5,.ref 5 0),(6,.ref 6 0)] [(5,.cells (W.map E0)),(6,.cells (Kk.map E0)),(1000,.cells (GN x))] Z4 ⟨⟨(Aa HO.cells (NJ (show 64=(W.map E0).length by rw[Lm,hW]))),(eh _ _)⟩,⟨(Aa HO.cells (NJ (show 64=(Kk.map E0).length by rw[Lm,hK]))),(eh _ _)⟩,Zr,Tv⟩ ?_))
 refine yN (yN (Xi {q:Nat // q<=64} (Xi (fun q=>⟨[(0,.ref 1000 0),(4,.v (.func (.func 200) #[] #[])),(5,.ref 5 0),(6,.ref 6 0),(7,.ref 7 0),(26,vi q.1)],[(5,.cells (W.map E0)),(6,.cells (Kk.map E0)),(7,.cells (aL (VS W Kk x.v q.1))),(1000,.cells (GN x))],Ag⟩) (Xi (fun q=>64-q.1) (Yi (Xi ⟨0,AB _⟩ ?_) ?_)))))
 .exact⟨Z6,⟨⟨rfl,(eh _ _)⟩,⟨rfl,(eh _ _)⟩,Zr,Zr,Tv⟩,Fh,BV Wk⟩
 intro⟨i,i1⟩;have i1:i<=64:=i1;refine Yi (fun h1=>?_) (fun h1=>?_)
 .have h1:(i:Int)<(64:Int):=h1;refine Yi ⟨by decide,by decide⟩ ?_;refine Yi ⟨by decide,by decide⟩ ?_;refine Yi ⟨by decide,by decide⟩ ?_;refine Yi ⟨by decide,by decide⟩ ?_;refine Yi ⟨by decide,by decide⟩ ?_;refine Yi ⟨by decide,by decide⟩ ?_;refine Yi Wk (Yi ⟨by decide,by decide⟩ ?_);refine Xi _ (Yi (pG (VS W Kk x.v i).e 6 11 25 Cl Cl Cl Cl) (Yi (show(0:Int)<=i/\(i:Int)<(64:Nat)from by omega) (HM (Qf (Zs (show i<Kk.length by omega)) (show(0+(i:Int).toNat*1)=i by omega)) (Yi (show(0:Int)<=i/\(i:Int)<(64:Nat)from by omega) (HM (Qf (Zs (show i<W.length by omega)) (show(0+(i:Int).toNat*1)=i by omega)) (Yi Wk (Xi .pure (Xi _ (Yi (pG (VS W Kk x.v i).a 2 13 22 Cl Cl Cl Cl) (Yi ⟨by decide,by decide⟩ ?_))))))))));refine yN (Yi (Ii i ch) (Xi ⟨i+1,by omega⟩ ?_));exact⟨Dl 64 i ch,Z6,⟨⟨rfl,(eh _ _)⟩,⟨rfl,(eh _ _)⟩,Zr,Zr,Tv⟩,Fh,BV Wk⟩
 have h1:¬((i:Int)<(64:Int)):=h1;refine cU [(0,.ref 1000 0),(7,.ref 7 0)] [(7,.cells (aL r8)),(1000,.cells (GN x))] Z2 ⟨⟨(Aa (fun z=>HO.cells (aL z)) (show VS W Kk x.v i=r8 by rw[show i=64 by omega,hr])),rfl⟩,Zr,Tv⟩ (yN (Xi {q:Nat // q<=8} (Xi (fun q=>⟨[(0,.ref 1000 0),(94,.agg [.v (.int .u32 r8.a),.v (.int .u32 r8.b),.v (.int .u32 r8.c),.v (.int .u32 r8.d),.v (.int .u32 r8.e),.v (.int .u32 r8.f),.v (.int .u32 r8.g),.v (.int .u32 r8.h)]),(95,vi q.1)],[(1000,.cells (Tc x.v r8 q.1 [vs x.rest,.v (.int .u64 x.tot)]))],Ag⟩) (Xi (fun q=>8-q.1) (Yi (Xi ⟨0,AB _⟩ ?_) ?_)))))
 .exact⟨Z3,Z1,Fh,BV Wk⟩
 intro⟨j,j1⟩;have j1:j<=8:=j1;refine Yi (fun h3=>?_) (fun h3=>?_)
 .have h3:(j:Int)<(8:Int):=h3;refine Yi (show(0:Int)<=j/\(j:Int)<(8:Nat)from by omega) (HM (sY (v:=r8) (show j<8 by omega) (show((j:Int).toNat*1)=j by omega)) (Yi (show(0:Int)<=j/\(j:Int)<(8:Nat)from by omega) (HM (mu (show j<8 by omega) (show(0+(j:Int).toNat*1)=j by omega)) (Yi (show(0:Int)<=j/\(j:Int)<(8:Nat)from by omega) (Yi (show(0+(j:Int).toNat*1)+1<=((Tc x.v r8 j [vs x.rest,.v (.int .u64 x.tot)])).length from by show(0+(j:Int).toNat*1)+1<=10;omega) ?_)))));refine Yi Wk (Yi (Ii j ch) (Xi ⟨j+1,by omega⟩ ?_));exact⟨Dl 8 j ch,Z3,⟨⟨(show HO.cells (over (Tc x.v r8 j [vs x.rest,.v (.int .u64 x.tot)]) (0+(j:Int).toNat*1) [.v (.int .u32 (IntKind.wrap .u32 ((S8.n x.v j)+(S8.n r8 j))))])=.cells (Tc x.v r8 (j+1) [vs x.rest,.v (.int .u64 x.tot)])from Aa HO.cells (oz (show j<8 by omega) ch)),rfl⟩,Tv⟩,Fh,BV Wk⟩
 have h3:¬((j:Int)<(8:Int)):=h3;have e8:j=8:=by omega
 subst e8;exact Xi _ (Yi (.refl _) Zr)
theorem AaD(x:HS)(s:ByteArray)(hs:s.size=64):A9 Tryz.prog 148 [.ref 1000 0,vs s] (As [(1000,.cells (GN x))] Ag) fun r h'=>r=.tup []/\h'=As [(1000,.cells (GN ⟨wz x.v s,x.rest,x.tot⟩))] Ag:=
 wL x s (Gv s 64) kK _ (KO s 64) rfl rfl (AaS s hs) sH
end Go.Eng
namespace Go.Proofs
open Go.Shelf
def Tryz.layItoa_ren:Go.Shelf.Ren:=⟨fun|171=>53|243=>93|246=>154|283=>214|284=>215|285=>216|286=>217|129=>229|317=>272|318=>273|319=>274|320=>275|337=>317|338=>318|n=>n,fun|3=>3|9=>9|2=>2|4=>4|171=>308|0=>0|53=>98|37=>164|5=>5|173=>311|212=>355|51=>229|20=>20|213=>356|46=>99|232=>414|233=>415|n=>n,fun|17=>1|18=>2|19=>3|n=>n⟩
theorem Tryz.layItoa:Go.Proofs.LaysM.n171 Tryz.prog Tryz.layItoa_ren:={
 mixed:=by kernel_rfl
 f129:=Tryz.func229.trans (congrArg some Go.Eng.Wk)
 f171:=Tryz.func53.trans (congrArg some Go.Eng.Wk)
 f243:=Tryz.func93.trans (congrArg some Go.Eng.Wk)
 f246:=Tryz.func154.trans (congrArg some Go.Eng.Wk)
 f283:=Tryz.func214.trans (congrArg some Go.Eng.Wk)
 f284:=Tryz.func215.trans (congrArg some Go.Eng.Wk)
 f285:=Tryz.func216.trans (congrArg some Go.Eng.Wk)
 f286:=Tryz.func217.trans (congrArg some Go.Eng.Wk)
 f317:=Tryz.func272.trans (congrArg some Go.Eng.Wk)
 f318:=Tryz.func273.trans (congrArg some Go.Eng.Wk)
 f319:=Tryz.func274.trans (congrArg some Go.Eng.Wk)
 f320:=Tryz.func275.trans (congrArg some Go.Eng.Wk)
 f337:=Tryz.func317.trans (congrArg some Go.Eng.Wk)
 f338:=Tryz.func318.trans (congrArg some Go.Eng.Wk)
 t0:=Tryz.underlying0
 a0:=Tryz.isAgg0
 z0:=Tryz.sizeOf0
 v0:=Tryz.zeroValue0
 t2:=Tryz.underlying2
 a2:=Tryz.isAgg2
 z2:=Tryz.sizeOf2
 v2:=Tryz.zeroValue2
 t3:=Tryz.underlying3
 a3:=Tryz.isAgg3
 z3:=Tryz.sizeOf3
 v3:=Tryz.zeroValue3
 t4:=Tryz.underlying4
 a4:=Tryz.isAgg4
 z4:=Tryz.sizeOf4
 v4:=Tryz.zeroValue4
 t5:=Tryz.underlying5
 a5:=Tryz.isAgg5
 z5:=Tryz.sizeOf5
 v5:=Tryz.zeroValue5
 t9:=Tryz.underlying9
 a9:=Tryz.isAgg9
 z9:=Tryz.sizeOf9
 v9:=Tryz.zeroValue9
 t20:=Tryz.underlying20
 a20:=Tryz.isAgg20
 z20:=Tryz.sizeOf20
 v20:=Tryz.zeroValue20
 t37:=Tryz.underlying164
 a37:=Tryz.isAgg164
 z37:=Tryz.sizeOf164
 v37:=Tryz.zeroValue164
 t46:=Tryz.underlying99
 a46:=Tryz.isAgg99
 z46:=Tryz.sizeOf99
 v46:=Tryz.zeroValue99
 t51:=Tryz.underlying229
 a51:=Tryz.isAgg229
 z51:=Tryz.sizeOf229
 v51:=Tryz.zeroValue229
 t53:=Tryz.underlying98
 a53:=Tryz.isAgg98
 z53:=Tryz.sizeOf98
 v53:=Tryz.zeroValue98
 t171:=Tryz.underlying308
 a171:=Tryz.isAgg308
 z171:=Tryz.sizeOf308
 v171:=Tryz.zeroValue308
 t173:=Tryz.underlying311
 a173:=Tryz.isAgg311
 z173:=Tryz.sizeOf311
 v173:=Tryz.zeroValue311
 t212:=Tryz.underlying355
 a212:=Tryz.isAgg355
 z212:=Tryz.sizeOf355
 v212:=Tryz.zeroValue355
 t213:=Tryz.underlying356
 a213:=Tryz.isAgg356
 z213:=Tryz.sizeOf356
 t232:=Tryz.underlying414
 a232:=Tryz.isAgg414
 z232:=Tryz.sizeOf414
 v232:=Tryz.zeroValue414
 t233:=Tryz.underlying415
 a233:=Tryz.isAgg415
 z233:=Tryz.sizeOf415
 v233:=Tryz.zeroValue415
 g17:=by kernel_rfl
 g18:=by kernel_rfl
 g19:=by kernel_rfl
 i0:=by kernel_rfl
 i2:=by kernel_rfl
 i3:=by kernel_rfl
 i4:=by kernel_rfl
 i5:=by kernel_rfl
 i9:=by kernel_rfl
 i20:=by kernel_rfl
 i37:=by kernel_rfl
 i46:=by kernel_rfl
 i51:=by kernel_rfl
 i53:=by kernel_rfl
 i171:=by kernel_rfl
 i173:=by kernel_rfl
 i212:=by kernel_rfl
 i232:=by kernel_rfl
 i233:=by kernel_rfl
 m17:=by kernel_rfl
 m18:=by kernel_rfl
 m19:=by kernel_rfl }
def Tryz.layRepeat_ren:Go.Shelf.Ren:=⟨fun|105=>151|212=>205|99=>206|165=>207|166=>208|170=>209|169=>210|263=>267|264=>268|206=>269|240=>270|241=>271|276=>315|277=>316|n=>n,fun|9=>9|3=>3|4=>4|20=>20|0=>0|46=>99|109=>295|5=>5|72=>299|76=>303|51=>229|146=>349|53=>98|148=>351|70=>297|37=>164|75=>302|127=>348|164=>386|80=>162|n=>n,fun|n=>n⟩
theorem Tryz.layRepeat:Go.Proofs.Lays.n105 Tryz.prog Tryz.layRepeat_ren:={
 mixed:=by kernel_rfl
 f99:=Tryz.func206.trans (congrArg some Go.Eng.Wk)
 f105:=Tryz.func151.trans (congrArg some Go.Eng.Wk)
 f165:=Tryz.func207.trans (congrArg some Go.Eng.Wk)
 f166:=Tryz.func208.trans (congrArg some Go.Eng.Wk)
 f169:=Tryz.func210.trans (congrArg some Go.Eng.Wk)
 f170:=Tryz.func209.trans (congrArg some Go.Eng.Wk)
 f206:=Tryz.func269.trans (congrArg some Go.Eng.Wk)
 f212:=Tryz.func205.trans (congrArg some Go.Eng.Wk)
 f240:=Tryz.func270.trans (congrArg some Go.Eng.Wk)
 f241:=Tryz.func271.trans (congrArg some Go.Eng.Wk)
 f263:=Tryz.func267.trans (congrArg some Go.Eng.Wk)
 f264:=Tryz.func268.trans (congrArg some Go.Eng.Wk)
 f276:=Tryz.func315.trans (congrArg some Go.Eng.Wk)
 f277:=Tryz.func316.trans (congrArg some Go.Eng.Wk)
 t0:=Tryz.underlying0
 a0:=Tryz.isAgg0
 z0:=Tryz.sizeOf0
 v0:=Tryz.zeroValue0
 t3:=Tryz.underlying3
 a3:=Tryz.isAgg3
 z3:=Tryz.sizeOf3
 v3:=Tryz.zeroValue3
 t4:=Tryz.underlying4
 a4:=Tryz.isAgg4
 z4:=Tryz.sizeOf4
 v4:=Tryz.zeroValue4
 t5:=Tryz.underlying5
 a5:=Tryz.isAgg5
 z5:=Tryz.sizeOf5
 v5:=Tryz.zeroValue5
 t9:=Tryz.underlying9
 a9:=Tryz.isAgg9
 z9:=Tryz.sizeOf9
 v9:=Tryz.zeroValue9
 t20:=Tryz.underlying20
 a20:=Tryz.isAgg20
 z20:=Tryz.sizeOf20
 v20:=Tryz.zeroValue20
 t37:=Tryz.underlying164
 a37:=Tryz.isAgg164
 z37:=Tryz.sizeOf164
 v37:=Tryz.zeroValue164
 t46:=Tryz.underlying99
 a46:=Tryz.isAgg99
 z46:=Tryz.sizeOf99
 v46:=Tryz.zeroValue99
 t51:=Tryz.underlying229
 a51:=Tryz.isAgg229
 z51:=Tryz.sizeOf229
 v51:=Tryz.zeroValue229
 t53:=Tryz.underlying98
 a53:=Tryz.isAgg98
 z53:=Tryz.sizeOf98
 v53:=Tryz.zeroValue98
 t70:=Tryz.underlying297
 a70:=Tryz.isAgg297
 z70:=Tryz.sizeOf297
 v70:=Tryz.zeroValue297
 t72:=Tryz.underlying299
 a72:=Tryz.isAgg299
 z72:=Tryz.sizeOf299
 v72:=Tryz.zeroValue299
 t75:=Tryz.underlying302
 a75:=Tryz.isAgg302
 z75:=Tryz.sizeOf302
 v75:=Tryz.zeroValue302
 t76:=Tryz.underlying303
 a76:=Tryz.isAgg303
 z76:=Tryz.sizeOf303
 v76:=Tryz.zeroValue303
 t109:=Tryz.underlying295
 a109:=Tryz.isAgg295
 z109:=Tryz.sizeOf295
 v109:=Tryz.zeroValue295
 t127:=Tryz.underlying348
 a127:=Tryz.isAgg348
 z127:=Tryz.sizeOf348
 v127:=Tryz.zeroValue348
 t146:=Tryz.underlying349
 a146:=Tryz.isAgg349
 z146:=Tryz.sizeOf349
 v146:=Tryz.zeroValue349
 t148:=Tryz.underlying351
 a148:=Tryz.isAgg351
 z148:=Tryz.sizeOf351
 v148:=Tryz.zeroValue351
 t164:=Tryz.underlying386
 a164:=Tryz.isAgg386
 z164:=Tryz.sizeOf386
 v164:=Tryz.zeroValue386 }
def Tryz.layClone_ren:Go.Shelf.Ren:=⟨fun|25=>204|n=>n,fun|9=>9|3=>3|4=>4|37=>164|0=>0|47=>348|5=>5|n=>n,fun|n=>n⟩
theorem Tryz.layClone:Go.Proofs.LaysPu.n25 Tryz.prog Tryz.layClone_ren:={
 mixed:=by kernel_rfl
 f25:=Tryz.func204.trans (congrArg some Go.Eng.Wk)
 t0:=Tryz.underlying0
 a0:=Tryz.isAgg0
 z0:=Tryz.sizeOf0
 v0:=Tryz.zeroValue0
 i0:=by kernel_rfl
 t3:=Tryz.underlying3
 a3:=Tryz.isAgg3
 z3:=Tryz.sizeOf3
 v3:=Tryz.zeroValue3
 i3:=by kernel_rfl
 t4:=Tryz.underlying4
 a4:=Tryz.isAgg4
 z4:=Tryz.sizeOf4
 v4:=Tryz.zeroValue4
 i4:=by kernel_rfl
 t5:=Tryz.underlying5
 a5:=Tryz.isAgg5
 z5:=Tryz.sizeOf5
 v5:=Tryz.zeroValue5
 i5:=by kernel_rfl
 t9:=Tryz.underlying9
 a9:=Tryz.isAgg9
 z9:=Tryz.sizeOf9
 v9:=Tryz.zeroValue9
 i9:=by kernel_rfl
 t37:=Tryz.underlying164
 a37:=Tryz.isAgg164
 z37:=Tryz.sizeOf164
 v37:=Tryz.zeroValue164
 i37:=by kernel_rfl
 t47:=Tryz.underlying348
 a47:=Tryz.isAgg348
 z47:=Tryz.sizeOf348
 v47:=Tryz.zeroValue348
 i47:=by kernel_rfl }
theorem Tryz.layRepeatX:Builder.Extra Tryz.prog Tryz.layRepeat_ren:={
 sizeBuilder:=by kernel_rfl
 liesBuilder:=by kernel_rfl
 t5:=Tryz.underlying5
 a5:=Tryz.isAgg5
 z5:=Tryz.sizeOf5
 v5:=Tryz.zeroValue5
 infoByte:=by kernel_rfl
 cellsByte:=by kernel_rfl
 sizeByte:=by kernel_rfl
 neB5:=by decide }
end Go.Proofs
