/- Lemmas 22. -/
import Derived.Test.YteaiieomnhbmgaaGreatDoorAA21
import Derived.Shelf.Strconv.Itoa3
import Derived.Shelf.Strings.Repeat
import Derived.Shelf.Pu.Clone
import Derived.Ground.NamesProg
import Derived.Ground.MpProg
import Derived.Lib.RepeatB
set_option maxHeartbeats 4000000
namespace Go.Eng
open Go.Proofs
variable {Cc:List (Value×AV)}{p:ByteArray}{h:Nat->HO}{k:Value}{a:AV}(y x:List Rl)(j l:Nat)(ifs:List (List AV))
theorem Mt:∀(y:List Rl) (acc:List ByteArray) (r:Rl),AW (y++[r]) acc=if(AW y acc).any (fun p=>decide (p=r.path))then AW y acc else AW y acc++[r.path]
 | [],acc,r=>rfl
 |s::y,acc,r=>by rw[Hx,AW,AW,Mt y]
theorem Ft:∀(y:List Rl) (acc:List ByteArray),acc.Nodup->(AW y acc).Nodup
 | [],_,h=>h
 |s::y,acc,h=>by
  rw[AW];refine Ft y _ ?_;split
  .exact h
  .rename_i hn;rw[FW];refine⟨h,by simp,fun a ha b hb e=>?_⟩;rw[Ar]at hb;exact hn (PJ.2 (by rw[<-hb,<-e];exact ha))
abbrev OE(p:ByteArray):List (List AV):=(y.filter fun r=>decide (r.path=p)).map AF
abbrev mg(q:ByteArray×Nat):Value×AV:=(.string q.1,.slice (.id (q.2+50) 9) (OE y q.1))
abbrev TH:List (Value×AV):=(AW y []).zipIdx.map (mg y)
def KC:HO:=match(AW y [])[l]? with
 |some q=>.tok 9 (OE y q).length
 |none=>.free
def XA:HO:=bif Nat.ble 50 j then KC y (j-50)else .free
theorem Iy:XA y (l+50)=KC y l:=by
 unfold XA;rw[show Nat.ble 50 (l+50)=true by rw[Dt];omega,Nat.add_sub_cancel];rfl
theorem uv{j:Nat}(h:j<50):XA y j=.free:=by
 unfold XA;rw[show Nat.ble 50 j=false by rw[AM];intro hc;rw[Dt]at hc;omega];rfl
theorem Jq(r:Rl)(q:ByteArray):OE (y++[r]) q=if r.path=q then OE y q++[AF r]else OE y q:=by
 unfold OE;rw[EP]
 by_cases h:r.path=q
 .rw[Al h,T8 (by simpa using h)];simp
 .rw[Aj h,T7 (by simpa using h)];simp
theorem Jb{l:List ByteArray}{q:ByteArray×Nat}(h:q∈l.zipIdx):l[q.2]?=some q.1:=by
 obtain⟨a,b⟩:=q;exact F0.1 h
open Classical in
theorem Ns(h:∀a',(k,a')∉Cc):Fa Cc k a=Cc++[(k,a)]:=by
 unfold Fa;rw[Aj (fun⟨a',h'⟩=>h a' h')]
open Classical in
theorem bx{a':AV}(h:(k,a')∈Cc):Fa Cc k a=Cc.map fun p=>if p.1=k then(k,a)else p:=by
 unfold Fa;rw[Al ⟨a',h⟩]
section
variable {y:List Rl}{r:Rl}{k:Nat}
theorem Kb(h:(AW y [])[k]?=some r.path):AW (y++[r]) []=AW y []:=by
 rw[Mt,Al (PJ.2 (Aw h))]
theorem Ka(h:r.path∉AW y []):AW (y++[r]) []=AW y []++[r.path]:=by
 rw[Mt,Aj (fun hc=>h (PJ.1 hc))]
theorem J8{l:List ByteArray}(hd:l.Nodup){i j:Nat}(h1:l[i]?=some p)(h2:l[j]?=some p):i=j:=by
 obtain⟨a1,a2⟩:=Av.1 h1;obtain⟨b1,b2⟩:=Av.1 h2;exact(List.getElem_inj hd).1 (a2.trans b2.symm)
open Classical in
theorem qt(h:(AW y [])[k]?=some r.path):Fa (TH y) (.string r.path) (.slice (.id (k+50) 9) (OE y r.path++[AF r]))=TH (y++[r]):=by
 have hd:=Ft y [] FJ;have hm:mg y (r.path,k)∈TH y:=Ai.2 ⟨_,F0.2 h,rfl⟩;rw[bx (a':=.slice (.id (k+50) 9) (OE y r.path)) hm];unfold TH;rw[Kb h,Bs];refine Bi fun q hq=>?_;have hg:=Jb hq;obtain⟨q,j⟩:=q;show(if Value.string q=Value.string r.path then _ else _)=mg (y++[r]) (q,j)
 by_cases he:q=r.path
 .subst he
  have:j=k:=J8 hd hg h
  subst this;rw[Al rfl];show _=(Value.string r.path,AV.slice (.id (j+50) 9) (OE (y++[r]) r.path));rw[Jq,Al rfl]
 .rw[Aj (fun e=>he (by simpa using e))];show(Value.string q,AV.slice (.id (j+50) 9) (OE y q))=(Value.string q,AV.slice (.id (j+50) 9) (OE (y++[r]) q));rw[Jq,Aj (fun e=>he e.symm)]
theorem gw(h:r.path∉AW y []):OE y r.path=[]:=by
 have:y.filter (fun s=>decide (s.path=r.path))=[]:=by
  rw[Ih];intro s hs he;exact h ((G6 y [] r.path).2 (.inr ⟨s,hs,AU he⟩))
 unfold OE;rw[this];rfl
theorem aO(h:r.path∉AW y [])(a:AV):(Value.string r.path,a)∉TH y:=by
 intro hc;obtain⟨q,h1,h2⟩:=Ai.1 hc;simp only[mg,Gl,Value.string.injEq]at h2;exact h (by rw[<-h2.1];exact Aw (Jb h1))
theorem qr(h:r.path∉AW y []):Fa (TH y) (.string r.path) (.slice (.id ((AW y []).length+50) 9) [AF r])=TH (y++[r]):=by
 rw[Ns (fun a=>aO h a)];unfold TH;rw[Ka h,List.zipIdx_append,As]
 congr 1
 .refine Bi fun q hq=>?_;have hg:=Jb hq
  have:q.1≠r.path:=fun e=>h (by rw[<-e];exact Aw hg)
  show(Value.string q.1,AV.slice (.id (q.2+50) 9) (OE y q.1))=(Value.string q.1,AV.slice (.id (q.2+50) 9) (OE (y++[r]) q.1));rw[Jq,Aj (fun e=>this e.symm)]
 .show [_]=[(Value.string r.path,AV.slice (.id (0+(AW y []).length+50) 9) (OE (y++[r]) r.path))];rw[Jq,Al rfl,gw h,Bg];rfl
theorem mj{j:Nat}(h:(AW y [])[j]?=some p):(Value.string p,AV.slice (.id (j+50) 9) (OE y p))∈TH y/\∀b,(Value.string p,b)∈TH y->b=AV.slice (.id (j+50) 9) (OE y p):=by
 refine⟨Ai.2 ⟨(p,j),F0.2 h,rfl⟩,fun b hb=>?_⟩;obtain⟨q,h1,h2⟩:=Ai.1 hb;simp only[mg,Gl,Value.string.injEq]at h2;have hg:=Jb h1;rw[h2.1]at hg
 have:=J8 (Ft y [] FJ) hg h
 rw[<-h2.2,h2.1,this]
theorem oJ{j:Nat}(h:(AW y [])[j]?=some p):KC y j=.tok 9 (OE y p).length:=by
 unfold KC;rw[h]
theorem rR(h:(AW y [])[k]?=some r.path)(l:Nat):(bif Nat.beq (l+50) (k+50)then HO.tok 9 ((OE y r.path).length+1)else KC y l)=KC (y++[r]) l:=by
 by_cases he:l=k
 .subst he;rw[show Nat.beq (l+50) (l+50)=true from Dq _];unfold KC;rw[Kb h,h];show HO.tok 9 _=HO.tok 9 (OE (y++[r]) r.path).length;rw[Jq,Al rfl,Ac];rfl
 .rw[show Nat.beq (l+50) (k+50)=false by rw[AM];intro hc;have:=AL hc;omega];show KC y l=_;unfold KC;rw[Kb h];cases hq:(AW y [])[l]? with
  |none=>rfl
  |some q=>
   show HO.tok 9 (OE y q).length=HO.tok 9 (OE (y++[r]) q).length;rw[Jq,Aj];intro e;subst e;exact he (J8 (Ft y [] FJ) hq h)
theorem rQ(h:r.path∉AW y [])(l:Nat):(bif Nat.beq (l+50) ((AW y []).length+50)then HO.tok 9 1 else KC y l)=KC (y++[r]) l:=by
 by_cases he:l=(AW y []).length
 .subst he;rw[show Nat.beq ((AW y []).length+50) ((AW y []).length+50)=true from Dq _];unfold KC;rw[Ka h];simp only[A0 (Ak _),Ff,Bf];show HO.tok 9 1=HO.tok 9 (OE (y++[r]) r.path).length;rw[Jq,Al rfl,gw h];rfl
 .rw[show Nat.beq (l+50) ((AW y []).length+50)=false by rw[AM];intro hc;have:=AL hc;omega];show KC y l=_;unfold KC;rw[Ka h]
  by_cases hl:l<(AW y []).length
  .rw[AZ hl,Ge hl];show HO.tok 9 (OE y (AW y [])[l]).length=HO.tok 9 (OE (y++[r]) (AW y [])[l]).length;rw[Jq,Aj];intro e;exact h (by rw[e];exact Aq hl)
  .rw[A7 ch,A7 (by rw[Ac];simp;omega)]
end
theorem RG{h:Nat->HO}:∀{Cc:List (Value×AV)},(∀p∈Cc,WH h p.2=true)->SO h Cc=true
 | [],_=>rfl
 |p::r,hk=>by
  unfold SO;rw[hk p (Ab ..)];exact RG (fun q hq=>hk q (Ah _ hq))
theorem Mk(hh:∀l,h (l+50)=KC y l):SO h (TH y)=true:=by
 refine RG fun p hp=>?_;obtain⟨q,h1,rfl⟩:=Ai.1 hp;show Tw h (q.2+50)=true;unfold Tw;rw[hh,oJ (Jb h1)]
theorem Kl{y:List Rl}{h':Nat->HO}(hh:∀l,h (l+50)=KC y l)(j:Nat):XA y j=.free\/(h j=XA y j/\Tx h' (XA y j)=true):=by
 by_cases hj:j<50
 .exact .inl (uv y hj)
 .obtain⟨l,rfl⟩:∃l,j=l+50:=⟨j-50,by omega⟩
  right
  rw[Iy];refine⟨hh l,?_⟩;unfold KC;cases (AW y [])[l]?<;>rfl
theorem rD{x:List Rl}(hx:A5 x=0){i:Nat}(hi:i<x.length):Fa ((x.take i).map Wm) (SV (Gu x[i])) (.agg (AF x[i]))=(x.take (i+1)).map Wm:=by
 rw[Ns]
 .rw[Bj,Ge hi,As];rfl
 intro a ha;obtain⟨r,hr,he,_⟩:=fW ha;obtain⟨j,hj,e2⟩:=Ck.1 hr;rw[Au]at hj;rw[GU]at e2;have hp:=(CA hx).2
 have:=(AY.1 hp) j i ch hi ch
 rw[e2]at this;exact HU this he
abbrev zu:Tn:=⟨[],[],[],[],[8,9],[9],[40],[],[],[],[8,9,10,11]⟩
abbrev zT:List AV:=[.v (.map none),.v (.map none)]
theorem qc(kJ:PC 86 [MU x ifs] (vi (A5 x)))(h0:A5 x≠0):kE x ifs:=by
 have ht:WO x=.tup [.agg [.cmap ZJ [],.cmap Cq []],vi (A5 x)]:=by unfold WO;rw[Aj h0]
 unfold kE;rw[ht];refine Ps zu Tryz.func82 rfl (Nz rfl) (Xi 0 (Xi 0 (yN (Xi 0 (yN (Xi .pure (Xi _ (Yi (kJ) (Xi 0 (Yi ?_ ?_))))))))))
 .intro _;refine Xi 0 (yN (yN (yN ?_)));exact .refl _
 .intro h;exact absurd h (fun hc=>hc h0)
theorem Ie:∀(y:List Rl) (acc:List ByteArray),(AW y acc).length<=acc.length+y.length
 | [],acc=>by simp[AW]
 |r::y,acc=>by
  rw[AW];refine AI (Ie y _) ?_;split
  .simp only[Ag];omega
  .simp only[Ac,Ag,Ao];omega
section
attribute [local irreducible] I6
theorem uf(kJ:PC 86 [MU x ifs] (vi (A5 x)))(h0:A5 x=0)(CQ:x.length<=256):kE x ifs:=by
 have ht:WO x=.tup [.agg [.cmap ZJ (x.map Wm),.cmap Cq ((AW x []).map (qQ x))],vi 0]:=by unfold WO;rw[Al h0]
 unfold kE;rw[ht];rw[h0]at kJ;refine Ps zu Tryz.func82 rfl (Nz rfl) (Xi 0 (Xi 0 (yN (Xi 0 (yN (Xi .pure (Xi _ (Yi (kJ) (Xi 0 (Yi ?_ ?_))))))))))
 .intro hc;exact absurd (show(0:Int)≠0 from hc) Cl
 intro _;refine Xi 0 (Xi {i:Nat // i<=x.length} (Xi (fun i=>⟨[(2,.ref 2 0),(4,.ref 4 0),(18,sl AF x),(19,vi (x.map AF).length),(20,vi i.1)],[(2,.cells zT),(4,.cells [.mref 8,.mref 9]),(8,.map ZJ ((x.take i.1).map Wm)),(9,.mapU Cq (TH (x.take i.1)))],XA (x.take i.1)⟩) (Xi (fun i=>x.length-i.1) (Yi (Xi ⟨0,Ax _⟩ ?_) ?_))))
 .refine⟨Z5,Z4,fun j=>.inl ?_,Tv⟩;show XA [] j=.free;unfold XA;cases Nat.ble 50 j<;>rfl
 intro⟨i,i1⟩;refine Xi 0 (Yi ?_ ?_)
 .intro h;have h:i<x.length:=by simpa using h
  have hg:x[i]?=some x[i]:=Ge h;have LK:x.take (i+1)=x.take i++[x[i]]:=by rw[Bj,hg];rfl
  refine Xi 0 (Xi (AF x[i]) (Yi (Yi (Nn i) (by simp[hg])) (Yi rfl ?_)));refine Yi (Nz rfl) (yN (Xi ⟨[(2,.ref 2 0),(4,.ref 4 0),(7,.ref 7 0),(18,sl AF x),(19,vi (x.map AF).length),(20,vi i)],[(2,.cells zT),(4,.cells [.mref 8,.mref 9]),(7,.cells (AF x[i])),(8,.map ZJ ((x.take i).map Wm)),(9,.mapU Cq (TH (x.take i)))],XA (x.take i)⟩ (Yi ?_ ?_)))
  .exact⟨Z6,⟨Zr,Zr,Zr,Zr,⟨rfl,Mk _ (Iy _)⟩,Tv⟩,Kl (Iy _),Tv⟩
  refine Xi 0 (yN (Xi _ (Yi (tW x[i]) (yN (Yi Wk ?_)))));have e8:Fa ((x.take i).map Wm) (SV (Gu x[i])) (.agg (AF x[i]))=(x.take (i+1)).map Wm:=rD h0 h;refine Xi ⟨[(2,.ref 2 0),(4,.ref 4 0),(7,.ref 7 0),(18,sl AF x),(19,vi (x.map AF).length),(20,vi i)],[(2,.cells zT),(4,.cells [.mref 8,.mref 9]),(7,.cells (AF x[i])),(8,.map ZJ ((x.take (i+1)).map Wm)),(9,.mapU Cq (TH (x.take i)))],XA (x.take i)⟩ (Yi ?_ ?_)
  .exact⟨Z6,⟨Zr,Zr,Zr,⟨Aa (HO.map ZJ) e8,rfl⟩,⟨rfl,Mk _ (Iy _)⟩,Tv⟩,Kl (Iy _),Tv⟩
  have hL:((x.take i).filter (fun r=>decide (r.path=x[i].path))).length<=256:=by
   have:=Bw (fun r:Rl=>decide (r.path=x[i].path)) (x.take i)
   rw[Au]at this;omega
  have hP:∀l,XA (x.take i) (l+50)=KC (x.take i) l:=Iy _;refine Cf (Classical.em (x[i].path∈AW (x.take i) [])) (fun hp=>?_) (fun hp=>?_)
  .refine CT (Cp.1 hp) (fun k hk=>?_);have hu:=mj hk;refine Xi 0 ?_;refine Or.inl (Xi (.slice (.id (k+50) 9) (OE (x.take i) x[i].path)) (Yi hu ?_));refine yN ?_;have hr:XA (x.take i) (k+50)=.tok 9 (OE (x.take i) x[i].path).length:=by rw[hP,oJ hk]
   have hl:(OE (x.take i) x[i].path).length<=256:=by rw[Lm];exact hL
   refine Sz (e:=78) (m:=8) (es2:=[AF x[i]]) rfl rfl rfl (fun _ h=>h) hr ⟨rfl,trivial⟩ (by show(_+1)*120<=_;omega) (by show _+1<=_;omega) ?_;have yC:k<256:=by
    have:=(Av.1 hk).1
    have:=Ie (x.take i) []
    rw[Au]at this;simp only[Ao]at this;omega
   have uK:=hk;refine Yi (JU ⟨A3 _,A3 _,A3 _,A3 _,A3 _,A3 _,A3 _,A3 _,A3 _,A3 _,EB (show 39<10000000 by decide),EB (by show _+50<10000000;omega),EB (show 9<10000000 by decide),trivial⟩ Wk) ?_;have e9:Fa (TH (x.take i)) (.string x[i].path) (.slice (.id (k+50) 9) (OE (x.take i) x[i].path++[AF x[i]]))=TH (x.take (i+1)):=by rw[LK];exact qt uK
   have hG:∀l,(bif Nat.beq (l+50) (k+50)then HO.tok 9 ((OE (x.take i) x[i].path).length+1)else KC (x.take i) l)=KC (x.take (i+1)) l:=by rw[LK];exact rR uK
   refine Xi ⟨[(2,.ref 2 0),(4,.ref 4 0),(18,sl AF x),(19,vi (x.map AF).length),(20,vi i)],[(2,.cells zT),(4,.cells [.mref 8,.mref 9]),(8,.map ZJ ((x.take (i+1)).map Wm)),(9,.mapU Cq (TH (x.take (i+1))))],XA (x.take (i+1))⟩ (Yi ?_ ?_)
   .refine⟨Z5,⟨Zr,Zr,Zr,⟨Aa (HO.mapU Cq) e9,Mk _ (Iy _)⟩,Tv⟩,Kl (fun l=>?_),Tv⟩;show(bif Nat.beq (l+50) (k+50)then HO.tok 9 ((OE (x.take i) x[i].path).length+1)else XA (x.take i) (l+50))=_;rw[hP];exact hG l
   refine Xi 0 (Yi (Ii i ch) (Xi ⟨i+1,by omega⟩ ?_));exact⟨Dl x.length i ch,Z5,⟨Zr,Zr,Zr,⟨rfl,Mk _ (Iy _)⟩,Tv⟩,Kl (Iy _),Tv⟩
  .have uK:=hp;have MK:(AW (x.take i) []).length<=256:=by
    have:=Ie (x.take i) []
    rw[Au]at this;simp only[Ao]at this;omega
   have hn:=aO hp;refine Xi ((AW (x.take i) []).length+50) ?_;refine Or.inr (Yi hn ?_);refine yN ?_;have hr:XA (x.take i) ((AW (x.take i) []).length+50)=.free:=by
    rw[hP];unfold KC;rw[A7 (Ak _)]
   refine Sy (e:=78) (m:=8) (es2:=[AF x[i]]) rfl rfl rfl (fun _ h=>h) hr rfl ⟨rfl,trivial⟩ (by show 1*120<=_;omega) (by show 1<=_;omega) (Yi (JU ⟨A3 _,A3 _,A3 _,A3 _,A3 _,A3 _,A3 _,A3 _,A3 _,A3 _,EB (show 39<10000000 by decide),EB (by show _+50<10000000;omega),EB (show 9<10000000 by decide),trivial⟩ Wk) ?_);have e9:Fa (TH (x.take i)) (.string x[i].path) (.slice (.id ((AW (x.take i) []).length+50) 9) [AF x[i]])=TH (x.take (i+1)):=by rw[LK];exact qr uK
   have hG:∀l,(bif Nat.beq (l+50) ((AW (x.take i) []).length+50)then HO.tok 9 1 else KC (x.take i) l)=KC (x.take (i+1)) l:=by rw[LK];exact rQ uK
   refine Xi ⟨[(2,.ref 2 0),(4,.ref 4 0),(18,sl AF x),(19,vi (x.map AF).length),(20,vi i)],[(2,.cells zT),(4,.cells [.mref 8,.mref 9]),(8,.map ZJ ((x.take (i+1)).map Wm)),(9,.mapU Cq (TH (x.take (i+1))))],XA (x.take (i+1))⟩ (Yi ?_ ?_)
   .refine⟨Z5,⟨Zr,Zr,Zr,⟨Aa (HO.mapU Cq) e9,Mk _ (Iy _)⟩,Tv⟩,Kl (fun l=>?_),Tv⟩;show(bif Nat.beq (l+50) ((AW (x.take i) []).length+50)then HO.tok 9 1 else XA (x.take i) (l+50))=_;rw[hP];exact hG l
   refine Xi 0 (Yi (Ii i ch) (Xi ⟨i+1,by omega⟩ ?_));exact⟨Dl x.length i ch,Z5,⟨Zr,Zr,Zr,⟨rfl,Mk _ (Iy _)⟩,Tv⟩,Kl (Iy _),Tv⟩
 .intro h;have h:¬i<x.length:=by simpa using h
  have et:x.take i=x:=At ch;refine Xi ⟨[(2,.ref 2 0),(4,.ref 4 0)],[(2,.cells zT),(4,.cells [.mref 8,.mref 9]),(8,.map ZJ ((x.take i).map Wm)),(9,.mapU Cq (TH (x.take i)))],XA (x.take i)⟩ (Yi ?_ ?_)
  .exact⟨Z2,⟨Zr,Zr,Zr,⟨rfl,Mk _ (Iy _)⟩,Tv⟩,Kl (Iy _),Tv⟩
  refine Xi 0 (yN (yN (yN ?_)));have es:∀h:Nat->HO,TB h (TH (x.take i))=(AW x []).map (qQ x):=fun h=>by
   rw[et];unfold TB TH;rw[Bs];refine Dx fun j=>?_;rw[AG,AG,List.getElem?_zipIdx];cases (AW x [])[j]?<;>rfl
  have e1:(x.take i).map Wm=x.map Wm:=by rw[et]
  exact .of_eq (show AV.tup [.agg [.cmap ZJ ((x.take i).map Wm),.cmap Cq (TB _ (TH (x.take i)))],vi 0]=_ by rw[e1,es])
end
theorem c84(hx:∀r∈x,EG r):kE x ifs:=by
 by_cases h0:A5 x=0
 .exact uf x ifs (wL Ww x ifs hx) h0 (Mn h0).1
 .exact qc x ifs (wL Ww x ifs hx) h0
abbrev plT(n:Nat):Tn:=⟨[],[(2,n)],[],[],[],[],[5],[],[],[],[2,3]⟩
theorem ue(l:List Sl)(hl:Cb l):Ba Tryz.prog 138 [sl Am l] (Ap [] Ae) fun r h'=>r=.slice (.id 2000 4) (l.map Am)/\h'=Ap [(2000,.tok 4 (l.map Am).length)] Ae:=by
 refine Cu (M7 (plT 4)) [(2,2000)] rfl Da hm rfl Tryz.func138 Wk rfl (Nz rfl) Wk rfl ?_;have HC:B5 4 (l.map Am)/\([]:List (List AV)).length=0/\(([]:List (List AV)).length+(l.map Am).length)*40<=140737488355328/\([]:List (List AV)).length+(l.map Am).length<=9223372036854775807:=by
  refine⟨Ea (enc:=Am) (n:=4) (fun _=>rfl) l,rfl,?_,?_⟩<;>simp only[Ao,Lm]<;>unfold Cb at hl<;>omega
 have e2:HO.tok 4 (([]:List (List AV)).length+(l.map Am).length)=.tok 4 (l.map Am).length:=by rw[Ao,Bg]
 have e3:AV.slice (.id 2000 4) ([]++l.map Am)=.slice (.id 2000 4) (l.map Am):=rfl;refine Xi 0 (Xi 0 (Yi ?_ ?_))
 .intro _;refine cU [(0,sl Am l)] [] Z1 Tv (Xi 2 (Yi HC ?_));exact Xi _ (Yi (.refl _) (Yi e3 (Aa (fun o=>Ap [(2000,o)] Ae) e2)))
 .intro h;refine Yi ?_ ?_
  .refine Xi ⟨[],[],Ae⟩ (Yi ⟨trivial,trivial,fun _=>.inl rfl,BT Wk⟩ ?_);refine Xi 0 ?_;exact Xi _ (Yi (.refl _) (Yi (show AV.slice (.id 2000 4) []=_ by rw[h]) (show Ap [(2000,HO.tok 4 0)] Ae=_ by rw[h];rfl)))
  .refine cU [(0,sl Am l)] [] Z1 Tv (Xi 2 (Yi HC ?_));exact Xi _ (Yi (.refl _) (Yi e3 (Aa (fun o=>Ap [(2000,o)] Ae) e2)))
structure Lim(x:List Rl)(roots:List Rq):Prop where
 ix:Cb x
 rs:Cb roots
 rel:∀r∈x,Cb r.reqs/\EG r
 rq:∀q∈roots,Kd q
end Go.Eng
namespace Go.Eng
variable {i:Nat}{tl:List AV}{m:Nat}(x a w:Int)(s:ByteArray)(ws:List Int)(k b:Int)
abbrev E4:AV:=.v (.int .u32 x)
theorem HH{cs r:List AV}{a:AV}{K:AV->Prop}(h:cs=a::r)(k:K a):MJ cs K:=by rw[h];exact k
theorem PY{l:List AV}{n:Nat}{a:AV}(h:l[n]?=some a)(e:m=n):l.drop m=a::l.drop (n+1):=by
 subst e;obtain⟨h1,h2⟩:=Av.1 h;rw[<-h2];exact AH h1
theorem s5{a:AV}:∀{l:List AV} {n:Nat},over l n [a]=l.set n a
 | [],_=>rfl
 |c::l,0=>by cases l<;>rfl
 |c::l,n+1=>by show c::over l n [a]=_;rw[s5 (l:=l)];rfl
def Il:Int:=CW .or .u32 (CZ .shl .u32 x (CW .and .u64 (IntKind.wrap .u64 k) 31)) (CZ .shr .u32 x (IntKind.wrap .u64 (32-CW .and .u64 (IntKind.wrap .u64 k) 31)))
def xr:Int:=CW .xor .u32 a b
def an:Int:=CW .and .u32 a b
def nt:Int:=CW .xor .u32 4294967295 a
def ad:Int:=IntKind.wrap .u32 (a+b)
def ve(c:Int):Int:=xr (xr (Il x (-a)) (Il x (-b))) (Il x (-c))
def nh(s:Int):Int:=xr (xr (Il x (-a)) (Il x (-b))) (CZ .shr .u32 x s)
def DB(i:Nat):UInt8:=s.data[i]?.getD 0
def OL(s:ByteArray)(i:Nat):Nat->Int
 |0=>0
 |k+1=>CW .or .u32 (CZ .shl .u32 (OL s i k) 8) (IntKind.wrap .u32 ((DB s (4*i+k)).toNat:Int))
def FD(i:Nat):Int:=ws[i]?.getD 0
def Vv(i:Nat):Int:=
 if i<16 then OL s i 4 else ad (ad (ad (nh (FD ws (i-2)) 17 19 10) (FD ws (i-7))) (nh (FD ws (i-15)) 7 18 3)) (FD ws (i-16))
def B8(s:ByteArray):Nat->List Int
 |0=>[]
 |i+1=>B8 s i++[Vv s (B8 s i) i]
theorem Fi(s:ByteArray):∀i,(B8 s i).length=i
 |0=>rfl
 |i+1=>by rw[B8,Ac,Fi s i];rfl
theorem We{ws:List Int}(h:i<ws.length):ws[i]?=some (FD ws i):=by rw[FD,Ge h];rfl
structure S8 where
 (a b c d e f g h:Int)
def S8.l(v:S8):List Int:=[v.a,v.b,v.c,v.d,v.e,v.f,v.g,v.h]
abbrev aq(v:S8):List AV:=[E4 v.a,E4 v.b,E4 v.c,E4 v.d,E4 v.e,E4 v.f,E4 v.g,E4 v.h]
def rT1(v:S8):Int:=ad (ad (ad (ad v.h (ve v.e 6 11 25)) (xr (an v.e v.f) (an (nt v.e) v.g))) k) w
def rT2(v:S8):Int:=ad (ve v.a 2 13 22) (xr (xr (an v.a v.b) (an v.a v.c)) (an v.b v.c))
def Ae5(v:S8):S8:=⟨ad (rT1 w k v) (rT2 v),v.a,v.b,v.c,ad v.d (rT1 w k v),v.e,v.f,v.g⟩
def Eu(ws ks:List Int)(v:S8):Nat->S8
 |0=>v
 |i+1=>Ae5 (FD ws i) (FD ks i) (Eu ws ks v i)
def pM(v r:S8):S8:=⟨ad v.a r.a,ad v.b r.b,ad v.c r.c,ad v.d r.d,ad v.e r.e,ad v.f r.f,ad v.g r.g,ad v.h r.h⟩
def kK:List Int:=[0x428a2f98,0x71374491,0xb5c0fbcf,0xe9b5dba5,0x3956c25b,0x59f111f1,0x923f82a4,0xab1c5ed5,
 0xd807aa98,0x12835b01,0x243185be,0x550c7dc3,0x72be5d74,0x80deb1fe,0x9bdc06a7,0xc19bf174,
 0xe49b69c1,0xefbe4786,0x0fc19dc6,0x240ca1cc,0x2de92c6f,0x4a7484aa,0x5cb0a9dc,0x76f988da,
 0x983e5152,0xa831c66d,0xb00327c8,0xbf597fc7,0xc6e00bf3,0xd5a79147,0x06ca6351,0x14292967,
 0x27b70a85,0x2e1b2138,0x4d2c6dfc,0x53380d13,0x650a7354,0x766a0abb,0x81c2c92e,0x92722c85,
 0xa2bfe8a1,0xa81a664b,0xc24b8b70,0xc76c51a3,0xd192e819,0xd6990624,0xf40e3585,0x106aa070,
 0x19a4c116,0x1e376c08,0x2748774c,0x34b0bcb5,0x391c0cb3,0x4ed8aa4a,0x5b9cca4f,0x682e6ff3,
 0x748f82ee,0x78a5636f,0x84c87814,0x8cc70208,0x90befffa,0xa4506ceb,0xbef9a3f7,0xc67178f2]
def bY(v:S8)(s:ByteArray):S8:=pM v (Eu (B8 s 64) kK v 64)
def S7(v r:S8)(i:Nat)(tl:List AV):List AV:=
 E4 (if 0<i then ad v.a r.a else v.a)::E4 (if 1<i then ad v.b r.b else v.b)::E4 (if 2<i then ad v.c r.c else v.c)::E4 (if 3<i then ad v.d r.d else v.d) ::
 E4 (if 4<i then ad v.e r.e else v.e)::E4 (if 5<i then ad v.f r.f else v.f)::E4 (if 6<i then ad v.g r.g else v.g)::E4 (if 7<i then ad v.h r.h else v.h)::tl
def Dv(v:S8)(b:ByteArray):S8×ByteArray:=
 if 64<=b.size then Dv (bY v (b.extract 0 64)) (b.extract 64 b.size)else(v,b)
termination_by b.size
decreasing_by simp only[CP];omega
def bh:S8:=⟨1779033703,3144134277,1013904242,2773480762,1359893119,2600822924,528734635,1541459225⟩
structure HS where
 v:S8
 rest:ByteArray
 tot:Int
abbrev GO(x:HS):List AV:=[E4 x.v.a,E4 x.v.b,E4 x.v.c,E4 x.v.d,E4 x.v.e,E4 x.v.f,E4 x.v.g,E4 x.v.h,vs x.rest,.v (.int .u64 x.tot)]
def G9(x:HS)(s:ByteArray):HS:=⟨(Dv x.v (x.rest++s)).1,(Dv x.v (x.rest++s)).2,IntKind.wrap .u64 (x.tot+IntKind.wrap .u64 (s.size:Int))⟩
def Fl(n:Int):ByteArray:=⟨((List.range 8).map fun(i:Nat)=>UInt8.ofNat (IntKind.wrap .u8 (CZ .shr .u64 n (56-8*(i:Int)))).toNat).toArray⟩
def Ev:List UInt8:=[UInt8.ofNat (IntKind.wrap .u8 (CZ .shr .u32 x 24)).toNat,UInt8.ofNat (IntKind.wrap .u8 (CZ .shr .u32 x 16)).toNat,UInt8.ofNat (IntKind.wrap .u8 (CZ .shr .u32 x 8)).toNat,UInt8.ofNat (IntKind.wrap .u8 x).toNat]
def kS(n:Nat):ByteArray:=⟨(List.replicate n 0).toArray⟩
def ER(x:HS):ByteArray:=(⟨#[128]⟩++kS ((119-(x.rest.size:Int)) % 64).toNat)++Fl (IntKind.wrap .u64 (8*x.tot))
def kn(x:HS):ByteArray:=⟨(((G9 x (ER x)).v.l).flatMap Ev).toArray⟩
def QE:HS:=⟨bh,⟨#[]⟩,0⟩
def Oh(x:HS)(l:List ByteArray):HS:=l.foldl (fun x s=>G9 (G9 x (Fl (IntKind.wrap .u64 (s.size:Int)))) s) x
def Rc(tag:ByteArray)(l:List ByteArray):ByteArray:=kn (Oh (G9 QE (Fl (IntKind.wrap .u64 (tag.size:Int))++tag)) l)
theorem lG{b:Bool}{p:Prop}(h:b=true)(k:p):(match(generalizing:=false) b with | true=>p | false=>False):=by subst h;exact k
theorem mapU(h:Nat->HO):∀ws:List Int,(ws.map E4).map (str0 h)=ws.map E4
 | []=>rfl
 |_::ws=>Aa (_ :: ·) (mapU h ws)
theorem Aes{h:Nat->HO}{l:List AV}{ws:List Int}(e:l=ws.map E4):CV (.agg (l.map (str0 h))) (.agg (ws.map E4)):=by
 rw[e,mapU];exact .refl _
theorem tK{l:List AV}{a:AV}{n:Nat}(h:l.length=n):(l++a::tl)[n]?=some a:=by
 subst h;rw[A0 (Ak _),Ff];rfl
theorem Za{ws:List Int}(h:i<ws.length):(ws.map E4++tl)[i]?=some (E4 (FD ws i)):=by
 rw[AZ (by rw[Lm];exact h),AG,We h];rfl
theorem Zb{ws:List Int}(h:i<ws.length):(ws.map E4)[i]?=some (E4 (FD ws i)):=by
 rw[AG,We h];rfl
theorem QN{a b:AV}{tl:List AV}:∀{l:List AV} {n:Nat},l.length=n->over (l++a::tl) n [b]=l++b::tl
 | [],_,rfl=>by cases tl<;>rfl
 |c::l,_,rfl=>by show c::over (l++a::tl) l.length [b]=_;rw[QN rfl];rfl
theorem Nw:∀{z l:List AV},z.length=l.length->over z 0 l=l
 | [],[],_=>rfl
 | [],_::_,h=>by cases h
 |_::_,[],h=>by cases h
 |_::z,b::l,h=>by show b::over z 0 l=_;rw[Nw (Nat.succ.inj h)]
theorem L7{s:ByteArray}{z:Int}{n:Nat}(h:n<s.size)(e:z=(n:Int)):(0:Int)<=z/\s.data[z.toNat]?=some (DB s n):=by
 subst e;refine⟨KG n,?_⟩;have h:n<s.data.size:=h;rw[BL,DB,A6 h];rfl
def S8.n(v:S8)(i:Nat):Int:=FD v.l i
theorem su{v:S8}(h:i<8)(e:m=i):(aq v).drop m=E4 (v.n i)::(aq v).drop (i+1):=
 PY (Zb (ws:=v.l) h) e
theorem lU{v r:S8}(h:i<8)(e:m=i):(S7 v r i tl).drop m=E4 (v.n i)::(S7 v r i tl).drop (i+1):=by
 refine PY ?_ e
 match i,h with
 |0,_ |1,_ |2,_ |3,_ |4,_ |5,_ |6,_ |7,_=>rfl
theorem nP{v r:S8}(h:i<8)(e:m=i):over (S7 v r i tl) m [E4 (ad (v.n i) (r.n i))]=S7 v r (i+1) tl:=by
 subst e;rw[s5]
 match m,h with
 |0,_ |1,_ |2,_ |3,_ |4,_ |5,_ |6,_ |7,_=>rfl
theorem gH{n:Nat}(h:n<64):List.replicate (64-n) (E4 0)=E4 0::List.replicate (64-(n+1)) (E4 0):=by
 rw[show 64-n=(64-(n+1))+1 by omega];rfl
theorem bW{s:ByteArray}{x:Int}(h:x=Vv s (B8 s i) i):(B8 s i).map E4++E4 x::List.replicate (64-(i+1)) (E4 0)=(B8 s (i+1)).map E4++List.replicate (64-(i+1)) (E4 0):=by
 rw[h,B8,As,BA];rfl
theorem uW(h:Nat->HO)(tl:List AV):∀ws:List Int,Y3 h (ws.map E4++tl)=Y3 h tl
 | []=>rfl
 |_::ws=>uW h tl ws
theorem uV(h:Nat->HO):∀n:Nat,Y3 h (List.replicate n (E4 0))=true
 |0=>rfl
 |n+1=>uV h n
theorem dJ(h:Nat->HO):∀ws:List Int,Tx h (.cells (ws.map E4))=true
 | []=>rfl
 |_::ws=>dJ h ws
theorem uX(h:Nat->HO)(ws:List Int)(n:Nat):Tx h (.cells (ws.map E4++List.replicate n (E4 0)))=true:=(uW h _ ws).trans (uV h n)
theorem zd(h:Nat->HO)(ws:List Int)(x:Int)(n:Nat):Tx h (.cells (ws.map E4++E4 x::List.replicate n (E4 0)))=true:=(uW h _ ws).trans (uV h n)
theorem VR(i:Nat):((B8 s i).map E4).length=i:=by rw[Lm,Fi]
end Go.Eng
namespace Go.Eng
open Go.Proofs
variable {α:Type}{f:α->List AV}{l O:List α}{args:List AV}{i n:Nat}(a:Int)
theorem Ba.to2{P:Program}{f:Nat}{h0:Nat->HO}{r0:AV}{H0:Nat->HO}{Q' : AV->(Nat->HO)->Prop}(h:Ba P f args h0 fun r h'=>r=r0/\h'=H0)(k:Q' r0 H0):Ba P f args h0 Q':=
 h.mono fun r h' q=>⟨r,.refl _,by rw[q.1,q.2];exact k⟩
theorem cb{f:Nat}{b x:Bool}(h:b=x)(hc:PC f args (vb b)):PC f args (vb x):=h▸hc
theorem FO(h:(i:Int)<((l.map f).length:Int)):i<l.length:=by rw[Lm]at h;omega
theorem DP(h:¬(i:Int)<((l.map f).length:Int)):¬i<l.length:=by rw[Lm]at h;omega
theorem JL(h:i<l.length):(0:Int)<=(i:Int)/\(l.map f)[((i:Nat):Int).toNat]?=some (f l[i]):=⟨KG _,by rw[BL,AG,Ge h];rfl⟩
theorem kF{z:Nat}{x:List AV}(hx:x.length=n)(h:O.length<=2147483647)(hz:z<=65536) :
  B5 n [x]/\(O.map f).length=O.length/\((O.map f).length+([x]:List (List AV)).length)*z<=140737488355328/\(O.map f).length+([x]:List (List AV)).length<=9223372036854775807:=by
 refine⟨⟨hx,trivial⟩,Lm _,?_,?_⟩<;>rw[Lm]<;>simp only[Ag,Ao]
 .have:=Nat.mul_le_mul (show O.length+(0+1)<=2147483648 by omega) hz
  omega
 .omega
theorem tkA{x:α}{r:Nat}:AV.slice (.id r n) (O.map f++[f x])=.slice (.id r n) ((O++[x]).map f):=by rw[As];rfl
theorem hkA{x:α}{y:List AV}:HO.tok n ((O.map f).length+([y]:List (List AV)).length)=.tok n (O++[x]).length:=by rw[Ac,Lm];rfl
theorem Wh:0<=IntKind.wrap .u64 a:=In _ Cl
theorem lp(b:Int):0<=CW .and .u64 a b:=Wh _
theorem cn(x k:Int):PC 201 [.v (.int .u32 x),vi k] (.v (.int .u32 (Il x k))):=by
 refine Ps El Tryz.func201 rfl (Nz rfl) (Yi (lp _ _) (Yi (Wh _) ?_));exact .refl _
theorem o5(x a b c:Int)(ha:0<=a/\a<=64)(hb:0<=b/\b<=64)(hc:0<=c):PC 266 [.v (.int .u32 x),vi a,vi b,vi c] (.v (.int .u32 (nh x a b c))):=by
 refine Ps El Tryz.func266 rfl (Nz rfl) (Yi (by show AX (-a);unfold AX;omega) (Xi _ (Yi (cn x (-a)) (Yi (by show AX (-b);unfold AX;omega) (Xi _ (Yi (cn x (-b)) (Yi hc (Yi Wk ?_))))))));exact .refl _
theorem o0(x a b c:Int)(ha:0<=a/\a<=64)(hb:0<=b/\b<=64)(hc:0<=c)(hd:c<=64):PC 200 [.v (.int .u32 x),vi a,vi b,vi c] (.v (.int .u32 (ve x a b c))):=by
 refine Ps El Tryz.func200 rfl (Nz rfl) (Yi (by show AX (-a);unfold AX;omega) (Xi .pure (Xi _ (Yi (cn x (-a)) (Yi (by show AX (-b);unfold AX;omega) (Xi .pure (Xi _ (Yi (cn x (-b)) (Yi (by show AX (-c);unfold AX;omega) (Xi .pure (Xi _ (Yi (cn x (-c)) ?_))))))))))));exact .refl _
set_option maxRecDepth 100000 in
theorem r5  : PC 203 [] (.agg (kK.map E4)):=by
 refine Ps El Tryz.func203 rfl (Nz rfl) (yN (yN ?_));exact .refl _
theorem Aai(s:ByteArray)(hs:s.size=64):PC 202 [vs s] (.agg ((B8 s 64).map E4)):=by
 refine Ps El Tryz.func202 rfl (Nz rfl) (Xi {q:Nat // q<=64} (Xi (fun q=>⟨[(0,vs s),(2,.ref 2 0),(3,.ref 3 0),(4,.v (.func (.func 266) #[] #[])),(7,vi q.1)],[(2,.cells (List.replicate 64 (E4 0))),(3,.cells ((B8 s q.1).map E4++List.replicate (64-q.1) (E4 0)))],Ae⟩) (Xi (fun q=>64-q.1) (Yi (Xi ⟨0,Ax _⟩ ?_) ?_))))
 .exact⟨Z5,⟨Zr,⟨rfl,(uX _ _ _)⟩,Tv⟩,Fh,Tv⟩
 intro⟨i,i1⟩;have i1:i<=64:=i1;refine Yi (fun h1=>?_) (fun h1=>?_)
 .have h1:(i:Int)<(64:Int):=h1;refine Yi (fun h2=>?_) (fun h2=>?_)
  .have h2:(i:Int)<(16:Int):=h2;refine Xi {q:Nat // q<=4} (Xi (fun q=>⟨[(0,vs s),(2,.ref 2 0),(3,.ref 3 0),(4,.v (.func (.func 266) #[] #[])),(5,vi i),(7,vi i),(12,vi q.1)],[(2,.cells (List.replicate 64 (E4 0))),(3,.cells ((B8 s i).map E4++E4 (OL s i q.1)::List.replicate (64-(i+1)) (E4 0)))],Ae⟩) (Xi (fun q=>4-q.1) (Yi (Xi ⟨0,Ax _⟩ ?_) ?_)))
   .exact⟨Z7,⟨Zr,⟨(Aa (fun z=>HO.cells ((B8 s i).map E4++z)) (gH (show i<64 by omega))),(zd _ _ _ _)⟩,Tv⟩,Fh,Tv⟩
   intro⟨k,k1⟩;have k1:k<=4:=k1;refine Yi (fun h3=>?_) (fun h3=>?_)
   .have h3:(k:Int)<(4:Int):=h3;refine Yi (show(0:Int)<=i/\(i:Int)<(64:Nat)from by omega) (HH (PY (tK (VR s i)) (show(0+(i:Int).toNat*1)=i by omega)) (Yi Cl (Yi (by show AX ((4:Int)*(i:Int));unfold AX;omega) (Yi (by show AX ((4*i:Int)+(k:Int));unfold AX;omega) (Xi (DB s (4*i+k)) (Yi (L7 (z:=(4*i)+k) (show 4*i+k<s.size by omega) ch) (Yi (show(0:Int)<=i/\(i:Int)<(64:Nat)from by omega) (Yi (show(0+(i:Int).toNat*1)+1<=(((B8 s i).map E4++E4 (OL s i k)::List.replicate (64-(i+1)) (E4 0))).length from by rw[Ac,VR];simp only[Ag,BQ];omega) ?_))))))));refine Yi Wk (Yi (Ii k ch) (Xi ⟨k+1,by omega⟩ ?_));exact⟨Dl 4 k ch,Z7,⟨Zr,⟨(show HO.cells (over ((B8 s i).map E4++E4 (OL s i k)::List.replicate (64-(i+1)) (E4 0)) (0+(i:Int).toNat*1) [.v (.int .u32 (CW .or .u32 (CZ .shl .u32 (OL s i k) 8) (IntKind.wrap .u32 ((DB s (4*i+k)).toNat:Int))))])=.cells ((B8 s i).map E4++E4 (OL s i (k+1))::List.replicate (64-(i+1)) (E4 0))from Aa HO.cells (QN (by rw[VR];omega))),(zd _ _ _ _)⟩,Tv⟩,Fh,Tv⟩
   have h3:¬((k:Int)<(4:Int)):=h3;refine Yi (Ii i ch) (Xi ⟨i+1,by omega⟩ ?_);exact⟨Dl 64 i ch,Z5,⟨Zr,⟨(Aa HO.cells (bW (show OL s i k=Vv s (B8 s i) i by rw[Vv,Al ch,show k=4 by omega]))),(uX _ _ _)⟩,Tv⟩,Fh,Tv⟩
  have h2:¬((i:Int)<(16:Int)):=h2;refine Yi (by show AX ((i:Int)-(2:Int));unfold AX;omega) (Yi (show(0:Int)<=i-2/\(i-2:Int)<(64:Nat)from by omega) (HH (PY (Za (show i-2<(B8 s i).length by rw[Fi];omega)) (show(0+(i-2:Int).toNat*1)=i-2 by omega)) (Xi _ (Yi (o5 (FD (B8 s i) (i-2)) 17 19 10 Cl Cl Cl) (Yi (by show AX ((i:Int)-(7:Int));unfold AX;omega) (Yi (show(0:Int)<=i-7/\(i-7:Int)<(64:Nat)from by omega) (HH (PY (Za (show i-7<(B8 s i).length by rw[Fi];omega)) (show(0+(i-7:Int).toNat*1)=i-7 by omega)) (Yi (by show AX ((i:Int)-(15:Int));unfold AX;omega) (Yi (show(0:Int)<=i-15/\(i-15:Int)<(64:Nat)from by omega) (HH (PY (Za (show i-15<(B8 s i).length by rw[Fi];omega)) (show(0+(i-15:Int).toNat*1)=i-15 by omega)) (Xi _ (Yi (o5 (FD (B8 s i) (i-15)) 7 18 3 Cl Cl Cl) (Yi (by show AX ((i:Int)-(16:Int));unfold AX;omega) (Yi (show(0:Int)<=i-16/\(i-16:Int)<(64:Nat)from by omega) (HH (PY (Za (show i-16<(B8 s i).length by rw[Fi];omega)) (show(0+(i-16:Int).toNat*1)=i-16 by omega)) (Yi (show(0:Int)<=i/\(i:Int)<(64:Nat)from by omega) (Yi (show(0+(i:Int).toNat*1)+1<=(((B8 s i).map E4++List.replicate (64-i) (E4 0))).length from by rw[Ac,VR];simp only[BQ];omega) ?_)))))))))))))))));refine Yi Wk (Yi (Ii i ch) (Xi ⟨i+1,by omega⟩ ?_));exact⟨Dl 64 i ch,Z5,⟨Zr,⟨(show HO.cells (over ((B8 s i).map E4++List.replicate (64-i) (E4 0)) (0+(i:Int).toNat*1) [.v (.int .u32 (IntKind.wrap .u32 ((IntKind.wrap .u32 ((IntKind.wrap .u32 ((nh (FD (B8 s i) (i-2)) 17 19 10)+(FD (B8 s i) (i-7))))+(nh (FD (B8 s i) (i-15)) 7 18 3)))+(FD (B8 s i) (i-16)))))])=.cells ((B8 s (i+1)).map E4++List.replicate (64-(i+1)) (E4 0))from Aa HO.cells (by rw[gH (show i<64 by omega),QN (by rw[VR];omega)];exact bW (by rw[Vv,Aj ch];rfl))),(uX _ _ _)⟩,Tv⟩,Fh,Tv⟩
 have h1:¬((i:Int)<(64:Int)):=h1;refine Yi (show 64<=((B8 s i).map E4++List.replicate (64-i) (E4 0)).length by rw[Ac,VR,BQ];omega) ?_
 conv=>whnf
 refine lG (show Nat.beq (((B8 s i).map E4++List.replicate (64-i) (E4 0)).take 64).length 64=true from by rw[show(((B8 s i).map E4++List.replicate (64-i) (E4 0)).take 64).length=64 by rw[Au,Ac,VR,BQ];omega];rfl) ?_;refine Yi (show 0+(((B8 s i).map E4++List.replicate (64-i) (E4 0)).take 64).length<=64 from by rw[Au];omega) ?_;refine Yi (show 64<=(over (List.replicate 64 (E4 0)) 0 (((B8 s i).map E4++List.replicate (64-i) (E4 0)).take 64)).length by rw[Nw (by rw[Au,Ac,VR,BQ,BQ];omega),Au,Ac,VR,BQ];omega) ?_;exact Aes (show(over (List.replicate 64 (E4 0)) 0 (((B8 s i).map E4++List.replicate (64-i) (E4 0)).take 64)).take 64=(B8 s 64).map E4 from by rw[show i=64 by omega,Nw (by rw[Au,Ac,VR];rfl),PE,Nat.min_self,F2 (VR s 64)])
theorem vX(x:HS)(s:ByteArray)(W Kk:List Int)(r8:S8)(hW:W.length=64)(hK:Kk.length=64)(hr:Eu W Kk x.v 64=r8)(hc:PC 202 [vs s] (.agg (W.map E4)))(hk:PC 203 [] (.agg (Kk.map E4))):Ba Tryz.prog 148 [.ref 1000 0,vs s] (Ap [(1000,.cells (GO x))] Ae) fun r h'=>r=.tup []/\h'=Ap [(1000,.cells (GO ⟨pM x.v r8,x.rest,x.tot⟩))] Ae:=by
 refine Cu (M7 (pC [] [2,11])) [(1000,1000)] rfl Da hm rfl Tryz.func148 Wk rfl (Nz rfl) Wk rfl (Xi .pure (Xi _ (Yi hc (Xi .pure (Xi _ (Yi hk ?_))))))
 conv=>whnf
 refine lG (show Nat.beq (W.map E4).length 64=true from by rw[Lm,hW];rfl) (Yi (show 0+(W.map E4).length<=64 from by rw[Lm];omega) ?_)
 conv=>whnf
 refine lG (show Nat.beq (Kk.map E4).length 64=true from by rw[Lm,hK];rfl) (Yi (show 0+(Kk.map E4).length<=64 from by rw[Lm];omega) (cU [(0,.ref 1000 0),(4,.v (.func (.func 200) #[] #[])),(5,.ref 5 0),(6,.ref 6 0)] [(5,.cells (W.map E4)),(6,.cells (Kk.map E4)),(1000,.cells (GO x))] Z4 ⟨⟨(Aa HO.cells (Nw (show 64=(W.map E4).length by rw[Lm,hW]))),(dJ _ _)⟩,⟨(Aa HO.cells (Nw (show 64=(Kk.map E4).length by rw[Lm,hK]))),(dJ _ _)⟩,Zr,Tv⟩ ?_))
 refine yN (yN (Xi {q:Nat // q<=64} (Xi (fun q=>⟨[(0,.ref 1000 0),(4,.v (.func (.func 200) #[] #[])),(5,.ref 5 0),(6,.ref 6 0),(7,.ref 7 0),(26,vi q.1)],[(5,.cells (W.map E4)),(6,.cells (Kk.map E4)),(7,.cells (aq (Eu W Kk x.v q.1))),(1000,.cells (GO x))],Ae⟩) (Xi (fun q=>64-q.1) (Yi (Xi ⟨0,Ax _⟩ ?_) ?_)))))
 .exact⟨Z6,⟨⟨rfl,(dJ _ _)⟩,⟨rfl,(dJ _ _)⟩,Zr,Zr,Tv⟩,Fh,BT Wk⟩
 intro⟨i,i1⟩;have i1:i<=64:=i1;refine Yi (fun h1=>?_) (fun h1=>?_)
 .have h1:(i:Int)<(64:Int):=h1;refine Yi ⟨by decide,by decide⟩ ?_;refine Yi ⟨by decide,by decide⟩ ?_;refine Yi ⟨by decide,by decide⟩ ?_;refine Yi ⟨by decide,by decide⟩ ?_;refine Yi ⟨by decide,by decide⟩ ?_;refine Yi ⟨by decide,by decide⟩ ?_;refine Yi Wk (Yi ⟨by decide,by decide⟩ ?_);refine Xi _ (Yi (o0 (Eu W Kk x.v i).e 6 11 25 Cl Cl Cl Cl) (Yi (show(0:Int)<=i/\(i:Int)<(64:Nat)from by omega) (HH (PY (Zb (show i<Kk.length by omega)) (show(0+(i:Int).toNat*1)=i by omega)) (Yi (show(0:Int)<=i/\(i:Int)<(64:Nat)from by omega) (HH (PY (Zb (show i<W.length by omega)) (show(0+(i:Int).toNat*1)=i by omega)) (Yi Wk (Xi .pure (Xi _ (Yi (o0 (Eu W Kk x.v i).a 2 13 22 Cl Cl Cl Cl) (Yi ⟨by decide,by decide⟩ ?_))))))))));refine yN (Yi (Ii i ch) (Xi ⟨i+1,by omega⟩ ?_));exact⟨Dl 64 i ch,Z6,⟨⟨rfl,(dJ _ _)⟩,⟨rfl,(dJ _ _)⟩,Zr,Zr,Tv⟩,Fh,BT Wk⟩
 have h1:¬((i:Int)<(64:Int)):=h1;refine cU [(0,.ref 1000 0),(7,.ref 7 0)] [(7,.cells (aq r8)),(1000,.cells (GO x))] Z2 ⟨⟨(Aa (fun z=>HO.cells (aq z)) (show Eu W Kk x.v i=r8 by rw[show i=64 by omega,hr])),rfl⟩,Zr,Tv⟩ (yN (Xi {q:Nat // q<=8} (Xi (fun q=>⟨[(0,.ref 1000 0),(94,.agg [.v (.int .u32 r8.a),.v (.int .u32 r8.b),.v (.int .u32 r8.c),.v (.int .u32 r8.d),.v (.int .u32 r8.e),.v (.int .u32 r8.f),.v (.int .u32 r8.g),.v (.int .u32 r8.h)]),(95,vi q.1)],[(1000,.cells (S7 x.v r8 q.1 [vs x.rest,.v (.int .u64 x.tot)]))],Ae⟩) (Xi (fun q=>8-q.1) (Yi (Xi ⟨0,Ax _⟩ ?_) ?_)))))
 .exact⟨Z3,Z1,Fh,BT Wk⟩
 intro⟨j,j1⟩;have j1:j<=8:=j1;refine Yi (fun h3=>?_) (fun h3=>?_)
 .have h3:(j:Int)<(8:Int):=h3;refine Yi (show(0:Int)<=j/\(j:Int)<(8:Nat)from by omega) (HH (su (v:=r8) (show j<8 by omega) (show((j:Int).toNat*1)=j by omega)) (Yi (show(0:Int)<=j/\(j:Int)<(8:Nat)from by omega) (HH (lU (show j<8 by omega) (show(0+(j:Int).toNat*1)=j by omega)) (Yi (show(0:Int)<=j/\(j:Int)<(8:Nat)from by omega) (Yi (show(0+(j:Int).toNat*1)+1<=((S7 x.v r8 j [vs x.rest,.v (.int .u64 x.tot)])).length from by show(0+(j:Int).toNat*1)+1<=10;omega) ?_)))));refine Yi Wk (Yi (Ii j ch) (Xi ⟨j+1,by omega⟩ ?_));exact⟨Dl 8 j ch,Z3,⟨⟨(show HO.cells (over (S7 x.v r8 j [vs x.rest,.v (.int .u64 x.tot)]) (0+(j:Int).toNat*1) [.v (.int .u32 (IntKind.wrap .u32 ((S8.n x.v j)+(S8.n r8 j))))])=.cells (S7 x.v r8 (j+1) [vs x.rest,.v (.int .u64 x.tot)])from Aa HO.cells (nP (show j<8 by omega) ch)),rfl⟩,Tv⟩,Fh,BT Wk⟩
 have h3:¬((j:Int)<(8:Int)):=h3;have e8:j=8:=by omega
 subst e8;exact Xi _ (Yi (.refl _) Zr)
theorem Aa5(x:HS)(s:ByteArray)(hs:s.size=64):Ba Tryz.prog 148 [.ref 1000 0,vs s] (Ap [(1000,.cells (GO x))] Ae) fun r h'=>r=.tup []/\h'=Ap [(1000,.cells (GO ⟨bY x.v s,x.rest,x.tot⟩))] Ae:=
 vX x s (B8 s 64) kK _ (Fi s 64) rfl rfl (Aai s hs) r5
end Go.Eng
namespace Go.Proofs
open Go.Shelf
def Tryz.layItoa_ren:Go.Shelf.Ren:=⟨fun | 171=>53 | 243=>93 | 246=>154 | 283=>214 | 284=>215 | 285=>216 | 286=>217 | 129=>229 | 317=>272 | 318=>273 | 319=>274 | 320=>275 | 337=>317 | 338=>318 | n=>n,fun | 3=>3 | 9=>9 | 2=>2 | 4=>4 | 171=>308 | 0=>0 | 53=>98 | 37=>164 | 5=>5 | 173=>311 | 212=>355 | 51=>229 | 20=>20 | 213=>356 | 46=>99 | 232=>414 | 233=>415 | n=>n,fun | 17=>1 | 18=>2 | 19=>3 | n=>n⟩
theorem Tryz.layItoa:Go.Proofs.LaysM.n171 Tryz.prog Tryz.layItoa_ren:={
 mixed:=by kernel_rfl
 f129:=Tryz.func229.trans (congrArg some Go.Eng.Wk)
 f171:=Tryz.func53.trans (congrArg some Go.Eng.Wk)
 f243:=Tryz.func93.trans (congrArg some Go.Eng.Wk)
 f246:=Tryz.func154.trans (congrArg some Go.Eng.Wk)
 f283:=Tryz.func214.trans (congrArg some Go.Eng.Wk)
 f284:=Tryz.func215.trans (congrArg some Go.Eng.Wk)
 f285:=Tryz.func216.trans (congrArg some Go.Eng.Wk)
 f286:=Tryz.func217.trans (congrArg some Go.Eng.Wk)
 f317:=Tryz.func272.trans (congrArg some Go.Eng.Wk)
 f318:=Tryz.func273.trans (congrArg some Go.Eng.Wk)
 f319:=Tryz.func274.trans (congrArg some Go.Eng.Wk)
 f320:=Tryz.func275.trans (congrArg some Go.Eng.Wk)
 f337:=Tryz.func317.trans (congrArg some Go.Eng.Wk)
 f338:=Tryz.func318.trans (congrArg some Go.Eng.Wk)
 t0:=Tryz.underlying0
 a0:=Tryz.isAgg0
 z0:=Tryz.sizeOf0
 v0:=Tryz.zeroValue0
 t2:=Tryz.underlying2
 a2:=Tryz.isAgg2
 z2:=Tryz.sizeOf2
 v2:=Tryz.zeroValue2
 t3:=Tryz.underlying3
 a3:=Tryz.isAgg3
 z3:=Tryz.sizeOf3
 v3:=Tryz.zeroValue3
 t4:=Tryz.underlying4
 a4:=Tryz.isAgg4
 z4:=Tryz.sizeOf4
 v4:=Tryz.zeroValue4
 t5:=Tryz.underlying5
 a5:=Tryz.isAgg5
 z5:=Tryz.sizeOf5
 v5:=Tryz.zeroValue5
 t9:=Tryz.underlying9
 a9:=Tryz.isAgg9
 z9:=Tryz.sizeOf9
 v9:=Tryz.zeroValue9
 t20:=Tryz.underlying20
 a20:=Tryz.isAgg20
 z20:=Tryz.sizeOf20
 v20:=Tryz.zeroValue20
 t37:=Tryz.underlying164
 a37:=Tryz.isAgg164
 z37:=Tryz.sizeOf164
 v37:=Tryz.zeroValue164
 t46:=Tryz.underlying99
 a46:=Tryz.isAgg99
 z46:=Tryz.sizeOf99
 v46:=Tryz.zeroValue99
 t51:=Tryz.underlying229
 a51:=Tryz.isAgg229
 z51:=Tryz.sizeOf229
 v51:=Tryz.zeroValue229
 t53:=Tryz.underlying98
 a53:=Tryz.isAgg98
 z53:=Tryz.sizeOf98
 v53:=Tryz.zeroValue98
 t171:=Tryz.underlying308
 a171:=Tryz.isAgg308
 z171:=Tryz.sizeOf308
 v171:=Tryz.zeroValue308
 t173:=Tryz.underlying311
 a173:=Tryz.isAgg311
 z173:=Tryz.sizeOf311
 v173:=Tryz.zeroValue311
 t212:=Tryz.underlying355
 a212:=Tryz.isAgg355
 z212:=Tryz.sizeOf355
 v212:=Tryz.zeroValue355
 t213:=Tryz.underlying356
 a213:=Tryz.isAgg356
 z213:=Tryz.sizeOf356
 t232:=Tryz.underlying414
 a232:=Tryz.isAgg414
 z232:=Tryz.sizeOf414
 v232:=Tryz.zeroValue414
 t233:=Tryz.underlying415
 a233:=Tryz.isAgg415
 z233:=Tryz.sizeOf415
 v233:=Tryz.zeroValue415
 g17:=by kernel_rfl
 g18:=by kernel_rfl
 g19:=by kernel_rfl
 i0:=by kernel_rfl
 i2:=by kernel_rfl
 i3:=by kernel_rfl
 i4:=by kernel_rfl
 i5:=by kernel_rfl
 i9:=by kernel_rfl
 i20:=by kernel_rfl
 i37:=by kernel_rfl
 i46:=by kernel_rfl
 i51:=by kernel_rfl
 i53:=by kernel_rfl
 i171:=by kernel_rfl
 i173:=by kernel_rfl
 i212:=by kernel_rfl
 i232:=by kernel_rfl
 i233:=by kernel_rfl
 m17:=by kernel_rfl
 m18:=by kernel_rfl
 m19:=by kernel_rfl }
def Tryz.layRepeat_ren:Go.Shelf.Ren:=⟨fun | 105=>151 | 212=>205 | 99=>206 | 165=>207 | 166=>208 | 170=>209 | 169=>210 | 263=>267 | 264=>268 | 206=>269 | 240=>270 | 241=>271 | 276=>315 | 277=>316 | n=>n,fun | 9=>9 | 3=>3 | 4=>4 | 20=>20 | 0=>0 | 46=>99 | 109=>295 | 5=>5 | 72=>299 | 76=>303 | 51=>229 | 146=>349 | 53=>98 | 148=>351 | 70=>297 | 37=>164 | 75=>302 | 127=>348 | 164=>386 | 80=>162 | n=>n,fun | n=>n⟩
theorem Tryz.layRepeat:Go.Proofs.Lays.n105 Tryz.prog Tryz.layRepeat_ren:={
 mixed:=by kernel_rfl
 f99:=Tryz.func206.trans (congrArg some Go.Eng.Wk)
 f105:=Tryz.func151.trans (congrArg some Go.Eng.Wk)
 f165:=Tryz.func207.trans (congrArg some Go.Eng.Wk)
 f166:=Tryz.func208.trans (congrArg some Go.Eng.Wk)
 f169:=Tryz.func210.trans (congrArg some Go.Eng.Wk)
 f170:=Tryz.func209.trans (congrArg some Go.Eng.Wk)
 f206:=Tryz.func269.trans (congrArg some Go.Eng.Wk)
 f212:=Tryz.func205.trans (congrArg some Go.Eng.Wk)
 f240:=Tryz.func270.trans (congrArg some Go.Eng.Wk)
 f241:=Tryz.func271.trans (congrArg some Go.Eng.Wk)
 f263:=Tryz.func267.trans (congrArg some Go.Eng.Wk)
 f264:=Tryz.func268.trans (congrArg some Go.Eng.Wk)
 f276:=Tryz.func315.trans (congrArg some Go.Eng.Wk)
 f277:=Tryz.func316.trans (congrArg some Go.Eng.Wk)
 t0:=Tryz.underlying0
 a0:=Tryz.isAgg0
 z0:=Tryz.sizeOf0
 v0:=Tryz.zeroValue0
 t3:=Tryz.underlying3
 a3:=Tryz.isAgg3
 z3:=Tryz.sizeOf3
 v3:=Tryz.zeroValue3
 t4:=Tryz.underlying4
 a4:=Tryz.isAgg4
 z4:=Tryz.sizeOf4
 v4:=Tryz.zeroValue4
 t5:=Tryz.underlying5
 a5:=Tryz.isAgg5
 z5:=Tryz.sizeOf5
 v5:=Tryz.zeroValue5
 t9:=Tryz.underlying9
 a9:=Tryz.isAgg9
 z9:=Tryz.sizeOf9
 v9:=Tryz.zeroValue9
 t20:=Tryz.underlying20
 a20:=Tryz.isAgg20
 z20:=Tryz.sizeOf20
 v20:=Tryz.zeroValue20
 t37:=Tryz.underlying164
 a37:=Tryz.isAgg164
 z37:=Tryz.sizeOf164
 v37:=Tryz.zeroValue164
 t46:=Tryz.underlying99
 a46:=Tryz.isAgg99
 z46:=Tryz.sizeOf99
 v46:=Tryz.zeroValue99
 t51:=Tryz.underlying229
 a51:=Tryz.isAgg229
 z51:=Tryz.sizeOf229
 v51:=Tryz.zeroValue229
 t53:=Tryz.underlying98
 a53:=Tryz.isAgg98
 z53:=Tryz.sizeOf98
 v53:=Tryz.zeroValue98
 t70:=Tryz.underlying297
 a70:=Tryz.isAgg297
 z70:=Tryz.sizeOf297
 v70:=Tryz.zeroValue297
 t72:=Tryz.underlying299
 a72:=Tryz.isAgg299
 z72:=Tryz.sizeOf299
 v72:=Tryz.zeroValue299
 t75:=Tryz.underlying302
 a75:=Tryz.isAgg302
 z75:=Tryz.sizeOf302
 v75:=Tryz.zeroValue302
 t76:=Tryz.underlying303
 a76:=Tryz.isAgg303
 z76:=Tryz.sizeOf303
 v76:=Tryz.zeroValue303
 t109:=Tryz.underlying295
 a109:=Tryz.isAgg295
 z109:=Tryz.sizeOf295
 v109:=Tryz.zeroValue295
 t127:=Tryz.underlying348
 a127:=Tryz.isAgg348
 z127:=Tryz.sizeOf348
 v127:=Tryz.zeroValue348
 t146:=Tryz.underlying349
 a146:=Tryz.isAgg349
 z146:=Tryz.sizeOf349
 v146:=Tryz.zeroValue349
 t148:=Tryz.underlying351
 a148:=Tryz.isAgg351
 z148:=Tryz.sizeOf351
 v148:=Tryz.zeroValue351
 t164:=Tryz.underlying386
 a164:=Tryz.isAgg386
 z164:=Tryz.sizeOf386
 v164:=Tryz.zeroValue386 }
def Tryz.layClone_ren:Go.Shelf.Ren:=⟨fun | 25=>204 | n=>n,fun | 9=>9 | 3=>3 | 4=>4 | 37=>164 | 0=>0 | 47=>348 | 5=>5 | n=>n,fun | n=>n⟩
theorem Tryz.layClone:Go.Proofs.LaysPu.n25 Tryz.prog Tryz.layClone_ren:={
 mixed:=by kernel_rfl
 f25:=Tryz.func204.trans (congrArg some Go.Eng.Wk)
 t0:=Tryz.underlying0
 a0:=Tryz.isAgg0
 z0:=Tryz.sizeOf0
 v0:=Tryz.zeroValue0
 i0:=by kernel_rfl
 t3:=Tryz.underlying3
 a3:=Tryz.isAgg3
 z3:=Tryz.sizeOf3
 v3:=Tryz.zeroValue3
 i3:=by kernel_rfl
 t4:=Tryz.underlying4
 a4:=Tryz.isAgg4
 z4:=Tryz.sizeOf4
 v4:=Tryz.zeroValue4
 i4:=by kernel_rfl
 t5:=Tryz.underlying5
 a5:=Tryz.isAgg5
 z5:=Tryz.sizeOf5
 v5:=Tryz.zeroValue5
 i5:=by kernel_rfl
 t9:=Tryz.underlying9
 a9:=Tryz.isAgg9
 z9:=Tryz.sizeOf9
 v9:=Tryz.zeroValue9
 i9:=by kernel_rfl
 t37:=Tryz.underlying164
 a37:=Tryz.isAgg164
 z37:=Tryz.sizeOf164
 v37:=Tryz.zeroValue164
 i37:=by kernel_rfl
 t47:=Tryz.underlying348
 a47:=Tryz.isAgg348
 z47:=Tryz.sizeOf348
 v47:=Tryz.zeroValue348
 i47:=by kernel_rfl }
theorem Tryz.layRepeatX:Builder.Extra Tryz.prog Tryz.layRepeat_ren:={
 sizeBuilder:=by kernel_rfl
 liesBuilder:=by kernel_rfl
 t5:=Tryz.underlying5
 a5:=Tryz.isAgg5
 z5:=Tryz.sizeOf5
 v5:=Tryz.zeroValue5
 infoByte:=by kernel_rfl
 cellsByte:=by kernel_rfl
 sizeByte:=by kernel_rfl
 neB5:=by decide }
end Go.Proofs
namespace Go.Eng
open Go.Proofs
variable (n:Int)(s:ByteArray)(i:Nat)
theorem od(n:Nat):(⟨(Go.Lib.repeatL (ByteArray.mk #[0]).data.toList n).toArray⟩:ByteArray)=kS n:=by
 show(⟨(Go.Lib.repeatL (List.replicate 1 0) n).toArray⟩:ByteArray)=_;rw[Go.Lib.repeatL_replicate,kS];simp
theorem o7(h0:0<=n)(h:n<=100):PC 151 [vs ⟨#[0]⟩,vi n] (vs (kS n.toNat)):=by
 refine Nx [.string ⟨#[0]⟩,.int .i64 n] (.string (kS n.toNat)) (au 151 Tryz.func151 Wk rfl) rfl (fun g w=>.v _ _) fun w _ _=>?_;have q:=Any.strings_Repeat Tryz.layRepeat Tryz.layRepeatX ⟨#[0]⟩ n.toNat w ch (by show 1*n.toNat<=_;omega);rw[od,Oj h0]at q;exact q
theorem oU(h:s.size<=1000000000):PC 204 [vs s] (vs s):=
 Nx [.string s] (.string s) (au 204 Tryz.func204 Wk rfl) rfl (fun g w=>.v _ _) fun w _ _=>AnyPu.stringslite_Clone Tryz.layClone s w ch
theorem rY(h:s.size<=1000000000):PC 149 [vs s] (vs s):=by
 refine Ps El Tryz.func149 rfl (Nz rfl) (Xi .pure (Xi _ (Yi (oU s h) ?_)));exact .refl _
theorem Aag  : Ba Tryz.prog 87 [] (Ap [] Ae) fun r h'=>r=.ref 2000 0/\h'=Ap [(2000,.cells (GO QE))] Ae:=by
 refine Cu (M7 El) [(3,2000)] rfl Da hm rfl Tryz.func87 Wk rfl (Nz rfl) Wk rfl ?_;exact Xi _ (Yi (.refl _) Zr)
theorem oY(x:HS):Ba Tryz.prog 150 [.ref 1000 0] (Ap [(1000,.cells (GO x))] Ae) fun r h'=>r=.ref 2000 0/\h'=Ap [(1000,.cells (GO x)),(2000,.cells (GO x))] Ae:=by
 refine Cu (M7 El) [(1000,1000),(3,2000)] rfl Da hm rfl Tryz.func150 Wk rfl (Nz rfl) Wk rfl (yN (yN ?_));exact Xi _ (Yi (.refl _) Zr)
abbrev u8(x:Int):AV:=.v (.int .u8 x)
def bB:List AV:=(List.range i).map fun(j:Nat)=>u8 (IntKind.wrap .u8 (CZ .shr .u64 n (56-8*(j:Int))))
def nC:List UInt8:=(List.range 8).map fun(i:Nat)=>UInt8.ofNat (IntKind.wrap .u8 (CZ .shr .u64 n (56-8*(i:Int)))).toNat
theorem gn:(bB n i).length=i:=by rw[bB,Lm,GV]
theorem ze(h:Nat->HO)(n:Int)(i:Nat):Tx h (.cells (bB n i++List.replicate (8-i) (u8 0)))=true:=by
 have e:∀l:List Int,Y3 h (l.map u8++List.replicate (8-i) (u8 0))=true:=fun l=>by
  induction l with
  |nil=>show Y3 h (List.replicate (8-i) (u8 0))=true;induction (8-i)with |zero=>rfl |succ k ih=>exact ih
  |cons a l ih=>exact ih
 have q:=e ((List.range i).map fun(j:Nat)=>IntKind.wrap .u8 (CZ .shr .u64 n (56-8*(j:Int))));rw[Bs]at q;exact q
theorem nD{n:Int}{i m:Nat}(h:i<8)(e:m=i):over (bB n i++List.replicate (8-i) (u8 0)) m [u8 (IntKind.wrap .u8 (CZ .shr .u64 n (56-8*(i:Int))))]=bB n (i+1)++List.replicate (8-(i+1)) (u8 0):=by
 rw[show 8-i=(8-(i+1))+1 by omega,List.replicate_succ,QN (by rw[gn];exact e.symm),bB,bB,List.range_succ,As,BA];rfl
theorem pf(z:Int):((UInt8.ofNat (IntKind.wrap .u8 z).toNat).toNat:Int)=IntKind.wrap .u8 z:=by
 have h1:0<=IntKind.wrap .u8 z:=In _ Cl;have h2:IntKind.wrap .u8 z<256:=PA _ Cl;rw[UInt8.toNat_ofNat',Jy ch];omega
theorem jF(h:Nat->HO)(n:Int):(((bB n 8).map (str h)).map fun c=>[c])=(nC n).map fun b=>[AV.v (.int .u8 b.toNat)]:=by
 rw[bB,nC,Bs,Bs,Bs];refine Bi fun i _=>?_;show [AV.v (.int .u8 _)]=[AV.v (.int .u8 _)];rw[pf]
theorem o6:PC 89 [.v (.int .u64 n)] (vs (Fl n)):=by
 refine Ps ⟨[],[(17,1)],[],[(17,[3])],[],[],[],[],[],[],[7]⟩ Tryz.func89 rfl (Nz rfl) (Xi {q:Nat // q<=8} (Xi (fun q=>⟨[(0,.v (.int .u64 n)),(3,.ref 3 0),(5,vi q.1)],[(3,.cells (bB n q.1++List.replicate (8-q.1) (u8 0)))],Ae⟩) (Xi (fun q=>8-q.1) (Yi (Xi ⟨0,Ax _⟩ ?_) ?_))))
 .exact⟨Z3,⟨⟨rfl,(ze _ _ _)⟩,Tv⟩,Fh,Tv⟩
 intro⟨i,i1⟩;have i1:i<=8:=i1;refine Yi (fun h1=>?_) (fun h1=>?_)
 .have h1:(i:Int)<(8:Int):=h1;refine Yi (by show AX ((8:Int)*(i:Int));unfold AX;omega) (Yi (by show AX ((56:Int)-(8*i:Int));unfold AX;omega) (Yi (show(0:Int)<=56-(8*i) by omega) (Yi (show(0:Int)<=i/\(i:Int)<(8:Nat)from by omega) (Yi (show(0+(i:Int).toNat*1)+1<=((bB n i++List.replicate (8-i) (u8 0))).length from by rw[Ac,gn,BQ];omega) ?_))));refine Yi (Ii i ch) (Xi ⟨i+1,by omega⟩ ?_);exact⟨Dl 8 i ch,Z3,⟨⟨(show HO.cells (over (bB n i++List.replicate (8-i) (u8 0)) (0+(i:Int).toNat*1) [.v (.int .u8 (IntKind.wrap .u8 (CZ .shr .u64 n (56-(8*i)))))])=.cells (bB n (i+1)++List.replicate (8-(i+1)) (u8 0))from Aa HO.cells (nD (show i<8 by omega) ch)),(ze _ _ _)⟩,Tv⟩,Fh,Tv⟩
 have h1:¬((i:Int)<(8:Int)):=h1;refine cU [(3,.ref 3 0)] [(3,.cells (bB n 8))] Z1 ⟨⟨(show HO.cells (bB n i++List.replicate (8-i) (u8 0))=.cells (bB n 8) by rw[show i=8 by omega];rfl),rfl⟩,Tv⟩ ?_
 refine Yi (show 8=((bB n 8).map (str _)).length from rfl) (Xi (nC n) (Yi (jF _ n) ?_));exact .refl _
end Go.Eng
