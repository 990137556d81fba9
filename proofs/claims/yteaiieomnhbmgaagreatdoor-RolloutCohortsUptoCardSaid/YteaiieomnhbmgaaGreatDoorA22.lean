/- Lemmas for the claims of this seat, without a condition: part 22 (C65, C66, C67, C68, C69, C56, C57, C58, C59, C70, C71, C72, C73, W0, C0, W1, W2, W3, LaySha, W4). -/
import Derived.Test.YteaiieomnhbmgaaGreatDoorA21
import Derived.Shelf.Strconv.Itoa3
import Derived.Shelf.Strings.Repeat
import Derived.Shelf.Pu.Clone
import Derived.Ground.NamesProg
import Derived.Ground.MpProg
import Derived.Lib.RepeatB
set_option maxHeartbeats 4000000
namespace Go.Eng
open Go.Proofs
variable {B7:List (Value×AV)}{p:ByteArray}{h:Nat->HO}{k:Value}{a:AV}(y x:List Rl)(j l:Nat)(ifs:List (List AV))
theorem L8:∀(y:List Rl) (acc:List ByteArray) (r:Rl),AW (y++[r]) acc=if(AW y acc).any (fun p=>decide (p=r.path))then AW y acc else AW y acc++[r.path]
 | [],acc,r=>rfl
 |s::y,acc,r=>by rw[Hi,AW,AW,L8 y]
theorem Fc:∀(y:List Rl) (acc:List ByteArray),acc.Nodup->(AW y acc).Nodup
 | [],_,h=>h
 |s::y,acc,h=>by
  rw[AW];refine Fc y _ ?_;split
  .exact h
  .rename_i hn;rw[FG];refine⟨h,by simp,fun a ha b hb e=>?_⟩;rw[Ap]at hb;exact hn (Pc.2 (by rw[<-hb,<-e];exact ha))
abbrev N9(p:ByteArray):List (List AV):=(y.filter fun r=>decide (r.path=p)).map AF
abbrev lg(q:ByteArray×Nat):Value×AV:=(.string q.1,.slice (.id (q.2+50) 9) (N9 y q.1))
abbrev SZ:List (Value×AV):=(AW y []).zipIdx.map (lg y)
def Kn:HO:=match(AW y [])[l]? with
 |some q=>.tok 9 (N9 y q).length
 |none=>.free
def WM:HO:=bif Nat.ble 50 j then Kn y (j-50)else .free
theorem Ij:WM y (l+50)=Kn y l:=by
 unfold WM;rw[show Nat.ble 50 (l+50)=true by rw[Dm];omega,Nat.add_sub_cancel];rfl
theorem th{j:Nat}(h:j<50):WM y j=.free:=by
 unfold WM;rw[show Nat.ble 50 j=false by rw[AM];intro hc;rw[Dm]at hc;omega];rfl
theorem Ja(r:Rl)(q:ByteArray):N9 (y++[r]) q=if r.path=q then N9 y q++[AF r]else N9 y q:=by
 unfold N9;rw[EE]
 by_cases h:r.path=q
 .rw[Al h,Tz (by simpa using h)];simp
 .rw[Ai h,Ty (by simpa using h)];simp
theorem IW{l:List ByteArray}{q:ByteArray×Nat}(h:q∈l.zipIdx):l[q.2]?=some q.1:=by
 obtain⟨a,b⟩:=q;exact FK.1 h
open Classical in
theorem M1(h:∀a',(k,a')∉B7):EX B7 k a=B7++[(k,a)]:=by
 unfold EX;rw[Ai (fun⟨a',h'⟩=>h a' h')]
open Classical in
theorem aA{a':AV}(h:(k,a')∈B7):EX B7 k a=B7.map fun p=>if p.1=k then(k,a)else p:=by
 unfold EX;rw[Al ⟨a',h⟩]
section
variable {y:List Rl}{r:Rl}{k:Nat}
theorem JR(h:(AW y [])[k]?=some r.path):AW (y++[r]) []=AW y []:=by
 rw[L8,Al (Pc.2 (Aw h))]
theorem JQ(h:r.path∉AW y []):AW (y++[r]) []=AW y []++[r.path]:=by
 rw[L8,Ai (fun hc=>h (Pc.1 hc))]
theorem JO{l:List ByteArray}(hd:l.Nodup){i j:Nat}(h1:l[i]?=some p)(h2:l[j]?=some p):i=j:=by
 obtain⟨a1,a2⟩:=Au.1 h1;obtain⟨b1,b2⟩:=Au.1 h2;exact(List.getElem_inj hd).1 (a2.trans b2.symm)
open Classical in
theorem pj(h:(AW y [])[k]?=some r.path):EX (SZ y) (.string r.path) (.slice (.id (k+50) 9) (N9 y r.path++[AF r]))=SZ (y++[r]):=by
 have hd:=Fc y [] Fu;have hm:lg y (r.path,k)∈SZ y:=Ag.2 ⟨_,FK.2 h,rfl⟩;rw[aA (a':=.slice (.id (k+50) 9) (N9 y r.path)) hm];unfold SZ;rw[JR h,Bo];refine Bh fun q hq=>?_;have hg:=IW hq;obtain⟨q,j⟩:=q;show(if Value.string q=Value.string r.path then _ else _)=lg (y++[r]) (q,j)
 by_cases he:q=r.path
 .subst he
  have:j=k:=JO hd hg h
  subst this;rw[Al rfl];show _=(Value.string r.path,AV.slice (.id (j+50) 9) (N9 (y++[r]) r.path));rw[Ja,Al rfl]
 .rw[Ai (fun e=>he (by simpa using e))];show(Value.string q,AV.slice (.id (j+50) 9) (N9 y q))=(Value.string q,AV.slice (.id (j+50) 9) (N9 (y++[r]) q));rw[Ja,Ai (fun e=>he e.symm)]
theorem fu(h:r.path∉AW y []):N9 y r.path=[]:=by
 have:y.filter (fun s=>decide (s.path=r.path))=[]:=by
  rw[HZ];intro s hs he;exact h ((GQ y [] r.path).2 (.inr ⟨s,hs,AU he⟩))
 unfold N9;rw[this];rfl
theorem ZR(h:r.path∉AW y [])(a:AV):(Value.string r.path,a)∉SZ y:=by
 intro hc;obtain⟨q,h1,h2⟩:=Ag.1 hc;simp only[lg,F4,Value.string.injEq]at h2;exact h (by rw[<-h2.1];exact Aw (IW h1))
theorem pi(h:r.path∉AW y []):EX (SZ y) (.string r.path) (.slice (.id ((AW y []).length+50) 9) [AF r])=SZ (y++[r]):=by
 rw[M1 (fun a=>ZR h a)];unfold SZ;rw[JQ h,List.zipIdx_append,Ar]
 congr 1
 .refine Bh fun q hq=>?_;have hg:=IW hq
  have:q.1≠r.path:=fun e=>h (by rw[<-e];exact Aw hg)
  show(Value.string q.1,AV.slice (.id (q.2+50) 9) (N9 y q.1))=(Value.string q.1,AV.slice (.id (q.2+50) 9) (N9 (y++[r]) q.1));rw[Ja,Ai (fun e=>this e.symm)]
 .show [_]=[(Value.string r.path,AV.slice (.id (0+(AW y []).length+50) 9) (N9 (y++[r]) r.path))];rw[Ja,Al rfl,fu h,Bf];rfl
theorem lj{j:Nat}(h:(AW y [])[j]?=some p):(Value.string p,AV.slice (.id (j+50) 9) (N9 y p))∈SZ y/\∀b,(Value.string p,b)∈SZ y->b=AV.slice (.id (j+50) 9) (N9 y p):=by
 refine⟨Ag.2 ⟨(p,j),FK.2 h,rfl⟩,fun b hb=>?_⟩;obtain⟨q,h1,h2⟩:=Ag.1 hb;simp only[lg,F4,Value.string.injEq]at h2;have hg:=IW h1;rw[h2.1]at hg
 have:=JO (Fc y [] Fu) hg h
 rw[<-h2.2,h2.1,this]
theorem nw{j:Nat}(h:(AW y [])[j]?=some p):Kn y j=.tok 9 (N9 y p).length:=by
 unfold Kn;rw[h]
theorem qL(h:(AW y [])[k]?=some r.path)(l:Nat):(bif Nat.beq (l+50) (k+50)then HO.tok 9 ((N9 y r.path).length+1)else Kn y l)=Kn (y++[r]) l:=by
 by_cases he:l=k
 .subst he;rw[show Nat.beq (l+50) (l+50)=true from Di _];unfold Kn;rw[JR h,h];show HO.tok 9 _=HO.tok 9 (N9 (y++[r]) r.path).length;rw[Ja,Al rfl,Ac];rfl
 .rw[show Nat.beq (l+50) (k+50)=false by rw[AM];intro hc;have:=AK hc;omega];show Kn y l=_;unfold Kn;rw[JR h];cases hq:(AW y [])[l]? with
  |none=>rfl
  |some q =>
   show HO.tok 9 (N9 y q).length=HO.tok 9 (N9 (y++[r]) q).length;rw[Ja,Ai];intro e;subst e;exact he (JO (Fc y [] Fu) hq h)
theorem qK(h:r.path∉AW y [])(l:Nat):(bif Nat.beq (l+50) ((AW y []).length+50)then HO.tok 9 1 else Kn y l)=Kn (y++[r]) l:=by
 by_cases he:l=(AW y []).length
 .subst he;rw[show Nat.beq ((AW y []).length+50) ((AW y []).length+50)=true from Di _];unfold Kn;rw[JQ h];simp only[AZ (Aj _),E1,Be];show HO.tok 9 1=HO.tok 9 (N9 (y++[r]) r.path).length;rw[Ja,Al rfl,fu h];rfl
 .rw[show Nat.beq (l+50) ((AW y []).length+50)=false by rw[AM];intro hc;have:=AK hc;omega];show Kn y l=_;unfold Kn;rw[JQ h]
  by_cases hl:l<(AW y []).length
  .rw[AY hl,Ge hl];show HO.tok 9 (N9 y (AW y [])[l]).length=HO.tok 9 (N9 (y++[r]) (AW y [])[l]).length;rw[Ja,Ai];intro e;exact h (by rw[e];exact Aq hl)
  .rw[A6 ch,A6 (by rw[Ac];simp;omega)]
end
theorem QX{h:Nat->HO}:∀{B7:List (Value×AV)},(∀p∈B7,VQ h p.2=true)->Sb h B7=true
 | [],_=>rfl
 |p::r,hk=>by
  unfold Sb;rw[hk p (Ab ..)];exact QX (fun q hq=>hk q (Ah _ hq))
theorem LZ(hh:∀l,h (l+50)=Kn y l):Sb h (SZ y)=true:=by
 refine QX fun p hp=>?_;obtain⟨q,h1,rfl⟩:=Ag.1 hp;show SJ h (q.2+50)=true;unfold SJ;rw[hh,nw (IW h1)]
theorem J4{y:List Rl}{h':Nat->HO}(hh:∀l,h (l+50)=Kn y l)(j:Nat):WM y j=.free\/(h j=WM y j/\SK h' (WM y j)=true):=by
 by_cases hj:j<50
 .exact .inl (th y hj)
 .obtain⟨l,rfl⟩:∃l,j=l+50:=⟨j-50,by omega⟩
  right
  rw[Ij];refine⟨hh l,?_⟩;unfold Kn;cases (AW y [])[l]?<;>rfl
theorem qv{x:List Rl}(hx:A4 x=0){i:Nat}(hi:i<x.length):EX ((x.take i).map Vw) (Sf (Gc x[i])) (.agg (AF x[i]))=(x.take (i+1)).map Vw:=by
 rw[M1]
 .rw[Bi,Ge hi,Ar];rfl
 intro a ha;obtain⟨r,hr,he,_⟩:=eT ha;obtain⟨j,hj,e2⟩:=Cf.1 hr;rw[Av]at hj;rw[GE]at e2;have hp:=(Cw hx).2
 have:=(AX.1 hp) j i ch hi ch
 rw[e2]at this;exact HD this he
abbrev x8:SB:=⟨[],[],[],[],[8,9],[9],[40],[],[],[],[8,9,10,11]⟩
abbrev zT:List AV:=[.v (.map none),.v (.map none)]
theorem oZ(td:PC 86 [Mo x ifs] (vi (A4 x)))(h0:A4 x≠0):jE x ifs:=by
 have ht:VW x=.tup [.agg [.cmap Y2 [],.cmap Cm []],vi (A4 x)]:=by unfold VW;rw[Ai h0]
 unfold jE;rw[ht];refine Ps x8 Tryz.func82 rfl (Nz rfl) (Xi 0 (Xi 0 (yN (Xi 0 (yN (Xi .pure (Xi _ (Yi (td) (Xi 0 (Yi ?_ ?_))))))))))
 .intro _;refine Xi 0 (yN (yN (yN ?_)));exact .refl _
 .intro h;exact absurd h (fun hc=>hc h0)
theorem HW:∀(y:List Rl) (acc:List ByteArray),(AW y acc).length<=acc.length+y.length
 | [],acc=>by simp[AW]
 |r::y,acc=>by
  rw[AW];refine AJ (HW y _) ?_;split
  .simp only[Ak];omega
  .simp only[Ac,Ak,At];omega
section
attribute [local irreducible] IR
theorem sV(td:PC 86 [Mo x ifs] (vi (A4 x)))(h0:A4 x=0)(CL:x.length<=256):jE x ifs:=by
 have ht:VW x=.tup [.agg [.cmap Y2 (x.map Vw),.cmap Cm ((AW x []).map (pP x))],vi 0]:=by unfold VW;rw[Al h0]
 unfold jE;rw[ht];rw[h0]at td;refine Ps x8 Tryz.func82 rfl (Nz rfl) (Xi 0 (Xi 0 (yN (Xi 0 (yN (Xi .pure (Xi _ (Yi (td) (Xi 0 (Yi ?_ ?_))))))))))
 .intro hc;exact absurd (show(0:Int)≠0 from hc) Cl
 intro _;refine Xi 0 (Xi {i:Nat // i<=x.length} (Xi (fun i=>⟨[(2,.ref 2 0),(4,.ref 4 0),(18,sl AF x),(19,vi (x.map AF).length),(20,vi i.1)],[(2,.cells zT),(4,.cells [.mref 8,.mref 9]),(8,.map Y2 ((x.take i.1).map Vw)),(9,.mapU Cm (SZ (x.take i.1)))],WM (x.take i.1)⟩) (Xi (fun i=>x.length-i.1) (Yi (Xi ⟨0,AE _⟩ ?_) ?_))))
 .refine⟨Z5,Z4,fun j=>.inl ?_,Tv⟩;show WM [] j=.free;unfold WM;cases Nat.ble 50 j<;>rfl
 intro⟨i,i1⟩;refine Xi 0 (Yi ?_ ?_)
 .intro h;have h:i<x.length:=by simpa using h
  have hg:x[i]?=some x[i]:=Ge h;have Lq:x.take (i+1)=x.take i++[x[i]]:=by rw[Bi,hg];rfl
  refine Xi 0 (Xi (AF x[i]) (Yi (Yi (Nn i) (by simp[hg])) (Yi rfl ?_)));refine Yi (Nz rfl) (yN (Xi ⟨[(2,.ref 2 0),(4,.ref 4 0),(7,.ref 7 0),(18,sl AF x),(19,vi (x.map AF).length),(20,vi i)],[(2,.cells zT),(4,.cells [.mref 8,.mref 9]),(7,.cells (AF x[i])),(8,.map Y2 ((x.take i).map Vw)),(9,.mapU Cm (SZ (x.take i)))],WM (x.take i)⟩ (Yi ?_ ?_)))
  .exact⟨Z6,⟨Zr,Zr,Zr,Zr,⟨rfl,LZ _ (Ij _)⟩,Tv⟩,J4 (Ij _),Tv⟩
  refine Xi 0 (yN (Xi _ (Yi (sI x[i]) (yN (Yi Wk ?_)))));have e8:EX ((x.take i).map Vw) (Sf (Gc x[i])) (.agg (AF x[i]))=(x.take (i+1)).map Vw:=qv h0 h;refine Xi ⟨[(2,.ref 2 0),(4,.ref 4 0),(7,.ref 7 0),(18,sl AF x),(19,vi (x.map AF).length),(20,vi i)],[(2,.cells zT),(4,.cells [.mref 8,.mref 9]),(7,.cells (AF x[i])),(8,.map Y2 ((x.take (i+1)).map Vw)),(9,.mapU Cm (SZ (x.take i)))],WM (x.take i)⟩ (Yi ?_ ?_)
  .exact⟨Z6,⟨Zr,Zr,Zr,⟨Aa (HO.map Y2) e8,rfl⟩,⟨rfl,LZ _ (Ij _)⟩,Tv⟩,J4 (Ij _),Tv⟩
  have hL:((x.take i).filter (fun r=>decide (r.path=x[i].path))).length<=256:=by
   have:=Bq (fun r:Rl=>decide (r.path=x[i].path)) (x.take i)
   rw[Av]at this;omega
  have hP:∀l,WM (x.take i) (l+50)=Kn (x.take i) l:=Ij _;refine B8 (Classical.em (x[i].path∈AW (x.take i) [])) (fun hp=>?_) (fun hp=>?_)
  .refine CN (Ck.1 hp) (fun k hk=>?_);have hu:=lj hk;refine Xi 0 ?_;refine Or.inl (Xi (.slice (.id (k+50) 9) (N9 (x.take i) x[i].path)) (Yi hu ?_));refine yN ?_;have hr:WM (x.take i) (k+50)=.tok 9 (N9 (x.take i) x[i].path).length:=by rw[hP,nw hk]
   have hl:(N9 (x.take i) x[i].path).length<=256:=by rw[Lm];exact hL
   refine RN (e:=78) (m:=8) (es2:=[AF x[i]]) rfl rfl rfl (fun _ h=>h) hr ⟨rfl,trivial⟩ (by show(_+1)*120<=_;omega) (by show _+1<=_;omega) ?_;have xl:k<256:=by
    have:=(Au.1 hk).1
    have:=HW (x.take i) []
    rw[Av]at this;simp only[At]at this;omega
   have tE:=hk;refine Yi (JD ⟨A2 _,A2 _,A2 _,A2 _,A2 _,A2 _,A2 _,A2 _,A2 _,A2 _,Eo (show 39<10000000 by decide),Eo (by show _+50<10000000;omega),Eo (show 9<10000000 by decide),trivial⟩ Wk) ?_;have e9:EX (SZ (x.take i)) (.string x[i].path) (.slice (.id (k+50) 9) (N9 (x.take i) x[i].path++[AF x[i]]))=SZ (x.take (i+1)):=by rw[Lq];exact pj tE
   have hG:∀l,(bif Nat.beq (l+50) (k+50)then HO.tok 9 ((N9 (x.take i) x[i].path).length+1)else Kn (x.take i) l)=Kn (x.take (i+1)) l:=by rw[Lq];exact qL tE
   refine Xi ⟨[(2,.ref 2 0),(4,.ref 4 0),(18,sl AF x),(19,vi (x.map AF).length),(20,vi i)],[(2,.cells zT),(4,.cells [.mref 8,.mref 9]),(8,.map Y2 ((x.take (i+1)).map Vw)),(9,.mapU Cm (SZ (x.take (i+1))))],WM (x.take (i+1))⟩ (Yi ?_ ?_)
   .refine⟨Z5,⟨Zr,Zr,Zr,⟨Aa (HO.mapU Cm) e9,LZ _ (Ij _)⟩,Tv⟩,J4 (fun l=>?_),Tv⟩;show(bif Nat.beq (l+50) (k+50)then HO.tok 9 ((N9 (x.take i) x[i].path).length+1)else WM (x.take i) (l+50))=_;rw[hP];exact hG l
   refine Xi 0 (Yi (Ii i ch) (Xi ⟨i+1,by omega⟩ ?_));exact⟨Dl x.length i ch,Z5,⟨Zr,Zr,Zr,⟨rfl,LZ _ (Ij _)⟩,Tv⟩,J4 (Ij _),Tv⟩
  .have tE:=hp;have Mm:(AW (x.take i) []).length<=256:=by
    have:=HW (x.take i) []
    rw[Av]at this;simp only[At]at this;omega
   have hn:=ZR hp;refine Xi ((AW (x.take i) []).length+50) ?_;refine Or.inr (Yi hn ?_);refine yN ?_;have hr:WM (x.take i) ((AW (x.take i) []).length+50)=.free:=by
    rw[hP];unfold Kn;rw[A6 (Aj _)]
   refine RM (e:=78) (m:=8) (es2:=[AF x[i]]) rfl rfl rfl (fun _ h=>h) hr rfl ⟨rfl,trivial⟩ (by show 1*120<=_;omega) (by show 1<=_;omega) (Yi (JD ⟨A2 _,A2 _,A2 _,A2 _,A2 _,A2 _,A2 _,A2 _,A2 _,A2 _,Eo (show 39<10000000 by decide),Eo (by show _+50<10000000;omega),Eo (show 9<10000000 by decide),trivial⟩ Wk) ?_);have e9:EX (SZ (x.take i)) (.string x[i].path) (.slice (.id ((AW (x.take i) []).length+50) 9) [AF x[i]])=SZ (x.take (i+1)):=by rw[Lq];exact pi tE
   have hG:∀l,(bif Nat.beq (l+50) ((AW (x.take i) []).length+50)then HO.tok 9 1 else Kn (x.take i) l)=Kn (x.take (i+1)) l:=by rw[Lq];exact qK tE
   refine Xi ⟨[(2,.ref 2 0),(4,.ref 4 0),(18,sl AF x),(19,vi (x.map AF).length),(20,vi i)],[(2,.cells zT),(4,.cells [.mref 8,.mref 9]),(8,.map Y2 ((x.take (i+1)).map Vw)),(9,.mapU Cm (SZ (x.take (i+1))))],WM (x.take (i+1))⟩ (Yi ?_ ?_)
   .refine⟨Z5,⟨Zr,Zr,Zr,⟨Aa (HO.mapU Cm) e9,LZ _ (Ij _)⟩,Tv⟩,J4 (fun l=>?_),Tv⟩;show(bif Nat.beq (l+50) ((AW (x.take i) []).length+50)then HO.tok 9 1 else WM (x.take i) (l+50))=_;rw[hP];exact hG l
   refine Xi 0 (Yi (Ii i ch) (Xi ⟨i+1,by omega⟩ ?_));exact⟨Dl x.length i ch,Z5,⟨Zr,Zr,Zr,⟨rfl,LZ _ (Ij _)⟩,Tv⟩,J4 (Ij _),Tv⟩
 .intro h;have h:¬i<x.length:=by simpa using h
  have et:x.take i=x:=As ch;refine Xi ⟨[(2,.ref 2 0),(4,.ref 4 0)],[(2,.cells zT),(4,.cells [.mref 8,.mref 9]),(8,.map Y2 ((x.take i).map Vw)),(9,.mapU Cm (SZ (x.take i)))],WM (x.take i)⟩ (Yi ?_ ?_)
  .exact⟨Z2,⟨Zr,Zr,Zr,⟨rfl,LZ _ (Ij _)⟩,Tv⟩,J4 (Ij _),Tv⟩
  refine Xi 0 (yN (yN (yN ?_)));have es:∀h:Nat->HO,SQ h (SZ (x.take i))=(AW x []).map (pP x):=fun h=>by
   rw[et];unfold SQ SZ;rw[Bo];refine Do fun j=>?_;rw[AG,AG,List.getElem?_zipIdx];cases (AW x [])[j]?<;>rfl
  have e1:(x.take i).map Vw=x.map Vw:=by rw[et]
  exact .of_eq (show AV.tup [.agg [.cmap Y2 ((x.take i).map Vw),.cmap Cm (SQ _ (SZ (x.take i)))],vi 0]=_ by rw[e1,es])
end
theorem c84(hx:∀r∈x,Eu r):jE x ifs:=by
 by_cases h0:A4 x=0
 .exact sV x ifs (vq VH x ifs hx) h0 (L3 h0).1
 .exact oZ x ifs (vq VH x ifs hx) h0
abbrev plT(n:Nat):SB:=⟨[],[(2,n)],[],[],[],[],[5],[],[],[],[2,3]⟩
theorem sU(l:List Sl)(hl:B9 l):A9 Tryz.prog 138 [sl Am l] (Ao [] Af) fun r h'=>r=.slice (.id 2000 4) (l.map Am)/\h'=Ao [(2000,.tok 4 (l.map Am).length)] Af:=by
 refine Cq (MK (plT 4)) [(2,2000)] rfl CQ hm rfl Tryz.func138 Wk rfl (Nz rfl) Wk rfl ?_;have Ho:Cn 4 (l.map Am)/\([]:List (List AV)).length=0/\(([]:List (List AV)).length+(l.map Am).length)*40<=140737488355328/\([]:List (List AV)).length+(l.map Am).length<=9223372036854775807:=by
  refine⟨DZ (enc:=Am) (n:=4) (fun _=>rfl) l,rfl,?_,?_⟩<;>simp only[At,Lm]<;>unfold B9 at hl<;>omega
 have e2:HO.tok 4 (([]:List (List AV)).length+(l.map Am).length)=.tok 4 (l.map Am).length:=by rw[At,Bf]
 have e3:AV.slice (.id 2000 4) ([]++l.map Am)=.slice (.id 2000 4) (l.map Am):=rfl;refine Xi 0 (Xi 0 (Yi ?_ ?_))
 .intro _;refine cU [(0,sl Am l)] [] Z1 Tv (Xi 2 (Yi Ho ?_));exact Xi _ (Yi (.refl _) (Yi e3 (Aa (fun o=>Ao [(2000,o)] Af) e2)))
 .intro h;refine Yi ?_ ?_
  .refine Xi ⟨[],[],Af⟩ (Yi ⟨trivial,trivial,fun _=>.inl rfl,BN Wk⟩ ?_);refine Xi 0 ?_;exact Xi _ (Yi (.refl _) (Yi (show AV.slice (.id 2000 4) []=_ by rw[h]) (show Ao [(2000,HO.tok 4 0)] Af=_ by rw[h];rfl)))
  .refine cU [(0,sl Am l)] [] Z1 Tv (Xi 2 (Yi Ho ?_));exact Xi _ (Yi (.refl _) (Yi e3 (Aa (fun o=>Ao [(2000,o)] Af) e2)))
structure Lim(x:List Rl)(roots:List Rq):Prop where
 ix:B9 x
 rs:B9 roots
 rel:∀r∈x,B9 r.reqs/\Eu r
 rq:∀q∈roots,JT q
end Go.Eng
namespace Go.Eng
variable {i:Nat}{tl:List AV}{m:Nat}(x a w:Int)(s:ByteArray)(ws:List Int)(k b:Int)
abbrev EV:AV:=.v (.int .u32 x)
theorem Ht{cs r:List AV}{a:AV}{K:AV->Prop}(h:cs=a::r)(k:K a):Ml cs K:=by rw[h];exact k
theorem Pr{l:List AV}{n:Nat}{a:AV}(h:l[n]?=some a)(e:m=n):l.drop m=a::l.drop (n+1):=by
 subst e;obtain⟨h1,h2⟩:=Au.1 h;rw[<-h2];exact AH h1
theorem rP{a:AV}:∀{l:List AV} {n:Nat},over l n [a]=l.set n a
 | [],_=>rfl
 |c::l,0=>by cases l<;>rfl
 |c::l,n+1=>by show c::over l n [a]=_;rw[rP (l:=l)];rfl
def jk:Int:=Jq .or .u32 (Gx .shl .u32 x (Jq .and .u64 (IntKind.wrap .u64 k) 31)) (Gx .shr .u32 x (IntKind.wrap .u64 (32-Jq .and .u64 (IntKind.wrap .u64 k) 31)))
def xr:Int:=Jq .xor .u32 a b
def an:Int:=Jq .and .u32 a b
def nt:Int:=Jq .xor .u32 4294967295 a
def ad:Int:=IntKind.wrap .u32 (a+b)
def t7(c:Int):Int:=xr (xr (jk x (-a)) (jk x (-b))) (jk x (-c))
def md(s:Int):Int:=xr (xr (jk x (-a)) (jk x (-b))) (Gx .shr .u32 x s)
def Ol(i:Nat):UInt8:=s.data[i]?.getD 0
def Sz(s:ByteArray)(i:Nat):Nat->Int
 |0=>0
 |k+1=>Jq .or .u32 (Gx .shl .u32 (Sz s i k) 8) (IntKind.wrap .u32 ((Ol s (4*i+k)).toNat:Int))
def Y3(i:Nat):Int:=ws[i]?.getD 0
def aD(i:Nat):Int :=
 if i<16 then Sz s i 4 else ad (ad (ad (md (Y3 ws (i-2)) 17 19 10) (Y3 ws (i-7))) (md (Y3 ws (i-15)) 7 18 3)) (Y3 ws (i-16))
def Gf(s:ByteArray):Nat->List Int
 |0=>[]
 |i+1=>Gf s i++[aD s (Gf s i) i]
theorem Kh(s:ByteArray):∀i,(Gf s i).length=i
 |0=>rfl
 |i+1=>by rw[Gf,Ac,Kh s i];rfl
theorem dF{ws:List Int}(h:i<ws.length):ws[i]?=some (Y3 ws i):=by rw[Y3,Ge h];rfl
structure S8 where
 (a b c d e f g h:Int)
def S8.l(v:S8):List Int:=[v.a,v.b,v.c,v.d,v.e,v.f,v.g,v.h]
abbrev Zw(v:S8):List AV:=[EV v.a,EV v.b,EV v.c,EV v.d,EV v.e,EV v.f,EV v.g,EV v.h]
def rT1(v:S8):Int:=ad (ad (ad (ad v.h (t7 v.e 6 11 25)) (xr (an v.e v.f) (an (nt v.e) v.g))) k) w
def rT2(v:S8):Int:=ad (t7 v.a 2 13 22) (xr (xr (an v.a v.b) (an v.a v.c)) (an v.b v.c))
def AcW(v:S8):S8:=⟨ad (rT1 w k v) (rT2 v),v.a,v.b,v.c,ad v.d (rT1 w k v),v.e,v.f,v.g⟩
def Vc(ws ks:List Int)(v:S8):Nat->S8
 |0=>v
 |i+1=>AcW (Y3 ws i) (Y3 ks i) (Vc ws ks v i)
def vS(v r:S8):S8:=⟨ad v.a r.a,ad v.b r.b,ad v.c r.c,ad v.d r.d,ad v.e r.e,ad v.f r.f,ad v.g r.g,ad v.h r.h⟩
def kK:List Int:=[0x428a2f98,0x71374491,0xb5c0fbcf,0xe9b5dba5,0x3956c25b,0x59f111f1,0x923f82a4,0xab1c5ed5,
 0xd807aa98,0x12835b01,0x243185be,0x550c7dc3,0x72be5d74,0x80deb1fe,0x9bdc06a7,0xc19bf174,
 0xe49b69c1,0xefbe4786,0x0fc19dc6,0x240ca1cc,0x2de92c6f,0x4a7484aa,0x5cb0a9dc,0x76f988da,
 0x983e5152,0xa831c66d,0xb00327c8,0xbf597fc7,0xc6e00bf3,0xd5a79147,0x06ca6351,0x14292967,
 0x27b70a85,0x2e1b2138,0x4d2c6dfc,0x53380d13,0x650a7354,0x766a0abb,0x81c2c92e,0x92722c85,
 0xa2bfe8a1,0xa81a664b,0xc24b8b70,0xc76c51a3,0xd192e819,0xd6990624,0xf40e3585,0x106aa070,
 0x19a4c116,0x1e376c08,0x2748774c,0x34b0bcb5,0x391c0cb3,0x4ed8aa4a,0x5b9cca4f,0x682e6ff3,
 0x748f82ee,0x78a5636f,0x84c87814,0x8cc70208,0x90befffa,0xa4506ceb,0xbef9a3f7,0xc67178f2]
def uv(v:S8)(s:ByteArray):S8:=vS v (Vc (Gf s 64) kK v 64)
def Sn(v r:S8)(i:Nat)(tl:List AV):List AV :=
 EV (if 0<i then ad v.a r.a else v.a)::EV (if 1<i then ad v.b r.b else v.b)::EV (if 2<i then ad v.c r.c else v.c)::EV (if 3<i then ad v.d r.d else v.d) ::
 EV (if 4<i then ad v.e r.e else v.e)::EV (if 5<i then ad v.f r.f else v.f)::EV (if 6<i then ad v.g r.g else v.g)::EV (if 7<i then ad v.h r.h else v.h)::tl
def Ji(v:S8)(b:ByteArray):S8×ByteArray :=
 if 64<=b.size then Ji (uv v (b.extract 0 64)) (b.extract 64 b.size)else(v,b)
termination_by b.size
decreasing_by simp only[HY];omega
def iv0:S8:=⟨1779033703,3144134277,1013904242,2773480762,1359893119,2600822924,528734635,1541459225⟩
structure HS where
 v:S8
 rest:ByteArray
 tot:Int
abbrev Gz(x:HS):List AV:=[EV x.v.a,EV x.v.b,EV x.v.c,EV x.v.d,EV x.v.e,EV x.v.f,EV x.v.g,EV x.v.h,vs x.rest,.v (.int .u64 x.tot)]
def Hh(x:HS)(s:ByteArray):HS:=⟨(Ji x.v (x.rest++s)).1,(Ji x.v (x.rest++s)).2,IntKind.wrap .u64 (x.tot+IntKind.wrap .u64 (s.size:Int))⟩
def Kv(n:Int):ByteArray:=⟨((List.range 8).map fun(i:Nat)=>UInt8.ofNat (IntKind.wrap .u8 (Gx .shr .u64 n (56-8*(i:Int)))).toNat).toArray⟩
def GT:List UInt8:=[UInt8.ofNat (IntKind.wrap .u8 (Gx .shr .u32 x 24)).toNat,UInt8.ofNat (IntKind.wrap .u8 (Gx .shr .u32 x 16)).toNat,UInt8.ofNat (IntKind.wrap .u8 (Gx .shr .u32 x 8)).toNat,UInt8.ofNat (IntKind.wrap .u8 x).toNat]
def r7(n:Nat):ByteArray:=⟨(List.replicate n 0).toArray⟩
def E3(x:HS):ByteArray:=(⟨#[128]⟩++r7 ((119-(x.rest.size:Int)) % 64).toNat)++Kv (IntKind.wrap .u64 (8*x.tot))
def qI(x:HS):ByteArray:=⟨(((Hh x (E3 x)).v.l).flatMap GT).toArray⟩
def SL:HS:=⟨iv0,⟨#[]⟩,0⟩
def Qu(x:HS)(l:List ByteArray):HS:=l.foldl (fun x s=>Hh (Hh x (Kv (IntKind.wrap .u64 (s.size:Int)))) s) x
def fP(tag:ByteArray)(l:List ByteArray):ByteArray:=qI (Qu (Hh SL (Kv (IntKind.wrap .u64 (tag.size:Int))++tag)) l)
theorem ku{b:Bool}{p:Prop}(h:b=true)(k:p):(match(generalizing:=false) b with | true=>p | false=>False):=by subst h;exact k
theorem mapU(h:Nat->HO):∀ws:List Int,(ws.map EV).map (str0 h)=ws.map EV
 | []=>rfl
 |_::ws=>Aa (_ :: ·) (mapU h ws)
theorem Adl{h:Nat->HO}{l:List AV}{ws:List Int}(e:l=ws.map EV):CZ (.agg (l.map (str0 h))) (.agg (ws.map EV)):=by
 rw[e,mapU];exact .refl _
theorem sv{l:List AV}{a:AV}{n:Nat}(h:l.length=n):(l++a::tl)[n]?=some a:=by
 subst h;rw[AZ (Aj _),E1];rfl
theorem Yw{ws:List Int}(h:i<ws.length):(ws.map EV++tl)[i]?=some (EV (Y3 ws i)):=by
 rw[AY (by rw[Lm];exact h),AG,dF h];rfl
theorem Yx{ws:List Int}(h:i<ws.length):(ws.map EV)[i]?=some (EV (Y3 ws i)):=by
 rw[AG,dF h];rfl
theorem Qf{a b:AV}{tl:List AV}:∀{l:List AV} {n:Nat},l.length=n->over (l++a::tl) n [b]=l++b::tl
 | [],_,rfl=>by cases tl<;>rfl
 |c::l,_,rfl=>by show c::over (l++a::tl) l.length [b]=_;rw[Qf rfl];rfl
theorem M5:∀{z l:List AV},z.length=l.length->over z 0 l=l
 | [],[],_=>rfl
 | [],_::_,h=>by cases h
 |_::_,[],h=>by cases h
 |_::z,b::l,h=>by show b::over z 0 l=_;rw[M5 (Nat.succ.inj h)]
theorem dT{s:ByteArray}{z:Int}{n:Nat}(h:n<s.size)(e:z=(n:Int)):(0:Int)<=z/\s.data[z.toNat]?=some (Ol s n):=by
 subst e;refine⟨OV n,?_⟩;have h:n<s.data.size:=h;rw[Cb,Ol,A5 h];rfl
def S8.n(v:S8)(i:Nat):Int:=Y3 v.l i
theorem rh{v:S8}(h:i<8)(e:m=i):(Zw v).drop m=EV (v.n i)::(Zw v).drop (i+1) :=
 Pr (Yx (ws:=v.l) h) e
theorem kN{v r:S8}(h:i<8)(e:m=i):(Sn v r i tl).drop m=EV (v.n i)::(Sn v r i tl).drop (i+1):=by
 refine Pr ?_ e
 match i,h with
 |0,_ |1,_ |2,_ |3,_ |4,_ |5,_ |6,_ |7,_=>rfl
theorem mJ{v r:S8}(h:i<8)(e:m=i):over (Sn v r i tl) m [EV (ad (v.n i) (r.n i))]=Sn v r (i+1) tl:=by
 subst e;rw[rP]
 match m,h with
 |0,_ |1,_ |2,_ |3,_ |4,_ |5,_ |6,_ |7,_=>rfl
theorem fH{n:Nat}(h:n<64):List.replicate (64-n) (EV 0)=EV 0::List.replicate (64-(n+1)) (EV 0):=by
 rw[show 64-n=(64-(n+1))+1 by omega];rfl
theorem aZ{s:ByteArray}{x:Int}(h:x=aD s (Gf s i) i):(Gf s i).map EV++EV x::List.replicate (64-(i+1)) (EV 0)=(Gf s (i+1)).map EV++List.replicate (64-(i+1)) (EV 0):=by
 rw[h,Gf,Ar,BA];rfl
theorem tR(h:Nat->HO)(tl:List AV):∀ws:List Int,Yp h (ws.map EV++tl)=Yp h tl
 | []=>rfl
 |_::ws=>tR h tl ws
theorem tQ(h:Nat->HO):∀n:Nat,Yp h (List.replicate n (EV 0))=true
 |0=>rfl
 |n+1=>tQ h n
theorem cJ(h:Nat->HO):∀ws:List Int,SK h (.cells (ws.map EV))=true
 | []=>rfl
 |_::ws=>cJ h ws
theorem tT(h:Nat->HO)(ws:List Int)(n:Nat):SK h (.cells (ws.map EV++List.replicate n (EV 0)))=true:=(tR h _ ws).trans (tQ h n)
theorem xO(h:Nat->HO)(ws:List Int)(x:Int)(n:Nat):SK h (.cells (ws.map EV++EV x::List.replicate n (EV 0)))=true:=(tR h _ ws).trans (tQ h n)
theorem Vf(i:Nat):((Gf s i).map EV).length=i:=by rw[Lm,Kh]
end Go.Eng
namespace Go.Eng
open Go.Proofs
variable {α:Type}{f:α->List AV}{l O:List α}{args:List AV}{i n:Nat}(a:Int)
theorem A9.to2{P:Program}{f:Nat}{h0:Nat->HO}{r0:AV}{H0:Nat->HO}{Q' : AV->(Nat->HO)->Prop}(h:A9 P f args h0 fun r h'=>r=r0/\h'=H0)(k:Q' r0 H0):A9 P f args h0 Q' :=
 h.mono fun r h' q=>⟨r,.refl _,by rw[q.1,q.2];exact k⟩
theorem cb{f:Nat}{b x:Bool}(h:b=x)(hc:PC f args (vb b)):PC f args (vb x):=h▸hc
theorem FW(h:(i:Int)<((l.map f).length:Int)):i<l.length:=by rw[Lm]at h;omega
theorem DT(h:¬(i:Int)<((l.map f).length:Int)):¬i<l.length:=by rw[Lm]at h;omega
theorem LH(h:i<l.length):(0:Int)<=(i:Int)/\(l.map f)[((i:Nat):Int).toNat]?=some (f l[i]):=⟨OV _,by rw[Cb,AG,Ge h];rfl⟩
theorem jF{z:Nat}{x:List AV}(hx:x.length=n)(h:O.length<=2147483647)(hz:z<=65536) :
  Cn n [x]/\(O.map f).length=O.length/\((O.map f).length+([x]:List (List AV)).length)*z<=140737488355328/\(O.map f).length+([x]:List (List AV)).length<=9223372036854775807:=by
 refine⟨⟨hx,trivial⟩,Lm _,?_,?_⟩<;>rw[Lm]<;>simp only[Ak,At]
 .have:=Nat.mul_le_mul (show O.length+(0+1)<=2147483648 by omega) hz
  omega
 .omega
theorem tkA{x:α}{r:Nat}:AV.slice (.id r n) (O.map f++[f x])=.slice (.id r n) ((O++[x]).map f):=by rw[Ar];rfl
theorem hkA{x:α}{y:List AV}:HO.tok n ((O.map f).length+([y]:List (List AV)).length)=.tok n (O++[x]).length:=by rw[Ac,Lm];rfl
theorem Vt:0<=IntKind.wrap .u64 a:=Wa _ Cl
theorem kf(b:Int):0<=Jq .and .u64 a b:=Vt _
theorem bp(x k:Int):PC 201 [.v (.int .u32 x),vi k] (.v (.int .u32 (jk x k))):=by
 refine Ps Ee Tryz.func201 rfl (Nz rfl) (Yi (kf _ _) (Yi (Vt _) ?_));exact .refl _
theorem nO(x a b c:Int)(ha:0<=a/\a<=64)(hb:0<=b/\b<=64)(hc:0<=c):PC 266 [.v (.int .u32 x),vi a,vi b,vi c] (.v (.int .u32 (md x a b c))):=by
 refine Ps Ee Tryz.func266 rfl (Nz rfl) (Yi (by show A7 (-a);unfold A7;omega) (Xi _ (Yi (bp x (-a)) (Yi (by show A7 (-b);unfold A7;omega) (Xi _ (Yi (bp x (-b)) (Yi hc (Yi Wk ?_))))))));exact .refl _
theorem nN(x a b c:Int)(ha:0<=a/\a<=64)(hb:0<=b/\b<=64)(hc:0<=c)(hd:c<=64):PC 200 [.v (.int .u32 x),vi a,vi b,vi c] (.v (.int .u32 (t7 x a b c))):=by
 refine Ps Ee Tryz.func200 rfl (Nz rfl) (Yi (by show A7 (-a);unfold A7;omega) (Xi .pure (Xi _ (Yi (bp x (-a)) (Yi (by show A7 (-b);unfold A7;omega) (Xi .pure (Xi _ (Yi (bp x (-b)) (Yi (by show A7 (-c);unfold A7;omega) (Xi .pure (Xi _ (Yi (bp x (-c)) ?_))))))))))));exact .refl _
set_option maxRecDepth 100000 in
theorem qU  : PC 203 [] (.agg (kK.map EV)):=by
 refine Ps Ee Tryz.func203 rfl (Nz rfl) (yN (yN ?_));exact .refl _
theorem y9(s:ByteArray)(hs:s.size=64):PC 202 [vs s] (.agg ((Gf s 64).map EV)):=by
 refine Ps Ee Tryz.func202 rfl (Nz rfl) (Xi {q:Nat // q<=64} (Xi (fun q=>⟨[(0,vs s),(2,.ref 2 0),(3,.ref 3 0),(4,.v (.func (.func 266) #[] #[])),(7,vi q.1)],[(2,.cells (List.replicate 64 (EV 0))),(3,.cells ((Gf s q.1).map EV++List.replicate (64-q.1) (EV 0)))],Af⟩) (Xi (fun q=>64-q.1) (Yi (Xi ⟨0,AE _⟩ ?_) ?_))))
 .exact⟨Z5,⟨Zr,⟨rfl,(tT _ _ _)⟩,Tv⟩,Fh,Tv⟩
 intro⟨i,i1⟩;have i1:i<=64:=i1;refine Yi (fun h1=>?_) (fun h1=>?_)
 .have h1:(i:Int)<(64:Int):=h1;refine Yi (fun h2=>?_) (fun h2=>?_)
  .have h2:(i:Int)<(16:Int):=h2;refine Xi {q:Nat // q<=4} (Xi (fun q=>⟨[(0,vs s),(2,.ref 2 0),(3,.ref 3 0),(4,.v (.func (.func 266) #[] #[])),(5,vi i),(7,vi i),(12,vi q.1)],[(2,.cells (List.replicate 64 (EV 0))),(3,.cells ((Gf s i).map EV++EV (Sz s i q.1)::List.replicate (64-(i+1)) (EV 0)))],Af⟩) (Xi (fun q=>4-q.1) (Yi (Xi ⟨0,AE _⟩ ?_) ?_)))
   .exact⟨Z7,⟨Zr,⟨(Aa (fun z=>HO.cells ((Gf s i).map EV++z)) (fH (show i<64 by omega))),(xO _ _ _ _)⟩,Tv⟩,Fh,Tv⟩
   intro⟨k,k1⟩;have k1:k<=4:=k1;refine Yi (fun h3=>?_) (fun h3=>?_)
   .have h3:(k:Int)<(4:Int):=h3;refine Yi (show(0:Int)<=i/\(i:Int)<(64:Nat)from by omega) (Ht (Pr (sv (Vf s i)) (show(0+(i:Int).toNat*1)=i by omega)) (Yi Cl (Yi (by show A7 ((4:Int)*(i:Int));unfold A7;omega) (Yi (by show A7 ((4*i:Int)+(k:Int));unfold A7;omega) (Xi (Ol s (4*i+k)) (Yi (dT (z:=(4*i)+k) (show 4*i+k<s.size by omega) ch) (Yi (show(0:Int)<=i/\(i:Int)<(64:Nat)from by omega) (Yi (show(0+(i:Int).toNat*1)+1<=(((Gf s i).map EV++EV (Sz s i k)::List.replicate (64-(i+1)) (EV 0))).length from by rw[Ac,Vf];simp only[Ak,BT];omega) ?_))))))));refine Yi Wk (Yi (Ii k ch) (Xi ⟨k+1,by omega⟩ ?_));exact⟨Dl 4 k ch,Z7,⟨Zr,⟨(show HO.cells (over ((Gf s i).map EV++EV (Sz s i k)::List.replicate (64-(i+1)) (EV 0)) (0+(i:Int).toNat*1) [.v (.int .u32 (Jq .or .u32 (Gx .shl .u32 (Sz s i k) 8) (IntKind.wrap .u32 ((Ol s (4*i+k)).toNat:Int))))])=.cells ((Gf s i).map EV++EV (Sz s i (k+1))::List.replicate (64-(i+1)) (EV 0))from Aa HO.cells (Qf (by rw[Vf];omega))),(xO _ _ _ _)⟩,Tv⟩,Fh,Tv⟩
   have h3:¬((k:Int)<(4:Int)):=h3;refine Yi (Ii i ch) (Xi ⟨i+1,by omega⟩ ?_);exact⟨Dl 64 i ch,Z5,⟨Zr,⟨(Aa HO.cells (aZ (show Sz s i k=aD s (Gf s i) i by rw[aD,Al ch,show k=4 by omega]))),(tT _ _ _)⟩,Tv⟩,Fh,Tv⟩
  have h2:¬((i:Int)<(16:Int)):=h2;refine Yi (by show A7 ((i:Int)-(2:Int));unfold A7;omega) (Yi (show(0:Int)<=i-2/\(i-2:Int)<(64:Nat)from by omega) (Ht (Pr (Yw (show i-2<(Gf s i).length by rw[Kh];omega)) (show(0+(i-2:Int).toNat*1)=i-2 by omega)) (Xi _ (Yi (nO (Y3 (Gf s i) (i-2)) 17 19 10 Cl Cl Cl) (Yi (by show A7 ((i:Int)-(7:Int));unfold A7;omega) (Yi (show(0:Int)<=i-7/\(i-7:Int)<(64:Nat)from by omega) (Ht (Pr (Yw (show i-7<(Gf s i).length by rw[Kh];omega)) (show(0+(i-7:Int).toNat*1)=i-7 by omega)) (Yi (by show A7 ((i:Int)-(15:Int));unfold A7;omega) (Yi (show(0:Int)<=i-15/\(i-15:Int)<(64:Nat)from by omega) (Ht (Pr (Yw (show i-15<(Gf s i).length by rw[Kh];omega)) (show(0+(i-15:Int).toNat*1)=i-15 by omega)) (Xi _ (Yi (nO (Y3 (Gf s i) (i-15)) 7 18 3 Cl Cl Cl) (Yi (by show A7 ((i:Int)-(16:Int));unfold A7;omega) (Yi (show(0:Int)<=i-16/\(i-16:Int)<(64:Nat)from by omega) (Ht (Pr (Yw (show i-16<(Gf s i).length by rw[Kh];omega)) (show(0+(i-16:Int).toNat*1)=i-16 by omega)) (Yi (show(0:Int)<=i/\(i:Int)<(64:Nat)from by omega) (Yi (show(0+(i:Int).toNat*1)+1<=(((Gf s i).map EV++List.replicate (64-i) (EV 0))).length from by rw[Ac,Vf];simp only[BT];omega) ?_)))))))))))))))));refine Yi Wk (Yi (Ii i ch) (Xi ⟨i+1,by omega⟩ ?_));exact⟨Dl 64 i ch,Z5,⟨Zr,⟨(show HO.cells (over ((Gf s i).map EV++List.replicate (64-i) (EV 0)) (0+(i:Int).toNat*1) [.v (.int .u32 (IntKind.wrap .u32 ((IntKind.wrap .u32 ((IntKind.wrap .u32 ((md (Y3 (Gf s i) (i-2)) 17 19 10)+(Y3 (Gf s i) (i-7))))+(md (Y3 (Gf s i) (i-15)) 7 18 3)))+(Y3 (Gf s i) (i-16)))))])=.cells ((Gf s (i+1)).map EV++List.replicate (64-(i+1)) (EV 0))from Aa HO.cells (by rw[fH (show i<64 by omega),Qf (by rw[Vf];omega)];exact aZ (by rw[aD,Ai ch];rfl))),(tT _ _ _)⟩,Tv⟩,Fh,Tv⟩
 have h1:¬((i:Int)<(64:Int)):=h1;refine Yi (show 64<=((Gf s i).map EV++List.replicate (64-i) (EV 0)).length by rw[Ac,Vf,BT];omega) ?_
 conv=>whnf
 refine ku (show Nat.beq (((Gf s i).map EV++List.replicate (64-i) (EV 0)).take 64).length 64=true from by rw[show(((Gf s i).map EV++List.replicate (64-i) (EV 0)).take 64).length=64 by rw[Av,Ac,Vf,BT];omega];rfl) ?_;refine Yi (show 0+(((Gf s i).map EV++List.replicate (64-i) (EV 0)).take 64).length<=64 from by rw[Av];omega) ?_;refine Yi (show 64<=(over (List.replicate 64 (EV 0)) 0 (((Gf s i).map EV++List.replicate (64-i) (EV 0)).take 64)).length by rw[M5 (by rw[Av,Ac,Vf,BT,BT];omega),Av,Ac,Vf,BT];omega) ?_;exact Adl (show(over (List.replicate 64 (EV 0)) 0 (((Gf s i).map EV++List.replicate (64-i) (EV 0)).take 64)).take 64=(Gf s 64).map EV from by rw[show i=64 by omega,M5 (by rw[Av,Ac,Vf];rfl),OY,Nat.min_self,FM (Vf s 64)])
theorem uG(x:HS)(s:ByteArray)(W Kk:List Int)(r8:S8)(hW:W.length=64)(hK:Kk.length=64)(hr:Vc W Kk x.v 64=r8)(hc:PC 202 [vs s] (.agg (W.map EV)))(hk:PC 203 [] (.agg (Kk.map EV))):A9 Tryz.prog 148 [.ref 1000 0,vs s] (Ao [(1000,.cells (Gz x))] Af) fun r h'=>r=.tup []/\h'=Ao [(1000,.cells (Gz ⟨vS x.v r8,x.rest,x.tot⟩))] Af:=by
 refine Cq (MK (pC [] [2,11])) [(1000,1000)] rfl CQ hm rfl Tryz.func148 Wk rfl (Nz rfl) Wk rfl (Xi .pure (Xi _ (Yi hc (Xi .pure (Xi _ (Yi hk ?_))))))
 conv=>whnf
 refine ku (show Nat.beq (W.map EV).length 64=true from by rw[Lm,hW];rfl) (Yi (show 0+(W.map EV).length<=64 from by rw[Lm];omega) ?_)
 conv=>whnf
 refine ku (show Nat.beq (Kk.map EV).length 64=true from by rw[Lm,hK];rfl) (Yi (show 0+(Kk.map EV).length<=64 from by rw[Lm];omega) (cU [(0,.ref 1000 0),(4,.v (.func (.func 200) #[] #[])),(5,.ref 5 0),(6,.ref 6 0)] [(5,.cells (W.map EV)),(6,.cells (Kk.map EV)),(1000,.cells (Gz x))] Z4 ⟨⟨(Aa HO.cells (M5 (show 64=(W.map EV).length by rw[Lm,hW]))),(cJ _ _)⟩,⟨(Aa HO.cells (M5 (show 64=(Kk.map EV).length by rw[Lm,hK]))),(cJ _ _)⟩,Zr,Tv⟩ ?_))
 refine yN (yN (Xi {q:Nat // q<=64} (Xi (fun q=>⟨[(0,.ref 1000 0),(4,.v (.func (.func 200) #[] #[])),(5,.ref 5 0),(6,.ref 6 0),(7,.ref 7 0),(26,vi q.1)],[(5,.cells (W.map EV)),(6,.cells (Kk.map EV)),(7,.cells (Zw (Vc W Kk x.v q.1))),(1000,.cells (Gz x))],Af⟩) (Xi (fun q=>64-q.1) (Yi (Xi ⟨0,AE _⟩ ?_) ?_)))))
 .exact⟨Z6,⟨⟨rfl,(cJ _ _)⟩,⟨rfl,(cJ _ _)⟩,Zr,Zr,Tv⟩,Fh,BN Wk⟩
 intro⟨i,i1⟩;have i1:i<=64:=i1;refine Yi (fun h1=>?_) (fun h1=>?_)
 .have h1:(i:Int)<(64:Int):=h1;refine Yi ⟨by decide,by decide⟩ ?_;refine Yi ⟨by decide,by decide⟩ ?_;refine Yi ⟨by decide,by decide⟩ ?_;refine Yi ⟨by decide,by decide⟩ ?_;refine Yi ⟨by decide,by decide⟩ ?_;refine Yi ⟨by decide,by decide⟩ ?_;refine Yi Wk (Yi ⟨by decide,by decide⟩ ?_);refine Xi _ (Yi (nN (Vc W Kk x.v i).e 6 11 25 Cl Cl Cl Cl) (Yi (show(0:Int)<=i/\(i:Int)<(64:Nat)from by omega) (Ht (Pr (Yx (show i<Kk.length by omega)) (show(0+(i:Int).toNat*1)=i by omega)) (Yi (show(0:Int)<=i/\(i:Int)<(64:Nat)from by omega) (Ht (Pr (Yx (show i<W.length by omega)) (show(0+(i:Int).toNat*1)=i by omega)) (Yi Wk (Xi .pure (Xi _ (Yi (nN (Vc W Kk x.v i).a 2 13 22 Cl Cl Cl Cl) (Yi ⟨by decide,by decide⟩ ?_))))))))));refine yN (Yi (Ii i ch) (Xi ⟨i+1,by omega⟩ ?_));exact⟨Dl 64 i ch,Z6,⟨⟨rfl,(cJ _ _)⟩,⟨rfl,(cJ _ _)⟩,Zr,Zr,Tv⟩,Fh,BN Wk⟩
 have h1:¬((i:Int)<(64:Int)):=h1;refine cU [(0,.ref 1000 0),(7,.ref 7 0)] [(7,.cells (Zw r8)),(1000,.cells (Gz x))] Z2 ⟨⟨(Aa (fun z=>HO.cells (Zw z)) (show Vc W Kk x.v i=r8 by rw[show i=64 by omega,hr])),rfl⟩,Zr,Tv⟩ (yN (Xi {q:Nat // q<=8} (Xi (fun q=>⟨[(0,.ref 1000 0),(94,.agg [.v (.int .u32 r8.a),.v (.int .u32 r8.b),.v (.int .u32 r8.c),.v (.int .u32 r8.d),.v (.int .u32 r8.e),.v (.int .u32 r8.f),.v (.int .u32 r8.g),.v (.int .u32 r8.h)]),(95,vi q.1)],[(1000,.cells (Sn x.v r8 q.1 [vs x.rest,.v (.int .u64 x.tot)]))],Af⟩) (Xi (fun q=>8-q.1) (Yi (Xi ⟨0,AE _⟩ ?_) ?_)))))
 .exact⟨Z3,Z1,Fh,BN Wk⟩
 intro⟨j,j1⟩;have j1:j<=8:=j1;refine Yi (fun h3=>?_) (fun h3=>?_)
 .have h3:(j:Int)<(8:Int):=h3;refine Yi (show(0:Int)<=j/\(j:Int)<(8:Nat)from by omega) (Ht (rh (v:=r8) (show j<8 by omega) (show((j:Int).toNat*1)=j by omega)) (Yi (show(0:Int)<=j/\(j:Int)<(8:Nat)from by omega) (Ht (kN (show j<8 by omega) (show(0+(j:Int).toNat*1)=j by omega)) (Yi (show(0:Int)<=j/\(j:Int)<(8:Nat)from by omega) (Yi (show(0+(j:Int).toNat*1)+1<=((Sn x.v r8 j [vs x.rest,.v (.int .u64 x.tot)])).length from by show(0+(j:Int).toNat*1)+1<=10;omega) ?_)))));refine Yi Wk (Yi (Ii j ch) (Xi ⟨j+1,by omega⟩ ?_));exact⟨Dl 8 j ch,Z3,⟨⟨(show HO.cells (over (Sn x.v r8 j [vs x.rest,.v (.int .u64 x.tot)]) (0+(j:Int).toNat*1) [.v (.int .u32 (IntKind.wrap .u32 ((S8.n x.v j)+(S8.n r8 j))))])=.cells (Sn x.v r8 (j+1) [vs x.rest,.v (.int .u64 x.tot)])from Aa HO.cells (mJ (show j<8 by omega) ch)),rfl⟩,Tv⟩,Fh,BN Wk⟩
 have h3:¬((j:Int)<(8:Int)):=h3;have e8:j=8:=by omega
 subst e8;exact Xi _ (Yi (.refl _) Zr)
theorem yQ(x:HS)(s:ByteArray)(hs:s.size=64):A9 Tryz.prog 148 [.ref 1000 0,vs s] (Ao [(1000,.cells (Gz x))] Af) fun r h'=>r=.tup []/\h'=Ao [(1000,.cells (Gz ⟨uv x.v s,x.rest,x.tot⟩))] Af :=
 uG x s (Gf s 64) kK _ (Kh s 64) rfl rfl (y9 s hs) qU
end Go.Eng
namespace Go.Proofs
open Go.Shelf
def Tryz.layItoa_ren:Go.Shelf.Ren:=⟨fun | 171=>53 | 243=>93 | 246=>154 | 283=>214 | 284=>215 | 285=>216 | 286=>217 | 129=>229 | 317=>272 | 318=>273 | 319=>274 | 320=>275 | 337=>317 | 338=>318 | n=>n,fun | 3=>3 | 9=>9 | 2=>2 | 4=>4 | 171=>308 | 0=>0 | 53=>98 | 37=>164 | 5=>5 | 173=>311 | 212=>355 | 51=>229 | 20=>20 | 213=>356 | 46=>99 | 232=>414 | 233=>415 | n=>n,fun | 17=>1 | 18=>2 | 19=>3 | n=>n⟩
theorem Tryz.layItoa:Go.Proofs.LaysM.n171 Tryz.prog Tryz.layItoa_ren:={
 mixed:=by kernel_rfl
 f129:=Tryz.func229.trans (congrArg some Go.Eng.Wk)
 f171:=Tryz.func53.trans (congrArg some Go.Eng.Wk)
 f243:=Tryz.func93.trans (congrArg some Go.Eng.Wk)
 f246:=Tryz.func154.trans (congrArg some Go.Eng.Wk)
 f283:=Tryz.func214.trans (congrArg some Go.Eng.Wk)
 f284:=Tryz.func215.trans (congrArg some Go.Eng.Wk)
 f285:=Tryz.func216.trans (congrArg some Go.Eng.Wk)
 f286:=Tryz.func217.trans (congrArg some Go.Eng.Wk)
 f317:=Tryz.func272.trans (congrArg some Go.Eng.Wk)
 f318:=Tryz.func273.trans (congrArg some Go.Eng.Wk)
 f319:=Tryz.func274.trans (congrArg some Go.Eng.Wk)
 f320:=Tryz.func275.trans (congrArg some Go.Eng.Wk)
 f337:=Tryz.func317.trans (congrArg some Go.Eng.Wk)
 f338:=Tryz.func318.trans (congrArg some Go.Eng.Wk)
 t0:=Tryz.underlying0
 a0:=Tryz.isAgg0
 z0:=Tryz.sizeOf0
 v0:=Tryz.zeroValue0
 t2:=Tryz.underlying2
 a2:=Tryz.isAgg2
 z2:=Tryz.sizeOf2
 v2:=Tryz.zeroValue2
 t3:=Tryz.underlying3
 a3:=Tryz.isAgg3
 z3:=Tryz.sizeOf3
 v3:=Tryz.zeroValue3
 t4:=Tryz.underlying4
 a4:=Tryz.isAgg4
 z4:=Tryz.sizeOf4
 v4:=Tryz.zeroValue4
 t5:=Tryz.underlying5
 a5:=Tryz.isAgg5
 z5:=Tryz.sizeOf5
 v5:=Tryz.zeroValue5
 t9:=Tryz.underlying9
 a9:=Tryz.isAgg9
 z9:=Tryz.sizeOf9
 v9:=Tryz.zeroValue9
 t20:=Tryz.underlying20
 a20:=Tryz.isAgg20
 z20:=Tryz.sizeOf20
 v20:=Tryz.zeroValue20
 t37:=Tryz.underlying164
 a37:=Tryz.isAgg164
 z37:=Tryz.sizeOf164
 v37:=Tryz.zeroValue164
 t46:=Tryz.underlying99
 a46:=Tryz.isAgg99
 z46:=Tryz.sizeOf99
 v46:=Tryz.zeroValue99
 t51:=Tryz.underlying229
 a51:=Tryz.isAgg229
 z51:=Tryz.sizeOf229
 v51:=Tryz.zeroValue229
 t53:=Tryz.underlying98
 a53:=Tryz.isAgg98
 z53:=Tryz.sizeOf98
 v53:=Tryz.zeroValue98
 t171:=Tryz.underlying308
 a171:=Tryz.isAgg308
 z171:=Tryz.sizeOf308
 v171:=Tryz.zeroValue308
 t173:=Tryz.underlying311
 a173:=Tryz.isAgg311
 z173:=Tryz.sizeOf311
 v173:=Tryz.zeroValue311
 t212:=Tryz.underlying355
 a212:=Tryz.isAgg355
 z212:=Tryz.sizeOf355
 v212:=Tryz.zeroValue355
 t213:=Tryz.underlying356
 a213:=Tryz.isAgg356
 z213:=Tryz.sizeOf356
 t232:=Tryz.underlying414
 a232:=Tryz.isAgg414
 z232:=Tryz.sizeOf414
 v232:=Tryz.zeroValue414
 t233:=Tryz.underlying415
 a233:=Tryz.isAgg415
 z233:=Tryz.sizeOf415
 v233:=Tryz.zeroValue415
 g17:=by kernel_rfl
 g18:=by kernel_rfl
 g19:=by kernel_rfl
 i0:=by kernel_rfl
 i2:=by kernel_rfl
 i3:=by kernel_rfl
 i4:=by kernel_rfl
 i5:=by kernel_rfl
 i9:=by kernel_rfl
 i20:=by kernel_rfl
 i37:=by kernel_rfl
 i46:=by kernel_rfl
 i51:=by kernel_rfl
 i53:=by kernel_rfl
 i171:=by kernel_rfl
 i173:=by kernel_rfl
 i212:=by kernel_rfl
 i232:=by kernel_rfl
 i233:=by kernel_rfl
 m17:=by kernel_rfl
 m18:=by kernel_rfl
 m19:=by kernel_rfl }
def Tryz.layRepeat_ren:Go.Shelf.Ren:=⟨fun | 105=>151 | 212=>205 | 99=>206 | 165=>207 | 166=>208 | 170=>209 | 169=>210 | 263=>267 | 264=>268 | 206=>269 | 240=>270 | 241=>271 | 276=>315 | 277=>316 | n=>n,fun | 9=>9 | 3=>3 | 4=>4 | 20=>20 | 0=>0 | 46=>99 | 109=>295 | 5=>5 | 72=>299 | 76=>303 | 51=>229 | 146=>349 | 53=>98 | 148=>351 | 70=>297 | 37=>164 | 75=>302 | 127=>348 | 164=>386 | 80=>162 | n=>n,fun | n=>n⟩
theorem Tryz.layRepeat:Go.Proofs.Lays.n105 Tryz.prog Tryz.layRepeat_ren:={
 mixed:=by kernel_rfl
 f99:=Tryz.func206.trans (congrArg some Go.Eng.Wk)
 f105:=Tryz.func151.trans (congrArg some Go.Eng.Wk)
 f165:=Tryz.func207.trans (congrArg some Go.Eng.Wk)
 f166:=Tryz.func208.trans (congrArg some Go.Eng.Wk)
 f169:=Tryz.func210.trans (congrArg some Go.Eng.Wk)
 f170:=Tryz.func209.trans (congrArg some Go.Eng.Wk)
 f206:=Tryz.func269.trans (congrArg some Go.Eng.Wk)
 f212:=Tryz.func205.trans (congrArg some Go.Eng.Wk)
 f240:=Tryz.func270.trans (congrArg some Go.Eng.Wk)
 f241:=Tryz.func271.trans (congrArg some Go.Eng.Wk)
 f263:=Tryz.func267.trans (congrArg some Go.Eng.Wk)
 f264:=Tryz.func268.trans (congrArg some Go.Eng.Wk)
 f276:=Tryz.func315.trans (congrArg some Go.Eng.Wk)
 f277:=Tryz.func316.trans (congrArg some Go.Eng.Wk)
 t0:=Tryz.underlying0
 a0:=Tryz.isAgg0
 z0:=Tryz.sizeOf0
 v0:=Tryz.zeroValue0
 t3:=Tryz.underlying3
 a3:=Tryz.isAgg3
 z3:=Tryz.sizeOf3
 v3:=Tryz.zeroValue3
 t4:=Tryz.underlying4
 a4:=Tryz.isAgg4
 z4:=Tryz.sizeOf4
 v4:=Tryz.zeroValue4
 t5:=Tryz.underlying5
 a5:=Tryz.isAgg5
 z5:=Tryz.sizeOf5
 v5:=Tryz.zeroValue5
 t9:=Tryz.underlying9
 a9:=Tryz.isAgg9
 z9:=Tryz.sizeOf9
 v9:=Tryz.zeroValue9
 t20:=Tryz.underlying20
 a20:=Tryz.isAgg20
 z20:=Tryz.sizeOf20
 v20:=Tryz.zeroValue20
 t37:=Tryz.underlying164
 a37:=Tryz.isAgg164
 z37:=Tryz.sizeOf164
 v37:=Tryz.zeroValue164
 t46:=Tryz.underlying99
 a46:=Tryz.isAgg99
 z46:=Tryz.sizeOf99
 v46:=Tryz.zeroValue99
 t51:=Tryz.underlying229
 a51:=Tryz.isAgg229
 z51:=Tryz.sizeOf229
 v51:=Tryz.zeroValue229
 t53:=Tryz.underlying98
 a53:=Tryz.isAgg98
 z53:=Tryz.sizeOf98
 v53:=Tryz.zeroValue98
 t70:=Tryz.underlying297
 a70:=Tryz.isAgg297
 z70:=Tryz.sizeOf297
 v70:=Tryz.zeroValue297
 t72:=Tryz.underlying299
 a72:=Tryz.isAgg299
 z72:=Tryz.sizeOf299
 v72:=Tryz.zeroValue299
 t75:=Tryz.underlying302
 a75:=Tryz.isAgg302
 z75:=Tryz.sizeOf302
 v75:=Tryz.zeroValue302
 t76:=Tryz.underlying303
 a76:=Tryz.isAgg303
 z76:=Tryz.sizeOf303
 v76:=Tryz.zeroValue303
 t109:=Tryz.underlying295
 a109:=Tryz.isAgg295
 z109:=Tryz.sizeOf295
 v109:=Tryz.zeroValue295
 t127:=Tryz.underlying348
 a127:=Tryz.isAgg348
 z127:=Tryz.sizeOf348
 v127:=Tryz.zeroValue348
 t146:=Tryz.underlying349
 a146:=Tryz.isAgg349
 z146:=Tryz.sizeOf349
 v146:=Tryz.zeroValue349
 t148:=Tryz.underlying351
 a148:=Tryz.isAgg351
 z148:=Tryz.sizeOf351
 v148:=Tryz.zeroValue351
 t164:=Tryz.underlying386
 a164:=Tryz.isAgg386
 z164:=Tryz.sizeOf386
 v164:=Tryz.zeroValue386 }
def Tryz.layClone_ren:Go.Shelf.Ren:=⟨fun | 25=>204 | n=>n,fun | 9=>9 | 3=>3 | 4=>4 | 37=>164 | 0=>0 | 47=>348 | 5=>5 | n=>n,fun | n=>n⟩
theorem Tryz.layClone:Go.Proofs.LaysPu.n25 Tryz.prog Tryz.layClone_ren:={
 mixed:=by kernel_rfl
 f25:=Tryz.func204.trans (congrArg some Go.Eng.Wk)
 t0:=Tryz.underlying0
 a0:=Tryz.isAgg0
 z0:=Tryz.sizeOf0
 v0:=Tryz.zeroValue0
 i0:=by kernel_rfl
 t3:=Tryz.underlying3
 a3:=Tryz.isAgg3
 z3:=Tryz.sizeOf3
 v3:=Tryz.zeroValue3
 i3:=by kernel_rfl
 t4:=Tryz.underlying4
 a4:=Tryz.isAgg4
 z4:=Tryz.sizeOf4
 v4:=Tryz.zeroValue4
 i4:=by kernel_rfl
 t5:=Tryz.underlying5
 a5:=Tryz.isAgg5
 z5:=Tryz.sizeOf5
 v5:=Tryz.zeroValue5
 i5:=by kernel_rfl
 t9:=Tryz.underlying9
 a9:=Tryz.isAgg9
 z9:=Tryz.sizeOf9
 v9:=Tryz.zeroValue9
 i9:=by kernel_rfl
 t37:=Tryz.underlying164
 a37:=Tryz.isAgg164
 z37:=Tryz.sizeOf164
 v37:=Tryz.zeroValue164
 i37:=by kernel_rfl
 t47:=Tryz.underlying348
 a47:=Tryz.isAgg348
 z47:=Tryz.sizeOf348
 v47:=Tryz.zeroValue348
 i47:=by kernel_rfl }
theorem Tryz.layRepeatX:Builder.Extra Tryz.prog Tryz.layRepeat_ren:={
 sizeBuilder:=by kernel_rfl
 liesBuilder:=by kernel_rfl
 t5:=Tryz.underlying5
 a5:=Tryz.isAgg5
 z5:=Tryz.sizeOf5
 v5:=Tryz.zeroValue5
 infoByte:=by kernel_rfl
 cellsByte:=by kernel_rfl
 sizeByte:=by kernel_rfl
 neB5:=by decide }
end Go.Proofs
namespace Go.Eng
open Go.Proofs
variable (n:Int)(s:ByteArray)(i:Nat)
theorem mX(n:Nat):(⟨(Go.Lib.repeatL (ByteArray.mk #[0]).data.toList n).toArray⟩:ByteArray)=r7 n:=by
 show(⟨(Go.Lib.repeatL (List.replicate 1 0) n).toArray⟩:ByteArray)=_;rw[Go.Lib.repeatL_replicate,r7];simp
theorem nQ(h0:0<=n)(h:n<=100):PC 151 [vs ⟨#[0]⟩,vi n] (vs (r7 n.toNat)):=by
 refine M6 [.string ⟨#[0]⟩,.int .i64 n] (.string (r7 n.toNat)) (Zy 151 Tryz.func151 Wk rfl) rfl (fun g w=>.v _ _) fun w _ _=>?_;have q:=Any.strings_Repeat Tryz.layRepeat Tryz.layRepeatX ⟨#[0]⟩ n.toNat w ch (by show 1*n.toNat<=_;omega);rw[mX,Int.toNat_of_nonneg h0]at q;exact q
theorem nH(h:s.size<=1000000000):PC 204 [vs s] (vs s) :=
 M6 [.string s] (.string s) (Zy 204 Tryz.func204 Wk rfl) rfl (fun g w=>.v _ _) fun w _ _=>AnyPu.stringslite_Clone Tryz.layClone s w ch
theorem qR(h:s.size<=1000000000):PC 149 [vs s] (vs s):=by
 refine Ps Ee Tryz.func149 rfl (Nz rfl) (Xi .pure (Xi _ (Yi (nH s h) ?_)));exact .refl _
theorem y7  : A9 Tryz.prog 87 [] (Ao [] Af) fun r h'=>r=.ref 2000 0/\h'=Ao [(2000,.cells (Gz SL))] Af:=by
 refine Cq (MK Ee) [(3,2000)] rfl CQ hm rfl Tryz.func87 Wk rfl (Nz rfl) Wk rfl ?_;exact Xi _ (Yi (.refl _) Zr)
theorem nL(x:HS):A9 Tryz.prog 150 [.ref 1000 0] (Ao [(1000,.cells (Gz x))] Af) fun r h'=>r=.ref 2000 0/\h'=Ao [(1000,.cells (Gz x)),(2000,.cells (Gz x))] Af:=by
 refine Cq (MK Ee) [(1000,1000),(3,2000)] rfl CQ hm rfl Tryz.func150 Wk rfl (Nz rfl) Wk rfl (yN (yN ?_));exact Xi _ (Yi (.refl _) Zr)
abbrev u8(x:Int):AV:=.v (.int .u8 x)
def aE:List AV:=(List.range i).map fun(j:Nat)=>u8 (IntKind.wrap .u8 (Gx .shr .u64 n (56-8*(j:Int))))
def mw:List UInt8:=(List.range 8).map fun(i:Nat)=>UInt8.ofNat (IntKind.wrap .u8 (Gx .shr .u64 n (56-8*(i:Int)))).toNat
theorem fh:(aE n i).length=i:=by rw[aE,Lm,La]
theorem xP(h:Nat->HO)(n:Int)(i:Nat):SK h (.cells (aE n i++List.replicate (8-i) (u8 0)))=true:=by
 have e:∀l:List Int,Yp h (l.map u8++List.replicate (8-i) (u8 0))=true:=fun l=>by
  induction l with
  |nil=>show Yp h (List.replicate (8-i) (u8 0))=true;induction (8-i)with |zero=>rfl |succ k ih=>exact ih
  |cons a l ih=>exact ih
 have q:=e ((List.range i).map fun(j:Nat)=>IntKind.wrap .u8 (Gx .shr .u64 n (56-8*(j:Int))));rw[Bo]at q;exact q
theorem my{n:Int}{i m:Nat}(h:i<8)(e:m=i):over (aE n i++List.replicate (8-i) (u8 0)) m [u8 (IntKind.wrap .u8 (Gx .shr .u64 n (56-8*(i:Int))))]=aE n (i+1)++List.replicate (8-(i+1)) (u8 0):=by
 rw[show 8-i=(8-(i+1))+1 by omega,List.replicate_succ,Qf (by rw[fh];exact e.symm),aE,aE,List.range_succ,Ar,BA];rfl
theorem r5(z:Int):((UInt8.ofNat (IntKind.wrap .u8 z).toNat).toNat:Int)=IntKind.wrap .u8 z:=by
 have h1:0<=IntKind.wrap .u8 z:=Wa _ Cl;have h2:IntKind.wrap .u8 z<256:=Int.emod_lt_of_pos _ Cl;rw[UInt8.toNat_ofNat',Nat.mod_eq_of_lt ch];omega
theorem iO(h:Nat->HO)(n:Int):(((aE n 8).map (str h)).map fun c=>[c])=(mw n).map fun b=>[AV.v (.int .u8 b.toNat)]:=by
 rw[aE,mw,Bo,Bo,Bo];refine Bh fun i _=>?_;show [AV.v (.int .u8 _)]=[AV.v (.int .u8 _)];rw[r5]
theorem nP:PC 89 [.v (.int .u64 n)] (vs (Kv n)):=by
 refine Ps ⟨[],[(17,1)],[],[(17,[3])],[],[],[],[],[],[],[7]⟩ Tryz.func89 rfl (Nz rfl) (Xi {q:Nat // q<=8} (Xi (fun q=>⟨[(0,.v (.int .u64 n)),(3,.ref 3 0),(5,vi q.1)],[(3,.cells (aE n q.1++List.replicate (8-q.1) (u8 0)))],Af⟩) (Xi (fun q=>8-q.1) (Yi (Xi ⟨0,AE _⟩ ?_) ?_))))
 .exact⟨Z3,⟨⟨rfl,(xP _ _ _)⟩,Tv⟩,Fh,Tv⟩
 intro⟨i,i1⟩;have i1:i<=8:=i1;refine Yi (fun h1=>?_) (fun h1=>?_)
 .have h1:(i:Int)<(8:Int):=h1;refine Yi (by show A7 ((8:Int)*(i:Int));unfold A7;omega) (Yi (by show A7 ((56:Int)-(8*i:Int));unfold A7;omega) (Yi (show(0:Int)<=56-(8*i) by omega) (Yi (show(0:Int)<=i/\(i:Int)<(8:Nat)from by omega) (Yi (show(0+(i:Int).toNat*1)+1<=((aE n i++List.replicate (8-i) (u8 0))).length from by rw[Ac,fh,BT];omega) ?_))));refine Yi (Ii i ch) (Xi ⟨i+1,by omega⟩ ?_);exact⟨Dl 8 i ch,Z3,⟨⟨(show HO.cells (over (aE n i++List.replicate (8-i) (u8 0)) (0+(i:Int).toNat*1) [.v (.int .u8 (IntKind.wrap .u8 (Gx .shr .u64 n (56-(8*i)))))])=.cells (aE n (i+1)++List.replicate (8-(i+1)) (u8 0))from Aa HO.cells (my (show i<8 by omega) ch)),(xP _ _ _)⟩,Tv⟩,Fh,Tv⟩
 have h1:¬((i:Int)<(8:Int)):=h1;refine cU [(3,.ref 3 0)] [(3,.cells (aE n 8))] Z1 ⟨⟨(show HO.cells (aE n i++List.replicate (8-i) (u8 0))=.cells (aE n 8) by rw[show i=8 by omega];rfl),rfl⟩,Tv⟩ ?_
 refine Yi (show 8=((aE n 8).map (str _)).length from rfl) (Xi (mw n) (Yi (iO _ n) ?_));exact .refl _
end Go.Eng
