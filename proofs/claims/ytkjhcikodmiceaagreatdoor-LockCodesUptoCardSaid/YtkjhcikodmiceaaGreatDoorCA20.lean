/- Lemmas 20. -/
import Derived.Test.YtkjhcikodmiceaaGreatDoorCA19
namespace Go.Eng
open Go.Proofs Go.Proofs.Tryz
abbrev Ar3:=List Rq
abbrev Ar4:=List F
abbrev Ar5:=List Sk
abbrev Ar6:=List Sl
abbrev Ar7:=List (List V)
variable {α:Type}{f:α->List AV}{p:CS}{BM:List (Value×AV)}{i n:Nat}{O:List α}{args:List AV}(x:Ar4)(ifs:C0)(y:Ar4)(roots:Ar3)(j:Nat)(d:Ar7)(s before:Ar6)
def kn(p:CS)(r:F):Bool:=decide (r.path=p)&&!r.yanked
def AgD(r:F):Int×Int:=(plc r.ver,plc r.ver+1)
theorem mQ{x:Ar4}(h:AU x=0):BA x p=canon ((x.filter (kn p)).map AgD):=by
 unfold BA L5;rw[AB (not_not_intro h),List.filter_filter]
 congr 3
 grind [kn]
theorem A1.to2{P:Program}{f:Nat}{h0:Nat->HO}{r0:AV}{H0:Nat->HO}{Q' : AV->(Nat->HO)->Prop}(h:A1 P f args h0 fun r h'=>r=r0/\h'=H0)(k:Q' r0 H0):A1 P f args h0 Q':=
 h.mono fun r h' q=>⟨r,.refl _,by rw[q.1,q.2];exact k⟩
theorem cb{f:Nat}{b x:Bool}(h:b=x)(hc:PC f args (Q b)):PC f args (Q x):=h▸hc
theorem Gj{l:List α}(h:(i:Int)<((l.map f).length:Int)):i<l.length:=by rw[Lm]at h;omega
theorem D6{l:List α}(h:¬(i:Int)<((l.map f).length:Int)):¬i<l.length:=by rw[Lm]at h;omega
theorem IM{l:List α}(h:i<l.length):(0:Int)<=(i:Int)/\(l.map f)[((i:Nat):Int).toNat]?=some (f l[i]):=⟨J6 _,by rw[Gp,BC,Ge h];rfl⟩
theorem cp{z:Nat}{x:List AV}(hx:x.length=n)(h:O.length<=2147483647)(hz:z<=65536) :
  Cq n [x]/\(O.map f).length=O.length/\((O.map f).length+([x]:C0).length)*z<=2^47/\(O.map f).length+([x]:C0).length<=2^63-1:=by
 refine⟨⟨hx,trivial⟩,Lm _,?_,?_⟩<;>rw[Lm]<;>simp only[AK,A4]
 .have:=Nat.mul_le_mul (show O.length+(0+1)<=2147483648 by omega) hz
  omega
 .omega
theorem tkA{x:α}{r:Nat}:AV.slice (.id r n) (O.map f++[f x])=.slice (.id r n) ((O++[x]).map f):=by rw[Au];rfl
theorem hkA{x:α}{y:List AV}:HO.tok n ((O.map f).length+([y]:C0).length)=.tok n (O++[x]).length:=by rw[Ac,Lm];rfl
theorem apG{sz k:Nat}{l ys:C0}(hx:Cq sz ys)(h:l.length=n)(hb:l.length+ys.length<=137438953472)(hk:k<=1024:=by decide):Cq sz ys/\l.length=n/\(l.length+ys.length)*k<=2^47/\l.length+ys.length<=2^63-1:=
 ⟨hx,h,by have:=Nat.mul_le_mul hb hk;omega,by omega⟩
theorem bT{sz k:Nat}{l ys:C0}(hx:Cq sz ys)(h:l.length=n)(hb:(l.length+ys.length)*k<=2^47)(hk:0<k:=by decide):Cq sz ys/\l.length=n/\(l.length+ys.length)*k<=2^47/\l.length+ys.length<=2^63-1:=
 ⟨hx,h,hb,Az (US _ hk) I⟩
theorem tkM{l ys l' : C0}(e:l++ys=l'):HO.tok n (l.length+ys.length)=.tok n l'.length:=Aa (HO.tok n) (Ac.symm.trans (Aa List.length e))
theorem Sr(o:Option α):(∃x,o=some x)\/o=none:=by
 cases o<;>simp_all
theorem L6:∀(y:Ar4) (acc:List CS) (r:F),AL (y++[r]) acc=if(AL y acc).any (fun p=>decide (p=r.path))then AL y acc else AL y acc++[r.path]
 | [],acc,r=>rfl
 |s::y,acc,r=>by rw[FN,AL,AL,L6 y]
theorem EM:∀(y:Ar4) (acc:List CS),acc.Nodup->(AL y acc).Nodup
 | [],_,h=>h
 |s::y,acc,h=>by
  rw[AL];refine EM y _ ?_
  grind
abbrev iL(p:CS):C0:=(y.filter fun r=>decide (r.path=p)).map Ay
abbrev AeJ(q:CS×Nat):Value×AV:=(.string q.1,.slice (.id (q.2+50) 9) (iL y q.1))
abbrev Xc:List (Value×AV):=(AL y []).zipIdx.map (AeJ y)
def Mf(l:Nat):HO:=match(AL y [])[l]? with
 |some q=>.tok 9 (iL y q).length
 |none=>.free
def Yg:HO:=bif Nat.ble 50 j then Mf y (j-50)else .free
theorem H4(l:Nat):Yg y (l+50)=Mf y l:=by
 grind [Yg,Nat.ble_eq]
theorem Abs{j:Nat}(h:j<50):Yg y j=.free:=by
 grind [Yg,Nat.ble_eq]
theorem Rr{l:List CS}{q:CS×Nat}(h:q∈l.zipIdx):l[q.2]?=some q.1:=by
 grind
open Classical in
theorem IN{k:Value}{a:AV}(h:∀a',(k,a')∉BM):EN BM k a=BM++[(k,a)]:=by
 grind [EN]
open Classical in
theorem dZ{k:Value}{a a' : AV}(h:(k,a')∈BM):EN BM k a=BM.map fun p=>if p.1=k then(k,a)else p:=by
 unfold EN;rw[AO ⟨a',h⟩]
section
variable {y:Ar4}{r:F}{k:Nat}
theorem Lp(h:(AL y [])[k]?=some r.path):AL (y++[r]) []=AL y []:=by
 grind [L6]
theorem Ln(h:r.path∉AL y []):AL (y++[r]) []=AL y []++[r.path]:=by
 grind [L6]
theorem Jw{l:List CS}(hd:l.Nodup){i j:Nat}(h1:l[i]?=some p)(h2:l[j]?=some p):i=j:=by
 grind [List.getElem_inj]
open Classical in
theorem wA(h:(AL y [])[k]?=some r.path):EN (Xc y) (.string r.path) (.slice (.id (k+50) 9) (iL y r.path++[Ay r]))=Xc (y++[r]):=by
 have hd:=EM y [] GX;have hm:AeJ y (r.path,k)∈Xc y:=Ap.2 ⟨_,HJ.2 h,rfl⟩;rw[dZ (a':=.slice (.id (k+50) 9) (iL y r.path)) hm];unfold Xc;rw[Lp h,Bo];refine Ca fun q hq=>?_
 grind [Jw]
theorem lx(h:r.path∉AL y []):iL y r.path=[]:=by
 grind [List.filter_eq_nil_iff,Hw]
theorem q9(h:r.path∉AL y [])(a:AV):(Value.string r.path,a)∉Xc y:=by
 grind
theorem wz(h:r.path∉AL y []):EN (Xc y) (.string r.path) (.slice (.id ((AL y []).length+50) 9) [Ay r])=Xc (y++[r]):=by
 grind [IN,Ln,List.map_congr_left,lx]
theorem rf{j:Nat}(h:(AL y [])[j]?=some p):(Value.string p,AV.slice (.id (j+50) 9) (iL y p))∈Xc y/\∀b,(Value.string p,b)∈Xc y->b=AV.slice (.id (j+50) 9) (iL y p):=by
 refine⟨Ap.2 ⟨(p,j),HJ.2 h,rfl⟩,fun b hb=>?_⟩
 grind [Jw,EM]
theorem uu{j:Nat}(h:(AL y [])[j]?=some p):Mf y j=.tok 9 (iL y p).length:=by
 grind [Mf]
theorem yD(h:(AL y [])[k]?=some r.path)(l:Nat):(bif Nat.beq (l+50) (k+50)then HO.tok 9 ((iL y r.path).length+1)else Mf y l)=Mf (y++[r]) l:=by
 grind [Nat.beq_refl,Mf,Lp,Nat.eq_of_beq_eq_true,Jw,EM]
theorem yC(h:r.path∉AL y [])(l:Nat):(bif Nat.beq (l+50) ((AL y []).length+50)then HO.tok 9 1 else Mf y l)=Mf (y++[r]) l:=by
 grind [Nat.beq_refl,Mf,Ln,lx,Nat.eq_of_beq_eq_true]
end
theorem RX{h:Nat->HO}:∀{BM:List (Value×AV)},(∀p∈BM,aB h p.2=true)->TM h BM=true
 | [],_=>rfl
 |p::r,hk=>by
  unfold TM;rw[hk p (Ad ..)];exact RX (fun q hq=>hk q (Aj _ hq))
theorem LQ{h:Nat->HO}(hh:∀l,h (l+50)=Mf y l):TM h (Xc y)=true:=by
 refine RX fun p hp=>?_;obtain⟨q,h1,rfl⟩:=Ap.1 hp;show Ui h (q.2+50)=true
 grind [Ui,uu]
theorem JI{y:Ar4}{h h' : Nat->HO}(hh:∀l,h (l+50)=Mf y l)(j:Nat):Yg y j=.free\/(h j=Yg y j/\Uj h' (Yg y j)=true):=by
 by_cases hj:j<50
 .grind [Abs]
 .obtain⟨l,rfl⟩:∃l,j=l+50:=⟨j-50,by omega⟩
  right
  rw[H4];refine⟨hh l,?_⟩;unfold Mf;cases (AL y [])[l]?<;>rfl
theorem x9{x:Ar4}(hx:AU x=0)(hi:i<x.length):EN ((x.take i).map Xy) (Ys (DJ x[i])) (.agg (Ay x[i]))=(x.take (i+1)).map Xy:=by
 rw[IN]
 .rw[DV,Ge hi,Au];rfl
 intro a ha;obtain⟨r,hr,he,_⟩:=aK ha;obtain⟨j,hj,e2⟩:=Fc.1 hr;rw[Bf]at hj;rw[List.getElem_take]at e2;have hp:=(BN hx).2
 grind [List.pairwise_iff_getElem,Po]
abbrev Ag4:Of:=⟨[],[],[],[],[8,9],[9],[40],[],[],[],[8,9,10,11]⟩
abbrev zT:List AV:=[.v (.map none),.v (.map none)]
theorem vX(rj:PC 47 [Sa x ifs] (G (AU x)))(h0:AU x≠0):pQ x ifs:=by
 have ht:AcL x=.tup [.agg [.cmap Zm [],.cmap CU []],G (AU x)]:=aa0
 unfold pQ;rw[ht];refine Ps Ag4 func51 rfl C4 (M 0 (M 0 (U (M 0 (U (C1 (H (rj) (M 0 (J ?_ ?_)))))))))
 .intro _;refine M 0 (U (U (U ?_)));exact .refl _
 .intro h;exact absurd h (fun hc=>hc h0)
theorem Hv:∀(y:Ar4) (acc:List CS),(AL y acc).length<=acc.length+y.length
 | [],acc=>by simp[AL]
 |r::y,acc=>by
  rw[AL];refine Az (Hv y _) ?_
  grind
section
abbrev qq3:=fun(x:Ar4) i=>([(2,.cells zT),(4,.cells [.mref 8,.mref 9]),(8,.map Zm ((x.take (i+1)).map Xy)),(9,.mapU CU (Xc (x.take (i+1))))]:List (Nat×HO))
attribute [local irreducible] Iy
theorem AaU(rj:PC 47 [Sa x ifs] (G (AU x)))(h0:AU x=0)(CN:x.length<=256):pQ x ifs:=by
 have ht:AcL x=.tup [.agg [.cmap Zm (x.map Xy),.cmap CU ((AL x []).map (zX x))],G 0]:=aa0
 unfold pQ;rw[ht];rw[h0]at rj;refine Ps Ag4 func51 rfl C4 (M 0 (M 0 (U (M 0 (U (C1 (H (rj) (M 0 (J ?_ ?_)))))))))
 .intro hc;exact absurd (show(0:Int)≠0 from hc) aa3
 intro _;refine M 0 (M {i:Nat // i<=x.length} (M (fun i=>⟨[(2,.ref 2 0),(4,.ref 4 0),(18,sl Ay x),(19,G (x.map Ay).length),(20,G i.1)],[(2,.cells zT),(4,.cells [.mref 8,.mref 9]),(8,.map Zm ((x.take i.1).map Xy)),(9,.mapU CU (Xc (x.take i.1)))],Yg (x.take i.1)⟩) (M (fun i=>x.length-i.1) (J (M ⟨0,Ai _⟩ ?_) ?_))))
 .refine⟨Z5,Z4,fun j=>.inl ?_,X⟩;show Yg [] j=.free;unfold Yg;cases Nat.ble 50 j<;>rfl
 intro⟨i,i1⟩;refine M 0 (J ?_ ?_)
 .intro h;have h:i<x.length:=aa0
  have hg:x[i]?=some x[i]:=Ge h;have Mp:x.take (i+1)=x.take i++[x[i]]:=aa0
  refine M 0 (M (Ay x[i]) (J (J I aa0) (J rfl ?_)));refine J C4 (U (M ⟨[(2,.ref 2 0),(4,.ref 4 0),(7,.ref 7 0),(18,sl Ay x),(19,G (x.map Ay).length),(20,G i)],[(2,.cells zT),(4,.cells [.mref 8,.mref 9]),(7,.cells (Ay x[i])),(8,.map Zm ((x.take i).map Xy)),(9,.mapU CU (Xc (x.take i)))],Yg (x.take i)⟩ (J ?_ ?_)))
  .exact⟨Z6,⟨Z,Z,Z,Z,⟨rfl,LQ _ (H4 _)⟩,X⟩,JI (H4 _),X⟩
  refine M 0 (U (H (AaF x[i]) (U (J aa5 ?_))));have e8:EN ((x.take i).map Xy) (Ys (DJ x[i])) (.agg (Ay x[i]))=(x.take (i+1)).map Xy:=x9 h0 h;refine M ⟨[(2,.ref 2 0),(4,.ref 4 0),(7,.ref 7 0),(18,sl Ay x),(19,G (x.map Ay).length),(20,G i)],[(2,.cells zT),(4,.cells [.mref 8,.mref 9]),(7,.cells (Ay x[i])),(8,.map Zm ((x.take (i+1)).map Xy)),(9,.mapU CU (Xc (x.take i)))],Yg (x.take i)⟩ (J ?_ ?_)
  .exact⟨Z6,⟨Z,Z,Z,⟨Aa (HO.map Zm) e8,rfl⟩,⟨rfl,LQ _ (H4 _)⟩,X⟩,JI (H4 _),X⟩
  have hL:((x.take i).filter (fun r=>decide (r.path=x[i].path))).length<=256:=by
   grind
  have hP:∀l,Yg (x.take i) (l+50)=Mf (x.take i) l:=H4 _;refine Be (Classical.em (x[i].path∈AL (x.take i) [])) (fun hp=>?_) (fun hp=>?_)
  .refine AE (B4.1 hp) (fun k hk=>?_);have hu:=rf hk;refine M 0 ?_;refine Or.inl (M (.slice (.id (k+50) 9) (iL (x.take i) x[i].path)) (J hu ?_));refine U ?_;have hr:Yg (x.take i) (k+50)=.tok 9 (iL (x.take i) x[i].path).length:=by rw[hP,uu hk]
   have hl:(iL (x.take i) x[i].path).length<=256:=aa2
   refine Tl (e:=70) (m:=8) (es2:=[Ay x[i]]) rfl rfl rfl (fun _ h=>h) hr ⟨rfl,trivial⟩ (by show(_+1)*120<=_;omega) aa2 ?_;have Afc:k<256:=by
    have:=(AN.1 hk).1
    have:=Hv (x.take i) []
    grind
   have xd:=hk;refine J (Jj ⟨AQ _,AQ _,AQ _,AQ _,AQ _,AQ _,AQ _,AQ _,AQ _,AQ _,DX (show 39<10000000 by decide),DX I,DX (show 9<10000000 by decide),trivial⟩ aa5) ?_;have e9:EN (Xc (x.take i)) (.string x[i].path) (.slice (.id (k+50) 9) (iL (x.take i) x[i].path++[Ay x[i]]))=Xc (x.take (i+1)):=by rw[Mp];exact wA xd
   have hG:∀l,(bif Nat.beq (l+50) (k+50)then HO.tok 9 ((iL (x.take i) x[i].path).length+1)else Mf (x.take i) l)=Mf (x.take (i+1)) l:=by rw[Mp];exact yD xd
   refine M ⟨[(2,.ref 2 0),(4,.ref 4 0),(18,sl Ay x),(19,G (x.map Ay).length),(20,G i)],(qq3 x i),Yg (x.take (i+1))⟩ (J ?_ ?_)
   .refine⟨Z5,⟨Z,Z,Z,⟨Aa (HO.mapU CU) e9,LQ _ (H4 _)⟩,X⟩,JI (fun l=>?_),X⟩;show(bif Nat.beq (l+50) (k+50)then HO.tok 9 ((iL (x.take i) x[i].path).length+1)else Yg (x.take i) (l+50))=_
    grind
   refine M 0 (J (Ii i I) (M ⟨i+1,by omega⟩ ?_));exact⟨by grind,Z5,⟨Z,Z,Z,⟨rfl,LQ _ (H4 _)⟩,X⟩,JI (H4 _),X⟩
  .have xd:=hp;have du:(AL (x.take i) []).length<=256:=by
    have:=Hv (x.take i) []
    grind
   have hn:=q9 hp;refine M ((AL (x.take i) []).length+50) ?_;refine Or.inr (J hn ?_);refine U ?_;have hr:Yg (x.take i) ((AL (x.take i) []).length+50)=.free:=by
    rw[hP];unfold Mf;simp_all
   refine Tj (e:=70) (m:=8) (es2:=[Ay x[i]]) rfl rfl rfl (fun _ h=>h) hr rfl ⟨rfl,trivial⟩ (by show 1*120<=_;omega) aa0 ?_;refine J (Jj ⟨AQ _,AQ _,AQ _,AQ _,AQ _,AQ _,AQ _,AQ _,AQ _,AQ _,DX (show 39<10000000 by decide),DX (by show _+50<10000000;omega),DX (show 9<10000000 by decide),trivial⟩ aa5) ?_;have e9:EN (Xc (x.take i)) (.string x[i].path) (.slice (.id ((AL (x.take i) []).length+50) 9) [Ay x[i]])=Xc (x.take (i+1)):=by rw[Mp];exact wz xd
   have hG:∀l,(bif Nat.beq (l+50) ((AL (x.take i) []).length+50)then HO.tok 9 1 else Mf (x.take i) l)=Mf (x.take (i+1)) l:=by rw[Mp];exact yC xd
   refine M ⟨[(2,.ref 2 0),(4,.ref 4 0),(18,sl Ay x),(19,G (x.map Ay).length),(20,G i)],(qq3 x i),Yg (x.take (i+1))⟩ (J ?_ ?_)
   .refine⟨Z5,⟨Z,Z,Z,⟨Aa (HO.mapU CU) e9,LQ _ (H4 _)⟩,X⟩,JI (fun l=>?_),X⟩;show(bif Nat.beq (l+50) ((AL (x.take i) []).length+50)then HO.tok 9 1 else Yg (x.take i) (l+50))=_;simp_all
   refine M 0 (J (Ii i I) (M ⟨i+1,by omega⟩ ?_));exact⟨by grind,Z5,⟨Z,Z,Z,⟨rfl,LQ _ (H4 _)⟩,X⟩,JI (H4 _),X⟩
 .intro h;have h:¬i<x.length:=aa0
  have et:x.take i=x:=AD I;refine M ⟨[(2,.ref 2 0),(4,.ref 4 0)],[(2,.cells zT),(4,.cells [.mref 8,.mref 9]),(8,.map Zm ((x.take i).map Xy)),(9,.mapU CU (Xc (x.take i)))],Yg (x.take i)⟩ (J ?_ ?_)
  .exact⟨Z2,⟨Z,Z,Z,⟨rfl,LQ _ (H4 _)⟩,X⟩,JI (H4 _),X⟩
  refine M 0 (U (U (U ?_)));have es:∀h:Nat->HO,Up h (Xc (x.take i))=(AL x []).map (zX x):=fun h=>by
   rw[et];unfold Up Xc;rw[Bo];refine Cu fun j=>?_;rw[BC,BC,List.getElem?_zipIdx];cases (AL x [])[j]?<;>rfl
  have e1:(x.take i).map Xy=x.map Xy:=by rw[et]
  exact .of_eq (show AV.tup [.agg [.cmap Zm ((x.take i).map Xy),.cmap CU (Up _ (Xc (x.take i)))],G 0]=_ by rw[e1,es])
end
theorem c84(hx:∀r∈x,Jz r):pQ x ifs:=by
 by_cases h0:AU x=0
 .exact AaU x ifs (c64 Xp x ifs hx) h0 (JM h0).1
 .exact vX x ifs (c64 Xp x ifs hx) h0
abbrev plT(n:Nat):Of:=⟨[],[(2,n)],[],[],[],[],[5],[],[],[],[2,3]⟩
theorem Aes(l:Ar3)(hl:CC l):A1 prog 57 [sl Ak l] (Ah [] Ab) fun r h'=>r=.slice (.id 2000 2) (l.map Ak)/\h'=Ah [(2000,.tok 2 (l.map Ak).length)] Ab:=by
 refine Bv (Ky (plT 2)) [(2,2000)] rfl BO hm rfl func57 aa5 rfl C4 aa5 rfl ?_;have El:Cq 2 (l.map Ak)/\([]:C0).length=0/\(([]:C0).length+(l.map Ak).length)*40<=2^47/\([]:C0).length+(l.map Ak).length<=2^63-1:=by
  grind [DK]
 have e2:HO.tok 2 (([]:C0).length+(l.map Ak).length)=.tok 2 (l.map Ak).length:=aa0
 have e3:AV.slice (.id 2000 2) ([]++l.map Ak)=.slice (.id 2000 2) (l.map Ak):=rfl;have full:∀st:St,(∃s:LS,St.le (Ky (plT 2)) st s/\True)->True:=fun _ _=>trivial;refine M 0 (M 0 (J ?_ ?_))
 .intro _;refine cU [(0,sl Ak l)] [] Z1 X (M 2 (J El ?_));exact H (.refl _) (J e3 (Aa (fun o=>Ah [(2000,o)] Ab) e2))
 .intro h;have h:l.map Ak=[]:=h;refine J ?_ ?_
  .refine M ⟨[],[],Ab⟩ (J ⟨trivial,trivial,fun _=>.inl rfl,AX aa5⟩ ?_);refine M 0 ?_;exact H (.refl _) (J (show AV.slice (.id 2000 2) []=_ by rw[h]) (show Ah [(2000,HO.tok 2 0)] Ab=_ by simp_all))
  .refine cU [(0,sl Ak l)] [] Z1 X (M 2 (J El ?_));exact H (.refl _) (J e3 (Aa (fun o=>Ah [(2000,o)] Ab) e2))
theorem AaS(l:Ar6)(hl:CC l):A1 prog 76 [sl Ar l] (Ah [] Ab) fun r h'=>r=.slice (.id 2000 4) (l.map Ar)/\h'=Ah [(2000,.tok 4 (l.map Ar).length)] Ab:=by
 refine Bv (Ky (plT 4)) [(2,2000)] rfl BO hm rfl func76 aa5 rfl C4 aa5 rfl ?_;have El:Cq 4 (l.map Ar)/\([]:C0).length=0/\(([]:C0).length+(l.map Ar).length)*40<=2^47/\([]:C0).length+(l.map Ar).length<=2^63-1:=by
  grind [DK]
 have e2:HO.tok 4 (([]:C0).length+(l.map Ar).length)=.tok 4 (l.map Ar).length:=aa0
 have e3:AV.slice (.id 2000 4) ([]++l.map Ar)=.slice (.id 2000 4) (l.map Ar):=rfl;refine M 0 (M 0 (J ?_ ?_))
 .intro _;refine cU [(0,sl Ar l)] [] Z1 X (M 2 (J El ?_));exact H (.refl _) (J e3 (Aa (fun o=>Ah [(2000,o)] Ab) e2))
 .intro h;refine J ?_ ?_
  .refine M ⟨[],[],Ab⟩ (J ⟨trivial,trivial,fun _=>.inl rfl,AX aa5⟩ ?_);refine M 0 ?_;exact H (.refl _) (J (show AV.slice (.id 2000 4) []=_ by rw[h]) (show Ah [(2000,HO.tok 4 0)] Ab=_ by simp_all))
  .refine cU [(0,sl Ar l)] [] Z1 X (M 2 (J El ?_));exact H (.refl _) (J e3 (Aa (fun o=>Ah [(2000,o)] Ab) e2))
abbrev Al5:Of:=⟨[9,16],[],[],[],[],[],[],[],[(98,3)],[],[5,6,7,8,10,11,13,14]⟩
abbrev gl(p:Ar5×Bool):AV:=.tup [sl AT p.1,Q p.2]
def bw(v:gg)(o:F)(x:Ar4)(k:Ar5):Ar5×Bool:=match k with
  | []=>([],false)
  |y::k'=>if !decide (y.path=v.rel.path)||!decide (y.place=plc o.ver)then([],false)else match E5 d y.inf with
   |none=>([],false)
   |some t=>if BW t (v.before++[DJ o])then DZ d v x k' else([],false)
theorem Zn(v:gg)(o:F)(x:Ar4)(k:Ar5):DZ d v (o::x) k =
  if !decide (o.path=v.rel.path)||o.yanked||!decide (plc o.ver<plc v.rel.ver)then DZ d v x k else
  if v.needs.any (fun q=>decide (q.path=v.rel.path)&&!has q.set (plc o.ver))then DZ d v x k else bw d v o x k:=by
 cases k<;>rfl
theorem N9{d:Ar7}{v:gg}{x:Ar4}(h:i<x.length){k:Ar5}{p:Ar5×Bool}(e:p=DZ d v (x.drop i) k)(hs:(!decide (x[i].path=v.rel.path)||x[i].yanked||!decide (plc x[i].ver<plc v.rel.ver))=true\/v.needs.any (fun q=>decide (q.path=v.rel.path)&&!has q.set (plc x[i].ver))=true):p=DZ d v (x.drop (i+1)) k:=by
 grind [List.drop_eq_getElem_cons,Zn]
theorem yx{d:Ar7}{v:gg}{x:Ar4}(h:i<x.length){k:Ar5}{p:Ar5×Bool}(e:p=DZ d v (x.drop i) k)(h1:x[i].path=v.rel.path)(h2:x[i].yanked=false)(h3:plc x[i].ver<plc v.rel.ver)(h4:v.needs.any (fun q=>decide (q.path=v.rel.path)&&!has q.set (plc x[i].ver))=false):p=bw d v x[i] (x.drop (i+1)) k:=by
 grind [List.drop_eq_getElem_cons,Zn]
theorem Lt:Da (.tup [nzA,Q false]) (gl ([],false)):=Da.tup ⟨.nil,.refl _,trivial⟩
theorem pi(k:Ar5):(((k.map AT).take ((k.map AT).length:Int).toNat).drop (1:Int).toNat)=(k.drop 1).map AT:=by
 grind [List.take_length,List.map_drop]
abbrev qq4:=fun(x:Ar4) (ifs:AV) (roots:Ar3) (d:Ar7) (k:Ar5) (before:Ar6) (needs:Ar3) (r:F) i=>([(0,.cptr (IJ x ifs roots d)),(1,sl AT k),(2,sl Ar before),(3,sl Ak needs),(9,.ref 9 0),(12,G (plc r.ver)),(29,sl Ay x),(30,G (x.map Ay).length),(31,G i)]:List (Nat×AV))
abbrev qq5:=fun(KT:F)=>([[vs KT.path,G KT.ver.a,G KT.ver.b,G KT.ver.c]]:C0)
abbrev qq6:=fun(x:Ar4) (ifs:AV) (roots:Ar3) (d:Ar7) (k:Ar5) (before:Ar6) (needs:Ar3) (r:F) i=>([(0,.cptr (IJ x ifs roots d)),(1,sl AT k),(2,sl Ar before),(3,sl Ak needs),(9,.ref 9 0),(12,G (plc r.ver)),(15,.ref 15 0),(16,.ref 16 0),(29,sl Ay x),(30,G (x.map Ay).length),(31,G i)]:List (Nat×AV))
abbrev qq7:=fun(KT:F) (r:F)=>([(9,.ro (Ay r)),(15,.cells (Ay KT)),(16,.ro [G (plc KT.ver)])]:List (Nat×HO))
theorem c47(ifs:AV)(roots:Ar3)(d:Ar7)(k:Ar5)(before:Ar6)(needs:Ar3)(r:F)(hx:x.length<=256)(_hd:d.length<=65536)(ht:∀t∈d,ZE t)(hb:before.length<=1000)(hn:CC needs)(hq:∀q∈needs,CC q.set) :
  PC 110 [.cptr (IJ x ifs roots d),sl AT k,sl Ar before,sl Ak needs,.agg (Ay r)] (gl (DZ d ⟨before,needs,r⟩ x k)):=by
 have hbf:CC before:=I
 obtain⟨P,hP⟩:∃P,P=DZ d ⟨before,needs,r⟩ x k:=⟨_,rfl⟩;rw[<-hP];refine Ps Al5 func110 rfl C4 (U (C1 (H (c56 r.ver) (M {p:Nat×Ar5 // p.1<=x.length/\P=DZ d ⟨before,needs,r⟩ (x.drop p.1) p.2} (M (fun p=>⟨[(0,.cptr (IJ x ifs roots d)),(1,sl AT p.1.2),(2,sl Ar before),(3,sl Ak needs),(9,.ref 9 0),(12,G (plc r.ver)),(29,sl Ay x),(30,G (x.map Ay).length),(31,G p.1.1)],[(9,.ro (Ay r))],Ab⟩) (M (fun p=>x.length-p.1.1) (J (M ⟨(0,k),Ai _,hP⟩ ?_) ?_)))))))
 .exact⟨Z9,Z1,Fh,X⟩
 intro⟨⟨i,k⟩,i1,i2⟩;refine J ?_ ?_
 .intro h;have h:i<x.length:=aa0
  have hg:x[i]?=some x[i]:=Ge h;refine M (Ay x[i]) (J (J I aa0) (J rfl ?_));refine J C4 (U (cU [(0,.cptr (IJ x ifs roots d)),(1,sl AT k),(2,sl Ar before),(3,sl Ak needs),(9,.ref 9 0),(12,G (plc r.ver)),(15,.ref 15 0),(29,sl Ay x),(30,G (x.map Ay).length),(31,G i)] [(9,.ro (Ay r)),(15,.cells (Ay x[i]))] Z10 Z2 (U (C1 (H (c56 x[i].ver) (U (M ⟨(qq6 x ifs roots d k before needs r i),(qq7 x[i] r),Ab⟩ (J ⟨Z11,Z3,Fh,X⟩ (J ?_ ?_)))))))))
  .intro h1;have i3:=N9 h i2 (.inl aa0);refine M ⟨(qq4 x ifs roots d k before needs r i),[(9,.ro (Ay r))],Ab⟩ (J ⟨Z9,Z1,Fh,X⟩ (J (by grind [As]) (M ⟨(i+1,k),by omega,i3⟩ ?_)));exact⟨by grind,Z9,Z1,Fh,X⟩
  intro h1;have h1:x[i].path=r.path:=BP.1 h1;refine J ?_ ?_
  .intro h2;have i3:=N9 h i2 (.inl aa0);refine M ⟨(qq4 x ifs roots d k before needs r i),[(9,.ro (Ay r))],Ab⟩ (J ⟨Z9,Z1,Fh,X⟩ (J (by grind [As]) (M ⟨(i+1,k),by omega,i3⟩ ?_)));exact⟨by grind,Z9,Z1,Fh,X⟩
  intro h2;refine J ?_ ?_
  .intro h3;have i3:=N9 h i2 (.inl aa0);refine M ⟨(qq4 x ifs roots d k before needs r i),[(9,.ro (Ay r))],Ab⟩ (J ⟨Z9,Z1,Fh,X⟩ (J (by grind [As]) (M ⟨(i+1,k),by omega,i3⟩ ?_)));exact⟨by grind,Z9,Z1,Fh,X⟩
  intro h3;have h3:plc x[i].ver<plc r.ver:=I
  refine M ⟨(qq6 x ifs roots d k before needs r i),(qq7 x[i] r),Ab⟩ (J ⟨Z11,Z3,Fh,X⟩ ?_)
  have AjU:∀q∈needs,PC 187 ([.agg (Ak q)]++[.cptr (Ay r),.cptr [G (plc x[i].ver)]]) (Q (decide (q.path=r.path)&&!has q.set (plc x[i].ver))):=fun q hh=>c90 q r (plc x[i].ver) (hq q hh);have LU:=c89 (fF:=187) (caps:=[.cptr (Ay r),.cptr [G (plc x[i].ver)]]) (fun c hc=>by
   rcases AJ.1 hc with rfl | hc
   .intro h;rfl
   .obtain rfl:=AA.1 hc;intro h;rfl) needs (fun q=>decide (q.path=r.path)&&!has q.set (plc x[i].ver)) AjU hn
  refine Be (Bt (needs.any fun q=>decide (q.path=r.path)&&!has q.set (plc x[i].ver))) (fun h4=>?_) (fun h4=>?_)
  .rw[h4]at LU;refine C1 (H (LU) ?_);have i3:=N9 h i2 (.inr h4);refine M ⟨(qq4 x ifs roots d k before needs r i),[(9,.ro (Ay r))],Ab⟩ (J ⟨Z9,Z1,Fh,X⟩ (J (by grind [As]) (M ⟨(i+1,k),by omega,i3⟩ ?_)));exact⟨by grind,Z9,Z1,Fh,X⟩
  rw[h4]at LU;refine C1 (H (LU) ?_);have i4:P=bw d ⟨before,needs,r⟩ x[i] (x.drop (i+1)) k:=yx h i2 h1 h2 h3 h4;refine M ⟨(qq6 x ifs roots d k before needs r i),(qq7 x[i] r),Ab⟩ (J ⟨Z11,Z3,Fh,X⟩ (J ?_ ?_))
  .intro hh;refine J aa5 ?_;have e:P=([],false):=by rw[i4,show k=[]from AI aa0];rfl
   exact Lt.trans (.of_eq (show gl ([],false)=gl P by rw[e]))
  intro hk;refine AE (show ∃y k',k=y::k' by cases k<;>simp_all) (fun y hy=>?_)
  refine AE hy (fun k' hy=>?_);have wW:(k.map AT)[(0:Int).toNat]?=some (AT y):=aa0
  have i5:P=bw d ⟨before,needs,r⟩ x[i] (x.drop (i+1)) (y::k'):=aa0
  refine M (AT y) (J (J aa3 wW) (J rfl (J ?_ ?_)))
  .intro hh;refine J aa5 ?_;have e:P=([],false):=by rw[i5];show(if _ then _ else _)=_;simp_all
   exact Lt.trans (.of_eq (show gl ([],false)=gl P by rw[e]))
  intro h5;have h5:y.path=r.path:=BP.1 h5;refine M (AT y) (J (J aa3 wW) (J rfl (J ?_ ?_)))
  .intro hh;refine J aa5 ?_;have e:P=([],false):=by rw[i5];show(if _ then _ else _)=_;simp_all
   exact Lt.trans (.of_eq (show gl ([],false)=gl P by rw[e]))
  intro h6;have h6:y.place=plc x[i].ver:=BP.1 h6;have i6:P=match E5 d y.inf with | none=>([],false) | some t=>if BW t (before++[DJ x[i]])then DZ d ⟨before,needs,r⟩ (x.drop (i+1)) k' else([],false):=by
   rw[i5];show(if _ then _ else _)=_;simp_all
  refine M (AT y) (J (J aa3 wW) (J rfl (J ?_ ?_)))
  .intro hh;have hh:y.inf<0:=hh;refine J aa5 ?_;have e:P=([],false):=by grind [E5]
   exact Lt.trans (.of_eq (show gl ([],false)=gl P by rw[e]))
  intro h7;have h7:¬y.inf<0:=h7;refine M (AT y) (J (J aa3 wW) (J rfl (J ?_ ?_)))
  .intro hh;have hh:((d.map BD).length:Int)<=y.inf:=hh;refine J aa5 ?_;have e:P=([],false):=by grind [E5]
   exact Lt.trans (.of_eq (show gl ([],false)=gl P by rw[e]))
  intro h8;have h8:¬((d.map BD).length:Int)<=y.inf:=h8;rw[Lm]at h8;refine J aa5 (AE (show ∃j:Nat,y.inf=j from⟨y.inf.toNat,by omega⟩) (fun j hj=>?_));have wX:j<d.length:=I
  have hdg:d[j]?=some d[j]:=Ge wX;have Akp:E5 d y.inf=some d[j]:=by grind [E5]
  rw[Akp]at i6;have i6:P=if BW d[j] (before++[DJ x[i]])then DZ d ⟨before,needs,r⟩ (x.drop (i+1)) k' else([],false):=i6
  refine cU [(0,.cptr (IJ x ifs roots d)),(1,sl AT k),(2,sl Ar before),(3,sl Ak needs),(9,.ref 9 0),(12,G (plc r.ver)),(15,.ref 15 0),(29,sl Ay x),(30,G (x.map Ay).length),(31,G i)] [(9,.ro (Ay r)),(15,.cells (Ay x[i]))] Z10 Z2 (M 4 (M (before.map Ar) (J rfl (J (AaS before hbf) (U ?_)))));have El:Cq 4 (qq5 x[i])/\(before.map Ar).length=(before.map Ar).length/\((before.map Ar).length+(qq5 x[i]).length)*40<=2^47/\(before.map Ar).length+(qq5 x[i]).length<=2^63-1:=
   ⟨⟨rfl,trivial⟩,rfl,by grind,by grind⟩
  refine J El (J aa5 (cU [(0,.cptr (IJ x ifs roots d)),(1,sl AT k),(2,sl Ar before),(3,sl Ak needs),(9,.ref 9 0),(12,G (plc r.ver)),(18,.slice (.id 19800 4) (before.map Ar++(qq5 x[i]))),(29,sl Ay x),(30,G (x.map Ay).length),(31,G i)] [(9,.ro (Ay r)),(19800,.tok 4 ((before.map Ar).length+(qq5 x[i]).length))] Z10 Z2 ?_))
  have wU:PC 188 [sl E d[j],.slice .none (before.map Ar++(qq5 x[i]))] (Q (BW d[j] (before++[DJ x[i]]))):=by
   have:=c91 d[j] (before++[DJ x[i]]) (ht _ (Am wX)) aa2
   grind [DJ]
  have hgd:(d.map BD)[y.inf.toNat]?=some (BD d[j]):=aa0
  refine M (AT y) (J (J aa3 wW) (J rfl (M (BD d[j]) (J (J I hgd) (J rfl (Be (Bt (BW d[j] (before++[DJ x[i]]))) (fun h9=>?_) (fun h9=>?_)))))))
  .rw[h9]at wU;refine H (wU) (J aa5 ?_);rw[AO h9]at i6;have hkl:1<=(k.map AT).length:=I
   refine M ⟨(qq4 x ifs roots d k before needs r i),[(9,.ro (Ay r))],Ab⟩ (J ⟨Z9,Z1,Fh,X⟩ ?_);refine J aa2 (J (fun c hc=>by
    obtain⟨z,_,rfl⟩:=Ap.1 hc;rfl) ?_)
   have ek:AV.slice .none (((k.map AT).take ((k.map AT).length:Int).toNat).drop (1:Int).toNat)=sl AT k':=by grind [pi]
   refine cU [(0,.cptr (IJ x ifs roots d)),(1,sl AT k'),(2,sl Ar before),(3,sl Ak needs),(9,.ref 9 0),(12,G (plc r.ver)),(29,sl Ay x),(30,G (x.map Ay).length),(31,G i)] [(9,.ro (Ay r))] ⟨Z,⟨ek,rfl⟩,Z,Z,Z,Z,Z,Z,Z,X⟩ Z1 (J (Ii i I) (M ⟨(i+1,k'),by omega,i6⟩ ?_));exact⟨by grind,Z9,Z1,Fh,X⟩
  .rw[h9]at wU;refine H (wU) (J aa5 ?_);have e:P=([],false):=aa0
   exact Lt.trans (.of_eq (show gl ([],false)=gl P by rw[e]))
 .intro h;have h:¬(i:Int)<(x.map Ay).length:=h;have h:¬i<x.length:=aa0
  have e:P=(k,true):=by rw[i2,KM I];rfl
  exact .of_eq (show gl (k,true)=gl P by rw[e])
abbrev sH(a:Bool×Ar5):List (Nat×HO):=[(1000,.cells [sl AT a.2]),(1001,.cells [Q a.1])]
theorem c46(ifs:AV)(roots:Ar3)(d:Ar7)(a:Bool×Ar5)(before:Ar6)(needs:Ar3)(r:F)(hx:x.length<=256)(hd:d.length<=65536)(ht:∀t∈d,ZE t)(hb:before.length<=1000)(hn:CC needs)(hq:∀q∈needs,CC q.set) :
  A1 prog 109 [sl Ar before,sl Ak needs,.agg (Ay r),.cptr [.cptr (IJ x ifs roots d)],.ref 1000 0,.ref 1001 0] (Ah (sH a) Ab) fun v h'=>v=.tup []/\h'=Ah (sH (Db x d a ⟨before,needs,r⟩)) Ab:=by
 obtain⟨b,k⟩:=a;have hc:=c47 x ifs roots d k before needs r hx hd ht hb hn hq;obtain⟨p,hp⟩:∃p,p=DZ d ⟨before,needs,r⟩ x k:=⟨_,rfl⟩;have es:Db x d (b,k) ⟨before,needs,r⟩=(b&&p.2&&!r.yanked,p.1):=by grind [Db]
 rw[<-hp]at hc;rw[es];obtain⟨k2,ok⟩:=p;have fin:∀z:Bool,z=(b&&ok&&!r.yanked)->Ah (sH (z,k2)) Ab=Ah (sH (b&&(k2,ok).2&&!r.yanked,(k2,ok).1)) Ab:=fun z hz=>by rw[hz]
 cases ok with
 |false=>
  refine Bv (Ky CF) [(1000,1000),(1001,1001)] rfl BO hm rfl func109 aa5 rfl C4 aa5 rfl (U (C1 (H (hc) (J ?_ ?_))))
  .intro h1;refine U (U ?_);exact H (.refl _) (J rfl (fin false aa0))
  .intro h1;refine U (U ?_);exact H (.refl _) (J rfl (fin false aa0))
 |true=>
  refine Bv (Ky CF) [(1000,1000),(1001,1001)] rfl BO hm rfl func109 aa5 rfl C4 aa5 rfl (U (C1 (H (hc) (J ?_ ?_))))
  .intro h1;have h1:b=true:=h1;refine J ?_ ?_
   .intro h2;have h2:r.yanked=true:=h2;refine U (U ?_);exact H (.refl _) (J rfl (fin false aa0))
   .intro h2;have h2:r.yanked=false:=h2;refine U (U ?_);exact H (.refl _) (J rfl (fin true aa0))
  .intro h1;have h1:b=false:=h1;refine U (U ?_);exact H (.refl _) (J rfl (fin false aa0))
def EQ(acc:Option CS)(q:Rq):Option CS:=if Cb before q.path then acc else match acc with
  |none=>some q.path
  |some p=>if E3 q.path p then some q.path else some p
theorem OI(before:Ar6):∀(a b:Ar3) (acc:Option CS),CD before (a++b) acc=CD before b (CD before a acc)
 | [],_,_=>rfl
 |q::a,b,acc=>OI before a b (if Cb before q.path then acc else match acc with |none=>some q.path |some p=>if E3 q.path p then some q.path else some p)
theorem eD(l:Ar3)(acc:Option CS){j:Nat}(h:j<l.length):CD before (l.take (j+1)) acc=EQ before (CD before (l.take j) acc) l[j]:=by
 rw[DV,Ge h];show CD before (l.take j++[l[j]]) acc=_;rw[OI];rfl
structure DI{S:Type}(x:Ar4)(roots:Ar3)(s:Ar6)(step:S->gg->S)(Xf:S)(before:Ar6)(needs:Ar3)(n:Nat)(st:S):Prop where
 nd:(before.map (·.path)).Nodup
 sub:∀y∈before,y∈s
 fuel:before.length+n=s.length+1
 few:∀q∈needs,CC q.set
 len:needs.length<=roots.length+16*before.length
 ok:(visits x roots s).2=(ED x s n before needs).2
 fold:(visits x roots s).1.foldl step Xf=(ED x s n before needs).1.foldl step st
section
variable {S:Type}{x:Ar4}{roots:Ar3}{s:Ar6}{step:S->gg->S}{Xf:S}{before:Ar6}{needs:Ar3}{n:Nat}{st:S}
theorem DI.start(hq:∀q∈roots,CC q.set)(Xf:S):DI x roots s step Xf [] roots (s.length+1) Xf:=
 ⟨by simp,fun _ h=>(by cases h),by simp,hq,by simp,rfl,rfl⟩
theorem DI.lt(h:DI x roots s step Xf before needs n st):before.length<=s.length:=by
 have:=De (m:=s.map (·.path)) h.nd fun p hp=>by
  grind [DI.sub]
 simp_all
theorem DI.pos(h:DI x roots s step Xf before needs n st):∃m,n=m+1:=by
 have:=h.lt
 have:=h.fuel
 exact⟨n-1,by omega⟩
theorem DI.stop{m:Nat}(h:DI x roots s step Xf before needs (m+1) st)(hp:Gz needs before=none):(visits x roots s).2=true/\(visits x roots s).1.foldl step Xf=st:=by
 have h1:=h.ok;have h2:=h.fold
 grind [ED]
theorem DI.lost{m:Nat}(h:DI x roots s step Xf before needs (m+1) st)(hp:Gz needs before=some p)(hf:Bw s p=none):(visits x roots s).2=false/\(visits x roots s).1.foldl step Xf=st:=by
 have h1:=h.ok;have h2:=h.fold
 grind [ED]
theorem DI.gone{m:Nat}(h:DI x roots s step Xf before needs (m+1) st){y:Sl}(hp:Gz needs before=some p)(hf:Bw s p=some y)(hr:BG x y=none):(visits x roots s).2=false/\(visits x roots s).1.foldl step Xf=st:=by
 have h1:=h.ok;have h2:=h.fold
 grind [ED]
theorem DI.next{m:Nat}(h:DI x roots s step Xf before needs (m+1) st){y:Sl}{r:F}(hp:Gz needs before=some p)(hf:Bw s p=some y)(hr:BG x y=some r)(hl:r.reqs.length<=16)(hq:∀q∈r.reqs,CC q.set) :
  DI x roots s step Xf (before++[y]) (needs++r.reqs) m (step st ⟨before,needs,r⟩):=by
 have h1:=h.ok;have h2:=h.fold;unfold ED at h1 h2;rw[hp]at h1 h2;simp only[hf,hr]at h1 h2;obtain⟨g1,g2⟩:=Iu hp<;>grind [Gx,Kg,EL,DI.mk,DI.nd,DI.sub,DI.fuel,DI.few,DI.len]
end
theorem nP(p:CS):(KI (fun y:Sl=>decide (y.path=p)) s 0=-1/\Bw s p=none)\/∃i y,KI (fun y:Sl=>decide (y.path=p)) s 0=(i:Nat)/\s[i]?=some y/\Bw s p=some y:=by
 rcases Nb (p:=fun y:Sl=>decide (y.path=p)) s 0 with h | ⟨i,y,h1,h2,h3⟩
 .exact .inl h
 .exact .inr ⟨i,y,by omega,h2,h3⟩
abbrev Al4:Of:=⟨[12],[(8,4)],[],[(49,[9])],[],[],[],[],[],[],[3,8,9,11,12,14,15,17,18,20,21]⟩
abbrev qq8:=fun(x:Ar4) (ifs:C0) (roots:Ar3) (d:Ar7)=>((2,.clo 109 [.cptr [.cptr (IJ x (.slice .none ifs) roots d)],.ref 1000 0,.ref 1001 0]):Nat×AV)
abbrev qq11:=fun(needs:Ar3)=>((7,.slice (.id 12100 2) (needs.map Ak)):Nat×AV)
abbrev qq12:=fun(before:Ar6)=>((8,.slice (.id 8 4) (before.map Ar)):Nat×AV)
abbrev qq13:=fun(x:Ar4) (ifs:C0) (roots:Ar3) (d:Ar7)=>((0,.cptr (IJ x (.slice .none ifs) roots d)):Nat×AV)
abbrev qq15:=fun(needs:Ar3)=>((22,.slice (.id 12100 2) (needs.map Ak)):Nat×AV)
abbrev qq9:=fun KT (x:Ar4) (ifs:C0) (roots:Ar3) (d:Ar7) (s:Ar6) (needs:Ar3) (before:Ar6) (acc:Option CS) (j:Nat)=>([(qq13 x ifs roots d),(1,sl Ar s),(qq8 x ifs roots d),(qq11 needs),(qq12 before),(9,.ref 9 0),(10,Q (EQ before acc KT).isSome),(qq15 needs),(23,G (needs.map Ak).length),(24,G j)]:List (Nat×AV))
abbrev qq10:=fun(needs:Ar3)=>((12100,.tok 2 (needs.map Ak).length):Nat×HO)
abbrev qq14:=fun KT (before:Ar6) (needs:Ar3) (st:Bool×Ar5) (acc:Option CS)=>([(8,.tok 4 (before.map Ar).length),(qq10 needs),(1000,.cells [sl AT st.2]),(1001,.cells [Q st.1]),(9,.cells [vs ((EQ before acc KT).getD mt)])]:List (Nat×HO))
theorem Aje(Xf:Bool×Ar5)(VF:pQ x ifs)(h0:AU x=0)(hx:∀r∈x,Jz r)(hrl:roots.length<=1000)(zP:∀q∈roots,CC q.set)(hs:s.length<=500)(hd:d.length<=65536)(ht:∀t∈d,ZE t) :
  A1 prog 108 [.cptr (IJ x (.slice .none ifs) roots d),sl Ar s,.clo 109 [.cptr [.cptr (IJ x (.slice .none ifs) roots d)],.ref 1000 0,.ref 1001 0]] (Ah (sH Xf) Ab) fun r h'=>r=Q (visits x roots s).2/\h'=Ah (sH ((visits x roots s).1.foldl (Db x d) Xf)) Ab:=by
 have rQ:=(JM h0).2;have zO:CC roots:=I
 refine Bv (Ky Al4) [(1000,1000),(1001,1001)] rfl BO hm rfl func108 aa5 rfl C4 aa5 rfl (M (.gen [] 1) (J rfl ((Aes roots zO).imp ?_)));intro v g q;have q1:=q.1;have q2:=q.2;subst q1;subst q2
 clear q
 refine M {p:Ar6×Ar3×Nat×Bool×Ar5 // DI x roots s (Db x d) Xf p.1 p.2.1 p.2.2.1 p.2.2.2} (M (fun p=>⟨[(qq13 x ifs roots d),(1,sl Ar s),(qq8 x ifs roots d),(7,.slice (.id 12100 2) (p.1.2.1.map Ak)),(8,.slice (.id 8 4) (p.1.1.map Ar))],[(8,.tok 4 (p.1.1.map Ar).length),(12100,.tok 2 (p.1.2.1.map Ak).length),(1000,.cells [sl AT p.1.2.2.2.2]),(1001,.cells [Q p.1.2.2.2.1])],Ab⟩) (M (fun p=>p.1.2.2.1) (J (M ⟨([],roots,s.length+1,Xf),DI.start zP Xf⟩ ?_) ?_)))
 .exact⟨Z5,Z4,Fh,AX aa5⟩
 intro⟨⟨before,needs,n,st⟩,inv⟩;refine AE inv.pos (fun m hm'=>?_);have inv:DI x roots s (Db x d) Xf before needs (m+1) st:=hm'▸inv;have hbl:=inv.lt;have hnl:=inv.len;have hnf:CC needs:=I
 have hbf:CC before:=I
 refine cU [(qq13 x ifs roots d),(1,sl Ar s),(qq8 x ifs roots d),(qq11 needs),(qq12 before)] [(8,.tok 4 (before.map Ar).length),(qq10 needs),(1000,.cells [sl AT st.2]),(1001,.cells [Q st.1])] Z5 Z4 (U (M {p:Nat×Option CS // p.1<=needs.length/\p.2=CD before (needs.take p.1) none} (M (fun p=>⟨[(qq13 x ifs roots d),(1,sl Ar s),(qq8 x ifs roots d),(qq11 needs),(qq12 before),(9,.ref 9 0),(10,Q p.1.2.isSome),(qq15 needs),(23,G (needs.map Ak).length),(24,G p.1.1)],[(8,.tok 4 (before.map Ar).length),(qq10 needs),(1000,.cells [sl AT st.2]),(1001,.cells [Q st.1]),(9,.cells [vs (p.1.2.getD mt)])],Ab⟩) (M (fun p=>needs.length-p.1.1) (J (M ⟨(0,none),Ai _,rfl⟩ ?_) ?_)))))
 .exact⟨Z10,Z5,Fh,AX aa5⟩
 intro⟨⟨j,acc⟩,j1,j2⟩;have j2:acc=CD before (needs.take j) none:=j2;refine J ?_ ?_
 .intro h;have h:(j:Int)<(needs.map Ak).length:=h;have h:j<needs.length:=aa0
  have hg:needs[j]?=some needs[j]:=Ge h;have Uw:=eD before needs none h;rw[<-j2]at Uw;refine M (Ak needs[j]) (J (J I aa0) (J rfl ?_));refine J C4 (U (cU [(qq13 x ifs roots d),(1,sl Ar s),(qq8 x ifs roots d),(qq11 needs),(qq12 before),(9,.ref 9 0),(10,Q acc.isSome),(12,.ref 12 0),(qq15 needs),(23,G (needs.map Ak).length),(24,G j)] [(8,.tok 4 (before.map Ar).length),(qq10 needs),(1000,.cells [sl AT st.2]),(1001,.cells [Q st.1]),(9,.cells [vs (acc.getD mt)]),(12,.ro (Ak needs[j]))] Z11 Z6 ?_))
  have wL:PC 183 [sl Ar before,.clo 184 [.cptr (Ak needs[j])]] (Q (Cb before needs[j].path)):=c51 (fF:=184) (caps:=[.cptr (Ak needs[j])]) (fun c hc=>by
   obtain rfl:=AA.1 hc;intro h;rfl) before (fun y=>decide (y.path=needs[j].path)) (fun y _=>c77 y needs[j]) hbf
  refine Be (Bt (Cb before needs[j].path)) (fun hd=>?_) (fun hd=>?_)
  .rw[hd]at wL;refine C1 (H (wL) ?_);have Jp:EQ before acc needs[j]=acc:=by unfold EQ;simp_all
   refine cU [(qq13 x ifs roots d),(1,sl Ar s),(qq8 x ifs roots d),(qq11 needs),(qq12 before),(9,.ref 9 0),(10,Q acc.isSome),(13,Q true),(qq15 needs),(23,G (needs.map Ak).length),(24,G j)] [(8,.tok 4 (before.map Ar).length),(qq10 needs),(1000,.cells [sl AT st.2]),(1001,.cells [Q st.1]),(9,.cells [vs (acc.getD mt)])] Z11 Z5 (M ⟨(qq9 needs[j] x ifs roots d s needs before acc j),(qq14 needs[j] before needs st acc),Ab⟩ (J ⟨⟨Z,Z,Z,Z,Z,Z,⟨Aa Q (Aa Option.isSome Jp.symm),rfl⟩,Z,Z,Z,X⟩,⟨Z,Z,Z,Z,⟨Aa (fun a=>HO.cells [vs (Option.getD a mt)]) Jp.symm,rfl⟩,X⟩,Fh,AX aa5⟩ (J (by show As ((j:Int)+1);grind [As]) (M ⟨(j+1,EQ before acc needs[j]),by omega,Uw.symm⟩ ?_))));exact⟨by grind,Z10,Z5,Fh,AX aa5⟩
  rw[hd]at wL;refine C1 (H (wL) ?_);refine Be (show acc=none\/∃p,acc=some p by cases acc<;>grind) (fun ha=>?_) (fun ha=>?_)
  .have Jp:EQ before acc needs[j]=some needs[j].path:=by grind [EQ]
   refine cU [(qq13 x ifs roots d),(1,sl Ar s),(qq8 x ifs roots d),(qq11 needs),(qq12 before),(9,.ref 9 0),(10,Q false),(12,.ref 12 0),(13,Q false),(qq15 needs),(23,G (needs.map Ak).length),(24,G j)] [(8,.tok 4 (before.map Ar).length),(qq10 needs),(1000,.cells [sl AT st.2]),(1001,.cells [Q st.1]),(9,.cells [vs mt]),(12,.ro (Ak needs[j]))] ⟨Z,Z,Z,Z,Z,Z,⟨by show Q acc.isSome=Q false;grind,rfl⟩,Z,Z,Z,Z,Z,X⟩ ⟨Z,Z,Z,Z,⟨by show HO.cells [vs (acc.getD mt)]=HO.cells [vs mt];grind,rfl⟩,Z,X⟩ ?_
   refine U (M ⟨(qq9 needs[j] x ifs roots d s needs before acc j),(qq14 needs[j] before needs st acc),Ab⟩ (J ⟨⟨Z,Z,Z,Z,Z,Z,⟨by show Q true=_;grind,rfl⟩,Z,Z,Z,X⟩,⟨Z,Z,Z,Z,⟨by show HO.cells [vs needs[j].path]=_;grind,rfl⟩,X⟩,Fh,AX aa5⟩ ?_))
   refine J (by grind [As]) (M ⟨(j+1,EQ before acc needs[j]),by omega,Uw.symm⟩ ?_);exact⟨by grind,Z10,Z5,Fh,AX aa5⟩
  refine AE ha (fun p ha=>?_);refine cU [(qq13 x ifs roots d),(1,sl Ar s),(qq8 x ifs roots d),(qq11 needs),(qq12 before),(9,.ref 9 0),(10,Q true),(12,.ref 12 0),(13,Q false),(qq15 needs),(23,G (needs.map Ak).length),(24,G j)] [(8,.tok 4 (before.map Ar).length),(qq10 needs),(1000,.cells [sl AT st.2]),(1001,.cells [Q st.1]),(9,.cells [vs p]),(12,.ro (Ak needs[j]))] ⟨Z,Z,Z,Z,Z,Z,⟨by show Q acc.isSome=Q true;grind,rfl⟩,Z,Z,Z,Z,Z,X⟩ ⟨Z,Z,Z,Z,⟨by show HO.cells [vs (acc.getD mt)]=HO.cells [vs p];grind,rfl⟩,Z,X⟩ ?_
  refine J ?_ ?_
  .intro hb;have hb:Op.bytesLess needs[j].path.toList p.toList=true:=hb;rw[<-Fy]at hb;have Jp:EQ before acc needs[j]=some needs[j].path:=by grind [EQ]
   refine U (M ⟨(qq9 needs[j] x ifs roots d s needs before acc j),(qq14 needs[j] before needs st acc),Ab⟩ (J ⟨⟨Z,Z,Z,Z,Z,Z,⟨by show Q true=_;simp_all,rfl⟩,Z,Z,Z,X⟩,⟨Z,Z,Z,Z,⟨by show HO.cells [vs needs[j].path]=_;simp_all,rfl⟩,X⟩,Fh,AX aa5⟩ ?_))
   refine J (by grind [As]) (M ⟨(j+1,EQ before acc needs[j]),by omega,Uw.symm⟩ ?_);exact⟨by grind,Z10,Z5,Fh,AX aa5⟩
  .intro hb;have hb:¬Op.bytesLess needs[j].path.toList p.toList=true:=hb;rw[<-Fy]at hb;have Jp:EQ before acc needs[j]=some p:=by grind [EQ]
   refine M ⟨(qq9 needs[j] x ifs roots d s needs before acc j),(qq14 needs[j] before needs st acc),Ab⟩ (J ⟨⟨Z,Z,Z,Z,Z,Z,⟨by show Q true=_;grind,rfl⟩,Z,Z,Z,X⟩,⟨Z,Z,Z,Z,⟨by show HO.cells [vs p]=_;grind,rfl⟩,X⟩,Fh,AX aa5⟩ ?_)
   refine J (by grind [As]) (M ⟨(j+1,EQ before acc needs[j]),by omega,Uw.symm⟩ ?_);exact⟨by grind,Z10,Z5,Fh,AX aa5⟩
 intro h;have h:¬(j:Int)<(needs.map Ak).length:=h;have h:¬j<needs.length:=aa0
 have hac:Gz needs before=acc:=by rw[j2,AD I];rfl
 refine Be (show acc=none\/∃p,acc=some p by cases acc<;>grind) (fun ha=>?_) (fun ha=>?_)
 .have M8:=inv.stop (hac.trans ha);refine cU [(10,Q false)] [(1000,.cells [sl AT st.2]),(1001,.cells [Q st.1])] ⟨⟨by show Q acc.isSome=Q false;grind,rfl⟩,X⟩ Z2 ?_
  exact H (.refl _) (J (Aa Q M8.1.symm) (Aa (fun a=>Ah (sH a) Ab) M8.2.symm))
 refine AE ha (fun p ha=>?_);have hac:Gz needs before=some p:=hac.trans ha;refine cU [(qq13 x ifs roots d),(1,sl Ar s),(qq8 x ifs roots d),(qq11 needs),(qq12 before),(9,.ref 9 0),(10,Q true)] [(8,.tok 4 (before.map Ar).length),(qq10 needs),(1000,.cells [sl AT st.2]),(1001,.cells [Q st.1]),(9,.cells [vs p])] ⟨Z,Z,Z,Z,Z,Z,⟨by show Q acc.isSome=Q true;grind,rfl⟩,X⟩ ⟨Z,Z,Z,Z,⟨by show HO.cells [vs (acc.getD mt)]=HO.cells [vs p];grind,rfl⟩,X⟩ ?_
 refine cU [(qq13 x ifs roots d),(1,sl Ar s),(qq8 x ifs roots d),(qq11 needs),(qq12 before),(9,.ref 9 0)] [(8,.tok 4 (before.map Ar).length),(qq10 needs),(1000,.cells [sl AT st.2]),(1001,.cells [Q st.1]),(9,.cells [vs p])] Z6 Z5 ?_
 have wN:=c78 (fF:=186) (caps:=[.cptr [vs p]]) (fun c hc=>by
  obtain rfl:=AA.1 hc;intro h;rfl) s (fun y=>decide (y.path=p)) (fun y _=>c79 y p) I
 refine Be (nP s p) (fun hi=>?_) (fun hi=>?_)
 .rw[hi.1]at wN;have M8:=inv.lost hac hi.2;refine C1 (H (wN) (cU [(14,G (-1))] [(1000,.cells [sl AT st.2]),(1001,.cells [Q st.1])] Z1 Z2 (J ?_ ?_)))
  .intro _;exact H (.refl _) (J (Aa Q M8.1.symm) (Aa (fun a=>Ah (sH a) Ab) M8.2.symm))
  .intro hc;exact absurd (show((-1:Int)<0) by decide) hc
 refine AE hi (fun i hi=>?_);refine AE hi (fun y hi=>?_);have hi2:=hi.2.1;have hi3:=hi.2.2;rw[hi.1]at wN;refine C1 (H (wN) (cU [(qq13 x ifs roots d),(1,sl Ar s),(qq8 x ifs roots d),(qq11 needs),(qq12 before),(14,G i)] [(8,.tok 4 (before.map Ar).length),(qq10 needs),(1000,.cells [sl AT st.2]),(1001,.cells [Q st.1])] Z6 Z4 (J ?_ ?_)))
 .intro hc;exact absurd (show((i:Int)<0)from hc) I
 intro _;refine cU [(qq13 x ifs roots d),(1,sl Ar s),(qq8 x ifs roots d),(qq11 needs),(qq12 before),(14,G i)] [(8,.tok 4 (before.map Ar).length),(qq10 needs),(1000,.cells [sl AT st.2]),(1001,.cells [Q st.1])] Z6 Z4 ?_
 have hgy:(s.map Ar)[(i:Int).toNat]?=some (Ar y):=aa0
 have wM:PC 40 [Sa x ifs,vs y.path,.agg (Ir y.ver)] (OK (BG x y)):=c53 x ifs y.path y.ver VF hx;refine U (M (Ar y) (J (J I hgy) (J rfl (M (Ar y) (J (J I hgy) (J rfl (U (Be (show BG x y=none\/∃r,BG x y=some r by grind) (fun hr=>?_) (fun hr=>?_)))))))))
 .rw[hr]at wM;have M8:=inv.gone hac hi3 hr;refine H (wM) (U (J aa5 (cU [(16,Q false)] [(1000,.cells [sl AT st.2]),(1001,.cells [Q st.1])] Z1 Z2 ?_)))
  exact H (.refl _) (J (Aa Q M8.1.symm) (Aa (fun a=>Ah (sH a) Ab) M8.2.symm))
 refine AE hr (fun r hr=>?_);rw[hr]at wM;refine H (wM) (U (J aa5 ?_));have hrx:r∈x:=(E9 hr).2.1;have Aka:=inv.next hac hi3 hr (rQ r hrx) (fun q hq=>((hx r hrx).2 q hq).1)
 refine cU [(qq13 x ifs roots d),(1,sl Ar s),(qq8 x ifs roots d),(qq11 needs),(qq12 before),(14,G i),(15,.ref 15 0),(16,Q true)] [(8,.tok 4 (before.map Ar).length),(qq10 needs),(1000,.cells [sl AT st.2]),(1001,.cells [Q st.1]),(15,.cells (Ay r))] Z8 Z5 (cU [(qq13 x ifs roots d),(1,sl Ar s),(qq8 x ifs roots d),(qq11 needs),(qq12 before),(14,G i),(15,.ref 15 0)] [(8,.tok 4 (before.map Ar).length),(qq10 needs),(1000,.cells [sl AT st.2]),(1001,.cells [Q st.1]),(15,.cells (Ay r))] Z7 Z5 (U ?_));have AkN:=c46 x (.slice .none ifs) roots d st before needs r (JM h0).1 hd ht I hnf inv.few;refine M (.gen [(1000,1000),(1001,1001)] 0) (J rfl (AkN.imp ?_));intro v g q;have q1:=q.1;have q2:=q.2;subst q1;subst q2
 clear q
 refine cU [(qq13 x ifs roots d),(1,sl Ar s),(qq8 x ifs roots d),(qq11 needs),(qq12 before),(14,G i),(15,.ref 15 0)] [(8,.tok 4 (before.map Ar).length),(qq10 needs),(1000,.cells [sl AT (Db x d st ⟨before,needs,r⟩).2]),(1001,.cells [Q (Db x d st ⟨before,needs,r⟩).1]),(15,.cells (Ay r))] Z7 Z5 (M (Ar y) (J (J I hgy) (J rfl (U ?_))));have El:Cq 4 [Ar y]/\(before.map Ar).length=(before.map Ar).length/\((before.map Ar).length+[Ar y].length)*40<=2^47/\(before.map Ar).length+[Ar y].length<=2^63-1:=
  ⟨⟨rfl,trivial⟩,rfl,by grind,by grind⟩
 refine J El ?_;have rP:=rQ r hrx;have jT:Cq 2 (r.reqs.map Ak)/\(needs.map Ak).length=(needs.map Ak).length/\((needs.map Ak).length+(r.reqs.map Ak).length)*40<=2^47/\(needs.map Ak).length+(r.reqs.map Ak).length<=2^63-1:=
  ⟨DK (enc:=Ak) (n:=2) (fun _=>rfl) r.reqs,rfl,by grind,by grind⟩
 refine J jT ?_;have e7:AV.slice (.id 12100 2) (needs.map Ak++r.reqs.map Ak)=.slice (.id 12100 2) ((needs++r.reqs).map Ak):=aa0
 have e8:AV.slice (.id 8 4) (before.map Ar++[Ar y])=.slice (.id 8 4) ((before++[y]).map Ar):=aa0
 have o7:HO.tok 2 ((needs.map Ak).length+(r.reqs.map Ak).length)=.tok 2 ((needs++r.reqs).map Ak).length:=aa0
 have o8:HO.tok 4 ((before.map Ar).length+[Ar y].length)=.tok 4 ((before++[y]).map Ar).length:=aa0
 refine M ⟨(before++[y],needs++r.reqs,m,(Db x d) st ⟨before,needs,r⟩),Aka⟩ ?_;exact⟨by simp_all,⟨Z,Z,Z,⟨e7,rfl⟩,⟨e8,rfl⟩,X⟩,⟨⟨o8,rfl⟩,⟨o7,rfl⟩,Z,Z,X⟩,Fh,AX aa5⟩
end Go.Eng
