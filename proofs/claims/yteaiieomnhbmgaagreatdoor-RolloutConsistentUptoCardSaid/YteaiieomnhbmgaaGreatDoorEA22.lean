/- Lemmas 22. -/
import Derived.Test.YteaiieomnhbmgaaGreatDoorEA21
import Derived.Shelf.Strconv.Itoa3
import Derived.Shelf.Strings.Repeat
import Derived.Shelf.Pu.Clone
import Derived.Ground.NamesProg
import Derived.Ground.MpProg
set_option maxHeartbeats 4000000
namespace Go.Eng
open Go.Proofs
variable {Cc:List (Value×AV)}{p:ByteArray}{h:Nat->HO}{k:Value}{a:AV}(y:List Rl)(j:Nat)(r:Rl)(l:List Rq)
theorem Mm:∀(y:List Rl) (acc:List ByteArray) (r:Rl),AY (y++[r]) acc=if(AY y acc).any (fun p=>decide (p=r.path))then AY y acc else AY y acc++[r.path]
 | [],acc,r=>rfl
 |s::y,acc,r=>by rw[Hr,AY,AY,Mm y]
theorem Fk:∀(y:List Rl) (acc:List ByteArray),acc.Nodup->(AY y acc).Nodup
 | [],_,h=>h
 |s::y,acc,h=>by
  rw[AY];refine Fk y _ ?_;split
  .exact h
  .rename_i hn;rw[FQ];refine⟨h,by simp,fun a ha b hb e=>?_⟩;rw[Aq]at hb;exact hn (PH.2 (by rw[<-hb,<-e];exact ha))
abbrev OB(p:ByteArray):List (List AV):=(y.filter fun r=>decide (r.path=p)).map AF
abbrev mg(q:ByteArray×Nat):Value×AV:=(.string q.1,.slice (.id (q.2+50) 9) (OB y q.1))
abbrev TF:List (Value×AV):=(AY y []).zipIdx.map (mg y)
def Kz(l:Nat):HO:=match(AY y [])[l]? with
 |some q=>.tok 9 (OB y q).length
 |none=>.free
def Xr:HO:=bif Nat.ble 50 j then Kz y (j-50)else .free
theorem Is(l:Nat):Xr y (l+50)=Kz y l:=by
 unfold Xr;rw[show Nat.ble 50 (l+50)=true by rw[Dt];omega,Nat.add_sub_cancel];rfl
theorem uA{j:Nat}(h:j<50):Xr y j=.free:=by
 unfold Xr;rw[show Nat.ble 50 j=false by rw[AN];intro hc;rw[Dt]at hc;omega];rfl
theorem Jn(q:ByteArray):OB (y++[r]) q=if r.path=q then OB y q++[AF r]else OB y q:=by
 unfold OB;rw[EK]
 by_cases h:r.path=q
 .rw[Ao h,T7 (by simpa using h)];simp
 .rw[Aj h,T6 (by simpa using h)];simp
theorem I9{l:List ByteArray}{q:ByteArray×Nat}(h:q∈l.zipIdx):l[q.2]?=some q.1:=by
 obtain⟨a,b⟩:=q;exact FV.1 h
open Classical in
theorem Np(h:∀a',(k,a')∉Cc):E4 Cc k a=Cc++[(k,a)]:=by
 unfold E4;rw[Aj (fun⟨a',h'⟩=>h a' h')]
open Classical in
theorem bp{a':AV}(h:(k,a')∈Cc):E4 Cc k a=Cc.map fun p=>if p.1=k then(k,a)else p:=by
 unfold E4;rw[Ao ⟨a',h⟩]
section
variable {y:List Rl}{r:Rl}{k:Nat}
theorem J5(h:(AY y [])[k]?=some r.path):AY (y++[r]) []=AY y []:=by
 rw[Mm,Ao (PH.2 (Az h))]
theorem J4(h:r.path∉AY y []):AY (y++[r]) []=AY y []++[r.path]:=by
 rw[Mm,Aj (fun hc=>h (PH.1 hc))]
theorem J0{l:List ByteArray}(hd:l.Nodup){i j:Nat}(h1:l[i]?=some p)(h2:l[j]?=some p):i=j:=by
 obtain⟨a1,a2⟩:=Ay.1 h1;obtain⟨b1,b2⟩:=Ay.1 h2;exact(List.getElem_inj hd).1 (a2.trans b2.symm)
open Classical in
theorem qk(h:(AY y [])[k]?=some r.path):E4 (TF y) (.string r.path) (.slice (.id (k+50) 9) (OB y r.path++[AF r]))=TF (y++[r]):=by
 have hd:=Fk y [] FD;have hm:mg y (r.path,k)∈TF y:=Ai.2 ⟨_,FV.2 h,rfl⟩;rw[bp (a':=.slice (.id (k+50) 9) (OB y r.path)) hm];unfold TF;rw[J5 h,Br];refine Bi fun q hq=>?_;have hg:=I9 hq;obtain⟨q,j⟩:=q;show(if Value.string q=Value.string r.path then _ else _)=mg (y++[r]) (q,j)
 by_cases he:q=r.path
 .subst he
  have:j=k:=J0 hd hg h
  subst this;rw[Ao rfl];show _=(Value.string r.path,AV.slice (.id (j+50) 9) (OB (y++[r]) r.path));rw[Jn,Ao rfl]
 .rw[Aj (fun e=>he (by simpa using e))];show(Value.string q,AV.slice (.id (j+50) 9) (OB y q))=(Value.string q,AV.slice (.id (j+50) 9) (OB (y++[r]) q));rw[Jn,Aj (fun e=>he e.symm)]
theorem gx(h:r.path∉AY y []):OB y r.path=[]:=by
 have:y.filter (fun s=>decide (s.path=r.path))=[]:=by
  rw[H9];intro s hs he;exact h ((GX y [] r.path).2 (.inr ⟨s,hs,AK he⟩))
 unfold OB;rw[this];rfl
theorem aG(h:r.path∉AY y [])(a:AV):(Value.string r.path,a)∉TF y:=by
 intro hc;obtain⟨q,h1,h2⟩:=Ai.1 hc;simp only[mg,Gd,Value.string.injEq]at h2;exact h (by rw[<-h2.1];exact Az (I9 h1))
theorem qj(h:r.path∉AY y []):E4 (TF y) (.string r.path) (.slice (.id ((AY y []).length+50) 9) [AF r])=TF (y++[r]):=by
 rw[Np (fun a=>aG h a)];unfold TF;rw[J4 h,List.zipIdx_append,As]
 congr 1
 .refine Bi fun q hq=>?_;have hg:=I9 hq
  have:q.1≠r.path:=fun e=>h (by rw[<-e];exact Az hg)
  show(Value.string q.1,AV.slice (.id (q.2+50) 9) (OB y q.1))=(Value.string q.1,AV.slice (.id (q.2+50) 9) (OB (y++[r]) q.1));rw[Jn,Aj (fun e=>this e.symm)]
 .show [_]=[(Value.string r.path,AV.slice (.id (0+(AY y []).length+50) 9) (OB (y++[r]) r.path))];rw[Jn,Ao rfl,gx h,Bf];rfl
theorem mj{j:Nat}(h:(AY y [])[j]?=some p):(Value.string p,AV.slice (.id (j+50) 9) (OB y p))∈TF y/\∀b,(Value.string p,b)∈TF y->b=AV.slice (.id (j+50) 9) (OB y p):=by
 refine⟨Ai.2 ⟨(p,j),FV.2 h,rfl⟩,fun b hb=>?_⟩;obtain⟨q,h1,h2⟩:=Ai.1 hb;simp only[mg,Gd,Value.string.injEq]at h2;have hg:=I9 h1;rw[h2.1]at hg
 have:=J0 (Fk y [] FD) hg h
 rw[<-h2.2,h2.1,this]
theorem oF{j:Nat}(h:(AY y [])[j]?=some p):Kz y j=.tok 9 (OB y p).length:=by
 unfold Kz;rw[h]
theorem rP(h:(AY y [])[k]?=some r.path)(l:Nat):(bif Nat.beq (l+50) (k+50)then HO.tok 9 ((OB y r.path).length+1)else Kz y l)=Kz (y++[r]) l:=by
 by_cases he:l=k
 .subst he;rw[show Nat.beq (l+50) (l+50)=true from Dp _];unfold Kz;rw[J5 h,h];show HO.tok 9 _=HO.tok 9 (OB (y++[r]) r.path).length;rw[Jn,Ao rfl,Ac];rfl
 .rw[show Nat.beq (l+50) (k+50)=false by rw[AN];intro hc;have:=AM hc;omega];show Kz y l=_;unfold Kz;rw[J5 h];cases hq:(AY y [])[l]? with
  |none=>rfl
  |some q=>
   show HO.tok 9 (OB y q).length=HO.tok 9 (OB (y++[r]) q).length;rw[Jn,Aj];intro e;subst e;exact he (J0 (Fk y [] FD) hq h)
theorem rO(h:r.path∉AY y [])(l:Nat):(bif Nat.beq (l+50) ((AY y []).length+50)then HO.tok 9 1 else Kz y l)=Kz (y++[r]) l:=by
 by_cases he:l=(AY y []).length
 .subst he;rw[show Nat.beq ((AY y []).length+50) ((AY y []).length+50)=true from Dp _];unfold Kz;rw[J4 h];simp only[A1 (Ak _),E8,Be];show HO.tok 9 1=HO.tok 9 (OB (y++[r]) r.path).length;rw[Jn,Ao rfl,gx h];rfl
 .rw[show Nat.beq (l+50) ((AY y []).length+50)=false by rw[AN];intro hc;have:=AM hc;omega];show Kz y l=_;unfold Kz;rw[J4 h]
  by_cases hl:l<(AY y []).length
  .rw[A0 hl,Ge hl];show HO.tok 9 (OB y (AY y [])[l]).length=HO.tok 9 (OB (y++[r]) (AY y [])[l]).length;rw[Jn,Aj];intro e;exact h (by rw[e];exact Al hl)
  .rw[A9 ch,A9 (by rw[Ac];simp;omega)]
end
theorem RB{h:Nat->HO}:∀{Cc:List (Value×AV)},(∀p∈Cc,Ww h p.2=true)->SI h Cc=true
 | [],_=>rfl
 |p::r,hk=>by
  unfold SI;rw[hk p (Ab ..)];exact RB (fun q hq=>hk q (Ah _ hq))
theorem Mf(hh:∀l,h (l+50)=Kz y l):SI h (TF y)=true:=by
 refine RB fun p hp=>?_;obtain⟨q,h1,rfl⟩:=Ai.1 hp;show Tr h (q.2+50)=true;unfold Tr;rw[hh,oF (I9 h1)]
theorem Ke{y:List Rl}{h':Nat->HO}(hh:∀l,h (l+50)=Kz y l)(j:Nat):Xr y j=.free\/(h j=Xr y j/\Ts h' (Xr y j)=true):=by
 by_cases hj:j<50
 .exact .inl (uA y hj)
 .obtain⟨l,rfl⟩:∃l,j=l+50:=⟨j-50,by omega⟩
  right
  rw[Is];refine⟨hh l,?_⟩;unfold Kz;cases (AY y [])[l]?<;>rfl
theorem ry{x:List Rl}(hx:A6 x=0){i:Nat}(hi:i<x.length):E4 ((x.take i).map Wc) (SM (Gn x[i])) (.agg (AF x[i]))=(x.take (i+1)).map Wc:=by
 rw[Np]
 .rw[Bj,Ge hi,As];rfl
 intro a ha;obtain⟨r,hr,he,_⟩:=fX ha;obtain⟨j,hj,e2⟩:=BU.1 hr;rw[Aw]at hj;rw[GN]at e2;have hp:=(CC hx).2
 have:=(AT.1 hp) j i ch hi ch
 rw[e2]at this;exact HN this he
abbrev zm:Th:=⟨[],[],[],[],[8,9],[9],[40],[],[],[],[8,9,10,11]⟩
abbrev zT:List AV:=[.v (.map none),.v (.map none)]
theorem p7(x:List Rl)(ifs:List (List AV))(uw:PC 86 [HH x ifs] (vi (A6 x)))(h0:A6 x≠0):kB x ifs:=by
 have ht:WC x=.tup [.agg [.cmap ZB [],.cmap Cr []],vi (A6 x)]:=by unfold WC;rw[Aj h0]
 unfold kB;rw[ht];refine Ps zm Tryz.func82 rfl (Nz rfl) (Xi 0 (Xi 0 (yN (Xi 0 (yN (Xi .pure (Xi _ (Yi (uw) (Xi 0 (Yi ?_ ?_))))))))))
 .intro _;refine Xi 0 (yN (yN (yN ?_)));exact .refl _
 .intro h;exact absurd h (fun hc=>hc h0)
theorem H6:∀(y:List Rl) (acc:List ByteArray),(AY y acc).length<=acc.length+y.length
 | [],acc=>by simp[AY]
 |r::y,acc=>by
  rw[AY];refine AG (H6 y _) ?_;split
  .simp only[Am];omega
  .simp only[Ac,Am,Au];omega
section
attribute [local irreducible] I3
theorem ui(x:List Rl)(ifs:List (List AV))(uw:PC 86 [HH x ifs] (vi (A6 x)))(h0:A6 x=0)(CP:x.length<=256):kB x ifs:=by
 have ht:WC x=.tup [.agg [.cmap ZB (x.map Wc),.cmap Cr ((AY x []).map (qM x))],vi 0]:=by unfold WC;rw[Ao h0]
 unfold kB;rw[ht];rw[h0]at uw;refine Ps zm Tryz.func82 rfl (Nz rfl) (Xi 0 (Xi 0 (yN (Xi 0 (yN (Xi .pure (Xi _ (Yi (uw) (Xi 0 (Yi ?_ ?_))))))))))
 .intro hc;exact absurd (show(0:Int)≠0 from hc) Cl
 intro _;refine Xi 0 (Xi {i:Nat // i<=x.length} (Xi (fun i=>⟨[(2,.ref 2 0),(4,.ref 4 0),(18,sl AF x),(19,vi (x.map AF).length),(20,vi i.1)],[(2,.cells zT),(4,.cells [.mref 8,.mref 9]),(8,.map ZB ((x.take i.1).map Wc)),(9,.mapU Cr (TF (x.take i.1)))],Xr (x.take i.1)⟩) (Xi (fun i=>x.length-i.1) (Yi (Xi ⟨0,AA _⟩ ?_) ?_))))
 .refine⟨Z5,Z4,fun j=>.inl ?_,Tv⟩;show Xr [] j=.free;unfold Xr;cases Nat.ble 50 j<;>rfl
 intro⟨i,i1⟩;refine Xi 0 (Yi ?_ ?_)
 .intro h;have h:i<x.length:=by simpa using h
  have hg:x[i]?=some x[i]:=Ge h;have LF:x.take (i+1)=x.take i++[x[i]]:=by rw[Bj,hg];rfl
  refine Xi 0 (Xi (AF x[i]) (Yi (Yi (Nn i) (by simp[hg])) (Yi rfl ?_)));refine Yi (Nz rfl) (yN (Xi ⟨[(2,.ref 2 0),(4,.ref 4 0),(7,.ref 7 0),(18,sl AF x),(19,vi (x.map AF).length),(20,vi i)],[(2,.cells zT),(4,.cells [.mref 8,.mref 9]),(7,.cells (AF x[i])),(8,.map ZB ((x.take i).map Wc)),(9,.mapU Cr (TF (x.take i)))],Xr (x.take i)⟩ (Yi ?_ ?_)))
  .exact⟨Z6,⟨Zr,Zr,Zr,Zr,⟨rfl,Mf _ (Is _)⟩,Tv⟩,Ke (Is _),Tv⟩
  refine Xi 0 (yN (Xi _ (Yi (tZ x[i]) (yN (Yi Wk ?_)))));have e8:E4 ((x.take i).map Wc) (SM (Gn x[i])) (.agg (AF x[i]))=(x.take (i+1)).map Wc:=ry h0 h;refine Xi ⟨[(2,.ref 2 0),(4,.ref 4 0),(7,.ref 7 0),(18,sl AF x),(19,vi (x.map AF).length),(20,vi i)],[(2,.cells zT),(4,.cells [.mref 8,.mref 9]),(7,.cells (AF x[i])),(8,.map ZB ((x.take (i+1)).map Wc)),(9,.mapU Cr (TF (x.take i)))],Xr (x.take i)⟩ (Yi ?_ ?_)
  .exact⟨Z6,⟨Zr,Zr,Zr,⟨Aa (HO.map ZB) e8,rfl⟩,⟨rfl,Mf _ (Is _)⟩,Tv⟩,Ke (Is _),Tv⟩
  have hL:((x.take i).filter (fun r=>decide (r.path=x[i].path))).length<=256:=by
   have:=Bv (fun r:Rl=>decide (r.path=x[i].path)) (x.take i)
   rw[Aw]at this;omega
  have hP:∀l,Xr (x.take i) (l+50)=Kz (x.take i) l:=Is _;refine BN (Classical.em (x[i].path∈AY (x.take i) [])) (fun hp=>?_) (fun hp=>?_)
  .refine CR (Cp.1 hp) (fun k hk=>?_);have hu:=mj hk;refine Xi 0 ?_;refine Or.inl (Xi (.slice (.id (k+50) 9) (OB (x.take i) x[i].path)) (Yi hu ?_));refine yN ?_;have hr:Xr (x.take i) (k+50)=.tok 9 (OB (x.take i) x[i].path).length:=by rw[hP,oF hk]
   have hl:(OB (x.take i) x[i].path).length<=256:=by rw[Lm];exact hL
   refine Ss (e:=78) (m:=8) (es2:=[AF x[i]]) rfl rfl rfl (fun _ h=>h) hr ⟨rfl,trivial⟩ (by show(_+1)*120<=_;omega) (by show _+1<=_;omega) ?_;have yy:k<256:=by
    have:=(Ay.1 hk).1
    have:=H6 (x.take i) []
    rw[Aw]at this;simp only[Au]at this;omega
   have uQ:=hk;refine Yi (JQ ⟨A4 _,A4 _,A4 _,A4 _,A4 _,A4 _,A4 _,A4 _,A4 _,A4 _,Ev (show 39<10000000 by decide),Ev (by show _+50<10000000;omega),Ev (show 9<10000000 by decide),trivial⟩ Wk) ?_;have e9:E4 (TF (x.take i)) (.string x[i].path) (.slice (.id (k+50) 9) (OB (x.take i) x[i].path++[AF x[i]]))=TF (x.take (i+1)):=by rw[LF];exact qk uQ
   have hG:∀l,(bif Nat.beq (l+50) (k+50)then HO.tok 9 ((OB (x.take i) x[i].path).length+1)else Kz (x.take i) l)=Kz (x.take (i+1)) l:=by rw[LF];exact rP uQ
   refine Xi ⟨[(2,.ref 2 0),(4,.ref 4 0),(18,sl AF x),(19,vi (x.map AF).length),(20,vi i)],[(2,.cells zT),(4,.cells [.mref 8,.mref 9]),(8,.map ZB ((x.take (i+1)).map Wc)),(9,.mapU Cr (TF (x.take (i+1))))],Xr (x.take (i+1))⟩ (Yi ?_ ?_)
   .refine⟨Z5,⟨Zr,Zr,Zr,⟨Aa (HO.mapU Cr) e9,Mf _ (Is _)⟩,Tv⟩,Ke (fun l=>?_),Tv⟩;show(bif Nat.beq (l+50) (k+50)then HO.tok 9 ((OB (x.take i) x[i].path).length+1)else Xr (x.take i) (l+50))=_;rw[hP];exact hG l
   refine Xi 0 (Yi (Ii i ch) (Xi ⟨i+1,by omega⟩ ?_));exact⟨Dl x.length i ch,Z5,⟨Zr,Zr,Zr,⟨rfl,Mf _ (Is _)⟩,Tv⟩,Ke (Is _),Tv⟩
  .have uQ:=hp;have MD:(AY (x.take i) []).length<=256:=by
    have:=H6 (x.take i) []
    rw[Aw]at this;simp only[Au]at this;omega
   have hn:=aG hp;refine Xi ((AY (x.take i) []).length+50) ?_;refine Or.inr (Yi hn ?_);refine yN ?_;have hr:Xr (x.take i) ((AY (x.take i) []).length+50)=.free:=by
    rw[hP];unfold Kz;rw[A9 (Ak _)]
   refine Sr (e:=78) (m:=8) (es2:=[AF x[i]]) rfl rfl rfl (fun _ h=>h) hr rfl ⟨rfl,trivial⟩ (by show 1*120<=_;omega) (by show 1<=_;omega) (Yi (JQ ⟨A4 _,A4 _,A4 _,A4 _,A4 _,A4 _,A4 _,A4 _,A4 _,A4 _,Ev (show 39<10000000 by decide),Ev (by show _+50<10000000;omega),Ev (show 9<10000000 by decide),trivial⟩ Wk) ?_);have e9:E4 (TF (x.take i)) (.string x[i].path) (.slice (.id ((AY (x.take i) []).length+50) 9) [AF x[i]])=TF (x.take (i+1)):=by rw[LF];exact qj uQ
   have hG:∀l,(bif Nat.beq (l+50) ((AY (x.take i) []).length+50)then HO.tok 9 1 else Kz (x.take i) l)=Kz (x.take (i+1)) l:=by rw[LF];exact rO uQ
   refine Xi ⟨[(2,.ref 2 0),(4,.ref 4 0),(18,sl AF x),(19,vi (x.map AF).length),(20,vi i)],[(2,.cells zT),(4,.cells [.mref 8,.mref 9]),(8,.map ZB ((x.take (i+1)).map Wc)),(9,.mapU Cr (TF (x.take (i+1))))],Xr (x.take (i+1))⟩ (Yi ?_ ?_)
   .refine⟨Z5,⟨Zr,Zr,Zr,⟨Aa (HO.mapU Cr) e9,Mf _ (Is _)⟩,Tv⟩,Ke (fun l=>?_),Tv⟩;show(bif Nat.beq (l+50) ((AY (x.take i) []).length+50)then HO.tok 9 1 else Xr (x.take i) (l+50))=_;rw[hP];exact hG l
   refine Xi 0 (Yi (Ii i ch) (Xi ⟨i+1,by omega⟩ ?_));exact⟨Dl x.length i ch,Z5,⟨Zr,Zr,Zr,⟨rfl,Mf _ (Is _)⟩,Tv⟩,Ke (Is _),Tv⟩
 .intro h;have h:¬i<x.length:=by simpa using h
  have et:x.take i=x:=At ch;refine Xi ⟨[(2,.ref 2 0),(4,.ref 4 0)],[(2,.cells zT),(4,.cells [.mref 8,.mref 9]),(8,.map ZB ((x.take i).map Wc)),(9,.mapU Cr (TF (x.take i)))],Xr (x.take i)⟩ (Yi ?_ ?_)
  .exact⟨Z2,⟨Zr,Zr,Zr,⟨rfl,Mf _ (Is _)⟩,Tv⟩,Ke (Is _),Tv⟩
  refine Xi 0 (yN (yN (yN ?_)));have es:∀h:Nat->HO,Tz h (TF (x.take i))=(AY x []).map (qM x):=fun h=>by
   rw[et];unfold Tz TF;rw[Br];refine Du fun j=>?_;rw[AH,AH,List.getElem?_zipIdx];cases (AY x [])[j]?<;>rfl
  have e1:(x.take i).map Wc=x.map Wc:=by rw[et]
  exact .of_eq (show AV.tup [.agg [.cmap ZB ((x.take i).map Wc),.cmap Cr (Tz _ (TF (x.take i)))],vi 0]=_ by rw[e1,es])
end
theorem c84(x:List Rl)(ifs:List (List AV))(hx:∀r∈x,En r):kB x ifs:=by
 by_cases h0:A6 x=0
 .exact ui x ifs (wI Wm x ifs hx) h0 (Mi h0).1
 .exact p7 x ifs (wI Wm x ifs hx) h0
abbrev plT(n:Nat):Th:=⟨[],[(2,n)],[],[],[],[],[5],[],[],[],[2,3]⟩
theorem uh(l:List Sl)(hl:B8 l):Bc Tryz.prog 138 [sl Ae l] (Ap [] Af) fun r h'=>r=.slice (.id 2000 4) (l.map Ae)/\h'=Ap [(2000,.tok 4 (l.map Ae).length)] Af:=by
 refine Cu (M2 (plT 4)) [(2,2000)] rfl CW hm rfl Tryz.func138 Wk rfl (Nz rfl) Wk rfl ?_;have Hw:Cf 4 (l.map Ae)/\([]:List (List AV)).length=0/\(([]:List (List AV)).length+(l.map Ae).length)*40<=140737488355328/\([]:List (List AV)).length+(l.map Ae).length<=9223372036854775807:=by
  refine⟨DK (enc:=Ae) (n:=4) (fun _=>rfl) l,rfl,?_,?_⟩<;>simp only[Au,Lm]<;>unfold B8 at hl<;>omega
 have e2:HO.tok 4 (([]:List (List AV)).length+(l.map Ae).length)=.tok 4 (l.map Ae).length:=by rw[Au,Bf]
 have e3:AV.slice (.id 2000 4) ([]++l.map Ae)=.slice (.id 2000 4) (l.map Ae):=rfl;refine Xi 0 (Xi 0 (Yi ?_ ?_))
 .intro _;refine cU [(0,sl Ae l)] [] Z1 Tv (Xi 2 (Yi Hw ?_));exact Xi _ (Yi (.refl _) (Yi e3 (Aa (fun o=>Ap [(2000,o)] Af) e2)))
 .intro h;refine Yi ?_ ?_
  .refine Xi ⟨[],[],Af⟩ (Yi ⟨trivial,trivial,fun _=>.inl rfl,BP Wk⟩ ?_);refine Xi 0 ?_;exact Xi _ (Yi (.refl _) (Yi (show AV.slice (.id 2000 4) []=_ by rw[h]) (show Ap [(2000,HO.tok 4 0)] Af=_ by rw[h];rfl)))
  .refine cU [(0,sl Ae l)] [] Z1 Tv (Xi 2 (Yi Hw ?_));exact Xi _ (Yi (.refl _) (Yi e3 (Aa (fun o=>Ap [(2000,o)] Af) e2)))
def NA(q:Rq):Bool:=decide (q.path.size<=100)&&decide (q.set.length<=8)
def Hc:Bool:=l.all NA&&decide (l.length<=20)
theorem c35(hl:B8 l):PC 30 [sl A8 l] (vb (Hc l)):=by
 unfold B8 at hl;refine Ps Ej Tryz.func30 rfl (Nz rfl) (Xi {i:Nat // i<=l.length/\∀j (hj:j<l.length),j<i->NA l[j]=true} (Xi (fun i=>⟨[(0,sl A8 l),(3,vi i.1)],[],Af⟩) (Xi (fun i=>l.length-i.1) (Yi (Xi ⟨0,AA _,fun j _ h=>by omega⟩ ?_) ?_))))
 .exact⟨Z2,Tv,Fh,Tv⟩
 intro⟨i,h1,h2⟩;refine Yi ?_ ?_
 .intro h;have h:i<l.length:=by simpa using h
  have hg:l[i]?=some l[i]:=Ge h;have no:NA l[i]=false->false=Hc l:=fun e=>by
   unfold Hc
   have:l.all NA=false:=by
    rw[AN];intro ha
    have:=AZ.1 ha _ (Al h)
    rw[e]at this;cases this
   rw[this];rfl
  refine Xi (A8 l[i]) (Yi (Yi (Nn i) (by simp[hg])) (Yi rfl ?_));refine Yi ?_ ?_
  .intro h3;exact .of_eq (Aa vb (no (by unfold NA;rw[Av ch];rfl)))
  intro h3;refine Xi (A8 l[i]) (Yi (Yi (Nn i) (by simp[hg])) (Yi rfl ?_));refine Yi ?_ ?_
  .intro h4;rw[Lm]at h4;exact .of_eq (Aa vb (no (by unfold NA;rw[Av (by omega:¬l[i].set.length<=8),Ck])))
  intro h4;have h5:l[i].set.length<=8:=by rw[Lm]at h4;omega
  refine Yi (Ii i ch) (Xi ⟨i+1,by omega,fun j hj IG=>?_⟩ ?_)
  .rcases B4 j i with z | z
   .exact h2 j hj z
   .have:j=i:=by omega
    subst this;unfold NA;rw[Ar ch,Ar h5];rfl
  .exact⟨Dl l.length i ch,Z2,Tv,Fh,Tv⟩
 .intro h;have h:¬i<l.length:=by simpa using h
  have ha:l.all NA=true:=AZ.2 fun q hq=>by
   obtain⟨j,hj,rfl⟩:=F2 hq;exact h2 j hj ch
  refine Yi ?_ ?_
  .intro h3;rw[Lm]at h3;exact .of_eq (Aa vb (show true=Hc l by unfold Hc;rw[ha,Ar ch];rfl))
  .intro h3;rw[Lm]at h3;exact .of_eq (Aa vb (show false=Hc l by unfold Hc;rw[Av ch,Ck]))
def Kv:Bool:=decide (r.path.size<=100)&&decide (r.arch.size<=100)&&decide (r.ifc.size<=100)&&decide (r.cert.size<=100)&&Hc r.reqs
def G0(x:List Rl)(n:Nat):Bool:=x.all Kv&&decide (x.length<=n)
theorem c34(x:List Rl)(n:Nat)(hl:B8 x)(hr:∀r∈x,B8 r.reqs):PC 60 [sl AF x,vi n] (vb (G0 x n)):=by
 unfold B8 at hl;refine Ps Ej Tryz.func60 rfl (Nz rfl) (Xi {i:Nat // i<=x.length/\∀j (hj:j<x.length),j<i->Kv x[j]=true} (Xi (fun i=>⟨[(0,sl AF x),(1,vi n),(5,vi i.1)],[],Af⟩) (Xi (fun i=>x.length-i.1) (Yi (Xi ⟨0,AA _,fun j _ h=>by omega⟩ ?_) ?_))))
 .exact⟨Z3,Tv,Fh,Tv⟩
 intro⟨i,h1,h2⟩;refine Yi ?_ ?_
 .intro h;have h:i<x.length:=by simpa using h
  have hg:x[i]?=some x[i]:=Ge h;have no:Kv x[i]=false->false=G0 x n:=fun e=>by
   unfold G0
   have:x.all Kv=false:=by
    rw[AN];intro ha
    have:=AZ.1 ha _ (Al h)
    rw[e]at this;cases this
   rw[this];rfl
  have hc:=c35 x[i].reqs (hr _ (Al h));refine Xi (AF x[i]) (Yi (Yi (Nn i) (by simp[hg])) (Yi rfl ?_));refine Yi ?_ ?_
  .intro h3;exact .of_eq (Aa vb (no (by unfold Kv;rw[Av (by omega:¬x[i].path.size<=100)];simp)))
  intro h3;refine Xi (AF x[i]) (Yi (Yi (Nn i) (by simp[hg])) (Yi rfl ?_));refine Yi ?_ ?_
  .intro h4;exact .of_eq (Aa vb (no (by unfold Kv;rw[Av (by omega:¬x[i].arch.size<=100)];simp)))
  intro h4;refine Xi (AF x[i]) (Yi (Yi (Nn i) (by simp[hg])) (Yi rfl ?_));refine Yi ?_ ?_
  .intro h5;exact .of_eq (Aa vb (no (by unfold Kv;rw[Av (by omega:¬x[i].ifc.size<=100)];simp)))
  intro h5;refine Xi (AF x[i]) (Yi (Yi (Nn i) (by simp[hg])) (Yi rfl ?_));refine Yi ?_ ?_
  .intro h6;exact .of_eq (Aa vb (no (by unfold Kv;rw[Av (by omega:¬x[i].cert.size<=100)];simp)))
  intro h6;refine Xi (AF x[i]) (Yi (Yi (Nn i) (by simp[hg])) (Yi rfl ?_));refine BN (Bt (Hc x[i].reqs)) (fun e=>?_) (fun e=>?_)
  rotate_left
  .rw[e]at hc;refine Xi .pure (Xi _ (Yi (hc) ?_));exact .of_eq (Aa vb (no (by unfold Kv;rw[e,Ck])))
  rw[e]at hc;refine Xi .pure (Xi _ (Yi (hc) (Yi (Ii i ch) (Xi ⟨i+1,by omega,fun j hj IG=>?_⟩ ?_))))
  .rcases B4 j i with z | z
   .exact h2 j hj z
   .have:j=i:=by omega
    subst this;unfold Kv;rw[Ar (by omega:x[j].path.size<=100),Ar (by omega:x[j].arch.size<=100),Ar (by omega:x[j].ifc.size<=100),Ar (by omega:x[j].cert.size<=100),e];rfl
  .exact⟨Dl x.length i ch,Z3,Tv,Fh,Tv⟩
 .intro h;have h:¬i<x.length:=by simpa using h
  have ha:x.all Kv=true:=AZ.2 fun q hq=>by
   obtain⟨j,hj,rfl⟩:=F2 hq;exact h2 j hj ch
  refine Yi ?_ ?_
  .intro h3;rw[Lm]at h3;exact .of_eq (Aa vb (show true=G0 x n by unfold G0;rw[ha,Ar ch];rfl))
  .intro h3;rw[Lm]at h3;exact .of_eq (Aa vb (show false=G0 x n by unfold G0;rw[Av ch,Ck]))
theorem c11(x:List Rl)(ifs:List (List AV))(roots:List Rq)(hl:B8 x)(hr:∀r∈x,B8 r.reqs)(hq:B8 roots):PC 26 [HH x ifs,sl A8 roots] (vb (G0 x 16&&Hc roots)):=by
 have h1:=c34 x 16 hl hr;have h2:=c35 roots hq;cases e:G0 x 16 with
 |true=>
  rw[e]at h1;refine Ps Ej Tryz.func26 rfl (Nz rfl) (Xi .pure (Xi _ (Yi (h1) (Xi .pure (Xi _ (Yi (h2) ?_))))));exact .refl _
 |false=>
  rw[e]at h1;refine Ps Ej Tryz.func26 rfl (Nz rfl) (Xi .pure (Xi _ (Yi (h1) ?_)));exact .refl _
structure ph(x:List Rl)(roots:List Rq):Prop where
 ix:B8 x
 rs:B8 roots
 rel:∀r∈x,B8 r.reqs/\En r
 rq:∀q∈roots,J7 q
theorem ph.x{x:List Rl}{roots:List Rq}(h:ph x roots):∀r∈x,En r:=fun r hr=>(h.rel r hr).2
theorem ph.c11{x:List Rl}{roots:List Rq}(h:ph x roots)(ifs:List (List AV)):PC 26 [HH x ifs,sl A8 roots] (vb (G0 x 16&&Hc roots)):=
 Go.Eng.c11 x ifs roots h.ix (fun r hr=>(h.rel r hr).1) h.rs
end Go.Eng
namespace Go.Eng
variable {i:Nat}{tl:List AV}{m:Nat}(x a w:Int)(s:ByteArray)(ws:List Int)(k b:Int)
abbrev E2:AV:=.v (.int .u32 x)
theorem HB{cs r:List AV}{a:AV}{K:AV->Prop}(h:cs=a::r)(k:K a):MC cs K:=by rw[h];exact k
theorem PY{l:List AV}{n:Nat}{a:AV}(h:l[n]?=some a)(e:m=n):l.drop m=a::l.drop (n+1):=by
 subst e;obtain⟨h1,h2⟩:=Ay.1 h;rw[<-h2];exact AI h1
theorem ta{a:AV}:∀{l:List AV} {n:Nat},over l n [a]=l.set n a
 | [],_=>rfl
 |c::l,0=>by cases l<;>rfl
 |c::l,n+1=>by show c::over l n [a]=_;rw[ta (l:=l)];rfl
def kb:Int:=JD .or .u32 (GF .shl .u32 x (JD .and .u64 (IntKind.wrap .u64 k) 31)) (GF .shr .u32 x (IntKind.wrap .u64 (32-JD .and .u64 (IntKind.wrap .u64 k) 31)))
def xr:Int:=JD .xor .u32 a b
def an:Int:=JD .and .u32 a b
def nt:Int:=JD .xor .u32 4294967295 a
def ad:Int:=IntKind.wrap .u32 (a+b)
def vo(c:Int):Int:=xr (xr (kb x (-a)) (kb x (-b))) (kb x (-c))
def ne(s:Int):Int:=xr (xr (kb x (-a)) (kb x (-b))) (GF .shr .u32 x s)
def OP(i:Nat):UInt8:=s.data[i]?.getD 0
def Tf(s:ByteArray)(i:Nat):Nat->Int
 |0=>0
 |k+1=>JD .or .u32 (GF .shl .u32 (Tf s i k) 8) (IntKind.wrap .u32 ((OP s (4*i+k)).toNat:Int))
def ZC(i:Nat):Int:=ws[i]?.getD 0
def bt(i:Nat):Int:=
 if i<16 then Tf s i 4 else ad (ad (ad (ne (ZC ws (i-2)) 17 19 10) (ZC ws (i-7))) (ne (ZC ws (i-15)) 7 18 3)) (ZC ws (i-16))
def Gq(s:ByteArray):Nat->List Int
 |0=>[]
 |i+1=>Gq s i++[bt s (Gq s i) i]
theorem Kt(s:ByteArray):∀i,(Gq s i).length=i
 |0=>rfl
 |i+1=>by rw[Gq,Ac,Kt s i];rfl
theorem eJ{ws:List Int}(h:i<ws.length):ws[i]?=some (ZC ws i):=by rw[ZC,Ge h];rfl
structure S8 where
 (a b c d e f g h:Int)
def S8.l(v:S8):List Int:=[v.a,v.b,v.c,v.d,v.e,v.f,v.g,v.h]
abbrev ae(v:S8):List AV:=[E2 v.a,E2 v.b,E2 v.c,E2 v.d,E2 v.e,E2 v.f,E2 v.g,E2 v.h]
def rT1(v:S8):Int:=ad (ad (ad (ad v.h (vo v.e 6 11 25)) (xr (an v.e v.f) (an (nt v.e) v.g))) k) w
def rT2(v:S8):Int:=ad (vo v.a 2 13 22) (xr (xr (an v.a v.b) (an v.a v.c)) (an v.b v.c))
def Ae9(v:S8):S8:=⟨ad (rT1 w k v) (rT2 v),v.a,v.b,v.c,ad v.d (rT1 w k v),v.e,v.f,v.g⟩
def VI(ws ks:List Int)(v:S8):Nat->S8
 |0=>v
 |i+1=>Ae9 (ZC ws i) (ZC ks i) (VI ws ks v i)
def xf(v r:S8):S8:=⟨ad v.a r.a,ad v.b r.b,ad v.c r.c,ad v.d r.d,ad v.e r.e,ad v.f r.f,ad v.g r.g,ad v.h r.h⟩
def kK:List Int:=[0x428a2f98,0x71374491,0xb5c0fbcf,0xe9b5dba5,0x3956c25b,0x59f111f1,0x923f82a4,0xab1c5ed5,
 0xd807aa98,0x12835b01,0x243185be,0x550c7dc3,0x72be5d74,0x80deb1fe,0x9bdc06a7,0xc19bf174,
 0xe49b69c1,0xefbe4786,0x0fc19dc6,0x240ca1cc,0x2de92c6f,0x4a7484aa,0x5cb0a9dc,0x76f988da,
 0x983e5152,0xa831c66d,0xb00327c8,0xbf597fc7,0xc6e00bf3,0xd5a79147,0x06ca6351,0x14292967,
 0x27b70a85,0x2e1b2138,0x4d2c6dfc,0x53380d13,0x650a7354,0x766a0abb,0x81c2c92e,0x92722c85,
 0xa2bfe8a1,0xa81a664b,0xc24b8b70,0xc76c51a3,0xd192e819,0xd6990624,0xf40e3585,0x106aa070,
 0x19a4c116,0x1e376c08,0x2748774c,0x34b0bcb5,0x391c0cb3,0x4ed8aa4a,0x5b9cca4f,0x682e6ff3,
 0x748f82ee,0x78a5636f,0x84c87814,0x8cc70208,0x90befffa,0xa4506ceb,0xbef9a3f7,0xc67178f2]
def vN(v:S8)(s:ByteArray):S8:=xf v (VI (Gq s 64) kK v 64)
def SV(v r:S8)(i:Nat)(tl:List AV):List AV:=
 E2 (if 0<i then ad v.a r.a else v.a)::E2 (if 1<i then ad v.b r.b else v.b)::E2 (if 2<i then ad v.c r.c else v.c)::E2 (if 3<i then ad v.d r.d else v.d) ::
 E2 (if 4<i then ad v.e r.e else v.e)::E2 (if 5<i then ad v.f r.f else v.f)::E2 (if 6<i then ad v.g r.g else v.g)::E2 (if 7<i then ad v.h r.h else v.h)::tl
def Jv(v:S8)(b:ByteArray):S8×ByteArray:=
 if 64<=b.size then Jv (vN v (b.extract 0 64)) (b.extract 64 b.size)else(v,b)
termination_by b.size
decreasing_by simp only[H8];omega
def iv0:S8:=⟨1779033703,3144134277,1013904242,2773480762,1359893119,2600822924,528734635,1541459225⟩
structure HS where
 v:S8
 rest:ByteArray
 tot:Int
abbrev GH(x:HS):List AV:=[E2 x.v.a,E2 x.v.b,E2 x.v.c,E2 x.v.d,E2 x.v.e,E2 x.v.f,E2 x.v.g,E2 x.v.h,vs x.rest,.v (.int .u64 x.tot)]
def Hq(x:HS)(s:ByteArray):HS:=⟨(Jv x.v (x.rest++s)).1,(Jv x.v (x.rest++s)).2,IntKind.wrap .u64 (x.tot+IntKind.wrap .u64 (s.size:Int))⟩
def KE(n:Int):ByteArray:=⟨((List.range 8).map fun(i:Nat)=>UInt8.ofNat (IntKind.wrap .u8 (GF .shr .u64 n (56-8*(i:Int)))).toNat).toArray⟩
def G1:List UInt8:=[UInt8.ofNat (IntKind.wrap .u8 (GF .shr .u32 x 24)).toNat,UInt8.ofNat (IntKind.wrap .u8 (GF .shr .u32 x 16)).toNat,UInt8.ofNat (IntKind.wrap .u8 (GF .shr .u32 x 8)).toNat,UInt8.ofNat (IntKind.wrap .u8 x).toNat]
def tu(n:Nat):ByteArray:=⟨(List.replicate n 0).toArray⟩
def Fa(x:HS):ByteArray:=(⟨#[128]⟩++tu ((119-(x.rest.size:Int)) % 64).toNat)++KE (IntKind.wrap .u64 (8*x.tot))
def rM(x:HS):ByteArray:=⟨(((Hq x (Fa x)).v.l).flatMap G1).toArray⟩
def Tt:HS:=⟨iv0,⟨#[]⟩,0⟩
def QY(x:HS)(l:List ByteArray):HS:=l.foldl (fun x s=>Hq (Hq x (KE (IntKind.wrap .u64 (s.size:Int)))) s) x
def gS(tag:ByteArray)(l:List ByteArray):ByteArray:=rM (QY (Hq Tt (KE (IntKind.wrap .u64 (tag.size:Int))++tag)) l)
theorem lD{b:Bool}{p:Prop}(h:b=true)(k:p):(match(generalizing:=false) b with | true=>p | false=>False):=by subst h;exact k
theorem mapU(h:Nat->HO):∀ws:List Int,(ws.map E2).map (str0 h)=ws.map E2
 | []=>rfl
 |_::ws=>Aa (_ :: ·) (mapU h ws)
theorem Aex{h:Nat->HO}{l:List AV}{ws:List Int}(e:l=ws.map E2):CY (.agg (l.map (str0 h))) (.agg (ws.map E2)):=by
 rw[e,mapU];exact .refl _
theorem tO{l:List AV}{a:AV}{n:Nat}(h:l.length=n):(l++a::tl)[n]?=some a:=by
 subst h;rw[A1 (Ak _),E8];rfl
theorem Y4{ws:List Int}(h:i<ws.length):(ws.map E2++tl)[i]?=some (E2 (ZC ws i)):=by
 rw[A0 (by rw[Lm];exact h),AH,eJ h];rfl
theorem Y5{ws:List Int}(h:i<ws.length):(ws.map E2)[i]?=some (E2 (ZC ws i)):=by
 rw[AH,eJ h];rfl
theorem QJ{a b:AV}{tl:List AV}:∀{l:List AV} {n:Nat},l.length=n->over (l++a::tl) n [b]=l++b::tl
 | [],_,rfl=>by cases tl<;>rfl
 |c::l,_,rfl=>by show c::over (l++a::tl) l.length [b]=_;rw[QJ rfl];rfl
theorem Nt:∀{z l:List AV},z.length=l.length->over z 0 l=l
 | [],[],_=>rfl
 | [],_::_,h=>by cases h
 |_::_,[],h=>by cases h
 |_::z,b::l,h=>by show b::over z 0 l=_;rw[Nt (Nat.succ.inj h)]
theorem fp{s:ByteArray}{z:Int}{n:Nat}(h:n<s.size)(e:z=(n:Int)):(0:Int)<=z/\s.data[z.toNat]?=some (OP s n):=by
 subst e;refine⟨Px n,?_⟩;have h:n<s.data.size:=h;rw[Ch,OP,A7 h];rfl
def S8.n(v:S8)(i:Nat):Int:=ZC v.l i
theorem sA{v:S8}(h:i<8)(e:m=i):(ae v).drop m=E2 (v.n i)::(ae v).drop (i+1):=
 PY (Y5 (ws:=v.l) h) e
theorem lR{v r:S8}(h:i<8)(e:m=i):(SV v r i tl).drop m=E2 (v.n i)::(SV v r i tl).drop (i+1):=by
 refine PY ?_ e
 match i,h with
 |0,_ |1,_ |2,_ |3,_ |4,_ |5,_ |6,_ |7,_=>rfl
theorem nK{v r:S8}(h:i<8)(e:m=i):over (SV v r i tl) m [E2 (ad (v.n i) (r.n i))]=SV v r (i+1) tl:=by
 subst e;rw[ta]
 match m,h with
 |0,_ |1,_ |2,_ |3,_ |4,_ |5,_ |6,_ |7,_=>rfl
theorem gI{n:Nat}(h:n<64):List.replicate (64-n) (E2 0)=E2 0::List.replicate (64-(n+1)) (E2 0):=by
 rw[show 64-n=(64-(n+1))+1 by omega];rfl
theorem bS{s:ByteArray}{x:Int}(h:x=bt s (Gq s i) i):(Gq s i).map E2++E2 x::List.replicate (64-(i+1)) (E2 0)=(Gq s (i+1)).map E2++List.replicate (64-(i+1)) (E2 0):=by
 rw[h,Gq,As,BB];rfl
theorem u6(h:Nat->HO)(tl:List AV):∀ws:List Int,YX h (ws.map E2++tl)=YX h tl
 | []=>rfl
 |_::ws=>u6 h tl ws
theorem u5(h:Nat->HO):∀n:Nat,YX h (List.replicate n (E2 0))=true
 |0=>rfl
 |n+1=>u5 h n
theorem dx(h:Nat->HO):∀ws:List Int,Ts h (.cells (ws.map E2))=true
 | []=>rfl
 |_::ws=>dx h ws
theorem u7(h:Nat->HO)(ws:List Int)(n:Nat):Ts h (.cells (ws.map E2++List.replicate n (E2 0)))=true:=(u6 h _ ws).trans (u5 h n)
theorem y6(h:Nat->HO)(ws:List Int)(x:Int)(n:Nat):Ts h (.cells (ws.map E2++E2 x::List.replicate n (E2 0)))=true:=(u6 h _ ws).trans (u5 h n)
theorem VL(i:Nat):((Gq s i).map E2).length=i:=by rw[Lm,Kt]
end Go.Eng
namespace Go.Eng
open Go.Proofs
variable {α:Type}{f:α->List AV}{l O:List α}{args:List AV}{i n:Nat}(a:Int)
theorem Bc.to2{P:Program}{f:Nat}{h0:Nat->HO}{r0:AV}{H0:Nat->HO}{Q' : AV->(Nat->HO)->Prop}(h:Bc P f args h0 fun r h'=>r=r0/\h'=H0)(k:Q' r0 H0):Bc P f args h0 Q':=
 h.mono fun r h' q=>⟨r,.refl _,by rw[q.1,q.2];exact k⟩
theorem cb{f:Nat}{b x:Bool}(h:b=x)(hc:PC f args (vb b)):PC f args (vb x):=h▸hc
theorem EE(h:(i:Int)<((l.map f).length:Int)):i<l.length:=by rw[Lm]at h;omega
theorem Dd(h:¬(i:Int)<((l.map f).length:Int)):¬i<l.length:=by rw[Lm]at h;omega
theorem IU(h:i<l.length):(0:Int)<=(i:Int)/\(l.map f)[((i:Nat):Int).toNat]?=some (f l[i]):=⟨Px _,by rw[Ch,AH,Ge h];rfl⟩
theorem kD{z:Nat}{x:List AV}(hx:x.length=n)(h:O.length<=2147483647)(hz:z<=65536) :
  Cf n [x]/\(O.map f).length=O.length/\((O.map f).length+([x]:List (List AV)).length)*z<=140737488355328/\(O.map f).length+([x]:List (List AV)).length<=9223372036854775807:=by
 refine⟨⟨hx,trivial⟩,Lm _,?_,?_⟩<;>rw[Lm]<;>simp only[Am,Au]
 .have:=Nat.mul_le_mul (show O.length+(0+1)<=2147483648 by omega) hz
  omega
 .omega
theorem tkA{x:α}{r:Nat}:AV.slice (.id r n) (O.map f++[f x])=.slice (.id r n) ((O++[x]).map f):=by rw[As];rfl
theorem hkA{x:α}{y:List AV}:HO.tok n ((O.map f).length+([y]:List (List AV)).length)=.tok n (O++[x]).length:=by rw[Ac,Lm];rfl
theorem VZ:0<=IntKind.wrap .u64 a:=WH _ Cl
theorem ll(b:Int):0<=JD .and .u64 a b:=VZ _
theorem cc(x k:Int):PC 201 [.v (.int .u32 x),vi k] (.v (.int .u32 (kb x k))):=by
 refine Ps Ej Tryz.func201 rfl (Nz rfl) (Yi (ll _ _) (Yi (VZ _) ?_));exact .refl _
theorem o0(x a b c:Int)(ha:0<=a/\a<=64)(hb:0<=b/\b<=64)(hc:0<=c):PC 266 [.v (.int .u32 x),vi a,vi b,vi c] (.v (.int .u32 (ne x a b c))):=by
 refine Ps Ej Tryz.func266 rfl (Nz rfl) (Yi (by show Ba (-a);unfold Ba;omega) (Xi _ (Yi (cc x (-a)) (Yi (by show Ba (-b);unfold Ba;omega) (Xi _ (Yi (cc x (-b)) (Yi hc (Yi Wk ?_))))))));exact .refl _
theorem oZ(x a b c:Int)(ha:0<=a/\a<=64)(hb:0<=b/\b<=64)(hc:0<=c)(hd:c<=64):PC 200 [.v (.int .u32 x),vi a,vi b,vi c] (.v (.int .u32 (vo x a b c))):=by
 refine Ps Ej Tryz.func200 rfl (Nz rfl) (Yi (by show Ba (-a);unfold Ba;omega) (Xi .pure (Xi _ (Yi (cc x (-a)) (Yi (by show Ba (-b);unfold Ba;omega) (Xi .pure (Xi _ (Yi (cc x (-b)) (Yi (by show Ba (-c);unfold Ba;omega) (Xi .pure (Xi _ (Yi (cc x (-c)) ?_))))))))))));exact .refl _
set_option maxRecDepth 100000 in
theorem rZ  : PC 203 [] (.agg (kK.map E2)):=by
 refine Ps Ej Tryz.func203 rfl (Nz rfl) (yN (yN ?_));exact .refl _
theorem Aaa(s:ByteArray)(hs:s.size=64):PC 202 [vs s] (.agg ((Gq s 64).map E2)):=by
 refine Ps Ej Tryz.func202 rfl (Nz rfl) (Xi {q:Nat // q<=64} (Xi (fun q=>⟨[(0,vs s),(2,.ref 2 0),(3,.ref 3 0),(4,.v (.func (.func 266) #[] #[])),(7,vi q.1)],[(2,.cells (List.replicate 64 (E2 0))),(3,.cells ((Gq s q.1).map E2++List.replicate (64-q.1) (E2 0)))],Af⟩) (Xi (fun q=>64-q.1) (Yi (Xi ⟨0,AA _⟩ ?_) ?_))))
 .exact⟨Z5,⟨Zr,⟨rfl,(u7 _ _ _)⟩,Tv⟩,Fh,Tv⟩
 intro⟨i,i1⟩;have i1:i<=64:=i1;refine Yi (fun h1=>?_) (fun h1=>?_)
 .have h1:(i:Int)<(64:Int):=h1;refine Yi (fun h2=>?_) (fun h2=>?_)
  .have h2:(i:Int)<(16:Int):=h2;refine Xi {q:Nat // q<=4} (Xi (fun q=>⟨[(0,vs s),(2,.ref 2 0),(3,.ref 3 0),(4,.v (.func (.func 266) #[] #[])),(5,vi i),(7,vi i),(12,vi q.1)],[(2,.cells (List.replicate 64 (E2 0))),(3,.cells ((Gq s i).map E2++E2 (Tf s i q.1)::List.replicate (64-(i+1)) (E2 0)))],Af⟩) (Xi (fun q=>4-q.1) (Yi (Xi ⟨0,AA _⟩ ?_) ?_)))
   .exact⟨Z7,⟨Zr,⟨(Aa (fun z=>HO.cells ((Gq s i).map E2++z)) (gI (show i<64 by omega))),(y6 _ _ _ _)⟩,Tv⟩,Fh,Tv⟩
   intro⟨k,k1⟩;have k1:k<=4:=k1;refine Yi (fun h3=>?_) (fun h3=>?_)
   .have h3:(k:Int)<(4:Int):=h3;refine Yi (show(0:Int)<=i/\(i:Int)<(64:Nat)from by omega) (HB (PY (tO (VL s i)) (show(0+(i:Int).toNat*1)=i by omega)) (Yi Cl (Yi (by show Ba ((4:Int)*(i:Int));unfold Ba;omega) (Yi (by show Ba ((4*i:Int)+(k:Int));unfold Ba;omega) (Xi (OP s (4*i+k)) (Yi (fp (z:=(4*i)+k) (show 4*i+k<s.size by omega) ch) (Yi (show(0:Int)<=i/\(i:Int)<(64:Nat)from by omega) (Yi (show(0+(i:Int).toNat*1)+1<=(((Gq s i).map E2++E2 (Tf s i k)::List.replicate (64-(i+1)) (E2 0))).length from by rw[Ac,VL];simp only[Am,BV];omega) ?_))))))));refine Yi Wk (Yi (Ii k ch) (Xi ⟨k+1,by omega⟩ ?_));exact⟨Dl 4 k ch,Z7,⟨Zr,⟨(show HO.cells (over ((Gq s i).map E2++E2 (Tf s i k)::List.replicate (64-(i+1)) (E2 0)) (0+(i:Int).toNat*1) [.v (.int .u32 (JD .or .u32 (GF .shl .u32 (Tf s i k) 8) (IntKind.wrap .u32 ((OP s (4*i+k)).toNat:Int))))])=.cells ((Gq s i).map E2++E2 (Tf s i (k+1))::List.replicate (64-(i+1)) (E2 0))from Aa HO.cells (QJ (by rw[VL];omega))),(y6 _ _ _ _)⟩,Tv⟩,Fh,Tv⟩
   have h3:¬((k:Int)<(4:Int)):=h3;refine Yi (Ii i ch) (Xi ⟨i+1,by omega⟩ ?_);exact⟨Dl 64 i ch,Z5,⟨Zr,⟨(Aa HO.cells (bS (show Tf s i k=bt s (Gq s i) i by rw[bt,Ao ch,show k=4 by omega]))),(u7 _ _ _)⟩,Tv⟩,Fh,Tv⟩
  have h2:¬((i:Int)<(16:Int)):=h2;refine Yi (by show Ba ((i:Int)-(2:Int));unfold Ba;omega) (Yi (show(0:Int)<=i-2/\(i-2:Int)<(64:Nat)from by omega) (HB (PY (Y4 (show i-2<(Gq s i).length by rw[Kt];omega)) (show(0+(i-2:Int).toNat*1)=i-2 by omega)) (Xi _ (Yi (o0 (ZC (Gq s i) (i-2)) 17 19 10 Cl Cl Cl) (Yi (by show Ba ((i:Int)-(7:Int));unfold Ba;omega) (Yi (show(0:Int)<=i-7/\(i-7:Int)<(64:Nat)from by omega) (HB (PY (Y4 (show i-7<(Gq s i).length by rw[Kt];omega)) (show(0+(i-7:Int).toNat*1)=i-7 by omega)) (Yi (by show Ba ((i:Int)-(15:Int));unfold Ba;omega) (Yi (show(0:Int)<=i-15/\(i-15:Int)<(64:Nat)from by omega) (HB (PY (Y4 (show i-15<(Gq s i).length by rw[Kt];omega)) (show(0+(i-15:Int).toNat*1)=i-15 by omega)) (Xi _ (Yi (o0 (ZC (Gq s i) (i-15)) 7 18 3 Cl Cl Cl) (Yi (by show Ba ((i:Int)-(16:Int));unfold Ba;omega) (Yi (show(0:Int)<=i-16/\(i-16:Int)<(64:Nat)from by omega) (HB (PY (Y4 (show i-16<(Gq s i).length by rw[Kt];omega)) (show(0+(i-16:Int).toNat*1)=i-16 by omega)) (Yi (show(0:Int)<=i/\(i:Int)<(64:Nat)from by omega) (Yi (show(0+(i:Int).toNat*1)+1<=(((Gq s i).map E2++List.replicate (64-i) (E2 0))).length from by rw[Ac,VL];simp only[BV];omega) ?_)))))))))))))))));refine Yi Wk (Yi (Ii i ch) (Xi ⟨i+1,by omega⟩ ?_));exact⟨Dl 64 i ch,Z5,⟨Zr,⟨(show HO.cells (over ((Gq s i).map E2++List.replicate (64-i) (E2 0)) (0+(i:Int).toNat*1) [.v (.int .u32 (IntKind.wrap .u32 ((IntKind.wrap .u32 ((IntKind.wrap .u32 ((ne (ZC (Gq s i) (i-2)) 17 19 10)+(ZC (Gq s i) (i-7))))+(ne (ZC (Gq s i) (i-15)) 7 18 3)))+(ZC (Gq s i) (i-16)))))])=.cells ((Gq s (i+1)).map E2++List.replicate (64-(i+1)) (E2 0))from Aa HO.cells (by rw[gI (show i<64 by omega),QJ (by rw[VL];omega)];exact bS (by rw[bt,Aj ch];rfl))),(u7 _ _ _)⟩,Tv⟩,Fh,Tv⟩
 have h1:¬((i:Int)<(64:Int)):=h1;refine Yi (show 64<=((Gq s i).map E2++List.replicate (64-i) (E2 0)).length by rw[Ac,VL,BV];omega) ?_
 conv=>whnf
 refine lD (show Nat.beq (((Gq s i).map E2++List.replicate (64-i) (E2 0)).take 64).length 64=true from by rw[show(((Gq s i).map E2++List.replicate (64-i) (E2 0)).take 64).length=64 by rw[Aw,Ac,VL,BV];omega];rfl) ?_;refine Yi (show 0+(((Gq s i).map E2++List.replicate (64-i) (E2 0)).take 64).length<=64 from by rw[Aw];omega) ?_;refine Yi (show 64<=(over (List.replicate 64 (E2 0)) 0 (((Gq s i).map E2++List.replicate (64-i) (E2 0)).take 64)).length by rw[Nt (by rw[Aw,Ac,VL,BV,BV];omega),Aw,Ac,VL,BV];omega) ?_;exact Aex (show(over (List.replicate 64 (E2 0)) 0 (((Gq s i).map E2++List.replicate (64-i) (E2 0)).take 64)).take 64=(Gq s 64).map E2 from by rw[show i=64 by omega,Nt (by rw[Aw,Ac,VL];rfl),PA,Nat.min_self,FX (VL s 64)])
theorem vX(x:HS)(s:ByteArray)(W Kk:List Int)(r8:S8)(hW:W.length=64)(hK:Kk.length=64)(hr:VI W Kk x.v 64=r8)(hc:PC 202 [vs s] (.agg (W.map E2)))(hk:PC 203 [] (.agg (Kk.map E2))):Bc Tryz.prog 148 [.ref 1000 0,vs s] (Ap [(1000,.cells (GH x))] Af) fun r h'=>r=.tup []/\h'=Ap [(1000,.cells (GH ⟨xf x.v r8,x.rest,x.tot⟩))] Af:=by
 refine Cu (M2 (pC [] [2,11])) [(1000,1000)] rfl CW hm rfl Tryz.func148 Wk rfl (Nz rfl) Wk rfl (Xi .pure (Xi _ (Yi hc (Xi .pure (Xi _ (Yi hk ?_))))))
 conv=>whnf
 refine lD (show Nat.beq (W.map E2).length 64=true from by rw[Lm,hW];rfl) (Yi (show 0+(W.map E2).length<=64 from by rw[Lm];omega) ?_)
 conv=>whnf
 refine lD (show Nat.beq (Kk.map E2).length 64=true from by rw[Lm,hK];rfl) (Yi (show 0+(Kk.map E2).length<=64 from by rw[Lm];omega) (cU [(0,.ref 1000 0),(4,.v (.func (.func 200) #[] #[])),(5,.ref 5 0),(6,.ref 6 0)] [(5,.cells (W.map E2)),(6,.cells (Kk.map E2)),(1000,.cells (GH x))] Z4 ⟨⟨(Aa HO.cells (Nt (show 64=(W.map E2).length by rw[Lm,hW]))),(dx _ _)⟩,⟨(Aa HO.cells (Nt (show 64=(Kk.map E2).length by rw[Lm,hK]))),(dx _ _)⟩,Zr,Tv⟩ ?_))
 refine yN (yN (Xi {q:Nat // q<=64} (Xi (fun q=>⟨[(0,.ref 1000 0),(4,.v (.func (.func 200) #[] #[])),(5,.ref 5 0),(6,.ref 6 0),(7,.ref 7 0),(26,vi q.1)],[(5,.cells (W.map E2)),(6,.cells (Kk.map E2)),(7,.cells (ae (VI W Kk x.v q.1))),(1000,.cells (GH x))],Af⟩) (Xi (fun q=>64-q.1) (Yi (Xi ⟨0,AA _⟩ ?_) ?_)))))
 .exact⟨Z6,⟨⟨rfl,(dx _ _)⟩,⟨rfl,(dx _ _)⟩,Zr,Zr,Tv⟩,Fh,BP Wk⟩
 intro⟨i,i1⟩;have i1:i<=64:=i1;refine Yi (fun h1=>?_) (fun h1=>?_)
 .have h1:(i:Int)<(64:Int):=h1;refine Yi ⟨by decide,by decide⟩ ?_;refine Yi ⟨by decide,by decide⟩ ?_;refine Yi ⟨by decide,by decide⟩ ?_;refine Yi ⟨by decide,by decide⟩ ?_;refine Yi ⟨by decide,by decide⟩ ?_;refine Yi ⟨by decide,by decide⟩ ?_;refine Yi Wk (Yi ⟨by decide,by decide⟩ ?_);refine Xi _ (Yi (oZ (VI W Kk x.v i).e 6 11 25 Cl Cl Cl Cl) (Yi (show(0:Int)<=i/\(i:Int)<(64:Nat)from by omega) (HB (PY (Y5 (show i<Kk.length by omega)) (show(0+(i:Int).toNat*1)=i by omega)) (Yi (show(0:Int)<=i/\(i:Int)<(64:Nat)from by omega) (HB (PY (Y5 (show i<W.length by omega)) (show(0+(i:Int).toNat*1)=i by omega)) (Yi Wk (Xi .pure (Xi _ (Yi (oZ (VI W Kk x.v i).a 2 13 22 Cl Cl Cl Cl) (Yi ⟨by decide,by decide⟩ ?_))))))))));refine yN (Yi (Ii i ch) (Xi ⟨i+1,by omega⟩ ?_));exact⟨Dl 64 i ch,Z6,⟨⟨rfl,(dx _ _)⟩,⟨rfl,(dx _ _)⟩,Zr,Zr,Tv⟩,Fh,BP Wk⟩
 have h1:¬((i:Int)<(64:Int)):=h1;refine cU [(0,.ref 1000 0),(7,.ref 7 0)] [(7,.cells (ae r8)),(1000,.cells (GH x))] Z2 ⟨⟨(Aa (fun z=>HO.cells (ae z)) (show VI W Kk x.v i=r8 by rw[show i=64 by omega,hr])),rfl⟩,Zr,Tv⟩ (yN (Xi {q:Nat // q<=8} (Xi (fun q=>⟨[(0,.ref 1000 0),(94,.agg [.v (.int .u32 r8.a),.v (.int .u32 r8.b),.v (.int .u32 r8.c),.v (.int .u32 r8.d),.v (.int .u32 r8.e),.v (.int .u32 r8.f),.v (.int .u32 r8.g),.v (.int .u32 r8.h)]),(95,vi q.1)],[(1000,.cells (SV x.v r8 q.1 [vs x.rest,.v (.int .u64 x.tot)]))],Af⟩) (Xi (fun q=>8-q.1) (Yi (Xi ⟨0,AA _⟩ ?_) ?_)))))
 .exact⟨Z3,Z1,Fh,BP Wk⟩
 intro⟨j,j1⟩;have j1:j<=8:=j1;refine Yi (fun h3=>?_) (fun h3=>?_)
 .have h3:(j:Int)<(8:Int):=h3;refine Yi (show(0:Int)<=j/\(j:Int)<(8:Nat)from by omega) (HB (sA (v:=r8) (show j<8 by omega) (show((j:Int).toNat*1)=j by omega)) (Yi (show(0:Int)<=j/\(j:Int)<(8:Nat)from by omega) (HB (lR (show j<8 by omega) (show(0+(j:Int).toNat*1)=j by omega)) (Yi (show(0:Int)<=j/\(j:Int)<(8:Nat)from by omega) (Yi (show(0+(j:Int).toNat*1)+1<=((SV x.v r8 j [vs x.rest,.v (.int .u64 x.tot)])).length from by show(0+(j:Int).toNat*1)+1<=10;omega) ?_)))));refine Yi Wk (Yi (Ii j ch) (Xi ⟨j+1,by omega⟩ ?_));exact⟨Dl 8 j ch,Z3,⟨⟨(show HO.cells (over (SV x.v r8 j [vs x.rest,.v (.int .u64 x.tot)]) (0+(j:Int).toNat*1) [.v (.int .u32 (IntKind.wrap .u32 ((S8.n x.v j)+(S8.n r8 j))))])=.cells (SV x.v r8 (j+1) [vs x.rest,.v (.int .u64 x.tot)])from Aa HO.cells (nK (show j<8 by omega) ch)),rfl⟩,Tv⟩,Fh,BP Wk⟩
 have h3:¬((j:Int)<(8:Int)):=h3;have e8:j=8:=by omega
 subst e8;exact Xi _ (Yi (.refl _) Zr)
theorem z6(x:HS)(s:ByteArray)(hs:s.size=64):Bc Tryz.prog 148 [.ref 1000 0,vs s] (Ap [(1000,.cells (GH x))] Af) fun r h'=>r=.tup []/\h'=Ap [(1000,.cells (GH ⟨vN x.v s,x.rest,x.tot⟩))] Af:=
 vX x s (Gq s 64) kK _ (Kt s 64) rfl rfl (Aaa s hs) rZ
end Go.Eng
namespace Go.Proofs
open Go.Shelf
def Tryz.layItoa_ren:Go.Shelf.Ren:=⟨fun | 171=>53 | 243=>93 | 246=>154 | 283=>214 | 284=>215 | 285=>216 | 286=>217 | 129=>229 | 317=>272 | 318=>273 | 319=>274 | 320=>275 | 337=>317 | 338=>318 | n=>n,fun | 3=>3 | 9=>9 | 2=>2 | 4=>4 | 171=>308 | 0=>0 | 53=>98 | 37=>164 | 5=>5 | 173=>311 | 212=>355 | 51=>229 | 20=>20 | 213=>356 | 46=>99 | 232=>414 | 233=>415 | n=>n,fun | 17=>1 | 18=>2 | 19=>3 | n=>n⟩
theorem Tryz.layItoa:Go.Proofs.LaysM.n171 Tryz.prog Tryz.layItoa_ren:={
 mixed:=by kernel_rfl
 f129:=Tryz.func229.trans (congrArg some Go.Eng.Wk)
 f171:=Tryz.func53.trans (congrArg some Go.Eng.Wk)
 f243:=Tryz.func93.trans (congrArg some Go.Eng.Wk)
 f246:=Tryz.func154.trans (congrArg some Go.Eng.Wk)
 f283:=Tryz.func214.trans (congrArg some Go.Eng.Wk)
 f284:=Tryz.func215.trans (congrArg some Go.Eng.Wk)
 f285:=Tryz.func216.trans (congrArg some Go.Eng.Wk)
 f286:=Tryz.func217.trans (congrArg some Go.Eng.Wk)
 f317:=Tryz.func272.trans (congrArg some Go.Eng.Wk)
 f318:=Tryz.func273.trans (congrArg some Go.Eng.Wk)
 f319:=Tryz.func274.trans (congrArg some Go.Eng.Wk)
 f320:=Tryz.func275.trans (congrArg some Go.Eng.Wk)
 f337:=Tryz.func317.trans (congrArg some Go.Eng.Wk)
 f338:=Tryz.func318.trans (congrArg some Go.Eng.Wk)
 t0:=Tryz.underlying0
 a0:=Tryz.isAgg0
 z0:=Tryz.sizeOf0
 v0:=Tryz.zeroValue0
 t2:=Tryz.underlying2
 a2:=Tryz.isAgg2
 z2:=Tryz.sizeOf2
 v2:=Tryz.zeroValue2
 t3:=Tryz.underlying3
 a3:=Tryz.isAgg3
 z3:=Tryz.sizeOf3
 v3:=Tryz.zeroValue3
 t4:=Tryz.underlying4
 a4:=Tryz.isAgg4
 z4:=Tryz.sizeOf4
 v4:=Tryz.zeroValue4
 t5:=Tryz.underlying5
 a5:=Tryz.isAgg5
 z5:=Tryz.sizeOf5
 v5:=Tryz.zeroValue5
 t9:=Tryz.underlying9
 a9:=Tryz.isAgg9
 z9:=Tryz.sizeOf9
 v9:=Tryz.zeroValue9
 t20:=Tryz.underlying20
 a20:=Tryz.isAgg20
 z20:=Tryz.sizeOf20
 v20:=Tryz.zeroValue20
 t37:=Tryz.underlying164
 a37:=Tryz.isAgg164
 z37:=Tryz.sizeOf164
 v37:=Tryz.zeroValue164
 t46:=Tryz.underlying99
 a46:=Tryz.isAgg99
 z46:=Tryz.sizeOf99
 v46:=Tryz.zeroValue99
 t51:=Tryz.underlying229
 a51:=Tryz.isAgg229
 z51:=Tryz.sizeOf229
 v51:=Tryz.zeroValue229
 t53:=Tryz.underlying98
 a53:=Tryz.isAgg98
 z53:=Tryz.sizeOf98
 v53:=Tryz.zeroValue98
 t171:=Tryz.underlying308
 a171:=Tryz.isAgg308
 z171:=Tryz.sizeOf308
 v171:=Tryz.zeroValue308
 t173:=Tryz.underlying311
 a173:=Tryz.isAgg311
 z173:=Tryz.sizeOf311
 v173:=Tryz.zeroValue311
 t212:=Tryz.underlying355
 a212:=Tryz.isAgg355
 z212:=Tryz.sizeOf355
 v212:=Tryz.zeroValue355
 t213:=Tryz.underlying356
 a213:=Tryz.isAgg356
 z213:=Tryz.sizeOf356
 t232:=Tryz.underlying414
 a232:=Tryz.isAgg414
 z232:=Tryz.sizeOf414
 v232:=Tryz.zeroValue414
 t233:=Tryz.underlying415
 a233:=Tryz.isAgg415
 z233:=Tryz.sizeOf415
 v233:=Tryz.zeroValue415
 g17:=by kernel_rfl
 g18:=by kernel_rfl
 g19:=by kernel_rfl
 i0:=by kernel_rfl
 i2:=by kernel_rfl
 i3:=by kernel_rfl
 i4:=by kernel_rfl
 i5:=by kernel_rfl
 i9:=by kernel_rfl
 i20:=by kernel_rfl
 i37:=by kernel_rfl
 i46:=by kernel_rfl
 i51:=by kernel_rfl
 i53:=by kernel_rfl
 i171:=by kernel_rfl
 i173:=by kernel_rfl
 i212:=by kernel_rfl
 i232:=by kernel_rfl
 i233:=by kernel_rfl
 m17:=by kernel_rfl
 m18:=by kernel_rfl
 m19:=by kernel_rfl }
def Tryz.layRepeat_ren:Go.Shelf.Ren:=⟨fun | 105=>151 | 212=>205 | 99=>206 | 165=>207 | 166=>208 | 170=>209 | 169=>210 | 263=>267 | 264=>268 | 206=>269 | 240=>270 | 241=>271 | 276=>315 | 277=>316 | n=>n,fun | 9=>9 | 3=>3 | 4=>4 | 20=>20 | 0=>0 | 46=>99 | 109=>295 | 5=>5 | 72=>299 | 76=>303 | 51=>229 | 146=>349 | 53=>98 | 148=>351 | 70=>297 | 37=>164 | 75=>302 | 127=>348 | 164=>386 | 80=>162 | n=>n,fun | n=>n⟩
theorem Tryz.layRepeat:Go.Proofs.Lays.n105 Tryz.prog Tryz.layRepeat_ren:={
 mixed:=by kernel_rfl
 f99:=Tryz.func206.trans (congrArg some Go.Eng.Wk)
 f105:=Tryz.func151.trans (congrArg some Go.Eng.Wk)
 f165:=Tryz.func207.trans (congrArg some Go.Eng.Wk)
 f166:=Tryz.func208.trans (congrArg some Go.Eng.Wk)
 f169:=Tryz.func210.trans (congrArg some Go.Eng.Wk)
 f170:=Tryz.func209.trans (congrArg some Go.Eng.Wk)
 f206:=Tryz.func269.trans (congrArg some Go.Eng.Wk)
 f212:=Tryz.func205.trans (congrArg some Go.Eng.Wk)
 f240:=Tryz.func270.trans (congrArg some Go.Eng.Wk)
 f241:=Tryz.func271.trans (congrArg some Go.Eng.Wk)
 f263:=Tryz.func267.trans (congrArg some Go.Eng.Wk)
 f264:=Tryz.func268.trans (congrArg some Go.Eng.Wk)
 f276:=Tryz.func315.trans (congrArg some Go.Eng.Wk)
 f277:=Tryz.func316.trans (congrArg some Go.Eng.Wk)
 t0:=Tryz.underlying0
 a0:=Tryz.isAgg0
 z0:=Tryz.sizeOf0
 v0:=Tryz.zeroValue0
 t3:=Tryz.underlying3
 a3:=Tryz.isAgg3
 z3:=Tryz.sizeOf3
 v3:=Tryz.zeroValue3
 t4:=Tryz.underlying4
 a4:=Tryz.isAgg4
 z4:=Tryz.sizeOf4
 v4:=Tryz.zeroValue4
 t5:=Tryz.underlying5
 a5:=Tryz.isAgg5
 z5:=Tryz.sizeOf5
 v5:=Tryz.zeroValue5
 t9:=Tryz.underlying9
 a9:=Tryz.isAgg9
 z9:=Tryz.sizeOf9
 v9:=Tryz.zeroValue9
 t20:=Tryz.underlying20
 a20:=Tryz.isAgg20
 z20:=Tryz.sizeOf20
 v20:=Tryz.zeroValue20
 t37:=Tryz.underlying164
 a37:=Tryz.isAgg164
 z37:=Tryz.sizeOf164
 v37:=Tryz.zeroValue164
 t46:=Tryz.underlying99
 a46:=Tryz.isAgg99
 z46:=Tryz.sizeOf99
 v46:=Tryz.zeroValue99
 t51:=Tryz.underlying229
 a51:=Tryz.isAgg229
 z51:=Tryz.sizeOf229
 v51:=Tryz.zeroValue229
 t53:=Tryz.underlying98
 a53:=Tryz.isAgg98
 z53:=Tryz.sizeOf98
 v53:=Tryz.zeroValue98
 t70:=Tryz.underlying297
 a70:=Tryz.isAgg297
 z70:=Tryz.sizeOf297
 v70:=Tryz.zeroValue297
 t72:=Tryz.underlying299
 a72:=Tryz.isAgg299
 z72:=Tryz.sizeOf299
 v72:=Tryz.zeroValue299
 t75:=Tryz.underlying302
 a75:=Tryz.isAgg302
 z75:=Tryz.sizeOf302
 v75:=Tryz.zeroValue302
 t76:=Tryz.underlying303
 a76:=Tryz.isAgg303
 z76:=Tryz.sizeOf303
 v76:=Tryz.zeroValue303
 t109:=Tryz.underlying295
 a109:=Tryz.isAgg295
 z109:=Tryz.sizeOf295
 v109:=Tryz.zeroValue295
 t127:=Tryz.underlying348
 a127:=Tryz.isAgg348
 z127:=Tryz.sizeOf348
 v127:=Tryz.zeroValue348
 t146:=Tryz.underlying349
 a146:=Tryz.isAgg349
 z146:=Tryz.sizeOf349
 v146:=Tryz.zeroValue349
 t148:=Tryz.underlying351
 a148:=Tryz.isAgg351
 z148:=Tryz.sizeOf351
 v148:=Tryz.zeroValue351
 t164:=Tryz.underlying386
 a164:=Tryz.isAgg386
 z164:=Tryz.sizeOf386
 v164:=Tryz.zeroValue386 }
def Tryz.layClone_ren:Go.Shelf.Ren:=⟨fun | 25=>204 | n=>n,fun | 9=>9 | 3=>3 | 4=>4 | 37=>164 | 0=>0 | 47=>348 | 5=>5 | n=>n,fun | n=>n⟩
theorem Tryz.layClone:Go.Proofs.LaysPu.n25 Tryz.prog Tryz.layClone_ren:={
 mixed:=by kernel_rfl
 f25:=Tryz.func204.trans (congrArg some Go.Eng.Wk)
 t0:=Tryz.underlying0
 a0:=Tryz.isAgg0
 z0:=Tryz.sizeOf0
 v0:=Tryz.zeroValue0
 i0:=by kernel_rfl
 t3:=Tryz.underlying3
 a3:=Tryz.isAgg3
 z3:=Tryz.sizeOf3
 v3:=Tryz.zeroValue3
 i3:=by kernel_rfl
 t4:=Tryz.underlying4
 a4:=Tryz.isAgg4
 z4:=Tryz.sizeOf4
 v4:=Tryz.zeroValue4
 i4:=by kernel_rfl
 t5:=Tryz.underlying5
 a5:=Tryz.isAgg5
 z5:=Tryz.sizeOf5
 v5:=Tryz.zeroValue5
 i5:=by kernel_rfl
 t9:=Tryz.underlying9
 a9:=Tryz.isAgg9
 z9:=Tryz.sizeOf9
 v9:=Tryz.zeroValue9
 i9:=by kernel_rfl
 t37:=Tryz.underlying164
 a37:=Tryz.isAgg164
 z37:=Tryz.sizeOf164
 v37:=Tryz.zeroValue164
 i37:=by kernel_rfl
 t47:=Tryz.underlying348
 a47:=Tryz.isAgg348
 z47:=Tryz.sizeOf348
 v47:=Tryz.zeroValue348
 i47:=by kernel_rfl }
theorem Tryz.layRepeatX:Builder.Extra Tryz.prog Tryz.layRepeat_ren:={
 sizeBuilder:=by kernel_rfl
 liesBuilder:=by kernel_rfl
 t5:=Tryz.underlying5
 a5:=Tryz.isAgg5
 z5:=Tryz.sizeOf5
 v5:=Tryz.zeroValue5
 infoByte:=by kernel_rfl
 cellsByte:=by kernel_rfl
 sizeByte:=by kernel_rfl
 neB5:=by decide }
end Go.Proofs
