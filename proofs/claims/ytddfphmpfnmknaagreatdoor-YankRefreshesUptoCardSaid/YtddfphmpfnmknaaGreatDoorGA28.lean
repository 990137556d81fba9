/- Lemmas for the claims of this seat, without a condition: part 28 (S12, S13, S14, S16, S18, R24, C74, R25, R26, R27, R28, R29, R30, R31). -/
import Derived.Test.YtddfphmpfnmknaaGreatDoorGA27
set_option maxHeartbeats 4000000
namespace Go.Eng
open Go.Proofs
variable {p:ByteArray}{l:List ByteArray}{h:Nat→HO}{n k:Nat}{a:AV}(x y:List Rl)(ifs:List (List AV))(j:Nat)(r:Rl)(roots:List Rq)
def Ck:Bool:=decide (AN x=0)&&decide (Bn roots=0)
theorem yB(hx:∀r∈x,Gv r)(hr:∀q∈roots,J8 q):PC 63 [.agg (Ic x ifs),sl AH roots] (vb (Ck x roots)):=by
 refine Ps (pC [2] []) Tryz.func63 rfl (Nz rfl) (yN (Xi .pure (Xi _ (Yi (nN VQ x ifs hx) (Yi (fun h1=>?_) (fun h1=>?_))))))
 ·have h1:((AN x):Int)=(0:Int):=h1;refine Xi .pure (Xi _ (Yi (c65 VQ roots hr) (Yi (fun h2=>?_) (fun h2=>?_))))
  ·have h2:((Bn roots):Int)=(0:Int):=h2;exact .of_eq (show vb true=vb (Ck x roots) by unfold Ck;rw[h1,h2];rfl)
  have h2:¬(((Bn roots):Int)=(0:Int)):=h2;exact .of_eq (show vb false=vb (Ck x roots) by unfold Ck;rw[Ap h2,Cz])
 have h1:¬(((AN x):Int)=(0:Int)):=h1;exact .of_eq (show vb false=vb (Ck x roots) by unfold Ck;rw[Ap h1];rfl)
abbrev Sr:List AV:=AU ⟨plc r.ver,r⟩
abbrev G0(p:ByteArray):List (List AV):=(y.filter fun r=>decide (r.path=p)).map Sr
abbrev ZB(q:ByteArray×Nat):Value×AV:=(.string q.1,.slice (.id (q.2+100) 10) (G0 y q.1))
abbrev Jl:List (Value×AV):=(AX y []).zipIdx.map (ZB y)
def GP(l:Nat):HO:=match(AX y [])[l]? with
 |some q=>.tok 10 (G0 y q).length
 |none=>.free
def JT:HO:=bif Nat.ble 100 j&&Nat.blt j 1000 then GP y (j-100)else .free
theorem Fx(hy:y.length≤256)(l:Nat):JT y (l+100)=GP y l:=by
 unfold JT;rw[show Nat.ble 100 (l+100)=true by rw[Do];omega,EB,Nat.add_sub_cancel]
 by_cases h:l+100<1000
 ·rw[show Nat.blt (l+100) 1000=true by rw[Cm];exact h];rfl
 ·rw[show Nat.blt (l+100) 1000=false by rw[AI];intro hc;rw[Cm]at hc;omega]
  have:=HY y []
  rw[Ax]at this;unfold GP;rw[A6 ch];rfl
theorem om{j:Nat}(h:j<100):JT y j=.free:=by
 unfold JT;rw[show Nat.ble 100 j=false by rw[AI];intro hc;rw[Do]at hc;omega];rfl
theorem HX(q:ByteArray):G0 (y++[r]) q=if r.path=q then G0 y q++[Sr r]else G0 y q:=by
 unfold G0;rw[DB]
 by_cases h:r.path=q
 ·rw[Al h,KC (by simpa using h)];simp
 ·rw[Ae h,KB (by simpa using h)];simp
section
variable {y:List Rl}{r:Rl}{k:Nat}
open Classical in
theorem km(h:(AX y [])[k]?=some r.path):FD (Jl y) (.string r.path) (.slice (.id (k+100) 10) (G0 y r.path++[Sr r]))=Jl (y++[r]):=by
 have hd:=Fm y [] FI;have hm:ZB y (r.path,k)∈Jl y:=Am.2 ⟨_,F1.2 h,rfl⟩;rw[ax (a':=.slice (.id (k+100) 10) (G0 y r.path)) hm];unfold Jl;rw[J6 h,BE];refine Bd fun q hq=>?_;have hg:=Ja hq;obtain⟨q,j⟩:=q;show(if Value.string q=Value.string r.path then _ else _)=ZB (y++[r]) (q,j);have hg:(AX y [])[j]?=some q:=hg
 by_cases he:q=r.path
 ·subst he
  have:j=k:=J3 hd hg h
  subst this;rw[Al rfl];show _=(Value.string r.path,AV.slice (.id (j+100) 10) (G0 (y++[r]) r.path));rw[HX,Al rfl]
 ·rw[Ae (fun e=>he (by simpa using e))];show(Value.string q,AV.slice (.id (j+100) 10) (G0 y q))=(Value.string q,AV.slice (.id (j+100) 10) (G0 (y++[r]) q));rw[HX,Ae (fun e=>he e.symm)]
theorem aG(h:r.path∉AX y []):G0 y r.path=[]:=by
 have:y.filter (fun s=>decide (s.path=r.path))=[]:=by
  rw[H4];intro s hs he;exact h ((HZ y [] r.path).2 (.inr ⟨s,hs,A4 he⟩))
 unfold G0;rw[this];rfl
theorem WL(h:r.path∉AX y [])(a:AV):(Value.string r.path,a)∉Jl y:=by
 intro hc;obtain⟨q,h1,h2⟩:=Am.1 hc;simp only[ZB,Gk,Value.string.injEq]at h2;exact h (by rw[←h2.1];exact Ay (Ja h1))
theorem kl(h:r.path∉AX y []):FD (Jl y) (.string r.path) (.slice (.id ((AX y []).length+100) 10) [Sr r])=Jl (y++[r]):=by
 rw[Nc (fun a=>WL h a)];unfold Jl;rw[J5 h,List.zipIdx_append,As]
 congr 1
 ·refine Bd fun q hq=>?_;have hg:=Ja hq
  have:q.1≠r.path:=fun e=>h (by rw[←e];exact Ay hg)
  show(Value.string q.1,AV.slice (.id (q.2+100) 10) (G0 y q.1))=(Value.string q.1,AV.slice (.id (q.2+100) 10) (G0 (y++[r]) q.1));rw[HX,Ae (fun e=>this e.symm)]
 ·show [_]=[(Value.string r.path,AV.slice (.id (0+(AX y []).length+100) 10) (G0 (y++[r]) r.path))];rw[HX,Al rfl,aG h,Bi];rfl
theorem gp{j:Nat}(h:(AX y [])[j]?=some p):(Value.string p,AV.slice (.id (j+100) 10) (G0 y p))∈Jl y∧∀b,(Value.string p,b)∈Jl y→b=AV.slice (.id (j+100) 10) (G0 y p):=by
 refine⟨Am.2 ⟨(p,j),F1.2 h,rfl⟩,fun b hb=>?_⟩;obtain⟨q,h1,h2⟩:=Am.1 hb;simp only[ZB,Gk,Value.string.injEq]at h2;have hg:=Ja h1;rw[h2.1]at hg
 have:=J3 (Fm y [] FI) hg h
 rw[←h2.2,h2.1,this]
theorem fh{j:Nat}(h:(AX y [])[j]?=some p):GP y j=.tok 10 (G0 y p).length:=by
 unfold GP;rw[h]
theorem mM(h:(AX y [])[k]?=some r.path)(l:Nat):(bif Nat.beq (l+100) (k+100)then HO.tok 10 ((G0 y r.path).length+1)else GP y l)=GP (y++[r]) l:=by
 by_cases he:l=k
 ·subst he;rw[show Nat.beq (l+100) (l+100)=true from Dh _];unfold GP;rw[J6 h,h];show HO.tok 10 _=HO.tok 10 (G0 (y++[r]) r.path).length;rw[HX,Al rfl,Ad];rfl
 ·rw[show Nat.beq (l+100) (k+100)=false by rw[AI];intro hc;have:=AM hc;omega];show GP y l=_;unfold GP;rw[J6 h];cases hq:(AX y [])[l]? with
  |none=>rfl
  |some q =>
   show HO.tok 10 (G0 y q).length=HO.tok 10 (G0 (y++[r]) q).length;rw[HX,Ae];intro e;subst e;exact he (J3 (Fm y [] FI) hq h)
theorem mL(h:r.path∉AX y [])(l:Nat):(bif Nat.beq (l+100) ((AX y []).length+100)then HO.tok 10 1 else GP y l)=GP (y++[r]) l:=by
 by_cases he:l=(AX y []).length
 ·subst he;rw[show Nat.beq ((AX y []).length+100) ((AX y []).length+100)=true from Dh _];unfold GP;rw[J5 h];simp only[AR (Ao _),EF,A9];show HO.tok 10 1=HO.tok 10 (G0 (y++[r]) r.path).length;rw[HX,Al rfl,aG h];rfl
 ·rw[show Nat.beq (l+100) ((AX y []).length+100)=false by rw[AI];intro hc;have:=AM hc;omega];show GP y l=_;unfold GP;rw[J5 h]
  by_cases hl:l<(AX y []).length
  ·rw[A2 hl,Ge hl];show HO.tok 10 (G0 y (AX y [])[l]).length=HO.tok 10 (G0 (y++[r]) (AX y [])[l]).length;rw[HX,Ae];intro e;exact h (by rw[e];exact Aj hl)
  ·rw[A6 ch,A6 (by rw[Ad];simp;omega)]
end
theorem Il(hh:∀l,h (l+100)=GP y l):Sz h (Jl y)=true:=by
 refine Rv fun p hp=>?_;obtain⟨q,h1,rfl⟩:=Am.1 hp;show Tf h (q.2+100)=true;unfold Tf;rw[hh,fh (Ja h1)]
theorem Ha{y:List Rl}(hy:y.length≤256){h':Nat→HO}(hh:∀l,h (l+100)=GP y l)(j:Nat):JT y j=.free∨(h j=JT y j∧ZU h' (JT y j)=true):=by
 by_cases hj:j<100
 ·exact .inl (om y hj)
 ·obtain⟨l,rfl⟩:∃l,j=l+100:=⟨j-100,by omega⟩
  right
  rw[Fx y hy];refine⟨hh l,?_⟩;unfold GP;cases (AX y [])[l]?<;>rfl
abbrev yR:List Rl:=x.filter fun r=>!r.yanked
theorem cN(p:ByteArray):G0 (yR x) p=(BJ x p).map AU:=by
 unfold G0 BJ;rw[List.filter_filter,BE]
 rfl
def mC:List (Value×AV):=(AX (yR x) []).map fun p=>(.string p,sl AU (BJ x p))
theorem lu{x:List Rl}:(Value.string p,a)∈mC x↔p∈AX (yR x) []∧a=sl AU (BJ x p):=by
 unfold mC;rw[Am];constructor
 ·rintro⟨q,hq,e⟩
  injection e with e1 e2
  injection e1 with e1
  subst e1;exact⟨hq,e2.symm⟩
 ·rintro⟨h1,h2⟩
  exact⟨p,h1,by rw[h2]⟩
theorem Wz{x:List Rl}:BJ x p=[]↔p∉AX (yR x) []:=by
 rw[HZ];unfold BJ;rw[Er,H4];constructor
 ·rintro h (h1 | ⟨r,h1,h2⟩)
  ·cases h1
  ·obtain⟨h3,h4⟩:=BM.1 h1;exact h r h3 (by rw[Aq h2,h4];rfl)
 ·intro h r hr hc;rw[Ai,Az]at hc;exact h (.inr ⟨r,BM.2 ⟨hr,hc.2⟩,hc.1⟩)
theorem wF:∀(p:ByteArray) (a:AV),(Value.string p,a)∈mC x→a=sl AU (BJ x p):=fun _ _ h=>(lu.1 h).2
theorem wG:∀p:ByteArray,(∀a,(Value.string p,a)∉mC x)→BJ x p=[]:=fun _ h=>Wz.2 fun hp=>h _ (lu.2 ⟨hp,rfl⟩)
theorem wH:∀p:ByteArray,BJ x p=[]→∀a,(Value.string p,a)∉mC x:=fun _ h _ ha=>Wz.1 h (lu.1 ha).1
abbrev plN:Q0:=⟨[2],[],[],[(52,[12])],[],[12],[50],[(53,(16,3,90,6)),(54,(16,4,91,1)),(55,(16,7,93,10)),(56,(16,8,94,4))],[],[(850013,13),(800013,10016),(810013,20016),(900013,10000000000+92000000+90016)],[5,7,8,9,11,12,13]⟩
abbrev kC(p:ByteArray):Value×AV:=(.string p,sl AU (BJ x p))
abbrev kA(p:ByteArray):Value×AV:=(.string p,sl Ag (Ca x p))
theorem o6{x:List Rl}{kv:Value×AV}{Pc : List (Value×AV)}(h:(l.map (kC x)).Perm (kv::Pc)):∃t r,kv=kC x t∧Pc=r.map (kC x)∧l.Perm (t::r):=by
 obtain⟨ps,h1,h2⟩:=Ni h l rfl;cases ps with
 |nil=>cases h2
 |cons t r =>
  rw[AJ,F0]at h2;exact⟨t,r,h2.1.symm,h2.2.symm,h1.symm⟩
abbrev srN(C A:List (Value×AV)):List (Nat×HO) :=
 [(2000,.cells [sl AH roots,.cmap Du C,.cmap Du A,.slice (.id 2001 6) [],.slice (.id 2002 1) [],.mref 2003,vb false,.slice .none [],.slice .none [],.msl 2004 0]),(2001,.tok 6 0),(2002,.tok 1 0),(2003,.map FY []),(2004,.arr 1 [])]
theorem Yo{x:List Rl}:(Value.string p,a)∈l.map (kA x)↔p∈l∧a=sl Ag (Ca x p):=by
 rw[Am];constructor
 ·rintro⟨q,hq,e⟩
  injection e with e1 e2
  injection e1 with e1
  subst e1;exact⟨hq,e2.symm⟩
 ·rintro⟨h1,h2⟩
  exact⟨p,h1,by rw[h2]⟩
theorem dM(n:Nat):JT y (n+1000)=.free:=by
 unfold JT;rw[show Nat.blt (n+1000) 1000=false by rw[AI];intro hc;rw[Cm]at hc;omega,Cz];rfl
theorem X4{s:Nat→HO}(H:∀n,h (n+1000)=.free):∀j,1000≤j→j<2000→h j≠.free→s j≠.free:=fun j h1 _ hn=>by
 refine absurd (H (j-1000)) ?_;rw[show j-1000+1000=j by omega];exact hn
theorem nE(h:k<1000):Nat.beq (n+1000) k=false:=by
 rw[AI];intro hc;have:=AM hc;omega
theorem dx{y:List Rl}{o:HO}(h:k<1000):(bif Nat.beq (n+1000) k then o else JT y (n+1000))=.free:=by
 rw[nE h,dM];rfl
attribute [local irreducible] I4
set_option maxRecDepth 30000 in
theorem s29(hx:∀r∈x,Gv r)(h0:AN x=0):A1 Tryz.prog 64 [EZ x ifs,sl AH roots] (Ak [] Af) fun r h'=>∃l:List ByteArray,l.Perm (AX (yR x) [])∧r=.ref 2000 0∧h'=Ak (srN roots (mC x) (l.map (kA x))) Af:=by
 have VV:x.length≤256:=(L6 h0).1;refine BW (KV plN) [(16,2000),(90,2001),(91,2002),(14,2003),(92,2004)] rfl Co hm rfl Tryz.func64 Wk rfl (Nz rfl) Wk rfl (Xi 0 (Xi 0 (Xi 0 (Xi {i:Nat // i≤x.length} (Xi (fun i=>⟨[(2,.ref 2 0),(5,.ref 16 0),(18,sl At x),(19,vi (x.map At).length),(20,vi i.1)],[(2,.ro (Ic x ifs)),(12,.mapU Du (Jl (yR (x.take i.1)))),(13,.map Du []),(14,.map FY []),(16,.cells [sl AH roots,.mref 12,.mref 13,Ce,Ce,.mref 14,vb false,Ce,Ce,Ce])],JT (yR (x.take i.1))⟩) (Xi (fun i=>x.length-i.1) (Yi (Xi ⟨0,AA _⟩ ?_) ?_)))))))
 ·refine⟨Z5,Z5,fun j=>.inl ?_,Bo Wk⟩;show JT [] j=.free;unfold JT;cases (Nat.ble 100 j&&Nat.blt j 1000)<;>rfl
 intro⟨i,i1⟩;have i1:i≤x.length:=i1;have hq:∀k,(yR (x.take k)).length≤256:=fun k=>by
  have:=BC (fun r:Rl=>!r.yanked) (x.take k)
  rw[AB]at this;show(List.filter _ _).length≤256;omega
 refine Xi 0 (Yi ?_ ?_)
 ·intro h;have h:(i:Int)<(x.map At).length:=h;have h:i<x.length:=by simpa using h
  have hg:x[i]?=some x[i]:=Ge h;have Lu:x.take (i+1)=x.take i++[x[i]]:=by rw[Be,hg];rfl
  refine Xi 0 (Xi (At x[i]) (Yi (Yi (Nn i) (by simp[hg])) (Yi rfl ?_)));refine Yi (Nz rfl) (yN (Xi ⟨[(2,.ref 2 0),(5,.ref 16 0),(7,.ref 7 0),(18,sl At x),(19,vi (x.map At).length),(20,vi i)],[(2,.ro (Ic x ifs)),(7,.cells (At x[i])),(12,.mapU Du (Jl (yR (x.take i)))),(13,.map Du []),(14,.map FY []),(16,.cells [sl AH roots,.mref 12,.mref 13,Ce,Ce,.mref 14,vb false,Ce,Ce,Ce])],JT (yR (x.take i))⟩ (Yi ?_ ?_)))
  ·exact⟨Z6,⟨Zr,Zr,⟨rfl,Il _ (Fx _ (hq _))⟩,Zr,Zr,Zr,Tv⟩,Ha (hq _) (Fx _ (hq _)),Bo Wk⟩
  refine Xi 0 (Yi (fun hy=>?_) (fun hy=>?_))
  ·have hy:x[i].yanked=true:=hy;have ey:yR (x.take (i+1))=yR (x.take i):=by
    unfold yR;rw[Lu,DB,KB (by rw[hy];decide)];simp
   refine Xi ⟨[(2,.ref 2 0),(5,.ref 16 0),(18,sl At x),(19,vi (x.map At).length),(20,vi i)],[(2,.ro (Ic x ifs)),(12,.mapU Du (Jl (yR (x.take (i+1))))),(13,.map Du []),(14,.map FY []),(16,.cells [sl AH roots,.mref 12,.mref 13,Ce,Ce,.mref 14,vb false,Ce,Ce,Ce])],JT (yR (x.take (i+1)))⟩ (Yi ?_ ?_)
   ·rw[ey];exact⟨Z5,⟨Zr,⟨rfl,Il _ (Fx _ (hq _))⟩,Zr,Zr,Zr,Tv⟩,Ha (hq _) (Fx _ (hq _)),Bo Wk⟩
   refine Xi 0 (Yi (Ii i ch) (Xi ⟨i+1,by omega⟩ ?_));exact⟨Dl x.length i ch,Z5,⟨Zr,⟨rfl,Il _ (Fx _ (hq _))⟩,Zr,Zr,Zr,Tv⟩,Ha (hq _) (Fx _ (hq _)),Bo Wk⟩
  have hy:x[i].yanked=false:=hy;refine Xi 0 (yN (Xi .pure (Xi _ (Yi (uK x[i].ver) (Xi ⟨[(2,.ref 2 0),(5,.ref 16 0),(7,.ref 7 0),(8,vi (plc x[i].ver)),(18,sl At x),(19,vi (x.map At).length),(20,vi i)],[(2,.ro (Ic x ifs)),(7,.cells (At x[i])),(12,.mapU Du (Jl (yR (x.take i)))),(13,.map Du []),(14,.map FY []),(16,.cells [sl AH roots,.mref 12,.mref 13,Ce,Ce,.mref 14,vb false,Ce,Ce,Ce])],JT (yR (x.take i))⟩ (Yi ?_ ?_))))))
  ·exact⟨Z7,⟨Zr,Zr,⟨rfl,Il _ (Fx _ (hq _))⟩,Zr,Zr,Zr,Tv⟩,Ha (hq _) (Fx _ (hq _)),Bo Wk⟩
  have ey:yR (x.take (i+1))=yR (x.take i)++[x[i]]:=by
   unfold yR;rw[Lu,DB,KC (by rw[hy];decide)];rfl
  have hyl:(yR (x.take i)).length≤256:=by
   have:=BC (fun r:Rl=>!r.yanked) (x.take i)
   rw[AB]at this;show(List.filter _ _).length≤256;omega
  have hP:∀l,JT (yR (x.take i)) (l+100)=GP (yR (x.take i)) l:=Fx _ (hq _);refine BF (Classical.em (x[i].path∈AX (yR (x.take i)) [])) (fun hp=>?_) (fun hp=>?_)
  ·refine Ba (Cg.1 hp) (fun k hk=>?_);have hu:=gp hk;have hl:(G0 (yR (x.take i)) x[i].path).length≤256:=by
    rw[Lm];exact Bf (BC _ _) hyl
   have vR:k<256:=by
    have:=(Aw.1 hk).1
    have:=HY (yR (x.take i)) []
    simp only[Ax]at this;omega
   have hr:JT (yR (x.take i)) (k+100)=.tok 10 (G0 (yR (x.take i)) x[i].path).length:=by rw[hP,fh hk]
   refine Xi 0 ?_;refine Or.inl (Xi (.slice (.id (k+100) 10) (G0 (yR (x.take i)) x[i].path)) (Yi hu ?_));refine yN (Sp (e:=150) (m:=9) (es2:=[Sr x[i]]) rfl rfl rfl (fun _ h=>h) hr ⟨rfl,trivial⟩ (by show(_+1)*128≤_;omega) (by show _+1≤_;omega) (Yi (JR ⟨A3 _,A3 _,A3 _,A3 _,A3 _,A3 _,A3 _,A3 _,A3 _,A3 _,A3 _,A3 _,A3 _,A3 _,A3 _,A3 _,Ew (show 49<10000000 by decide),Ew (by show _+100<10000000;omega),Ew (show 12<10000000 by decide),trivial⟩ Wk) ?_));have e9:FD (Jl (yR (x.take i))) (.string x[i].path) (.slice (.id (k+100) 10) (G0 (yR (x.take i)) x[i].path++[Sr x[i]]))=Jl (yR (x.take (i+1))):=by rw[ey];exact km hk
   have hG:∀l,(bif Nat.beq (l+100) (k+100)then HO.tok 10 ((G0 (yR (x.take i)) x[i].path).length+1)else GP (yR (x.take i)) l)=GP (yR (x.take (i+1))) l:=by rw[ey];exact mM hk
   refine Xi ⟨[(2,.ref 2 0),(5,.ref 16 0),(18,sl At x),(19,vi (x.map At).length),(20,vi i)],[(2,.ro (Ic x ifs)),(12,.mapU Du (Jl (yR (x.take (i+1))))),(13,.map Du []),(14,.map FY []),(16,.cells [sl AH roots,.mref 12,.mref 13,Ce,Ce,.mref 14,vb false,Ce,Ce,Ce])],JT (yR (x.take (i+1)))⟩ (Yi ?_ ?_)
   ·refine⟨Z5,⟨Zr,⟨Ab (HO.mapU Du) e9,Il _ (Fx _ (hq _))⟩,Zr,Zr,Zr,Tv⟩,Ha (hq _) (fun l=>?_),X4 (fun n=>?_)⟩
    ·show(bif Nat.beq (l+100) (k+100)then HO.tok 10 ((G0 (yR (x.take i)) x[i].path).length+1)else JT (yR (x.take i)) (l+100))=_;rw[hP];exact hG l
    ·exact dx (y:=yR (x.take i)) (show k+100<1000 by omega)
   refine Xi 0 (Yi (Ii i ch) (Xi ⟨i+1,by omega⟩ ?_));exact⟨Dl x.length i ch,Z5,⟨Zr,⟨rfl,Il _ (Fx _ (hq _))⟩,Zr,Zr,Zr,Tv⟩,Ha (hq _) (Fx _ (hq _)),Bo Wk⟩
  ·have Mr:(AX (yR (x.take i)) []).length≤256:=by
    have:=HY (yR (x.take i)) []
    simp only[Ax]at this;omega
   have hn:=WL hp;have hr:JT (yR (x.take i)) ((AX (yR (x.take i)) []).length+100)=.free:=by
    rw[hP];unfold GP;rw[A6 (Ao _)]
   refine Xi ((AX (yR (x.take i)) []).length+100) ?_;refine Or.inr (Yi hn ?_);refine yN (So (e:=150) (m:=9) (es2:=[Sr x[i]]) rfl rfl rfl (fun _ h=>h) hr rfl ⟨rfl,trivial⟩ (by show 1*128≤_;omega) (by show 1≤_;omega) (Yi (JR ⟨A3 _,A3 _,A3 _,A3 _,A3 _,A3 _,A3 _,A3 _,A3 _,A3 _,A3 _,A3 _,A3 _,A3 _,A3 _,A3 _,Ew (show 49<10000000 by decide),Ew (by show _+100<10000000;omega),Ew (show 12<10000000 by decide),trivial⟩ Wk) ?_));have e9:FD (Jl (yR (x.take i))) (.string x[i].path) (.slice (.id ((AX (yR (x.take i)) []).length+100) 10) [Sr x[i]])=Jl (yR (x.take (i+1))):=by rw[ey];exact kl hp
   have hG:∀l,(bif Nat.beq (l+100) ((AX (yR (x.take i)) []).length+100)then HO.tok 10 1 else GP (yR (x.take i)) l)=GP (yR (x.take (i+1))) l:=by rw[ey];exact mL hp
   refine Xi ⟨[(2,.ref 2 0),(5,.ref 16 0),(18,sl At x),(19,vi (x.map At).length),(20,vi i)],[(2,.ro (Ic x ifs)),(12,.mapU Du (Jl (yR (x.take (i+1))))),(13,.map Du []),(14,.map FY []),(16,.cells [sl AH roots,.mref 12,.mref 13,Ce,Ce,.mref 14,vb false,Ce,Ce,Ce])],JT (yR (x.take (i+1)))⟩ (Yi ?_ ?_)
   ·refine⟨Z5,⟨Zr,⟨Ab (HO.mapU Du) e9,Il _ (Fx _ (hq _))⟩,Zr,Zr,Zr,Tv⟩,Ha (hq _) (fun l=>?_),X4 (fun n=>?_)⟩
    ·show(bif Nat.beq (l+100) ((AX (yR (x.take i)) []).length+100)then HO.tok 10 1 else JT (yR (x.take i)) (l+100))=_;rw[hP];exact hG l
    ·exact dx (y:=yR (x.take i)) (show(AX (yR (x.take i)) []).length+100<1000 by omega)
   refine Xi 0 (Yi (Ii i ch) (Xi ⟨i+1,by omega⟩ ?_));exact⟨Dl x.length i ch,Z5,⟨Zr,⟨rfl,Il _ (Fx _ (hq _))⟩,Zr,Zr,Zr,Tv⟩,Ha (hq _) (Fx _ (hq _)),Bo Wk⟩
 ·intro h;have h:¬(i:Int)<(x.map At).length:=h;have h:¬i<x.length:=by simpa using h
  have et:x.take i=x:=Au ch;have eM:∀hh:Nat→HO,Ti hh (Jl (yR (x.take i)))=(AX (yR x) []).map (kC x):=fun hh=>by
   rw[et];unfold Ti Jl;rw[BE];refine Dq fun j=>?_;rw[AL,AL,List.getElem?_zipIdx];cases (AX (yR x) [])[j]? with
   |none=>rfl
   |some q=>show some (Value.string q,AV.slice .none (G0 (yR x) q))=_;rw[cN];rfl
  refine Xi ⟨[(2,.ref 2 0),(5,.ref 16 0)],[(2,.ro (Ic x ifs)),(12,.mapU Du (Jl (yR (x.take i)))),(13,.map Du []),(14,.map FY []),(16,.cells [sl AH roots,.mref 12,.mref 13,Ce,Ce,.mref 14,vb false,Ce,Ce,Ce])],JT (yR (x.take i))⟩ (Yi ?_ ?_)
  ·exact⟨Z2,⟨Zr,⟨rfl,Il _ (Fx _ (hq _))⟩,Zr,Zr,Zr,Tv⟩,Ha (hq _) (Fx _ (hq _)),Bo Wk⟩
  refine Xi 0 (Xi {p:List ByteArray×List ByteArray×Option (Value×AV) // (p.1++p.2.1).Perm (AX (yR x) [])} (Xi (fun p=>⟨[(2,.ref 2 0),(5,.ref 16 0),(56,.ref 56 0)],[(2,.ro (Ic x ifs)),(12,.rom Du ((AX (yR x) []).map (kC x))),(13,.map Du (p.1.1.map (kA x))),(14,.map FY []),(16,.cells [sl AH roots,.mref 12,.mref 13,.slice (.id 90 6) [],.slice (.id 91 1) [],.mref 14,vb false,.slice (.id 93 10) [],.slice (.id 94 4) [],Ce]),(56,.iter ((AX (yR x) []).map (kC x)) (p.1.2.1.map (kC x)) p.1.2.2),(90,.tok 6 0),(91,.tok 1 0),(93,.tok 10 0),(94,.tok 4 0)],Af⟩) (Xi (fun p=>p.1.2.1.length) (Yi (Xi ⟨([],AX (yR x) [],none),.refl _⟩ ?_) ?_))))
  ·refine⟨Z3,⟨Zr,⟨Ab (HO.rom Du) (eM _),rfl⟩,Zr,Zr,Zr,⟨?_,rfl⟩,Zr,Zr,Zr,Zr,Tv⟩,Fh,X4 (fun n=>?_)⟩
   ·show HO.iter (Ti _ (Jl (yR (x.take i)))) (Ti _ (Jl (yR (x.take i)))) none=_;rw[eM]
   ·exact dM (yR (x.take i)) n
  intro⟨⟨done,rem,F6⟩,r1⟩;have r1:(done++rem).Perm (AX (yR x) []):=r1;refine Xi 0 (Yi ?_ ?_)
  ·intro hr;have hr:rem.map (kC x)=[]:=hr;have hr:rem=[]:=Er.1 hr;subst hr;rw[BL]at r1;refine cU [(5,.ref 16 0)] [(14,.map FY []),(16,.cells [sl AH roots,.cmap Du (mC x),.cmap Du (done.map (kA x)),.slice (.id 90 6) [],.slice (.id 91 1) [],.mref 14,vb false,.slice (.id 93 10) [],.slice (.id 94 4) [],.msl 92 0]),(90,.tok 6 0),(91,.tok 1 0),(92,.arr 1 []),(93,.tok 10 0),(94,.tok 4 0)] Z1 Z7 (Xi 0 ?_);exact Xi _ (Yi (.refl _) (Xi done (Yi r1 (Yi rfl rfl))))
  ·intro kv Pc hp;refine Ba (o6 hp) (fun t hp=>Ba hp (fun r hp=>?_));have e1:=hp.1;have e2:=hp.2.1;subst e1;subst e2;have hp:=hp.2.2;refine cU [(2,.ref 2 0),(5,.ref 16 0),(56,.ref 56 0)] [(2,.ro (Ic x ifs)),(12,.rom Du ((AX (yR x) []).map (kC x))),(13,.map Du (done.map (kA x))),(14,.map FY []),(16,.cells [sl AH roots,.mref 12,.mref 13,.slice (.id 90 6) [],.slice (.id 91 1) [],.mref 14,vb false,.slice (.id 93 10) [],.slice (.id 94 4) [],Ce]),(56,.iter ((AX (yR x) []).map (kC x)) (r.map (kC x)) (some (kC x t))),(90,.tok 6 0),(91,.tok 1 0),(93,.tok 10 0),(94,.tok 4 0)] Z3 Z10 (Xi 0 (cU [(2,.ref 2 0),(5,.ref 16 0),(10,vs t),(56,.ref 56 0)] [(2,.ro (Ic x ifs)),(12,.rom Du ((AX (yR x) []).map (kC x))),(13,.map Du (done.map (kA x))),(14,.map FY []),(16,.cells [sl AH roots,.mref 12,.mref 13,.slice (.id 90 6) [],.slice (.id 91 1) [],.mref 14,vb false,.slice (.id 93 10) [],.slice (.id 94 4) [],Ce]),(56,.iter ((AX (yR x) []).map (kC x)) (r.map (kC x)) (some (kC x t))),(90,.tok 6 0),(91,.tok 1 0),(93,.tok 10 0),(94,.tok 4 0)] Z4 Z10 (Xi 0 ?_)));have Oh:(done++rem).Nodup:=r1.nodup_iff.2 (Fm _ [] FI);have htn:t∉done:=fun hc=>(GU.1 Oh).2.2 t hc t (hp.mem_iff.2 (Aa ..)) rfl;have em:FD (done.map (kA x)) (.string t) (sl Ag (Ca x t))=(done++[t]).map (kA x):=by
    rw[Nc (fun a ha=>htn (Yo.1 ha).1),As];rfl
   have VG:((done++[t])++r).Perm (AX (yR x) []):=by
    rw[Bx];exact(List.Perm.append_left _ hp.symm).trans r1
   refine yN (Xi _ (Yi (zq x ifs t (c84 x ifs hx)) (Yi Wk (Xi ⟨(done++[t],r,some (kC x t)),VG⟩ ?_))));exact⟨by show r.length<rem.length;rw[hp.length_eq,Av];omega,Z3,⟨Zr,Zr,⟨Ab (HO.map Du) em,rfl⟩,Zr,Zr,Zr,Zr,Zr,Zr,Zr,Tv⟩,Fh,Bo Wk⟩
end Go.Eng
namespace Go.Eng
open Go.Proofs
variable {α:Type}{f:α→Bool}{v:Ver}(x:List Rl)(ifs:List (List AV))(N roots:List Rq)(l:List Sl)(y:Sl)(s:List Sl)(p:ByteArray)(pl:Int)
theorem bK{x:List Rl}(h0:AN x=0){p:ByteArray}(h:p∉AX (yR x) []):Ca x p=[]:=by
 rw[fI h0]
 have:x.filter (dH p)=[]:=by
  rw[H4];intro r hr hc;unfold dH at hc;rw[Ai,Az]at hc;exact h ((HZ _ _ _).2 (.inr ⟨r,BM.2 ⟨hr,hc.2⟩,hc.1⟩))
 rw[this];rfl
theorem rI{x:List Rl}{roots:List Rq}(hx:∀r∈x,Gv r)(hr:∀q∈roots,J8 q)(h0:AN x=0)(h1:Bn roots=0){l:List ByteArray}(hl:l.Perm (AX (yR x) [])):yI x roots (mC x) (l.map (kA x)) where
 hx:=h0
 hr:=h1
 fx:=hx
 fr:=hr
 c1:=wF x
 c2:=wG x
 c3:=wH x
 av p:=by
  by_cases hp:p∈l
  ·exact⟨sl Ag (Ca x p),fun a ha=>(Yo.1 ha).2,fun hn=>(hn _ (Yo.2 ⟨hp,rfl⟩)).elim,fun h=>uE p (Ca x p) (TX x p)⟩
  ·refine⟨Ce,fun a ha=>(hp (Yo.1 ha).1).elim,fun _=>rfl,fun h=>?_⟩;have e:=bK h0 (fun hc=>hp (hl.mem_iff.2 hc));have hc:=uE p (Ca x p) (TX x p);rw[e]at hc⊢;exact J9.args hc ⟨.refl _,.nil,trivial⟩
theorem XT{cx:Cx}{c:Code}{Q:Ex→St→Prop}{s s' : LS}(h:s=s')(hk:Re cx c Q s'.st):Re cx c Q s.st:=by subst h;exact hk
theorem dE{x:List Rl}{p:ByteArray}(h:AN x=0):CY x ⟨p,v⟩=x.find? fun r=>decide (Fa r=⟨p,v⟩):=Ae (not_not_intro h)
theorem Ql{r:Rl}{p:ByteArray}:Fa r=⟨p,v⟩↔r.path=p∧r.ver.a=v.a∧r.ver.b=v.b∧r.ver.c=v.c:=by
 unfold Fa;constructor
 ·intro h;cases h;exact⟨rfl,rfl,rfl,rfl⟩
 ·rintro⟨rfl,h1,h2,h3⟩
  cases hr:r.ver;cases v
  rw[hr]at h1 h2 h3;cases h1;cases h2;cases h3;rfl
def HH:List Rq:=match CY x y with | some r=>r.reqs | none=>[]
def EU:List Rq:=roots++(l.map (HH x)).flatten
theorem cJ:EU x roots []=roots:=by unfold EU;simp
theorem cH:EU x roots (l++[y])=EU x roots l++HH x y:=by unfold EU;simp
theorem SI{i:Nat}(h:i<l.length):EU x roots (l.take (i+1))=EU x roots (l.take i)++HH x l[i]:=by
 rw[Be,Ge h];exact cH ..
theorem Vi{x:List Rl}:(HH x y).length≤16:=by
 unfold HH;split
 ·rename_i r hr;exact(L6 (HQ hr).1).2 r (HQ hr).2.1
 ·simp
theorem OX:∀l:List Sl,(EU x roots l).length≤roots.length+16*l.length:=fun l=>by
 unfold EU;rw[Ad]
 have:∀l:List Sl,((l.map (HH x)).flatten).length≤16*l.length:=fun l=>by
  induction l with
  |nil=>simp
  |cons y l ih =>
   rw[AJ,Bm,Ad,Av]
   have:=Vi (x:=x) y
   omega
 have:=this l
 omega
theorem cI{x:List Rl}{roots:List Rq}(hx:∀r∈x,Gv r)(hr:∀q∈roots,Cy q.set)(l:List Sl):∀q∈EU x roots l,Cy q.set:=fun q hq=>by
 unfold EU at hq;rcases AY.1 hq with hq | hq
 ·exact hr q hq
 ·obtain⟨m,hm,ye⟩:=Eh.1 hq;obtain⟨y,_,rfl⟩:=Am.1 hm;unfold HH at ye;split at ye
  ·rename_i r oE;exact((hx r (HQ oE).2.1).2 q ye).1
  ·cases ye
theorem zQ(v:Ver)(hx:∀r∈x,Gv r)(VV:Cy x):PC 49 [.agg (Ic x ifs),vs p,.agg (Fu v)] (My (CY x ⟨p,v⟩)):=by
 have VV:x.length≤1073741824:=VV;refine Ps D3 Tryz.func49 rfl (Nz rfl) (yN (Xi .pure (Xi _ (Yi (zP x ifs hx) (Yi (fun h1=>?_) (fun h1=>?_))))))
 ·have h1:(AN x:Int)≠(0:Int):=h1;refine yN (yN ?_);exact .of_eq (show AV.tup [.agg nh,vb false]=My (CY x ⟨p,v⟩) by rw[show CY x ⟨p,v⟩=none from Al h1])
 have h1:(AN x:Int)=(0:Int):=AC h1;refine Xi {i:Nat // i≤x.length∧∀j (h:j<x.length),j<i→decide (Fa x[j]=⟨p,v⟩)=false} (Xi (fun q=>⟨[(1,vs p),(3,.ref 3 0),(5,.ref 5 0),(6,.ref 6 0),(8,vi q.1)],[(3,.cells (Ic x ifs)),(5,.cells (Fu v)),(6,.cells [vs ⟨#[]⟩,vi 0,vi 0,vi 0,Ce,vs ⟨#[]⟩,vs ⟨#[]⟩,vs ⟨#[]⟩,vb false])],Af⟩) (Xi (fun q=>x.length-q.1) (Yi (Xi ⟨0,AA _,fun j _ h=>by omega⟩ ?_) ?_)))
 ·exact⟨Z5,Z3,Fh,Tv⟩
 intro⟨i,i1,i2⟩;refine Yi (fun h3=>?_) (fun h3=>?_)
 ·have h3:(i:Int)<((x.map At).length:Int):=h3;have n3:=GI h3;refine Xi (At x[i]) (Yi (Hb n3) (Yi rfl (Yi (fun h4=>?_) (fun h4=>?_))))
  ·have h4:(x[i].path:ByteArray)=p:=h4;refine Xi (At x[i]) (Yi (Hb n3) (Yi rfl (yN (yN (Yi (fun h5=>?_) (fun h5=>?_))))))
   ·have h5:(x[i].ver.a:Int)=v.a∧(x[i].ver.b:Int)=v.b∧(x[i].ver.c:Int)=v.c∧True:=h5;refine Yi Wk (Xi (At x[i]) (Yi (Hb n3) (Yi rfl (yN (yN (yN ?_))))));exact .of_eq (show AV.tup [.agg (At x[i]),vb true]=My (CY x ⟨p,v⟩) by rw[dE h1,jZ n3 i2 (Aq (Ql.2 ⟨h4,h5.1,h5.2.1,h5.2.2.1⟩))])
   have h5:¬((x[i].ver.a:Int)=v.a∧(x[i].ver.b:Int)=v.b∧(x[i].ver.c:Int)=v.c∧True):=h5;refine Yi Wk (Yi (Ii i ch) (Xi ⟨i+1,by omega,fun j hj Iq=>(BY j i).elim (i2 j hj) (fun z=>by have e:j=i:=ch;subst e;exact Ap (fun h=>h5 ⟨(Ql.1 h).2.1,(Ql.1 h).2.2.1,(Ql.1 h).2.2.2,trivial⟩))⟩ ?_));exact⟨Dl x.length i ch,Z5,Z3,Fh,Tv⟩
  have h4:¬(x[i].path:ByteArray)=p:=h4;refine Yi Wk (Yi (Ii i ch) (Xi ⟨i+1,by omega,fun j hj Iq=>(BY j i).elim (i2 j hj) (fun z=>by have e:j=i:=ch;subst e;exact Ap (fun h=>h4 (Ql.1 h).1))⟩ ?_));exact⟨Dl x.length i ch,Z5,Z3,Fh,Tv⟩
 have h3:¬((i:Int)<((x.map At).length:Int)):=h3;have n3:=GH h3;refine yN (yN ?_);exact .of_eq (show AV.tup [.agg nh,vb false]=My (CY x ⟨p,v⟩) by rw[dE h1,gg fun j hj=>i2 j hj ch])
theorem uy(hx:∀r∈x,Gv r)(VV:Cy x)(hrl:roots.length≤1000000)(hs:s.length≤1000000):PC 194 [.agg (Ic x ifs),sl AH roots,sl Ac s] (sl AH (EU x roots s)):=by
 have uL:∀(p:ByteArray) (v:Ver),PC 49 [EZ x ifs,vs p,.agg (Fu v)] (My (CY x ⟨p,v⟩)):=fun p v=>zQ x ifs p v hx VV;refine Ps D3 Tryz.func194 rfl (Nz rfl) ?_;have b1:Cf 2 (roots.map AH)∧([]:List (List AV)).length=0∧(([]:List (List AV)).length+(roots.map AH).length)*40≤140737488355328∧([]:List (List AV)).length+(roots.map AH).length≤9223372036854775807:=⟨(DW (enc:=AH) (n:=2) (fun _=>rfl) roots),(by first | (simp;done) | (rw[Lm];assumption)),(by simp only[Lm,Ax];omega),(by simp only[Lm,Ax];omega)⟩
 refine Yi b1 (Xi {q:Nat×List Rq // q.1≤s.length∧q.2=EU x roots (s.take q.1)} (Xi (fun q=>⟨[(2,sl Ac s),(3,.ref 3 0),(7,.slice (.id 11 2) (q.1.2.map AH)),(8,vi q.1.1)],[(3,.cells (Ic x ifs)),(11,.tok 2 q.1.2.length)],Af⟩) (Xi (fun q=>s.length-q.1.1) (Yi (Xi ⟨(0,roots),AA _,(cJ x roots).symm⟩ ?_) ?_))))
 ·exact⟨⟨Zr,Zr,⟨(show AV.slice (.id 11 2) ([]++roots.map AH)=.slice (.id 11 2) (roots.map AH) by rw[Fi]),rfl⟩,Zr,Tv⟩,⟨Zr,⟨(show HO.tok 2 (([]:List (List AV)).length+(roots.map AH).length)=.tok 2 roots.length by rw[Lm,Ax,Bi]),rfl⟩,Tv⟩,Fh,Tv⟩
 intro⟨⟨i,A⟩,i1,i2⟩;have i1:i≤s.length:=i1;have i2:A=EU x roots (s.take i):=i2;have hA:A.length≤roots.length+16*i:=by
  have:=OX x roots (s.take i)
  rw[AB]at this;rw[i2];omega
 refine Yi (fun h2=>?_) (fun h2=>?_)
 ·have h2:(i:Int)<((s.map Ac).length:Int):=h2;have n2:=GI h2;refine yN (Xi (Ac s[i]) (Yi (Hb n2) (Yi rfl (Xi (Ac s[i]) (Yi (Hb n2) (Yi rfl (yN (BF (RJ (CY x ⟨s[i].path,s[i].ver⟩)) (fun h3=>?_) (fun h3=>?_)))))))))
  ·refine Ba h3 (fun r h3=>?_);have WP:=uL s[i].path s[i].ver;rw[h3]at WP;have yf:=Vi (x:=x) s[i];rw[show HH x s[i]=r.reqs by unfold HH;rw[show CY x s[i]=some r from h3]]at yf;refine Xi _ (Yi WP (yN (Yi Wk ?_)));have b4:Cf 2 (r.reqs.map AH)∧(A.map AH).length=A.length∧((A.map AH).length+(r.reqs.map AH).length)*40≤140737488355328∧(A.map AH).length+(r.reqs.map AH).length≤9223372036854775807:=⟨(DW (enc:=AH) (n:=2) (fun _=>rfl) r.reqs),(by rw[Lm]),(by simp only[Lm];omega),(by simp only[Lm];omega)⟩;refine Yi b4 (Yi (Ii i ch) (Xi ⟨(i+1,A++r.reqs),by omega,by show A++r.reqs=EU x roots (s.take (i+1));rw[SI x roots s n2,←i2,show HH x s[i]=r.reqs by unfold HH;rw[show CY x s[i]=some r from h3]]⟩ ?_));exact⟨Dl s.length i ch,⟨Zr,Zr,⟨(show AV.slice (.id 11 2) (A.map AH++r.reqs.map AH)=.slice (.id 11 2) ((A++r.reqs).map AH) by simp),rfl⟩,Zr,Tv⟩,⟨Zr,⟨(show HO.tok 2 ((A.map AH).length+(r.reqs.map AH:List (List AV)).length)=.tok 2 (A++r.reqs).length by simp),rfl⟩,Tv⟩,Fh,Tv⟩
  have WP:=uL s[i].path s[i].ver;rw[h3]at WP;refine Xi _ (Yi WP (yN (Yi Wk ?_)));have b6:Cf 2 []∧(A.map AH).length=A.length∧((A.map AH).length+([]:List (List AV)).length)*40≤140737488355328∧(A.map AH).length+([]:List (List AV)).length≤9223372036854775807:=⟨trivial,(by rw[Lm]),(by simp only[Lm,Ax];omega),(by simp only[Lm,Ax];omega)⟩;refine Yi b6 (Yi (Ii i ch) (Xi ⟨(i+1,A++([]:List Rq)),by omega,by show A++([]:List Rq)=EU x roots (s.take (i+1));rw[SI x roots s n2,←i2,show HH x s[i]=([]:List Rq) by unfold HH;rw[show CY x s[i]=none from h3]]⟩ ?_));exact⟨Dl s.length i ch,⟨Zr,Zr,⟨(show AV.slice (.id 11 2) (A.map AH++[])=.slice (.id 11 2) ((A++([]:List Rq)).map AH) by simp),rfl⟩,Zr,Tv⟩,⟨Zr,⟨(show HO.tok 2 ((A.map AH).length+([]:List (List AV)).length)=.tok 2 (A++([]:List Rq)).length by simp),rfl⟩,Tv⟩,Fh,Tv⟩
 have h2:¬((i:Int)<((s.map Ac).length:Int)):=h2;have n2:=GH h2;exact .of_eq (Ab (sl AH) (show A=EU x roots s by rw[i2,Au ch]))
theorem Qf:CA s p=(Bv s p).isSome:=by unfold CA Bv;rw[List.isSome_find?]
section
variable {s:List Sl}{q:Rq}{o:Option ByteArray}
theorem aB(h:(Bv s q.path).isSome=true):Iz s o q=o:=by unfold Iz;rw[Qf,Al h]
theorem lI(h:(Bv s q.path).isSome=false)(ho:o.isSome=false):Iz s o q=some q.path:=by
 unfold Iz;rw[Qf,Ae (by rw[h];decide)];cases o with | none=>rfl | some p=>cases ho
theorem ib(h:(Bv s q.path).isSome=false)(ho:o.isSome=true)(hb:DL q.path (o.getD mt)=true):Iz s o q=some q.path:=by
 unfold Iz;rw[Qf,Ae (by rw[h];decide)];cases o with | none=>cases ho | some p=>exact Al hb
theorem ic(h:(Bv s q.path).isSome=false)(ho:o.isSome=true)(hb:DL q.path (o.getD mt)=false):Iz s o q=o:=by
 unfold Iz;rw[Qf,Ae (by rw[h];decide)];cases o with | none=>cases ho | some p=>exact Ae (by rw[show DL q.path p=false from hb];decide)
end
abbrev Qt:AV:=.tup [vs ((Iy N s).getD mt),vb (Iy N s).isSome]
theorem xP(hx:∀r∈x,Gv r)(VV:Cy x)(hrl:roots.length≤1000000)(hs:s.length≤1000000):PC 144 [.agg (Ic x ifs),sl AH roots,sl Ac s] (Qt (EU x roots s) s):=by
 obtain⟨N,hN⟩:∃N,N=EU x roots s:=⟨_,rfl⟩;have kp:=uy x ifs roots s hx VV hrl hs;have vd:=OX x roots s;rw[←hN]at kp vd⊢;have yh:Cy s:=by unfold Cy;omega
 refine Ps D3 Tryz.func144 rfl (Nz rfl) (yN (Xi .pure (Xi _ (Yi kp (Xi {q:Nat×Option ByteArray // q.1≤N.length∧q.2=CH s (N.take q.1) none} (Xi (fun q=>⟨[(2,sl Ac s),(8,sl AH N),(9,vs (q.1.2.getD mt)),(10,vb q.1.2.isSome),(11,vi q.1.1)],[],Af⟩) (Xi (fun q=>N.length-q.1.1) (Yi (Xi ⟨(0,none),AA _,rfl⟩ ?_) ?_))))))))
 ·exact⟨Z5,Tv,Fh,Tv⟩
 intro⟨⟨i,o⟩,i1,i2⟩;have i1:i≤N.length:=i1;have i2:o=CH s (N.take i) none:=i2;refine BF (Bt o.isSome) (fun h1=>?_) (fun h1=>?_)
 ·have h1:o.isSome=true:=h1;refine XT (Ab (fun bb=>(⟨[(2,sl Ac s),(8,sl AH N),(9,vs (o.getD mt)),(10,vb bb),(11,vi i)],[],Af⟩:LS)) h1) (Yi (fun h2=>?_) (fun h2=>?_))
  ·have h2:(i:Int)<((N.map AH).length:Int):=h2;have n2:=GI h2;refine Xi (AH N[i]) (Yi (Hb n2) (Yi rfl (BF (Bt (Bv s N[i].path).isSome) (fun h3=>?_) (fun h3=>?_))))
   ·have h3:(Bv s N[i].path).isSome=true:=h3;have hc4:=(show PC 195 [sl Ac s,vs N[i].path] (.tup [.agg (Ac ((Bv s N[i].path).getD te)),vb (Bv s N[i].path).isSome])from xQ s N[i].path yh);rw[show(Bv s N[i].path).isSome=true from h3]at hc4;refine Xi .pure (Xi _ (Yi hc4 (yN (Yi (Ii i ch) (Xi ⟨(i+1,o),by omega,by show o=CH s (N.take (i+1)) none;rw[Jo s N none n2,←i2];exact(aB h3).symm⟩ ?_)))));exact⟨Dl N.length i ch,⟨Zr,Zr,Zr,⟨(show vb true=vb o.isSome by rw[h1]),rfl⟩,Zr,Tv⟩,Tv,Fh,Tv⟩
   have h3:(Bv s N[i].path).isSome=false:=h3;have hc6:=(show PC 195 [sl Ac s,vs N[i].path] (.tup [.agg (Ac ((Bv s N[i].path).getD te)),vb (Bv s N[i].path).isSome])from xQ s N[i].path yh);rw[show(Bv s N[i].path).isSome=false from h3]at hc6;refine Xi .pure (Xi _ (Yi hc6 (yN (Xi (AH N[i]) (Yi (Hb n2) (Yi rfl (Yi (fun h7=>?_) (fun h7=>?_))))))))
   ·have h7:DL N[i].path (o.getD mt)=true:=(Ed _ _).trans h7;refine Xi (AH N[i]) (Yi (Hb n2) (Yi rfl (Yi (Ii i ch) (Xi ⟨(i+1,(some N[i].path)),by omega,by show(some N[i].path)=CH s (N.take (i+1)) none;rw[Jo s N none n2,←i2];exact(ib h3 h1 h7).symm⟩ ?_))));exact⟨Dl N.length i ch,Z5,Tv,Fh,Tv⟩
   have h7:DL N[i].path (o.getD mt)=false:=(Ed _ _).trans (AI.2 h7);refine Yi (Ii i ch) (Xi ⟨(i+1,o),by omega,by show o=CH s (N.take (i+1)) none;rw[Jo s N none n2,←i2];exact(ic h3 h1 h7).symm⟩ ?_);exact⟨Dl N.length i ch,⟨Zr,Zr,Zr,⟨(show vb true=vb o.isSome by rw[h1]),rfl⟩,Zr,Tv⟩,Tv,Fh,Tv⟩
  have h2:¬((i:Int)<((N.map AH).length:Int)):=h2;have n2:=GH h2;exact .of_eq (show AV.tup [vs (o.getD mt),vb true]=Qt N s by unfold Qt Iy;rw[Au ch]at i2;rw[←i2,h1])
 have h1:o.isSome=false:=h1;refine XT (Ab (fun bb=>(⟨[(2,sl Ac s),(8,sl AH N),(9,vs (o.getD mt)),(10,vb bb),(11,vi i)],[],Af⟩:LS)) h1) (Yi (fun IW=>?_) (fun IW=>?_))
 ·have IW:(i:Int)<((N.map AH).length:Int):=IW;have n11:=GI IW;refine Xi (AH N[i]) (Yi (Hb n11) (Yi rfl (BF (Bt (Bv s N[i].path).isSome) (fun L3=>?_) (fun L3=>?_))))
  ·have L3:(Bv s N[i].path).isSome=true:=L3;have vw:=(show PC 195 [sl Ac s,vs N[i].path] (.tup [.agg (Ac ((Bv s N[i].path).getD te)),vb (Bv s N[i].path).isSome])from xQ s N[i].path yh);rw[show(Bv s N[i].path).isSome=true from L3]at vw;refine Xi .pure (Xi _ (Yi vw (yN (Yi (Ii i ch) (Xi ⟨(i+1,o),by omega,by show o=CH s (N.take (i+1)) none;rw[Jo s N none n11,←i2];exact(aB L3).symm⟩ ?_)))));exact⟨Dl N.length i ch,⟨Zr,Zr,Zr,⟨(show vb false=vb o.isSome by rw[h1]),rfl⟩,Zr,Tv⟩,Tv,Fh,Tv⟩
  have L3:(Bv s N[i].path).isSome=false:=L3;have vz:=(show PC 195 [sl Ac s,vs N[i].path] (.tup [.agg (Ac ((Bv s N[i].path).getD te)),vb (Bv s N[i].path).isSome])from xQ s N[i].path yh);rw[show(Bv s N[i].path).isSome=false from L3]at vz;refine Xi .pure (Xi _ (Yi vz (yN (Xi (AH N[i]) (Yi (Hb n11) (Yi rfl (Yi (Ii i ch) (Xi ⟨(i+1,(some N[i].path)),by omega,by show(some N[i].path)=CH s (N.take (i+1)) none;rw[Jo s N none n11,←i2];exact(lI L3 h1).symm⟩ ?_))))))));exact⟨Dl N.length i ch,Z5,Tv,Fh,Tv⟩
 have IW:¬((i:Int)<((N.map AH).length:Int)):=IW;have n11:=GH IW;exact .of_eq (show AV.tup [vs (o.getD mt),vb false]=Qt N s by unfold Qt Iy;rw[Au ch]at i2;rw[←i2,h1])
def Jh:Bool:=N.any fun q=>decide (q.path=p)&&!has q.set pl
theorem jr{l:List α}(h:∀j (hj:j<l.length),f l[j]=false):l.any f=false:=by
 rw[De];intro y hy;obtain⟨j,hj,rfl⟩:=BZ hy;rw[h j hj];decide
theorem nv{l:List α}{j:Nat}(hj:j<l.length)(h:f l[j]=true):l.any f=true:=A5.2 ⟨_,Aj hj,h⟩
theorem uz(hx:∀r∈x,Gv r)(VV:Cy x)(yf:∀q∈roots,Cy q.set)(hrl:roots.length≤1000000)(hs:s.length≤1000000):PC 146 [.agg (Ic x ifs),sl AH roots,sl Ac s,vs p,vi pl] (vb (Jh (EU x roots s) p pl)):=by
 obtain⟨N,hN⟩:∃N,N=EU x roots s:=⟨_,rfl⟩;have kp:=uy x ifs roots s hx VV hrl hs;have vd:=OX x roots s;have hNf:=cI hx yf s;rw[←hN]at kp vd hNf⊢;refine Ps D3 Tryz.func146 rfl (Nz rfl) (yN (Xi .pure (Xi _ (Yi kp (Xi {i:Nat // i≤N.length∧∀j (h:j<N.length),j<i→(decide (N[j].path=p)&&!has N[j].set pl)=false} (Xi (fun q=>⟨[(3,vs p),(4,vi pl),(11,sl AH N),(12,vi q.1)],[],Af⟩) (Xi (fun q=>N.length-q.1) (Yi (Xi ⟨0,AA _,fun j _ h=>by omega⟩ ?_) ?_))))))))
 ·exact⟨Z4,Tv,Fh,Tv⟩
 intro⟨i,i1,i2⟩;refine Yi (fun h1=>?_) (fun h1=>?_)
 ·have h1:(i:Int)<((N.map AH).length:Int):=h1;have n1:=GI h1;refine Xi (AH N[i]) (Yi (Hb n1) (Yi rfl (Yi (fun h2=>?_) (fun h2=>?_))))
  ·have h2:(N[i].path:ByteArray)=p:=h2;refine Xi (AH N[i]) (Yi (Hb n1) (Yi rfl (BF (Bt (has N[i].set pl)) (fun h3=>?_) (fun h3=>?_))))
   ·have h3:(has N[i].set pl)=true:=h3;refine Xi .pure (Xi _ (Yi (cb h3 (nK N[i].set pl (hNf _ (Aj n1)))) (Yi (Ii i ch) (Xi ⟨i+1,by omega,fun j hj Iq=>(BY j i).elim (i2 j hj) (fun z=>by have e:i=j:=ch;subst e;exact(by rw[Aq h2,show has N[i].set pl=true from h3];rfl))⟩ ?_))));exact⟨Dl N.length i ch,Z4,Tv,Fh,Tv⟩
   have h3:(has N[i].set pl)=false:=h3;refine Xi .pure (Xi _ (Yi (cb h3 (nK N[i].set pl (hNf _ (Aj n1)))) ?_));exact .of_eq (Ab vb (show true=Jh N p pl from Eq.symm (show N.any (fun q=>decide (q.path=p)&&!has q.set pl)=true from nv n1 (by rw[Aq h2,show has N[i].set pl=false from h3];rfl))))
  have h2:¬(N[i].path:ByteArray)=p:=h2;refine Yi (Ii i ch) (Xi ⟨i+1,by omega,fun j hj Iq=>(BY j i).elim (i2 j hj) (fun z=>by have e:i=j:=ch;subst e;exact(by rw[Ap h2,Bool.false_and]))⟩ ?_);exact⟨Dl N.length i ch,Z4,Tv,Fh,Tv⟩
 have h1:¬((i:Int)<((N.map AH).length:Int)):=h1;have n1:=GH h1;exact .of_eq (Ab vb (show false=Jh N p pl from(jr fun j hj=>i2 j hj ch).symm))
abbrev JA(b:Bool):List AV:=[vb b]
end Go.Eng
