/- Lemmas 29. -/
import Derived.Test.YtkjhcikodmiceaaGreatDoorMA28
import Derived.Test.YtkjhcikodmiceaaGreatDoorCards
import Derived.Test.YtkjhcikodmiceaaGreatDoorTie
import Derived.ProofKit
import Derived.OpenShut
import Derived.Deep.DeepHandedRow
import Derived.Lib.LaidTab
set_option maxHeartbeats 4000000
namespace Go.Eng
open Go.Proofs
theorem AbT(D:List Sl)(i:Nat):((D.map Ae).take (i:Int).toNat).drop (0:Int).toNat=(D.take i).map Ae:=by
 simp_all
theorem rx{x:List Rl}{roots:List Rq}{s:List Sl}:∀y∈(Eu x roots s).1,∃r,AW x y=some r:=fun y hy=>by
 unfold Eu at hy;split at hy
 .cases hy
 .split at hy
  .rename_i h;obtain⟨v,hv,rfl⟩:=Ar.1 hy;exact⟨_,((IS h).mem v hv).2⟩
  simp_all
section
variable {x:List Rl}{roots:List Rq}{d:List (List Tm)}{D:List Sl}{K:List Sk}{n:Nat}
theorem lu(h:Gw x roots d D K D.length=some (K.drop n))(hn:K.length<=n):L7 x roots d D K=true:=by
 grind [L7,List.drop_of_length_le]
theorem fS(h:Gw x roots d D K D.length=some (K.drop n))(hn:n<K.length):L7 x roots d D K=false:=by
 grind [L7,List.drop_eq_getElem_cons]
theorem c50(x:List Rl)(ifs:C0)(roots:List Rq)(a:An)(d:List (List Tm))(h0:Aw x=0)(hx:∀r∈x,Eo r)(Mu:BF x)(hr:∀q∈roots,G5 q)(hrl:roots.length<=1000000)(hs:a.sel.length<=100000)(hk:a.skips.length<=1000000)(hdF:∀t∈d,Rb t):PC 96 [.agg (Ic x ifs),sl Ac roots,.agg (Gl a),sl F d] (I (Fk x roots a d)):=by
 have rP:=c44 x ifs roots a.sel hx Mu hr hrl hs;have hDl:=rv (x:=x) (roots:=roots) (s:=a.sel);have hDm:=rx (x:=x) (roots:=roots) (s:=a.sel);have Tu:∀q∈roots,BF q.set:=fun q hq=>(hr q hq).1;have hv:∀r∈x,Bv r.ver=true:=fun r hr=>((Bp h0).1 r hr).val;unfold jD at rP;obtain⟨D,hD⟩:∃D,D=(Eu x roots a.sel).1:=⟨_,rfl⟩;rw[<-hD]at rP hDl hDm;have hDv:∀y∈D,Bv y.ver=true:=fun y hy=>by
  obtain⟨r,hr⟩:=hDm y hy;rw[<-(Ce hr).2.2];exact hv r (Ce hr).2.1
 refine Ps (pC [] [2,9,13,14,16,17,18,19]) Tryz.func96 rfl C4 (yN (C1 (U rP (cU [(1,sl Ac roots),(3,sl F d),(4,.ref 4 0),(6,.ref 6 0),(9,sl Ae D),(10,G (Eu x roots a.sel).2)] [(4,.cells (Ic x ifs)),(6,.cells (Gl a))] Z6 Z2 (J (fun h1=>?_) (fun h1=>?_))))))
 .exact E I (show false=Fk x roots a d by grind [Fk])
 have h1:((Eu x roots a.sel).2:Int)=(0:Int):=As h1;refine Z {q:Nat×Nat // q.1<=D.length/\q.2<=a.skips.length/\Gw x roots d D a.skips q.1=some (a.skips.drop q.2)} (Z (fun q=>⟨[(1,sl Ac roots),(3,sl F d),(4,.ref 4 0),(6,.ref 6 0),(9,sl Ae D),(11,G q.1.2),(12,G q.1.1)],[(4,.cells (Ic x ifs)),(6,.cells (Gl a))],Af⟩) (Z (fun q=>D.length-q.1.1) (J (Z ⟨(0,0),Ak _,Ak _,rfl⟩ ?_) ?_)))
 .exact⟨Z7,Z2,Fh,W⟩
 intro⟨⟨i,n⟩,i1,i2,i3⟩;have i2:n<=a.skips.length:=i2;have i3:Gw x roots d D a.skips i=some (a.skips.drop n):=i3;refine J (fun h3=>?_) (fun h3=>?_)
 .have h3:(i:Int)<((D.map Ae).length:Int):=h3;have n3:i<D.length:=aa0
  have g3:D[i]?=some D[i]:=Ge n3;have ni:i<D.length:=Wk
  have ggi:D[i]?=some D[i]:=Ge ni;refine yN (J (show(0:Int)<=0/\(0:Int)<=i/\(i:Int)<=((D.map Ae).length:Nat) by omega) (J (IV (enc:=Ae) (n:=4) (fun _=>rfl) D) (Z (Ae D[i]) (J (J (Nn i) (Br ggi)) (J rfl (Z (Ae D[i]) (J (J (Nn i) (Br ggi)) (J rfl (yN (U (show PC 162 [.agg (Ez D[i].ver)] (G (plc D[i].ver))from L4 (hDv _ (Ag ni))▸qu D[i].ver (hDv _ (Ag ni))) (Al (show ∃Lp,Lp=Dm x (B3 x roots (D.take i)) D[i].path (plc D[i].ver)from⟨_,rfl⟩) (fun Lp hLp=>?_))))))))))));have Ak4:Lp.length<=x.length:=by grind [XN]
  refine U (show PC 171 [GM x ifs,sl Ac roots,.slice .none (((D.map Ae).take (i:Int).toNat).drop (0:Int).toNat),vs D[i].path,G (plc D[i].ver)] (sl DR Lp)from by grind [AbT,c94]) ?_;refine J aa4 (cU [(1,sl Ac roots),(3,sl F d),(4,.ref 4 0),(6,.ref 6 0),(9,sl Ae D),(11,G n),(12,G i),(13,sl DR Lp)] [(4,.cells (Ic x ifs)),(6,.cells (Gl a))] Z8 Z2 (Z {q:Nat×Nat // q.1<=Lp.length/\q.2<=a.skips.length/\Uo x roots d D i (a.skips.drop n)=N8 d (D.take i) D[i].path (Gq x D[i].path) (Lp.drop q.1) (a.skips.drop q.2)} (Z (fun q=>⟨[(1,sl Ac roots),(3,sl F d),(4,.ref 4 0),(6,.ref 6 0),(9,sl Ae D),(11,G q.1.2),(12,G i),(13,sl DR Lp),(14,G q.1.1)],[(4,.cells (Ic x ifs)),(6,.cells (Gl a))],Af⟩) (Z (fun q=>Lp.length-q.1.1) (J (Z ⟨(0,n),Ak _,i2,by grind [rA]⟩ ?_) ?_)))))
  .exact⟨Z9,Z2,Fh,W⟩
  intro⟨⟨k,m⟩,k1,k2,k3⟩;have k1:k<=Lp.length:=k1;have k2:m<=a.skips.length:=k2;have k3:Uo x roots d D i (a.skips.drop n)=N8 d (D.take i) D[i].path (Gq x D[i].path) (Lp.drop k) (a.skips.drop m):=k3;refine J (fun h4=>?_) (fun h4=>?_)
  .have h4:(k:Int)<((Lp.map DR).length:Int):=h4;have n4:k<Lp.length:=aa0
   have g4:Lp[k]?=some Lp[k]:=Ge n4;have nk:k<Lp.length:=Wk
   have ggk:Lp[k]?=some Lp[k]:=Ge nk;refine J (fun h5=>?_) (fun h5=>?_)
   .have h5:((a.skips.map N).length:Int)<=(m:Int):=h5;refine cU [] [] W W ?_
    exact E I (show false=Fk x roots a d by grind [Fk,H1,rC])
   have h5:¬(((a.skips.map N).length:Int)<=(m:Int)):=h5;have nm:m<a.skips.length:=aa0
   have ggm:a.skips[m]?=some a.skips[m]:=Ge nm;refine cU [(1,sl Ac roots),(3,sl F d),(4,.ref 4 0),(6,.ref 6 0),(9,sl Ae D),(11,G m),(12,G i),(13,sl DR Lp),(14,G k)] [(4,.cells (Ic x ifs)),(6,.cells (Gl a))] Z9 Z2 (Z (N a.skips[m]) (J (J (show(0:Int)<=m by omega) (Br ggm)) (J rfl (yN (yN (Z (Ae D[i]) (J (J (Nn i) (Br ggi)) (J rfl (J (fun h8=>?_) (fun h8=>?_))))))))))
   .have h8:(a.skips[m].path:CS)≠D[i].path:=h8;refine J aa4 (cU [] [] W W ?_)
    exact E I (show false=Fk x roots a d by grind [Fk,H1,gE])
   have h8:(a.skips[m].path:CS)=D[i].path:=As h8;refine Z (DR Lp[k]) (J (J (Nn k) (Br ggk)) (J rfl (J (fun JN=>?_) (fun JN=>?_))))
   .have JN:(a.skips[m].place:Int)≠(Lp[k]:Int):=JN;refine J aa4 (cU [] [] W W ?_)
    exact E I (show false=Fk x roots a d by grind [Fk,H1,gE])
   have JN:(a.skips[m].place:Int)=(Lp[k]:Int):=As JN;refine J (fun GH=>?_) (fun GH=>?_)
   .have GH:(a.skips[m].inf:Int)<(0:Int):=GH;refine J aa4 (cU [] [] W W ?_)
    exact E I (show false=Fk x roots a d by grind [Fk,H1,gF,QH])
   have GH:¬((a.skips[m].inf:Int)<(0:Int)):=GH;refine J (fun LA=>?_) (fun LA=>?_)
   .have LA:((d.map F).length:Int)<=(a.skips[m].inf:Int):=LA;refine J aa4 (cU [] [] W W ?_)
    exact E I (show false=Fk x roots a d by grind [Fk,H1,gF,QF])
   have LA:¬(((d.map F).length:Int)<=(a.skips[m].inf:Int)):=LA;have wM:¬((d.length:Nat):Int)<=a.skips[m].inf:=aa0
   refine Al (QG GH wM) (fun ta eX=>?_);have hta:=eX.1;have wW:=eX.2.1;have sf:=eX.2.2;refine J aa4 (cU [(1,sl Ac roots),(3,sl F d),(4,.ref 4 0),(6,.ref 6 0),(9,sl Ae D),(11,G m),(12,G i),(13,sl DR Lp),(14,G k),(15,.ref 15 0)] [(4,.cells (Ic x ifs)),(6,.cells (Gl a)),(15,.cells (N a.skips[m]))] Z10 Z3 (Z (F ta) (J (J (show(0:Int)<=a.skips[m].inf by omega) (Br wW)) (J rfl (yN (J (show(0:Int)<=0/\(0:Int)<=i/\(i:Int)<=((D.map Ae).length:Nat) by omega) (J (IV (enc:=Ae) (n:=4) (fun _=>rfl) D) (U (show PC 173 [GM x ifs,.slice .none (((D.map Ae).take (i:Int).toNat).drop (0:Int).toNat),vs a.skips[m].path,G a.skips[m].place] (sl Ae (D.take i++[(⟨a.skips[m].path,Gq x a.skips[m].path a.skips[m].place⟩:Sl)]))from by grind [AbT,c97]) ?_))))))));refine Ay (Bt (Bq ta (D.take i++[⟨a.skips[m].path,Gq x a.skips[m].path a.skips[m].place⟩]))) (fun MQ=>?_) (fun MQ=>?_)
   .have MQ:(Bq ta (D.take i++[⟨a.skips[m].path,Gq x a.skips[m].path a.skips[m].place⟩]))=true:=MQ;have nD:=c96 ta (D.take i++[⟨a.skips[m].path,Gq x a.skips[m].path a.skips[m].place⟩]) (hdF ta sf) (by unfold BF;rw[AD,BX,A8];omega);rw[show(Bq ta (D.take i++[⟨a.skips[m].path,Gq x a.skips[m].path a.skips[m].place⟩]))=true from MQ]at nD;refine U nD (J aa4 (cU [(1,sl Ac roots),(3,sl F d),(4,.ref 4 0),(6,.ref 6 0),(9,sl Ae D),(11,G m),(12,G i),(13,sl DR Lp),(14,G k)] [(4,.cells (Ic x ifs)),(6,.cells (Gl a))] Z9 Z2 (J (by grind [Au]) (J (by grind [Au]) ?_))));have eH:Bq ta (D.take i++[⟨D[i].path,Gq x D[i].path Lp[k]⟩])=true:=aa0
    refine Z ⟨(k+1,m+1),by omega,by omega,k3.trans (rF nk nm h8 JN hta eH)⟩ ?_;exact⟨by grind,Z9,Z2,Fh,W⟩
   have MQ:(Bq ta (D.take i++[⟨a.skips[m].path,Gq x a.skips[m].path a.skips[m].place⟩]))=false:=MQ;have aV:=c96 ta (D.take i++[⟨a.skips[m].path,Gq x a.skips[m].path a.skips[m].place⟩]) (hdF ta sf) (by unfold BF;rw[AD,BX,A8];omega);rw[show(Bq ta (D.take i++[⟨a.skips[m].path,Gq x a.skips[m].path a.skips[m].place⟩]))=false from MQ]at aV;refine U aV (J aa4 (cU [] [] W W ?_))
   have eH:Bq ta (D.take i++[⟨D[i].path,Gq x D[i].path Lp[k]⟩])=false:=aa0
   exact E I (show false=Fk x roots a d by grind [Fk,H1,rE])
  have h4:¬((k:Int)<((Lp.map DR).length:Int)):=h4;have n4:¬k<Lp.length:=aa0
  refine J (by grind [Au]) (Z ⟨(i+1,m),by omega,k2,cz i3 (by grind [rD])⟩ ?_);exact⟨by grind,Z7,Z2,Fh,W⟩
 have h3:¬((i:Int)<((D.map Ae).length:Int)):=h3;have n3:¬i<D.length:=aa0
 refine J (fun N9=>?_) (fun N9=>?_)
 .have N9:(n:Int)=((a.skips.map N).length:Int):=N9;rw[show i=D.length by omega]at i3;exact E I (show true=Fk x roots a d by grind [Fk,lu])
 have N9:¬((n:Int)=((a.skips.map N).length:Int)):=N9;rw[show i=D.length by omega]at i3;exact E I (show false=Fk x roots a d by grind [Fk,fS])
end
section
variable {x:List Rl}{roots:List Rq}{a:An}
theorem dI(h:(A5 x roots a.infs).2=0)(hf:a.found=false):Di x roots a=if !a.sel.isEmpty||!a.skips.isEmpty||!EN (A5 x roots a.infs).1 then 18 else 0:=by
 grind [Di]
theorem rj(h:(A5 x roots a.infs).2=0)(hf:a.found=false)(hs:0<a.sel.length):Di x roots a=18:=by
 grind [dI]
theorem mG(h:(A5 x roots a.infs).2=0)(hf:a.found=false)(hs:0<a.skips.length):Di x roots a=18:=by
 grind [dI]
theorem rh(h:(A5 x roots a.infs).2=0)(hf:a.found=false)(hs:¬0<a.sel.length)(hk:¬0<a.skips.length):Di x roots a=Gn x roots a.infs:=by
 grind [dI,Gn]
theorem jx(h:(A5 x roots a.infs).2=0)(hf:a.found=true)(hs:Do x roots a.sel≠0):Di x roots a=18:=by
 grind [Di]
theorem Rm(h:(A5 x roots a.infs).2=0)(hf:a.found=true)(hs:Do x roots a.sel=0):Di x roots a=if(a.sel.all (Hl x)&&Fk x roots a (A5 x roots a.infs).1)then 0 else 18:=by
 have h2:=cB (d:=(A5 x roots a.infs).1) (K:=a.skips) (J5 h).2.1 hs;unfold Di;rw[AL (MC h),AL aa0,AL (MC hs),h2]
 rfl
theorem c22(x:List Rl)(ifs:C0)(roots:List Rq)(a:An)(hx:∀r∈x,Eo r)(Mu:BF x)(hr:∀q∈roots,G5 q)(hrl:roots.length<=1000000)(hs:a.sel.length<=256)(hk:a.skips.length<=1000000):PC 46 [.agg (Ic x ifs),sl Ac roots,.agg (Gl a)] (G (Di x roots a)):=by
 refine Ps (pC [] [2,6,7,9,10]) Tryz.func46 rfl C4 (yN (C1 (U (show PC 92 [GM x ifs,sl Ac roots,sl AG a.infs] (.tup [sl F (A5 x roots a.infs).1,G (A5 x roots a.infs).2])from c13 x ifs roots a.infs hx hr) (cU [(1,sl Ac roots),(3,.ref 3 0),(5,.ref 5 0),(7,sl F (A5 x roots a.infs).1),(8,G (A5 x roots a.infs).2)] [(3,.cells (Ic x ifs)),(5,.cells (Gl a))] Z5 Z2 (J (fun h1=>?_) (fun h1=>?_))))))
 .exact E G (show((A5 x roots a.infs).2:Int)=Di x roots a by grind [Di])
 have h1:((A5 x roots a.infs).2:Int)=(0:Int):=As h1;refine J (fun h3=>?_) (fun h3=>?_)
 .refine yN (C1 (U (c48 x ifs roots a.sel hx Mu (fun q hq=>(hr q hq).1) hrl hs) (J (fun h4=>?_) (fun h4=>?_))))
  .refine cU [] [] W W ?_
   exact E G (show(18:Int)=Di x roots a by grind [jx])
  have h4:(Do x roots a.sel:Int)=(0:Int):=As h4;refine yN (Ay (Bt (a.sel.all (Hl x))) (fun h6=>?_) (fun h6=>?_))
  .have hc7:=(c49 x ifs a.sel hx Mu Wk);rw[show(a.sel.all (Hl x))=true from h6]at hc7;refine C1 (U hc7 (yN (yN (Ay (Bt (Fk x roots a (A5 x roots a.infs).1)) (fun h8=>?_) (fun h8=>?_)))))
   .have ux:=(c50 x ifs roots a (A5 x roots a.infs).1 (J5 h1).1 hx Mu hr hrl Wk hk PW);rw[show(Fk x roots a (A5 x roots a.infs).1)=true from h8]at ux;refine C1 (U ux (cU [] [] W W ?_))
    exact E G (show(0:Int)=Di x roots a by grind [Rm])
   have UN:=(c50 x ifs roots a (A5 x roots a.infs).1 (J5 h1).1 hx Mu hr hrl Wk hk PW);rw[show(Fk x roots a (A5 x roots a.infs).1)=false from h8]at UN;refine C1 (U UN (cU [] [] W W ?_))
   exact E G (show(18:Int)=Di x roots a by grind [Rm])
  have Qn:=(c49 x ifs a.sel hx Mu Wk);rw[show(a.sel.all (Hl x))=false from h6]at Qn;refine C1 (U Qn (cU [] [] W W ?_))
  exact E G (show(18:Int)=Di x roots a by grind [Rm])
 refine J (fun Jb=>?_) (fun Jb=>?_)
 .have n15:0<a.sel.length:=aa0
  refine cU [] [] W W ?_
  exact E G (show(18:Int)=Di x roots a by grind [rj])
 have n15:¬0<a.sel.length:=aa0
 refine J (fun YJ=>?_) (fun YJ=>?_)
 .have n17:0<a.skips.length:=aa0
  refine cU [] [] W W ?_
  exact E G (show(18:Int)=Di x roots a by grind [mG])
 have n17:¬0<a.skips.length:=aa0
 refine cU [(1,sl Ac roots),(3,.ref 3 0),(5,.ref 5 0)] [(3,.cells (Ic x ifs)),(5,.cells (Gl a))] Z3 Z2 (yN (C1 (U (c16 x ifs roots a.infs hx hr) ?_)));exact E G (show(Gn x roots a.infs:Int)=Di x roots a by grind [rh])
end
section
variable {x:List Rl}{ifs:C0}{l:Lk}
theorem zE(h:ZN l):∀e∈l.ents,Fp e.path:=fun e he=>by
 have q:=AS.1 h.en e he;unfold enF at q;have q:=Db q;unfold Fp;omega
theorem m0(h:ZN l):cJ (J0 l)=true:=by
 unfold cJ;rw[Ax (show(J0 l).infs.length<=400 from Bd h.il aa3),Ax (show(Gp l).length<=16 by rw[Lm];exact h.el),Ax (show(J0 l).skips.length<=100 from h.kl)];rfl
theorem xa(L:cV x l.roots)(h:ZN l):PC 48 [.agg (Ea l)] (I (Dy l)):=
 qn l L.rq (zE h) (Bd h.el aa3) (Bd h.il aa3) (Bd h.kl aa3)
theorem AaU(L:cV x l.roots)(hs:(Ga x 16&&EG l.roots)=true)(h:ZN l):PC 18 [GM x ifs,.agg (Ea l)] (G (ZG x l)):=
 Ac5 x ifs l L.x L.ix (zn Wm x ifs L.x) (fun p v=>c53 x ifs p v (L.c84 ifs) L.x) (xa L h) (L.c21 ifs hs (J0 l) (m0 h)) (Bd h.el aa3)
theorem Tr{x:List Rl}{roots:List Rq}(h:(Ga x 16&&EG roots)=true):roots.length<=1000000:=Bd (W8 h) aa3
end
structure AiS(l:Lk):Prop where
 el:l.ents.length<=1048576
 il:l.infs.length<=1048576
 kl:l.skips.length<=1048576
end Go.Eng
namespace Go.Proofs.YtkjhcikodmiceaaGreatDoor.joins
open Go Go.Eng Go.Proofs Go.ChangeShapes Go.WideShapes Go.ChangeAt Go.RowKit
section
variable {H:Type}{enc:TypeId×Value->H}{w:World}
theorem all_le{d:DataW H}{l:List (DataW H)}(h:d∈l):Rows.uptoBulk d<=Rows.uptoBulkAll l:=by
 induction l with
 |nil=>cases h
 |cons x r ih=>
  simp only[Rows.uptoBulkAll]
  cases AM.1 h with
  |inl e=>subst e;omega
  |inr e=>have:=ih e;omega
theorem one_le(d:DataW H):1<=Rows.uptoBulk d:=by
 cases d with
 |lit l=>cases l<;>simp[Rows.uptoBulk]
 |nil=>simp[Rows.uptoBulk]
 |ptr d=>simp[Rows.uptoBulk]
 |slice um spare=>simp[Rows.uptoBulk]
 |agg parts=>simp[Rows.uptoBulk]
 |iface t d=>simp[Rows.uptoBulk]
 |map entries=>simp[Rows.uptoBulk]
 |held h=>simp[Rows.uptoBulk]
theorem len_le(l:List (DataW H)):l.length<=Rows.uptoBulkAll l:=by
 induction l with
 |nil=>simp[Rows.uptoBulkAll]
 |cons x r ih=>have:=one_le x;simp only[Rows.uptoBulkAll,Ec];omega
theorem bulk_ok:X2 (H:=H) Rows.uptoBulk where
 slice es sp:=by
  have h1:=len_le es
  refine⟨by simp only[Rows.uptoBulk];omega,fun d hd=>?_⟩
  have:=all_le hd
  simp only[Rows.uptoBulk];omega
 agg ps d hd:=by
  have:=all_le hd
  simp only[Rows.uptoBulk];omega
 str b:=by simp only[Rows.uptoBulk];omega
theorem app_all(l r:List (DataW H)):Rows.uptoBulkAll (l++r)=Rows.uptoBulkAll l+Rows.uptoBulkAll r:=by
 induction l with
 |nil=>simp[Rows.uptoBulkAll]
 |cons x l ih=>simp only[F3,Rows.uptoBulkAll,ih];omega
abbrev NB:Nat:=1048576
abbrev Op(enc:TypeId×Value->H)(w:World)(t:TypeId){α:Type}(e:α->List AV)(ok:α->Prop):Prop:=Kt enc Tryz.prog w Rows.uptoBulk NB t e ok
theorem oI:Op enc w 3 (fun n:Int=>[G n]) (fun _=>True):=(kZ Tryz.underlying3).to id (fun _ _=>⟨rfl,trivial⟩)
theorem oB:Op enc w 4 (fun b:Bool=>[I b]) (fun _=>True):=fG Tryz.underlying4
theorem oS:Op enc w 9 (fun s:ByteArray=>[vs s]) (fun s=>s.size<=NB):=Zl bulk_ok Tryz.underlying9
theorem oVer:Op enc w 43 Ez (fun _=>True):=
 (Hc bulk_ok Tryz.underlying43 (L:=3) aa4 (Co rfl (n:=1) aa4 oI (Co rfl (n:=1) aa4 oI (Co rfl (n:=1) aa4 oI IM)))).to
  (fun p=>(⟨p.1,p.2.1,p.2.2.1⟩:Ver)) (fun _ _=>⟨rfl,trivial⟩)
theorem oSpan:Op enc w 64 Y (fun _=>True):=
 (Hc bulk_ok Tryz.underlying64 (L:=2) aa4 (Co rfl (n:=1) aa4 oI (Co rfl (n:=1) aa4 oI IM))).to
  (fun p=>(p.1,p.2.1)) (fun _ _=>⟨rfl,trivial⟩)
theorem oSet:Op enc w 66 (fun l:AN=>[sl Y l]) (fun l=>l.length<=NB):=
 (KG bulk_ok Tryz.underlying66 (m:=1) aa4 (fun _=>rfl) oSpan).to id (fun _ h=>⟨rfl,h.1⟩)
abbrev OkRq(q:Rq):Prop:=q.path.size<=NB/\q.set.length<=NB
theorem oRq:Op enc w 68 Ac OkRq:=
 (Hc bulk_ok Tryz.underlying68 (L:=2) aa4 (Co rfl (n:=1) aa4 oS (Co rfl (n:=1) aa4 oSet IM))).to
  (fun p=>(⟨p.1,p.2.1⟩:Rq)) (fun _ h=>⟨rfl,h.1,h.2.1⟩)
abbrev OkRqs(l:List Rq):Prop:=l.length<=NB/\∀q∈l,OkRq q
theorem oRqs:Op enc w 26 (fun l:List Rq=>[sl Ac l]) OkRqs:=
 KG bulk_ok Tryz.underlying26 (m:=1) aa4 (fun _=>rfl) oRq
abbrev OkRl(r:Rl):Prop:=r.path.size<=NB/\OkRqs r.reqs
theorem oRl:Op enc w 70 V OkRl:=
 (Hc bulk_ok Tryz.underlying70 (L:=9) aa4 (Co rfl (n:=1) aa4 oS (Co rfl (n:=3) aa4 oVer (Co rfl (n:=1) aa4 oRqs
  (Co rfl (n:=1) aa4 oS (Co rfl (n:=1) aa4 oS (Co rfl (n:=1) aa4 oS (Co rfl (n:=1) aa4 oB IM)))))))).to
  (fun p=>(⟨p.1,p.2.1,p.2.2.1,p.2.2.2.1,p.2.2.2.2.1,p.2.2.2.2.2.1,p.2.2.2.2.2.2.1⟩:Rl)) (fun _ h=>⟨rfl,h.1,h.2.2.1⟩)
theorem oRls:Op enc w 22 (fun l:List Rl=>[sl V l]) (fun l=>l.length<=NB/\∀r∈l,OkRl r):=
 KG bulk_ok Tryz.underlying22 (m:=8) aa4 (fun _=>rfl) oRl
theorem oIfc:Op enc w 478 (fun s:ByteArray=>[vs s,.junk,.junk,.junk,.junk]) (fun _=>True):=
 (Hc bulk_ok Tryz.underlying478 (L:=5) aa4 (Co rfl (n:=1) aa4 oS (Co rfl (n:=1) aa4 (NR Tryz.underlying473) (Co rfl (n:=1) aa4 (NR Tryz.underlying474)
  (Co rfl (n:=1) aa4 (NR Tryz.underlying475) (Co rfl (n:=1) aa4 (NR Tryz.underlying476) IM)))))).to (fun p=>p.1) (fun _ _=>⟨rfl,trivial⟩)
theorem oIfs:Op enc w 23 (fun l:List ByteArray=>[sl (fun s=>[vs s,.junk,.junk,.junk,.junk]) l]) (fun l=>l.length<=NB):=
 (KG bulk_ok Tryz.underlying23 (m:=4) aa4 (fun _=>rfl) oIfc).to id (fun _ h=>⟨rfl,h.1⟩)
theorem oIx:Op enc w 25 (fun p:List Rl×List (List AV)=>[sl V p.1,.slice .none p.2]) (fun p=>(p.1.length<=NB/\∀r∈p.1,OkRl r)/\p.2.length<=NB/\∀c∈p.2,c.length=5):=
 (Hc bulk_ok Tryz.underlying25 (L:=2) aa4 (Co rfl (n:=1) aa4 oRls (Co rfl (n:=1) aa4 oIfs IM))).to
  (fun p=>(p.1,p.2.1.map (fun s=>[vs s,.junk,.junk,.junk,.junk]))) (fun _ h=>⟨rfl,h.1,by rw[BG];exact h.2.1,fun c hc=>by obtain⟨s,_,rfl⟩:=Ar.1 hc;rfl⟩)
theorem few_of{n:Nat}(h:n<=NB):n<=1073741824:=Bd h aa3
theorem lim_of{x:List Rl}{roots:List Rq}(h:x.length<=NB/\∀r∈x,OkRl r)(k:OkRqs roots):cV x roots where
 ix:=few_of h.1
 rs:=few_of k.1
 rel r hr:=⟨few_of (h.2 r hr).2.1,few_of (h.2 r hr).1,fun q hq=>⟨few_of ((h.2 r hr).2.2 q hq).2,few_of ((h.2 r hr).2.2 q hq).1⟩⟩
 rq q hq:=⟨few_of (k.2 q hq).2,few_of (k.2 q hq).1⟩
end
theorem ok_agg{P:Program}{W:World}{base:Nat}{t:TypeId}{v:Value}{fs:Array Field}(hu:P.underlying t=some (.struct fs))(h:Value.okWide P W .any base t v):∃cs,v=.agg cs:=by
 unfold Value.okWide at h
 rw[hu]at h
 obtain⟨cs,e,_⟩:=h
 exact⟨cs,e⟩
theorem ok_slice{P:Program}{W:World}{base:Nat}{t e:TypeId}{v:Value}(hu:P.underlying t=some (.slice e))(h:Value.okWide P W .any base t v):v.oneCell'=true:=by
 unfold Value.okWide at h
 rw[hu]at h
 unfold Cell.okWide Cell.ok at h
 rw[hu]at h
 cases v<;>first | rfl | simp at h
theorem int_of_shape{P:Program}{w:World}{g:Nat}{t:TypeId}{k:IntKind}{zero:Array Value}(h:w.ShapedOpen P)(hg:g<P.globals.size)
  (h0:((begin P (fun _ _=>0) default).world.heap[g]?).bind Obj.row?=some (zero,t)) (hz:zero.size=1)
  (hb:P.buildable t=true) (hc:P.cellTypes P.depth t=some [t]) (hu:P.underlying t=some (.int k)):∃p,w.cell? ⟨g,0,none⟩=some (.int k p):=by
 obtain⟨cs,hh,hs,hr⟩:=h.1 g zero t hg h0
 obtain⟨ts,hts,_,GI⟩:=hr hb
 rw[hc]at hts
 cases hts
 have h1:0<cs.size:=Wk
 obtain⟨u,oc,GJ⟩:=GI 0 cs[0] (by simp[h1])
 have:u=t:=by simpa using oc.symm
 subst this
 have DS:w.cell? ⟨g,0,none⟩=some cs[0]:=by simp[World.cell?,hh,h1]
 rw[DS]
 unfold Cell.ok at GJ
 rw[hu]at GJ
 cases hv:cs[0]<;>rw[hv]at GJ<;>simp at GJ
 obtain⟨rfl,_⟩:=GJ
 exact⟨_,rfl⟩
theorem maxLen_cell{W:World}(h:W.ShapedOpen Tryz.prog):∃m,W.cell? ⟨0,0,none⟩=some (.int .i64 m):=
 int_of_shape (t:=3) (zero:=#[.int .i64 0]) h (Db aa4) aa4 rfl aa4 aa4 Tryz.underlying3
def Still(W W' : World):Prop:=W'.os=W.os/\W'.output=W.output/\W.heap.size<=W'.heap.size/\∀b,b<W.heap.size->W'.heap[b]?=W.heap[b]?
theorem run_true{f:Nat}{args:List AV}{vals:Array Value}{W:World}(hc:PC f args (I true))(hM:∃m,W.cell? ⟨0,0,none⟩=some (.int .i64 m))(hs:vals.size=args.length)
  (hr:∀(i:Nat) (av:AV) (x:Value),args[i]?=some av->vals[i]?=some x->O (jR W) W FK av x):Calls Tryz.prog f vals W fun e W'=>e=.returned (.bool true)/\Still W W':=by
 refine(hc.2 (jR W) W vals hs (fun i av x q1 q2=>(hr i av x q1 q2).up _) (uP hM (fun _ h=>by cases h))).mono fun e W' ⟨v,r,h',g',e1,e2,e3,e4,_⟩=>?_
 subst e1
 obtain⟨rfl,rfl⟩:=e2
 obtain rfl:=e3.v_eq
 exact⟨rfl,e4.os,e4.output,e4.size,fun b hb=>e4.frame b hb (fun r h=>h.elim)⟩
theorem Still.kept{W W' : World}(h:Still W W')(may:MemPlace->Prop):W.keptBut W' may:=by
 refine⟨h.1,h.2.1,fun i hi=>?_⟩
 rw[h.2.2.2 i hi]
 cases hh:W.heap[i]? with
 |none=>rfl
 |some o=>cases o<;>simp
theorem Still.same{W W' : World}(h:Still W W'){p:MemPlace}(hp:p.block<W.heap.size):W.sameAt W' p:=by
 cases p with
 |cell b off=>
  show W'.cell? ⟨b,off,none⟩=W.cell? ⟨b,off,none⟩
  unfold World.cell?
  rw[h.2.2.2 b hp]
 |map b=>exact h.2.2.2 b hp
theorem kids:Kids Tryz.prog (· < Tryz.prog.types.size):=kids_rows aa4 aa4
theorem full:∀t e,t<Tryz.prog.types.size->Tryz.prog.underlying t=some (.slice e)->0<Tryz.prog.cellsOf e:=slices_full_of Tryz.prog aa4
theorem carry{H:Type}{enc:TypeId×Value->H}{W W' : World}(h:Still W W'):∀{ts:List TypeId} {vs:List Value} {ds:List (DataW H)} {ps:List MemPlace},DataW.TrodAll enc Tryz.prog W 0 (fun _=>true) true ts vs ds ps->DataW.TrodAll enc Tryz.prog W' 0 (fun _=>true) true ts vs ds ps
 | [],[],[],_,e=>e
 |t::ts,v::vs,d::ds,ps,k=>by
  have E4:=k.lt
  obtain⟨p,q,⟨n,h1⟩,h2,rfl⟩:=k
  exact⟨p,q,⟨n,DataW.trod_carry n _ _ _ h1 (fun x hx=>h.same (E4 x (Bz _ hx)))⟩,carry h h2,rfl⟩
 | [],[],_::_,_,k=>k.elim
 | [],_::_,_,_,k=>k.elim
 |_::_,[],_,_,k=>k.elim
 |_::_,_::_,[],_,k=>k.elim
theorem post_true{H:Type}{enc:TypeId×Value->H}{W W' : World}{f:Func}{s:ChangeSpec}{args:Array Value}{ds:List (DataW H)}{before:List MemPlace}(Iz:Still W W')(hv:s.vars=[])
  (hW:DataW.Whole enc Tryz.prog f.params.toList s.vars false W args.toList ds [] before) (hr:f.resultTypes=#[4]) (hT:∀t∈f.params.toList,t<Tryz.prog.types.size) (hs:s.fn H ds={ results:=[.lit (.bool true)],args:=ds }) :
  s.post enc Tryz.prog f false true false false W args (.bool true) W':=by
 have hW0:=hW
 obtain⟨p,q,hA,hV,rfl,hz,_⟩:=hW
 rw[hv]at hV
 have hq:q=[]:=hV
 subst hq
 have E4:=hW0.lt
 have yv:s.fn H (ds++[])={ results:=[.lit (.bool true)],args:=ds }:=by rw[Ey];exact hs
 refine⟨ds,[],p++[],[],p,[],hW0,?_,?_,?_,Iz.kept _,fun h=>by cases h⟩
 .rw[yv,hr]
  exact⟨[],[],⟨1,by rw[show(Value.bool true).cells.toList=[.bool true]from rfl,DataW.trod_step];unfold DataW.trodStep;rw[Tryz.underlying4]⟩,rfl,rfl⟩
 .rw[yv]
  exact(carry Iz hA).respare kids full hT (fun x hx=>by simpa using E4 x (Bz _ hx))
 .rw[yv,hv];rfl
end Go.Proofs.YtkjhcikodmiceaaGreatDoor.joins
namespace Go.Proofs.YtkjhcikodmiceaaGreatDoor.joins
open Go Go.Eng Go.Proofs Go.ChangeShapes Go.WideShapes Go.ChangeAt Go.RowKit
theorem own:ownKnob Tryz.prog.godebug=none:=by kernel_rfl
def flatD:Nat->DataW Unit->List Value
 |0,_=>[]
 |n+1,.agg l=>l.flatMap (flatD n)
 |_+1,.lit (.int k i)=>[.int k i]
 |_+1,_=>[]
def layIn(d:DataW Unit):Obj->Obj
 |.cells _ t frozen=>.cells (flatD 4 d).toArray t frozen
 |o=>o
noncomputable def laidWorld(os:Os):World:=
 { World.holding Tryz.prog os ⟨#[],#[],[]⟩with heap:=(((World.holding Tryz.prog os ⟨#[],#[],[]⟩).heap.modify 1 (layIn Rows.laid_unicode_utf8_first)).modify 2 (layIn Rows.laid_unicode_utf8_acceptRanges)) }
abbrev nilV:Value:=.slice none 0 0
theorem arr2{args:Array Value}{a b:Value}(h:args.toList=[a,b]):args=#[a,b]:=by
 cases args;simp_all
theorem looksOff:true=Tryz.pinned.checked.prog.looks []:=by kernel_rfl
theorem noStand:∀t∈([5,9,25,26,33,43]:List Nat),Tryz.pinned.checked.prog.wantsStandIn t=false:=by
 intro t ht
 simp only[AM,Mq,or_false]at ht
 rcases ht with rfl | rfl | rfl | rfl | rfl | rfl<;>exact(show Tryz.prog.wantsStandIn _=false by kernel_rfl)
end Go.Proofs.YtkjhcikodmiceaaGreatDoor.joins
namespace Go.Proofs
open Go.Shelf Go.RowKit Go.Lib Go.Sort
abbrev OneC:Type:={v:Value // v.oneCell'=true}
def SlA:Type:=ByteArray×OneC×OneC×OneC
instance:Inhabited SlA:=⟨⟨ByteArray.empty,⟨.bool false,rfl⟩,⟨.bool false,rfl⟩,⟨.bool false,rfl⟩⟩⟩
def encSlA(x:SlA):List Value:=[.string x.1,x.2.1.1,x.2.2.1.1,x.2.2.2.1]
def cfSlA(x y:SlA):Int:=Lib.compareBytes x.1.data.toList y.1.data.toList
abbrev CmpSlA(k:Nat):Prop:=∀(x y:SlA) (W:World),Calls Tryz.prog k #[.agg #[.string x.1,x.2.1.1,x.2.2.1.1,x.2.2.2.1],.agg #[.string y.1,y.2.1.1,y.2.2.1.1,y.2.2.2.1]] W fun e w'=>e=.returned (.int .i64 (cfSlA x y))/\∃q os',w'=grow (W.drewN q) os'
theorem Tryz.closure84:CmpSlA 84:=fun x y W=>by
 have hcon:=fun W'=>Any.strings_Compare Tryz.layCompare x.1 y.1 W';obtain⟨a,⟨b,hb⟩,⟨c,hc⟩,⟨d,hd⟩⟩:=x;obtain⟨a',⟨b',wB⟩,⟨c',hc'⟩,⟨d',nQ⟩⟩:=y;dsimp only at hcon
 change ∀W',Calls Tryz.prog 85 _ _ _ at hcon
 unfold cfSlA;dsimp only;generalize Lib.compareBytes a.data.toList a'.data.toList=r at hcon⊢
 go_enter Tryz.func84,Tryz.ntmps84
 go_wp2_with (go_at_call 85;refine(hcon _).mono ?_;rintro e w' ⟨rfl,rfl⟩)
 go_ret
 exact⟨rfl,0,_,by rw[alloc_eq_grow,alloc_eq_grow,grow_grow];rfl⟩
end Go.Proofs
namespace Go.Eng
open Go.Proofs Go.Proofs.Tryz Go.Shelf Go.RowKit Go.Lib Go.Sort
theorem im(x y:SlA):ltOf cfSlA x y=Ek x.1 y.1:=Vc _ _
theorem qa:SWO (ltOf cfSlA) where
 irrefl x:=by grind [im,Dd]
 trans x y z h1 h2:=by grind [im,D2]
 ntrans x y z h1 h2:=by
  grind [im,D2,Ik]
theorem s92(k:Nat)(hc:CmpSlA k)(eg:∀args w,(callFunc k args).run prog w=.ok (.enter k args) w)(l:List Sl)(hl:BF l)(lim:Nat)(bc:lim<100) :
  A6 prog 157 [.msl 1000 l.length,G 0,G l.length,G lim,.v (Hs k)] (Ai [(1000,.arr 4 (l.map Ae))] Af) fun r h'=>
   r=.tup []/\∃l' : List Sl,l'.Perm l/\l'.Pairwise (fun x y=>Ek y.path x.path=false)/\h'=Ai [(1000,.arr 4 (l'.map Ae))] Af:=by
 have hl:l.length<=1073741824:=hl;have hE:Gt prog 157:=jG 157 func157 aa4 rfl;have Jx:=JY (P:=prog) (f:=157) (α:=SlA) (rest:=[.int .i64 0,.int .i64 l.length,.int .i64 lim,Hs k]) hE Ae encSlA (k:=4) (fun _=>rfl) (fun _=>rfl) (ltOf cfSlA) (fun x a=>a.1=x.path) l Wk ?_ ?_ ?_
 .refine⟨hE,fun g w vals q1 q2 q3=>(Jx.2 g w vals q1 q2 q3).mono fun _ _ ⟨v,r,h',g',e1,⟨e2,l',p1,⟨al,a1,a2,a3⟩,p2⟩,rest⟩=>⟨v,r,h',g',e1,⟨e2,l',p1,?_,p2⟩,rest⟩⟩;rw[Cy]at a3⊢;intro i j hi hj cX
  have:=a3 i j Wk Wk cX
  rw[im]at this;have e1:=a2 i _ _ (Ge hi) (Ge Wk);have e2:=a2 j _ _ (Ge hj) (Ge Wk);simp_all
 .intro x hx g w vs hr
  match vs,hr with
  | [a,b,c,d],hr=>
   have h1:=(hr.2.2 0 (Go.Eng.vs x.path) a rfl rfl).v_eq;subst h1;exact⟨⟨x.path,⟨b,hr.2.1 b aa1⟩,⟨c,hr.2.1 c aa1⟩,⟨d,hr.2.1 d aa1⟩⟩,rfl,rfl⟩
  | [],hr=>have:=hr.1;simp_all
  | [_],hr=>have:=hr.1;simp_all
  | [_,_],hr=>have:=hr.1;simp_all
  | [_,_,_],hr=>have:=hr.1;simp_all
  |_::_::_::_::_::_,hr=>have:=hr.1;simp_all
 .intro w b cap d hH hb FW hdl;have nO:CmpLays prog k #[] encSlA 4 cfSlA b 0 d.size w:=fun _ _ _ _ x y=>hc x y _;have hp:=AnyQ.pdqsortCmpFunc_all Tryz.layPdqSel 4 isAgg45 sizeOf45 encSlA cfSlA k #[] qa b 0 cap d w eg nO ⟨fun _=>rfl,fun x v hv=>by
    simp only[encSlA,AM,Mq,or_false]at hv;rcases hv with rfl | rfl | rfl | rfl
    .rfl
    all_goals grind,hH,hb⟩ (d.size+1) 0 d.size lim d w Wk rfl (SWK.start hH) (Ak _) (Ao _) FW Wk (Or.inl rfl)
  rw[hdl]at hp⊢;refine hp.mono ?_
  rintro e w' ⟨rfl,n,os,rfl⟩
  have h:=pdq_sorts (ltOf cfSlA) qa d 0 d.size lim true true (Ak _) (Ao _) (Or.inl rfl)
  grind
 .intro e w;subst e;exact AnyF.pdqsortCmpFunc_none Tryz.layPdqSel none 0 lim (Hs k) w
theorem OA{l l' : List Sl}(h1:Pz l)(h2:Pz l')(hm:∀y,y∈l↔y∈l'):l=l':=by
 induction l generalizing l' with
 |nil=>
  cases l'<;>grind [List.mem_cons_self]
 |cons x l ih=>
  cases l'<;>grind [List.pairwise_cons,D2,Dd]
theorem p6{l l' : List Sl}(hn:(l.map (·.path)).Nodup)(hp:l'.Perm l)(hs:l'.Pairwise fun x y=>Ek y.path x.path=false):l'=DK l:=by
 refine OA ?_ (N0 hn) fun y=>by grind [FU]
 grind [List.pairwise_iff_getElem,Ik]
theorem s47(k:Nat)(hc:CmpSlA k)(eg:∀args w,(callFunc k args).run prog w=.ok (.enter k args) w)(l:List Sl)(hl:BF l)(hn:(l.map (·.path)).Nodup) :
  A6 prog 83 [.msl 1000 l.length,.v (Hs k)] (Ai [(1000,.arr 4 (l.map Ae))] Af) fun r h'=>
   r=.tup []/\h'=Ai [(1000,.arr 4 ((DK l).map Ae))] Af:=by
 obtain⟨lim,bc,hb⟩:=vE l.length hl;refine Bi (IU Dc) [(1000,1000)] rfl BA hm rfl func83 aa4 rfl C4 aa4 rfl (C1 (U (hb) (Z (.gen [(1000,1000)] 0) (J rfl ((s92 k hc eg l hl lim bc).imp ?_)))));intro r h' hq;refine Al hq.2 (fun l' Tf=>?_);have e:=p6 hn Tf.1 Tf.2.1;refine Z (.tup []) (J ?_ (J rfl ?_))
 .exact .refl _
 .rw[Tf.2.2,e];rfl
end Go.Eng
namespace Go.Eng
open Go.Proofs Go.Proofs.Tryz
variable {l:List Nf}{i:Nf}{caps:List AV}{k fF:Nat}(roots:List Rq)(C A:List (Value×AV))(c:Cd)(s:SS)(dec:List Cd)(st:List (List Sk))(S:List Sl)(n:Nat)
abbrev AC:List AV:=G c.place::V c.rel
abbrev Bm(n:Nd):List AV:=[vs n.rq.path,sl Y n.rq.set,vs n.path,G n.place,G n.number]
abbrev Bb(l:List Sk):List AV:=[sl N l]
abbrev CA(i:Nat):List AV:=[G (i:Nat)]
def FM:E0:=⟨true,[.int .i64,.str,.int .i64,.int .i64,.int .i64,.int .i64]⟩
def Mk(i:Nf):Value:=.agg [.int .i64 i.kind,.string i.path,.int .i64 i.place,.int .i64 i.number,.int .i64 i.left,.int .i64 i.right].toArray
def FO:Nat->List Nf->List (Value×AV)
 |_,[]=>[]
 |k,i::l=>(Mk i,G (k:Nat))::FO (k+1) l
abbrev srC:List AV:=
 [sl Ac roots,.cmap Ca C,.cmap Ca A,.slice (.id 1001 6) (s.infs.map AG),.slice (.id 1002 1) (s.drv.map F),.mref 1003,I s.full,sl AC dec,sl Ae (Q dec),.msl 1004 n]
abbrev srM(k n:Nat):List AV:=
 [sl Ac roots,.cmap Ca C,.cmap Ca A,.slice (.id 1001 6) (s.infs.map AG),.slice (.id 1002 1) (s.drv.map F),.mref 1003,I s.full,sl AC dec,sl Ae (Q dec),.msl k n]
abbrev JQ:List (Nat×HO):=
 [(1000,.cells (srC roots C A s dec st.length)),(1001,.tok 6 s.infs.length),(1002,.tok 1 s.drv.length),(1003,.map FM (FO 0 s.infs)),(1004,.arr 1 (st.map Bb))]
theorem AgG(hs:Dh caps)(l:List (Cd))(p:Cd->Bool)(hF:∀x∈l,PC fF ([.agg (AC x)]++caps) (I (p x)))(hl:l.length<9223372036854775807) :
  PC 340 [sl AC l,.clo fF caps] (G (KT p l 0)):=by
 refine Ps Dc func340 rfl C4 (Z {i:Nat // i<=l.length/\∀j (hj:j<l.length),j<i->p l[j]=false} (Z (fun i=>⟨[(0,sl AC l),(1,.clo fF caps),(7,G (l.map AC).length),(8,G i.1)],[],Af⟩) (Z (fun i=>l.length-i.1) (J (Z ⟨0,by simp⟩ ?_) ?_))))
 .exact⟨⟨X,⟨rfl,hs.ids _⟩,X,X,W⟩,W,Fh,W⟩
 .intro⟨i,h1,h2⟩;refine J ?_ ?_
  .intro h;have h:i<l.length:=aa0
   have hg:l[i]?=some l[i]:=Ge h;refine Z (AC l[i]) (J (J Wk aa0) (J rfl (yN ?_)));have Cv:∀h,PC fF ([.agg (AC l[i])]++caps.map (str0 h)) (I (p l[i])):=fun h=>by rw[hs.map];simp_all
   cases hp:p l[i]with
   |true=>
    rw[hp]at Cv;refine Z .pure (Z (I true) (J (Cv _) ?_));rw[LU h (fun j hj F6=>h2 j hj F6) hp,GP];exact .refl _
   |false=>
    rw[hp]at Cv;refine Z .pure (Z (I false) (J (Cv _) (J (by grind [Au]) (Z ⟨i+1,by omega,fun j hj F6=>?_⟩ ?_))))
    .grind
    .exact⟨by grind,⟨X,⟨rfl,hs.ids _⟩,X,X,W⟩,W,Fh,W⟩
  .intro h;have h:¬i<l.length:=aa0
   rw[Is fun j hj=>h2 j hj Wk];exact .refl _
theorem s86(hs:Dh caps)(l:List (Nd))(p:Nd->Bool)(hF:∀x∈l,PC fF ([.agg (Bm x)]++caps) (I (p x)))(hl:l.length<9223372036854775807) :
  PC 149 [sl Bm l,.clo fF caps] (G (KT p l 0)):=by
 refine Ps Dc func149 rfl C4 (Z {i:Nat // i<=l.length/\∀j (hj:j<l.length),j<i->p l[j]=false} (Z (fun i=>⟨[(0,sl Bm l),(1,.clo fF caps),(7,G (l.map Bm).length),(8,G i.1)],[],Af⟩) (Z (fun i=>l.length-i.1) (J (Z ⟨0,by simp⟩ ?_) ?_))))
 .exact⟨⟨X,⟨rfl,hs.ids _⟩,X,X,W⟩,W,Fh,W⟩
 .intro⟨i,h1,h2⟩;refine J ?_ ?_
  .intro h;have h:i<l.length:=aa0
   have hg:l[i]?=some l[i]:=Ge h;refine Z (Bm l[i]) (J (J Wk aa0) (J rfl (yN ?_)));have Cv:∀h,PC fF ([.agg (Bm l[i])]++caps.map (str0 h)) (I (p l[i])):=fun h=>by rw[hs.map];simp_all
   cases hp:p l[i]with
   |true=>
    rw[hp]at Cv;refine Z .pure (Z (I true) (J (Cv _) ?_));rw[LU h (fun j hj F6=>h2 j hj F6) hp,GP];exact .refl _
   |false=>
    rw[hp]at Cv;refine Z .pure (Z (I false) (J (Cv _) (J (by grind [Au]) (Z ⟨i+1,by omega,fun j hj F6=>?_⟩ ?_))))
    .grind
    .exact⟨by grind,⟨X,⟨rfl,hs.ids _⟩,X,X,W⟩,W,Fh,W⟩
  .intro h;have h:¬i<l.length:=aa0
   rw[Is fun j hj=>h2 j hj Wk];exact .refl _
theorem AbN(hs:Dh caps)(l:List (Cd))(p:Cd->Bool)(hF:∀x∈l,PC fF ([.agg (AC x)]++caps) (I (p x)))(hl:BF l) :
  PC 290 [sl AC l,.clo fF caps] (I (l.any p)):=by
 refine Ps Dc func290 rfl C4 ?_;have hi:=AgG hs l p hF Wk;have Cv:∀h,PC 340 [sl AC l,.clo fF (caps.map (str0 h))] (G (KT p l 0)):=fun h=>by grind [Dh.map]
 refine C1 (U (Cv _) ?_);have ha:=Kz (p:=p) l 0 (B4 0);refine J ?_ ?_
 .intro h;rw[<-ha,Ax h];exact .refl _
 .intro h;rw[<-ha,At h];exact .refl _
theorem AbS(l:List Cd)(hl:BF l):A6 prog 154 [sl AC l] (Ai [] Af) fun r h'=>r=.slice (.id 2000 10) (l.map AC)/\h'=Ai [(2000,.tok 10 (l.map AC).length)] Af:=by
 refine Bi (IU (plT 10)) [(2,2000)] rfl BA hm rfl func154 aa4 rfl C4 aa4 rfl ?_;have De:A7 10 (l.map AC)/\([]:C0).length=0/\(([]:C0).length+(l.map AC).length)*128<=140737488355328/\([]:C0).length+(l.map AC).length<=9223372036854775807:=by
  refine⟨B8 (enc:=AC) (n:=10) (fun _=>rfl) l,rfl,?_,?_⟩<;>simp only[If,Lm]<;>unfold BF at hl<;>omega
 have e2:HO.tok 10 (([]:C0).length+(l.map AC).length)=.tok 10 (l.map AC).length:=aa0
 have e3:AV.slice (.id 2000 10) ([]++l.map AC)=.slice (.id 2000 10) (l.map AC):=rfl;have full:∀st:St,(∃s:LS,St.le (IU (plT 10)) st s/\True)->True:=fun _ _=>trivial;refine Z 0 (Z 0 (J ?_ ?_))
 .intro _;refine cU [(0,sl AC l)] [] Z1 W (Z 2 (J De ?_));exact U (.refl _) (J e3 (Aa (fun o=>Ai [(2000,o)] Af) e2))
 .intro h;refine J ?_ ?_
  .refine Z ⟨[],[],Af⟩ (J ⟨trivial,trivial,fun _=>.inl rfl,A2 aa4⟩ ?_);refine Z 0 ?_;exact U (.refl _) (J (show AV.slice (.id 2000 10) []=_ by rw[h]) (show Ai [(2000,HO.tok 10 0)] Af=_ by simp_all))
  .refine cU [(0,sl AC l)] [] Z1 W (Z 2 (J De ?_));exact U (.refl _) (J e3 (Aa (fun o=>Ai [(2000,o)] Af) e2))
theorem Tz:∀{l:List Nf} {k:Nat} {kx:Value} {a:AV},(kx,a)∈FO k l↔∃j i,l[j]?=some i/\kx=Mk i/\a=G ((k+j:Nat):Int)
 | [],k,kx,a=>by simp[FO]
 |y::l,k,kx,a=>by
  unfold FO;rw[AM,Tz];constructor
  .rintro(h | ⟨j,i,h1,h2,h3⟩)
   .cases h<;>grind
   .exact⟨j+1,i,h1,h2,by grind⟩
  grind
theorem Xq{a b:Nf}(h:Mk a=Mk b):a=b:=by
 obtain⟨a1,a2,a3,a4,a5,a6⟩:=a;obtain⟨b1,b2,b3,b4,b5,b6⟩:=b<;>grind [Mk]
theorem AaV(h:Mz i 0 l=some k):(Mk i,G (k:Nat))∈FO 0 l:=by
 grind [NV,Tz]
theorem sx(hn:l.Nodup)(h:Mz i 0 l=some k):∀b,(Mk i,b)∈FO 0 l->b=G (k:Nat):=fun b hb=>by
 grind [NV,Tz,Xq,List.getElem_inj]
theorem uT(h:Mz i 0 l=none):∀a,(Mk i,a)∉FO 0 l:=fun a ha=>by
 obtain⟨j,i',h1,h2,_⟩:=Tz.1 ha
 have:=Xq h2
 subst this;exact RK h (AA h1)
theorem ii:∀(l:List Nf) (k:Nat) (i:Nf),FO k (l++[i])=FO k l++[(Mk i,G ((k+l.length:Nat):Int))]
 | [],k,i=>by simp[FO]
 |y::l,k,i=>by
  show(Mk y,_)::FO (k+1) (l++[i])=_;rw[ii l (k+1) i]
  grind [FO]
theorem xd(h:Mz i 0 l=none):Fc (FO 0 l) (Mk i) (G ((l.map AG).length:Int))=FO 0 (l++[i]):=by
 grind [Jd,uT,ii]
theorem ZV{s:SS}{l:List Tm}(h:Mz i 0 s.infs=some k):Ed s i l=(k,s):=by grind [Ed]
theorem WJ{s:SS}{l:List Tm}(h:Mz i 0 s.infs=none)(hf:65536<=s.infs.length):Ed s i l=(s.infs.length-1,⟨s.infs,s.drv,true⟩):=by grind [Ed]
theorem ZT{s:SS}{l:List Tm}(h:Mz i 0 s.infs=none)(hf:¬65536<=s.infs.length):Ed s i l=(s.infs.length,⟨s.infs++[i],s.drv++[l],s.full⟩):=by grind [Ed]
section
variable {roots:List Rq}{C A:List (Value×AV)}{s s' : SS}{dec:List Cd}{st:List (List Sk)}{i:Nf}{l:List Tm}
theorem l7{z:Int}(e:Ed s i l=(k,s'))(hz:z=k):G z=G ((Ed s i l).1:Nat)/\Ai (JQ roots C A s' dec st) Af=Ai (JQ roots C A (Ed s i l).2 dec st) Af:=aa0
theorem yM(h:Mz i 0 s.infs=none):Ai [(1000,.cells [sl Ac roots,.cmap Ca C,.cmap Ca A,.slice (.id 1001 6) (s.infs.map AG++[AG i]),.slice (.id 1002 1) (s.drv.map F++[F l]),.mref 1003,I s.full,sl AC dec,sl Ae (Q dec),.msl 1004 st.length]),
      (1001,.tok 6 ((s.infs.map AG).length+[AG i].length)),(1002,.tok 1 ((s.drv.map F).length+[F l].length)),(1003,.map FM (Fc (FO 0 s.infs) (Mk i) (G ((s.infs.map AG).length:Int)))),(1004,.arr 1 (st.map Bb))] Af=Ai (JQ roots C A ⟨s.infs++[i],s.drv++[l],s.full⟩ dec st) Af:=by
  grind [xd]
end
theorem AbO(p:CS):PC 291 [.agg (AC c),.cptr [vs p]] (I (decide (c.rel.path=p))):=by
 refine Ps (pC [2] []) func291 rfl C4 (J (fun h1=>?_) (fun h1=>?_))
 .exact .of_eq (show I true=I (decide (c.rel.path=p)) by simp_all)
 exact .of_eq (show I false=I (decide (c.rel.path=p)) by simp_all)
theorem AbM(t:Tm)(p:CS):PC 228 [.agg (M t),.cptr [vs p]] (I (decide (t.path=p))):=by
 refine Ps (pC [2] []) func228 rfl C4 (J (fun h1=>?_) (fun h1=>?_))
 .exact .of_eq (show I true=I (decide (t.path=p)) by simp_all)
 exact .of_eq (show I false=I (decide (t.path=p)) by simp_all)
theorem qF(l:List Tm)(p:CS)(hl:BF l):PC 155 [sl M l,vs p] (I (DN l p)):=by
 refine Ps (pC [3] []) func155 rfl C4 (Ay (Bt (DN l p)) (fun h1=>?_) (fun h1=>?_))
 .refine C1 (U (cb h1 (show PC 227 [sl M l,.clo 228 [.cptr [vs p]]] (I (DN l p))from vI (fF:=228) (caps:=[.cptr [vs p]]) (fun c hc=>by obtain rfl:=AI.1 hc;intro h;rfl) l (fun t=>decide (t.path=p)) (fun t _=>AbM t p) hl)) ?_);exact .of_eq (show I true=I (DN l p) by rw[h1])
 refine C1 (U (cb h1 (show PC 227 [sl M l,.clo 228 [.cptr [vs p]]] (I (DN l p))from vI (fF:=228) (caps:=[.cptr [vs p]]) (fun c hc=>by obtain rfl:=AI.1 hc;intro h;rfl) l (fun t=>decide (t.path=p)) (fun t _=>AbM t p) hl)) ?_);exact .of_eq (show I false=I (DN l p) by rw[h1])
theorem AbL(p:CS)(hl:BF dec):A6 prog 223 [.ref 1000 0,vs p] (Ai (JQ roots C A s dec st) Af) fun r h'=>r=I (DB dec p)/\h'=Ai (JQ roots C A s dec st) Af:=by
 refine Bi (IU (pC [3] [])) [(1000,1000),(1001,1001),(1002,1002),(1003,1003),(1004,1004)] rfl BA hm rfl func223 aa4 rfl C4 aa4 rfl (Ay (Bt (DB dec p)) (fun h1=>?_) (fun h1=>?_))
 .refine C1 (U (cb h1 (show PC 290 [sl AC dec,.clo 291 [.cptr [vs p]]] (I (DB dec p))from AbN (fF:=291) (caps:=[.cptr [vs p]]) (fun c hc=>by obtain rfl:=AI.1 hc;intro h;rfl) dec (fun c=>decide (c.rel.path=p)) (fun c _=>AbO c p) hl)) ?_);exact U (.refl _) (J (show I true=I (DB dec p) by rw[h1]) rfl)
 refine C1 (U (cb h1 (show PC 290 [sl AC dec,.clo 291 [.cptr [vs p]]] (I (DB dec p))from AbN (fF:=291) (caps:=[.cptr [vs p]]) (fun c hc=>by obtain rfl:=AI.1 hc;intro h;rfl) dec (fun c=>decide (c.rel.path=p)) (fun c _=>AbO c p) hl)) ?_);exact U (.refl _) (J (show I false=I (DB dec p) by rw[h1]) rfl)
theorem tu(i:Nf)(l:List Tm)(k:Nat)(hk:Mz i 0 s.infs=some k)(Rx:s.infs.Nodup):A6 prog 224 [.ref 1000 0,.agg (AG i),sl M l] (Ai (JQ roots C A s dec st) Af) fun r h'=>r=G ((Ed s i l).1:Nat)/\h'=Ai (JQ roots C A (Ed s i l).2 dec st) Af:=by
 refine Bi (IU (pC [4] [])) [(1000,1000),(1001,1001),(1002,1002),(1003,1003),(1004,1004)] rfl BA hm rfl func224 aa4 rfl C4 aa4 rfl (yN ?_);refine Or.inl (Z (G (k:Nat)) (J (J (AaV hk) (sx Rx hk)) ?_));refine J aa4 ?_;exact U (.refl _) (l7 (ZV hk) rfl)
theorem tq(i:Nf)(l:List Tm)(hk:Mz i 0 s.infs=none)(hn:s.infs.length<=65536)(hdl:s.drv.length=s.infs.length):A6 prog 224 [.ref 1000 0,.agg (AG i),sl M l] (Ai (JQ roots C A s dec st) Af) fun r h'=>r=G ((Ed s i l).1:Nat)/\h'=Ai (JQ roots C A (Ed s i l).2 dec st) Af:=by
 have hdn:s.drv.length<=65536:=Wk
 have hml:(s.infs.map AG).length=s.infs.length:=Lm _;refine Bi (IU (pC [4] [])) [(1000,1000),(1001,1001),(1002,1002),(1003,1003),(1004,1004)] rfl BA hm rfl func224 aa4 rfl C4 aa4 rfl (yN ?_);refine Or.inr (J (uT hk) ?_);refine J aa4 (J (fun h1=>?_) (fun h1=>?_))
 .refine yN (J (by grind [Au]) ?_);exact U (.refl _) (l7 (WJ hk Wk) Wk)
 refine yN (J aa4 (yN (J (Yh rfl Wk aa3) (yN (J aa4 (J (Yh rfl Wk aa3) (yN ?_)))))));have hq:=l7 (roots:=roots) (C:=C) (A:=A) (dec:=dec) (st:=st) (z:=((s.infs.map AG).length:Int)) (ZT (l:=l) hk Wk) Wk;exact U (.refl _) (J hq.1 ((yM hk).trans hq.2))
structure LC(x:List Rl)(roots:List Rq)(s:SS):Prop where
 der:EZ x roots s
 nodup:s.infs.Nodup
abbrev vo(o:Nat×SS)(r:AV)(h' : Nat->HO):Prop:=r=G (o.1:Nat)/\h'=Ai (JQ roots C A o.2 dec st) Af
theorem tp(i:Nf)(l:List Tm)(hn:s.infs.length<=65536)(hdl:s.drv.length=s.infs.length)(Rx:s.infs.Nodup) :
  A6 prog 224 [.ref 1000 0,.agg (AG i),sl M l] (Ai (JQ roots C A s dec st) Af) (vo roots C A dec st (Ed s i l)):=by
 cases hk:Mz i 0 s.infs<;>grind [tu,tq]
abbrev dg:JD:=[(1000,1000),(1001,1001),(1002,1002),(1003,1003),(1004,1004)]
theorem zH{h2:Nat->HO}{cs:List AV}{o1 o2 o3 o4:HO}(e0:h2 1000=.cells cs)(e1:h2 1001=o1)(e2:h2 1002=o2)(e3:h2 1003=o3)(e4:h2 1004=o4) :
  FL dg h2=Ai [(1000,.cells (cs.map (ren1 (CB dg) h2))),(1001,o1.ren (CB dg) h2),(1002,o2.ren (CB dg) h2),(1003,o3.ren (CB dg) h2),(1004,o4.ren (CB dg) h2)] Af:=by
 unfold FL;simp only[Zp];rw[e0,e1,e2,e3,e4];rfl
theorem ko{s:SS}{n:Nd}(h:n.path=R):Ed s ⟨0,R,0,n.number,0,0⟩ (GE n.rq)=Bx s n:=by grind [Bx,OZ,II]
theorem oq{s:SS}{n:Nd}(h:¬n.path=R):Ed s ⟨1,n.path,n.place,n.number,0,0⟩ (BU n.path n.place n.rq)=Bx s n:=by grind [Bx,OZ,II]
abbrev mX(d:List (List Tm))(S:List Sl):AV:=.tup [G (((OL d S).getD 0:Nat):Int),I (OL d S).isSome]
theorem aB{S:List Sl}:∀{l:List (List Tm)} {b i:Nat} {t:List Tm},l[i]?=some t->Bq t S=true->(∀j u,j<i->l[j]?=some u->Bq u S=false)->PX S b l=some (b+i)
 | [],_,_,_,h,_,_=>by simp_all
 |u::l,b,0,t,h,he,_=>by grind [PX]
 |u::l,b,i+1,t,h,he,hn=>by
  unfold PX;rw[AL (by rw[hn 0 u Wk rfl];decide),aB (i:=i) aa0 he (fun j v hj hv=>hn (j+1) v Wk aa0)]
  grind
theorem aC{S:List Sl}:∀{l:List (List Tm)} {b:Nat},(∀t∈l,Bq t S=false)->PX S b l=none
 | [],_,_=>rfl
 |u::l,b,h=>by
  unfold PX;rw[AL aa0];exact aC fun t ht=>h t (Aj _ ht)
theorem s88(n:Nd)(hn:s.infs.length<=65536)(hdl:s.drv.length=s.infs.length)(Rx:s.infs.Nodup)(hq:BF n.rq.set)(hp:Au (n.place+1)):A6 prog 151 [.ref 1000 0,.agg (Bm n)] (Ai (JQ roots C A s dec st) Af) fun r h'=>vo roots C A dec st (Bx s n) r h':=by
 refine Bi (IU ⟨[3],[],[],[],[],[],[],[],[(15,5),(31,5)],[],[]⟩) [(1000,1000),(1001,1001),(1002,1002),(1003,1003),(1004,1004)] rfl BA hm rfl func151 aa4 rfl C4 aa4 rfl (J (fun h1=>?_) (fun h1=>?_))
 .refine yN (U (ze n.rq hq) (Z dg (Z [(1000,.cells (srM roots C A s dec 1004 st.length)),(1001,.tok 6 s.infs.length),(1002,.tok 1 s.drv.length),(1003,.map FM (FO 0 s.infs)),(1004,.arr 1 (st.map Bb))] (Z (JQ roots C A (Ed s ⟨0,R,0,n.number,0,0⟩ (GE n.rq)).2 dec st) (Z [.ref 1000 0,.agg [G 0,vs ⟨#[]⟩,G 0,G n.number,G 0,G 0],sl M (GE n.rq)] (Z (G (((Ed s ⟨0,R,0,n.number,0,0⟩ (GE n.rq)).1:Nat):Int):AV) (J (fun h2 hh=>J ((zH (show h2 1000=.cells (srM roots C A s dec 1004 st.length)from hh 1000 aa3) (show h2 1001=.tok 6 s.infs.length from hh 1001 aa3) (show h2 1002=.tok 1 s.drv.length from hh 1002 aa3) (show h2 1003=.map FM (FO 0 s.infs)from hh 1003 aa3) (show h2 1004=.arr 1 (st.map Bb)from hh 1004 aa3)).trans rfl) rfl) (J aa4 (J (tp roots C A s dec st ⟨0,R,0,n.number,0,0⟩ (GE n.rq) hn hdl Rx) (J aa4 ?_))))))))));have ei:=ko (s:=s) h1;exact U (.refl _) (J (show G (((Ed s ⟨0,R,0,n.number,0,0⟩ (GE n.rq)).1:Nat):Int)=G (((Bx s n).1:Nat):Int) by rw[ei]) (show Ai (JQ roots C A (Ed s ⟨0,R,0,n.number,0,0⟩ (GE n.rq)).2 dec st) Af=Ai (JQ roots C A (Bx s n).2 dec st) Af by rw[ei]))
 refine yN (U (zf n.path n.place n.rq hp hq) (Z dg (Z [(1000,.cells (srM roots C A s dec 1004 st.length)),(1001,.tok 6 s.infs.length),(1002,.tok 1 s.drv.length),(1003,.map FM (FO 0 s.infs)),(1004,.arr 1 (st.map Bb))] (Z (JQ roots C A (Ed s ⟨1,n.path,n.place,n.number,0,0⟩ (BU n.path n.place n.rq)).2 dec st) (Z [.ref 1000 0,.agg [G 1,vs n.path,G n.place,G n.number,G 0,G 0],sl M (BU n.path n.place n.rq)] (Z (G (((Ed s ⟨1,n.path,n.place,n.number,0,0⟩ (BU n.path n.place n.rq)).1:Nat):Int):AV) (J (fun h2 hh=>J ((zH (show h2 1000=.cells (srM roots C A s dec 1004 st.length)from hh 1000 aa3) (show h2 1001=.tok 6 s.infs.length from hh 1001 aa3) (show h2 1002=.tok 1 s.drv.length from hh 1002 aa3) (show h2 1003=.map FM (FO 0 s.infs)from hh 1003 aa3) (show h2 1004=.arr 1 (st.map Bb)from hh 1004 aa3)).trans rfl) rfl) (J aa4 (J (tp roots C A s dec st ⟨1,n.path,n.place,n.number,0,0⟩ (BU n.path n.place n.rq) hn hdl Rx) (J aa4 ?_))))))))));have ei:=oq (s:=s) h1;exact U (.refl _) (J (show G (((Ed s ⟨1,n.path,n.place,n.number,0,0⟩ (BU n.path n.place n.rq)).1:Nat):Int)=G (((Bx s n).1:Nat):Int) by rw[ei]) (show Ai (JQ roots C A (Ed s ⟨1,n.path,n.place,n.number,0,0⟩ (BU n.path n.place n.rq)).2 dec st) Af=Ai (JQ roots C A (Bx s n).2 dec st) Af by rw[ei]))
theorem s89(hd:s.drv.length<=65536)(ht:∀t∈s.drv,Rb t)(hS:BF S):A6 prog 152 [.ref 1000 0,sl Ae S] (Ai (JQ roots C A s dec st) Af) fun r h'=>r=mX s.drv S/\h'=Ai (JQ roots C A s dec st) Af:=by
 refine Bi (IU Dc) [(1000,1000),(1001,1001),(1002,1002),(1003,1003),(1004,1004)] rfl BA hm rfl func152 aa4 rfl C4 aa4 rfl (Z {i:Nat // i<=s.drv.length/\∀j u,j<i->s.drv[j]?=some u->Bq u S=false} (Z (fun q=>⟨[(1,sl Ae S),(11,.slice (.id 1002 1) (s.drv.map F)),(12,G (s.drv.map F).length),(13,G q.1)],[(1000,.cells (srM roots C A s dec 1004 st.length)),(1001,.tok 6 s.infs.length),(1002,.tok 1 s.drv.length),(1003,.map FM (FO 0 s.infs)),(1004,.arr 1 (st.map Bb))],Af⟩) (Z (fun q=>s.drv.length-q.1) (J (Z ⟨0,Ak _,fun j u h=>absurd h (Ch j)⟩ ?_) ?_))))
 .exact⟨Z4,Z5,Fh,A2 aa4⟩
 intro⟨i,i1,i2⟩;refine J (fun h1=>?_) (fun h1=>?_)
 .have h1:(i:Int)<((s.drv.map F).length:Int):=h1;have n1:=FY h1;refine Z (F s.drv[i]) (J (Ht n1) (J rfl (Ay (Bt (Bq s.drv[i] S)) (fun h2=>?_) (fun h2=>?_))))
  .refine C1 (U (cb h2 (c91 s.drv[i] S (ht _ (Ag _)) hS)) ?_);have eE:OL s.drv S=some i:=by unfold OL;rw[aB (Ge n1) h2 i2,H7]
   exact U (.refl _) (J (show AV.tup [G (i:Int),I true]=mX s.drv S by simp_all) rfl)
  have h2:(Bq s.drv[i] S)=false:=h2;refine C1 (U (cb h2 (c91 s.drv[i] S (ht _ (Ag _)) hS)) (J (by grind [Au]) ?_));refine Z ⟨i+1,by omega,fun j u hj hu=>by
    grind⟩ ?_
  exact⟨Dl s.drv.length i Wk,Z4,Z5,Fh,A2 aa4⟩
 have h1:¬((i:Int)<((s.drv.map F).length:Int)):=h1;have n1:=El h1;have eE:OL s.drv S=none:=aC fun t ht=>by
  grind [List.mem_iff_getElem?]
 exact U (.refl _) (J (show AV.tup [G 0,I false]=mX s.drv S by simp_all) rfl)
end Go.Eng
